/- CanonBasis returns true for every input of bulk at most 1048576 (any problem),and the input reads as it did. Conditions: none beyond the statement's own bound. -/
import Derived.Test.YtdnippohkfdncaaGreatRowLZk
import Derived.Test.YtdnippohkfdncaaGreatBspZk
set_option linter.all false
set_option maxHeartbeats 4000000
set_option maxRecDepth 100000
namespace Go.Proofs.YtdnippohkfdncaaGreat
open Go.ChangeShapes Go.WideShapes Go.ChangeAt Go.RowKit Go.Deep
theorem yvE(os:Os)(O:os.Started)(H:Type)(enc:TypeId × Value→H)(F:Stop.Interp) :
  ReturnsInHanded {} Tryz.checked os 5 .any ((Rows.OpenSpec.upto Rows.canonBasisSpec).pre6 enc Tryz.prog Tryz.f5 Rows.canonBasisUptoRow.domain false) (((Rows.OpenSpec.upto Rows.canonBasisSpec).at F).post enc Tryz.prog Tryz.f5 false true false false):=by
 refine returnsInHanded_of_cond (C:=Tryz.checked) (s:=Rows.OpenSpec.upto Rows.canonBasisSpec) (k:=Rows.uptoSmall) rfl own O (by kernel_rfl) Tryz.func5
  (OpenSpec.witness (enc:=enc) (C:=Tryz.checked) (s:=Rows.OpenSpec.upto Rows.canonBasisSpec) (k:=Rows.uptoSmall) rfl false ⟨#[],#[.agg #[.slice none 0 0,.slice none 0 0]],[]⟩ 8 (by kernel_rfl) (by kernel_rfl) (by kernel_rfl)
   (x:=([.agg [.nil,.nil]],[],[])) (by kernel_rfl) rfl (by kernel_rfl)) ?_
 intro W base args r T Q j g _ hk _;have i:=g;obtain⟨p,q,t,u,rfl,X,Y⟩:=g;have f:DataW.TrodAll enc Tryz.prog W 0 (fun _=>true) true Tryz.f5.params.toList args.toList r p:=t;rw[Tryz.params5]at f j;obtain⟨v0,aa,a,R,n,Z,U,rfl,rfl,h0,N⟩:=trodAll_cons f;obtain⟨rfl,rfl,rfl⟩:=trodAll_nil N;obtain rfl:args=#[v0]:=by cases args;simp_all
 obtain⟨rfl,rfl⟩:=trodVars_none u;have V:Rows.uptoBulk a+0≤1048576:=by
  have h:=of_decide_eq_true hk;simpa only[List.append_nil,Rows.uptoBulkAll]using h
 obtain⟨o,rfl,_⟩:=okWide_struct Tryz.underlying69 (j 0 69 v0 rfl rfl);have J:=h0;obtain⟨S,h0⟩:=h0;obtain⟨A,l,cA,L,m,d,qs,M,b,z,B,E,hm,G,I,v,y⟩:=zMj h0 (by show Rows.uptoBulk a≤1048576;omega);obtain⟨l0⟩:=o;have b:l0=[.slice A l cA,.slice L m d]:=b;subst b;have D:∀x∈n,x.block<W.heap.size:=fun x K=>i.lt x (by simp[K])
 have c:((Rows.OpenSpec.upto Rows.canonBasisSpec).at F).fn H ([a]++[])={ results:=[.lit (.bool true)],args:=[a] }:=rfl;refine(Lw.basis21 A l cA L m d qs M W z B E hm G I v y).mono fun e P ⟨he,hb⟩=>?_
 subst he;refine⟨_,rfl,_,_,_,[],(n++[]),[],i,?_,?_,?_,hb.frame _,fun h=>by cases h⟩
 ·rw[c];exact trodAll_mk1 (shut_bool Tryz.underlying4 true)
 ·rw[c];exact trodAll_cons_mk (Below.trod zqj (by kernel_rfl) (of_decide_eq_true (by kernel_rfl)) J hb D) trodAll_mk0
 ·rw[c];rfl
theorem canonBasis_upto:Rows.CanonBasisUptoSaid :=
 OpenClaim.holds_of_cond 5 Tryz.f5 rfl rfl rfl rfl rfl rfl rfl ⟨rfl,rfl,rfl,rfl,rfl⟩ rfl rfl rfl rfl rfl (by kernel_rfl) Tryz.func5 (by kernel_rfl)
  (of_decide_eq_true (by kernel_rfl)) (by unfold Func.isWrapper;first | (rw[if_pos (by decide +kernel)];kernel_rfl) | (rw[if_neg (by decide +kernel)];exact⟨rfl,rfl⟩))
  (fun os a H enc _ F=>yvE os a H enc F)
