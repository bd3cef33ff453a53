/- CanonLeast returns true for every input of bulk at most 1048576 (any two problems),and the inputs read as they did. Conditions: none beyond the statement's own bound. -/
import Derived.Test.YtbhfhkcdfmmmiaaGreatRowLZv
import Derived.Test.YtbhfhkcdfmmmiaaGreatLs21Zv
set_option linter.all false
set_option maxHeartbeats 4000000
set_option maxRecDepth 100000
namespace Go.Proofs.YtbhfhkcdfmmmiaaGreat
open Go.ChangeShapes Go.WideShapes Go.ChangeAt Go.RowKit Go.Deep
theorem yzY(os:Os)(ag:os.Started)(H:Type)(enc:TypeId × Value→H)(F:Stop.Interp) :
  ReturnsInHanded {} Tryz.checked os 9 .any ((Rows.OpenSpec.upto Rows.canonLeastSpec).pre6 enc Tryz.prog Tryz.f9 Rows.canonLeastUptoRow.domain false) (((Rows.OpenSpec.upto Rows.canonLeastSpec).at F).post enc Tryz.prog Tryz.f9 false true false false):=by
 refine returnsInHanded_of_cond (C:=Tryz.checked) (s:=Rows.OpenSpec.upto Rows.canonLeastSpec) (k:=Rows.uptoSmall) rfl own ag (by kernel_rfl) Tryz.func9
  (OpenSpec.witness (enc:=enc) (C:=Tryz.checked) (s:=Rows.OpenSpec.upto Rows.canonLeastSpec) (k:=Rows.uptoSmall) rfl false ⟨#[],#[.agg #[.slice none 0 0,.slice none 0 0],.agg #[.slice none 0 0,.slice none 0 0]],[]⟩ 8 (by kernel_rfl) (by kernel_rfl) (by kernel_rfl)
   (x:=([.agg [.nil,.nil],.agg [.nil,.nil]],[],[])) (by kernel_rfl) rfl (by kernel_rfl)) ?_
 intro W base args J gs ai i u _ hk _;have g:=u;obtain⟨p,q,K,M,rfl,au,ay⟩:=u;have t:DataW.TrodAll enc Tryz.prog W 0 (fun _=>true) true Tryz.f9.params.toList args.toList J p:=K;rw[Tryz.params9]at t i;obtain⟨v0,aD,a,aj,D,q0,ao,rfl,rfl,h0,r0⟩:=trodAll_cons t;obtain⟨v1,aE,b,ak,E,q1,rfl,rfl,rfl,h1,r1⟩:=trodAll_cons r0;obtain⟨rfl,rfl,rfl⟩:=trodAll_nil r1;obtain rfl:args=#[v0,v1]:=by cases args;simp_all
 obtain⟨rfl,rfl⟩:=trodVars_none M;have ap:Rows.uptoBulk a+(Rows.uptoBulk b+0)≤1048576:=by
  have h:=of_decide_eq_true hk;simpa only[List.append_nil,Rows.uptoBulkAll]using h
 obtain⟨G,rfl,_⟩:=okWide_struct Tryz.underlying25 (i 0 25 v0 rfl rfl);obtain⟨I,rfl,_⟩:=okWide_struct Tryz.underlying25 (i 1 25 v1 rfl rfl);have Z:=h0;obtain⟨f0,h0⟩:=h0;obtain⟨A,v,cA,L,z,o,qs,ls,c,P,R,U,hm,X,Y,N,O⟩:=zMj h0 (by show Rows.uptoBulk a≤1048576;omega);obtain⟨l0⟩:=G;have c:l0=[.slice A v cA,.slice L z o]:=c;subst c;have aa:=h1;obtain⟨f1,h1⟩:=h1;obtain⟨l,y,n,m,B,r,ad,aA,d,Q,av,V,aw,ax,az,aq,ar⟩:=zMj h1 (by show Rows.uptoBulk b≤1048576;omega);obtain⟨l1⟩:=I
 have d:l1=[.slice l y n,.slice m B r]:=d;subst d;have S:∀x∈D,x.block<W.heap.size:=fun x j=>g.lt x (by simp[j])
 have T:∀x∈E,x.block<W.heap.size:=fun x j=>g.lt x (by simp[j])
 have f:((Rows.OpenSpec.upto Rows.canonLeastSpec).at F).fn H ([a,b]++[])={ results:=[.lit (.bool true)],args:=[a,b] }:=rfl;refine(Lw.least21 A v cA L z o qs ls l y n m B r ad W P R U hm X Y N O Q V).mono fun e W' ⟨he,hb⟩=>?_
 subst he;refine⟨_,rfl,_,_,_,[],(D++(E++[])),[],g,?_,?_,?_,hb.frame _,fun h=>by cases h⟩
 ·rw[f];exact trodAll_mk1 (shut_bool Tryz.underlying4 true)
 ·rw[f];exact trodAll_cons_mk (Below.trod zqj (by kernel_rfl) (of_decide_eq_true (by kernel_rfl)) Z hb S) (trodAll_cons_mk (Below.trod zqj (by kernel_rfl) (of_decide_eq_true (by kernel_rfl)) aa hb T) trodAll_mk0)
 ·rw[f];rfl
theorem canonLeast_upto:Rows.CanonLeastUptoSaid :=
 OpenClaim.holds_of_cond 9 Tryz.f9 rfl rfl rfl rfl rfl rfl rfl ⟨rfl,rfl,rfl,rfl,rfl⟩ rfl rfl rfl rfl rfl (by kernel_rfl) Tryz.func9 (by kernel_rfl)
  (of_decide_eq_true (by kernel_rfl)) (by unfold Func.isWrapper;first | (rw[if_pos (by decide +kernel)];kernel_rfl) | (rw[if_neg (by decide +kernel)];exact⟨rfl,rfl⟩))
  (fun os a H enc _ F=>yzY os a H enc F)
