/- RangingDuals returns true for every input of bulk at most 1048576 (any problem,any worths),and the input reads as it did. Conditions: none beyond the statement's own bound. -/
import Derived.Test.YtbhfhkcdfmmmiaaGreatRowLZu
import Derived.Test.YtbhfhkcdfmmmiaaGreatRgKZu
set_option linter.all false
set_option maxHeartbeats 4000000
set_option maxRecDepth 100000
namespace Go.Proofs.YtbhfhkcdfmmmiaaGreat
open Go.ChangeShapes Go.WideShapes Go.ChangeAt Go.RowKit Go.Deep
theorem yZN(os:Os)(ab:os.Started)(H:Type)(enc:TypeId × Value→H)(F:Stop.Interp) :
  ReturnsInHanded {} Tryz.checked os 6 .any ((Rows.OpenSpec.upto Rows.rangingDualsSpec).pre6 enc Tryz.prog Tryz.f6 Rows.rangingDualsUptoRow.domain false) (((Rows.OpenSpec.upto Rows.rangingDualsSpec).at F).post enc Tryz.prog Tryz.f6 false true false false):=by
 refine returnsInHanded_of_cond (C:=Tryz.checked) (s:=Rows.OpenSpec.upto Rows.rangingDualsSpec) (k:=Rows.uptoSmall) rfl own ab (by kernel_rfl) Tryz.func6
  (OpenSpec.witness (enc:=enc) (C:=Tryz.checked) (s:=Rows.OpenSpec.upto Rows.rangingDualsSpec) (k:=Rows.uptoSmall) rfl false ⟨#[],#[.agg #[.slice none 0 0,.slice none 0 0],.slice none 0 0],[]⟩ 8 (by kernel_rfl) (by kernel_rfl) (by kernel_rfl)
   (x:=([.agg [.nil,.nil],.nil],[],[])) (by kernel_rfl) rfl (by kernel_rfl)) ?_
 intro W base args B gs af g n _ hk _;have f:=n;obtain⟨p,q,D,E,rfl,ao,ap⟩:=n;have m:DataW.TrodAll enc Tryz.prog W 0 (fun _=>true) true Tryz.f6.params.toList args.toList B p:=D;rw[Tryz.params6]at m g;obtain⟨v0,av,a,ah,t,q0,am,rfl,rfl,h0,Z⟩:=trodAll_cons m;obtain⟨v1,aw,b,ai,u,q1,rfl,rfl,rfl,h1,r1⟩:=trodAll_cons Z;obtain⟨rfl,rfl,rfl⟩:=trodAll_nil r1;obtain rfl:args=#[v0,v1]:=by cases args;simp_all
 obtain⟨rfl,rfl⟩:=trodVars_none E;have an:Rows.uptoBulk a+(Rows.uptoBulk b+0)≤1048576:=by
  have h:=of_decide_eq_true hk;simpa only[List.append_nil,Rows.uptoBulkAll]using h
 obtain⟨z,rfl,_⟩:=okWide_struct Tryz.underlying25 (g 0 25 v0 rfl rfl);obtain⟨v,Y,y,rfl⟩:=okWide_slice Tryz.underlying22 (g 1 22 v1 rfl rfl);have T:=h0;obtain⟨f0,h0⟩:=h0;obtain⟨A,o,cA,L,r,j,qs,X,c,K,M,P,hm,Q,R,I,J⟩:=zMj h0 (by show Rows.uptoBulk a≤1048576;omega);obtain⟨l0⟩:=z;have c:l0=[.slice A o cA,.slice L r j]:=c;subst c;have U:=h1;obtain⟨f1,h1⟩:=h1;obtain⟨ae,aq,ag,ac,l,S,V,_,_,G⟩:=zrv h1
 dsimp only at G
 simp[Value.cells]at l;obtain⟨rfl,rfl,rfl⟩:=l;have N:∀x∈t,x.block<W.heap.size:=fun x i=>f.lt x (by simp[i])
 have O:∀x∈u,x.block<W.heap.size:=fun x i=>f.lt x (by simp[i])
 have d:((Rows.OpenSpec.upto Rows.rangingDualsSpec).at F).fn H ([a,b]++[])={ results:=[.lit (.bool true)],args:=[a,b] }:=rfl;refine(Lw.duals22 A o cA L r j qs X v Y y ac W K M V P hm Q R I J S (by omega)).mono fun e W' ⟨he,hb⟩=>?_
 subst he;refine⟨_,rfl,_,_,_,[],(t++(u++[])),[],f,?_,?_,?_,hb.frame _,fun h=>by cases h⟩
 ·rw[d];exact trodAll_mk1 (shut_bool Tryz.underlying4 true)
 ·rw[d];exact trodAll_cons_mk (Below.trod zqj (by kernel_rfl) (of_decide_eq_true (by kernel_rfl)) T hb N) (trodAll_cons_mk (Below.trod zqj (by kernel_rfl) (of_decide_eq_true (by kernel_rfl)) U hb O) trodAll_mk0)
 ·rw[d];rfl
theorem rangingDuals_upto:Rows.RangingDualsUptoSaid :=
 OpenClaim.holds_of_cond 6 Tryz.f6 rfl rfl rfl rfl rfl rfl rfl ⟨rfl,rfl,rfl,rfl,rfl⟩ rfl rfl rfl rfl rfl (by kernel_rfl) Tryz.func6 (by kernel_rfl)
  (of_decide_eq_true (by kernel_rfl)) (by unfold Func.isWrapper;first | (rw[if_pos (by decide +kernel)];kernel_rfl) | (rw[if_neg (by decide +kernel)];exact⟨rfl,rfl⟩))
  (fun os a H enc _ F=>yZN os a H enc F)
