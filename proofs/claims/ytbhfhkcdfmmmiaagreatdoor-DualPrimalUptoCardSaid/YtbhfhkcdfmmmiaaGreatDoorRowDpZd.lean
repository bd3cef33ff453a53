/- DualPrimal returns true for every input of bulk at most 1048576 (any problem),and the input reads as it did;the variable errors.errorType lies as the program's text lays it (tied by the card). Conditions: none beyond the statement's own bound and the card's own. -/
import Derived.Test.YtbhfhkcdfmmmiaaGreatDoorDuNZd
set_option linter.all false
set_option maxRecDepth 100000
namespace Go.Proofs.YtbhfhkcdfmmmiaaGreatDoor
open Go.ChangeShapes Go.WideShapes Go.ChangeAt Go.RowKit Go.Deep
abbrev yIK:Array Value:=#[.agg #[.slice none 0 0,.slice none 0 0]]
theorem yIN(os:Os){H:Type}(enc:TypeId × Value→H):∃a,DataW.whole enc Tryz.prog ((laidWorld os).forCall (fun _ _=>0) ⟨#[],yIK,[]⟩).memory Tryz.f3.params.toList Rows.dualPrimalSpec.vars false yIK.toList 8=some ([.agg [.nil,.nil]],[],a) :=
 ⟨[],by kernel_rfl⟩
theorem yIL(os:Os)(Q:os.Started)(H:Type)(enc:TypeId × Value→H)(F:Stop.Interp) :
  ReturnsInHanded {} Tryz.checked os 3 .any ((Rows.OpenSpec.upto Rows.dualPrimalSpec).preRow enc Tryz.prog Tryz.f3 Rows.dualPrimalUptoRow.domain false Rows.dualPrimalUptoRow.laid) (((Rows.OpenSpec.upto Rows.dualPrimalSpec).at F).post enc Tryz.prog Tryz.f3 false true false false):=by
 obtain⟨ab,d⟩:=yIN os enc
 refine returnsInHanded_of_row (C:=Tryz.checked) (s:=Rows.OpenSpec.upto Rows.dualPrimalSpec) own Q (by kernel_rfl) Tryz.func3
  (witness_row_at (enc:=enc) (C:=Tryz.checked) false (laidWorld os) yIK rfl (by kernel_rfl) (by kernel_rfl) (by kernel_rfl)
   (OpenSpec.preRow_of_cond 8 d (by kernel_rfl) (fun k hk=>by cases hk;kernel_rfl) (by kernel_rfl) (znG os _))) ?_
 intro W base args t V S l i _ D _ v _ _;have hk:=D _ rfl;have j:=i;obtain⟨p,q,u,y,rfl,Z,aa⟩:=i;have g:DataW.TrodAll enc Tryz.prog W 0 (fun _=>true) true Tryz.f3.params.toList args.toList t p:=u;rw[Tryz.params3]at g l;obtain⟨v0,ad,a,T,o,q0,X,rfl,rfl,h0,P⟩:=trodAll_cons g;obtain⟨rfl,rfl,rfl⟩:=trodAll_nil P;obtain rfl:args=#[v0]:=by cases args;simp_all
 obtain⟨rfl,rfl⟩:=trodVars_none y;have Y:Rows.uptoBulk a+0≤1048576:=by
  have h:=of_decide_eq_true hk;simpa only[List.append_nil,Rows.uptoBulkAll]using h
 obtain⟨r,rfl,_⟩:=okWide_struct Tryz.underlying25 (l 0 25 v0 rfl rfl);have N:=h0;obtain⟨U,h0⟩:=h0;obtain⟨A,m,cA,L,n,f,qs,O,b,E,G,J,hm,K,M,z,B⟩:=zMj h0 (by show Rows.uptoBulk a≤1048576;omega);obtain⟨l0⟩:=r;have b:l0=[.slice A m cA,.slice L n f]:=b;subst b;have I:∀x∈o,x.block<W.heap.size:=fun x d=>j.lt x (by simp[d])
 have c:((Rows.OpenSpec.upto Rows.dualPrimalSpec).at F).fn H ([a]++[])={ results:=[.lit (.bool true)],args:=[a] }:=rfl;refine(Lw.primal19 A m cA L n f qs O W E G J hm K M z B (zlF v)).mono fun e R ⟨he,hb⟩=>?_
 subst he;refine⟨_,rfl,_,_,_,[],(o++[]),[],j,?_,?_,?_,hb.frame _,fun h=>by cases h⟩
 ·rw[c];exact trodAll_mk1 (shut_bool Tryz.underlying4 true)
 ·rw[c];exact trodAll_cons_mk (Below.trod zqj (by kernel_rfl) (of_decide_eq_true (by kernel_rfl)) N hb I) trodAll_mk0
 ·rw[c];rfl
theorem yII:Rows.DualPrimalUptoSaid :=
 OpenClaim.holds_of_cond 3 Tryz.f3 rfl rfl rfl rfl rfl rfl rfl ⟨rfl,rfl,rfl,rfl,rfl⟩ rfl rfl rfl rfl rfl (by kernel_rfl) Tryz.func3 (by kernel_rfl)
  (of_decide_eq_true (by kernel_rfl)) (by unfold Func.isWrapper;first | (rw[if_pos (by decide +kernel)];kernel_rfl) | (rw[if_neg (by decide +kernel)];exact⟨rfl,rfl⟩))
  (fun os a H enc _ F=>by rw[OpenClaim.pre_eq_preRow];exact yIL os a H enc F)
theorem yIM(f:FuncId)(b:Func)(c:Tryz.pinned.checked.prog.funcNamed "actuary/actuarylaw19.DualPrimal" = some f)(d:Tryz.pinned.checked.prog.funcs[f]? = some b) :
  true=Tryz.pinned.checked.prog.looks []∧∀(j:Nat) t,b.params[j]? = some t→Tryz.pinned.checked.prog.wantsStandIn t=false:=by
 obtain rfl:f=3:=Option.some.inj ((show Tryz.prog.funcNamed "actuary/actuarylaw19.DualPrimal" = some 3 by kernel_rfl).symm.trans c) |>.symm;obtain rfl:b=Tryz.f3:=(Option.some.inj (Tryz.func3.symm.trans d)).symm;refine⟨by kernel_rfl,fun j t a=>?_⟩;rw[Tryz.params3]at a
 match j,a with
 | 0,a=>simp at a;subst a;exact(show Tryz.prog.wantsStandIn 25=false by kernel_rfl)
 | j+1,a=>simp at a
theorem dualPrimal_upto_card:Rows.DualPrimalUptoCardSaid :=
 Claim7.holds_tied_plain_at .later [] _ _ _ _ yII (fun _ h=>by cases h) (by kernel_rfl) (fun _ h=>by cases h) dualPrimalUpto_row_tie rfl ⟨rfl,rfl⟩ (by kernel_rfl) rfl yIM (by kernel_rfl)
