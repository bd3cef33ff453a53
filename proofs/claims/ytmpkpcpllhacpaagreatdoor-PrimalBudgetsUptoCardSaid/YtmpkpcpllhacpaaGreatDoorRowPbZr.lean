/- PrimalBudgets returns true for every input of bulk at most 1048576 (any problem, any budget), and the input reads as it did; the variable errors.errorType lies as the program's text lays it (tied by the card). Conditions: none beyond the statement's own bound and the card's own. -/
import Derived.Test.YtmpkpcpllhacpaaGreatDoorRowKZr
import Derived.Test.YtmpkpcpllhacpaaGreatDoorBud18Zr
set_option linter.all false
set_option maxRecDepth 100000
namespace Go.Proofs.YtmpkpcpllhacpaaGreatDoor
open Go.ChangeShapes Go.WideShapes Go.ChangeAt Go.RowKit Go.Deep
abbrev z9y:Array Value:=#[.agg #[.slice none 0 0,.slice none 0 0],.int .u8 0]
theorem yax(os:Os){H:Type}(enc:TypeId × Value→H):∃a,DataW.whole enc Tryz.prog ((laidWorld os).forCall (fun _ _=>0) ⟨#[],z9y,[]⟩).memory Tryz.f6.params.toList Rows.primalBudgetsSpec.vars false z9y.toList 8=some ([.agg [.nil,.nil],.lit (.int .u8 0)],[],a) :=
 ⟨[],by kernel_rfl⟩
theorem z9z(os:Os)(V:os.Started)(H:Type)(enc:TypeId × Value→H)(F:Stop.Interp) :
  ReturnsInHanded {} Tryz.checked os 6 .any ((Rows.OpenSpec.upto Rows.primalBudgetsSpec).preRow enc Tryz.prog Tryz.f6 Rows.primalBudgetsUptoRow.domain false Rows.primalBudgetsUptoRow.laid) (((Rows.OpenSpec.upto Rows.primalBudgetsSpec).at F).post enc Tryz.prog Tryz.f6 false true false false):=by
 obtain⟨ai,g⟩:=yax os enc
 refine returnsInHanded_of_row (C:=Tryz.checked) (s:=Rows.OpenSpec.upto Rows.primalBudgetsSpec) own V (by kernel_rfl) Tryz.func6
  (witness_row_at (enc:=enc) (C:=Tryz.checked) false (laidWorld os) z9y rfl (by kernel_rfl) (by kernel_rfl) (by kernel_rfl)
   (OpenSpec.preRow_of_cond 8 g (by kernel_rfl) (fun k hk=>by cases hk;kernel_rfl) (by kernel_rfl) (znG os _))) ?_
 intro W base args z gs Y f l _ J _ D _ _;have hk:=J _ rfl;have m:=l;obtain⟨p,q,B,E,rfl,af,ag⟩:=l;have j:DataW.TrodAll enc Tryz.prog W 0 (fun _=>true) true Tryz.f6.params.toList args.toList z p:=B;rw[Tryz.params6]at j f;obtain⟨v0,al,b,Z,u,q0,ad,rfl,rfl,h0,T⟩:=trodAll_cons j;obtain⟨v1,am,y,aa,p1,q1,rfl,rfl,rfl,h1,U⟩:=trodAll_cons T;obtain⟨rfl,rfl,rfl⟩:=trodAll_nil U;obtain rfl:args=#[v0,v1]:=by cases args;simp_all
 obtain⟨rfl,rfl⟩:=trodVars_none E;have ae:Rows.uptoBulk b+(Rows.uptoBulk y+0)≤1048576:=by
  have h:=of_decide_eq_true hk;simpa only[List.append_nil,Rows.uptoBulkAll]using h
 obtain⟨v,rfl,_⟩:=okWide_struct Tryz.underlying40 (f 0 40 v0 rfl rfl);obtain⟨a,rfl,rfl,rfl,o⟩:=open_int Tryz.underlying5 (f 1 5 v1 rfl rfl) h1;have R:=h0;obtain⟨f0,h0⟩:=h0;obtain⟨A,r,cA,L,t,i,qs,S,c,K,M,O,hm,P,Q,G,I⟩:=zMj h0 (by show Rows.uptoBulk b≤1048576;omega);obtain⟨l0⟩:=v;have c:l0=[.slice A r cA,.slice L t i]:=c;subst c;have N:∀x∈u,x.block<W.heap.size:=fun x g=>m.lt x (by simp[g])
 have n:0≤a∧a<256:=by
  simp[Lit.wf,IntKind.min,IntKind.max,IntKind.signed,IntKind.bits]at o;omega
 have d:((Rows.OpenSpec.upto Rows.primalBudgetsSpec).at F).fn H ([b,.lit (.int .u8 a)]++[])={ results:=[.lit (.bool true)],args:=[b,.lit (.int .u8 a)] }:=rfl;refine(Lw.budgets18 A r cA L t i qs S a W K M O hm P Q G I n.1 n.2 (zlF D)).mono fun e X ⟨he,hb⟩=>?_
 subst he;refine⟨_,rfl,_,_,_,[],(u++([]++[])),[],m,?_,?_,?_,hb.frame _,fun h=>by cases h⟩
 ·rw[d];exact trodAll_mk1 (shut_bool Tryz.underlying4 true)
 ·rw[d];exact trodAll_cons_mk (Below.trod zqj (by kernel_rfl) (of_decide_eq_true (by kernel_rfl)) R hb N) (trodAll_cons_mk (shut_int Tryz.underlying5 o) trodAll_mk0)
 ·rw[d];rfl
theorem z8G:Rows.PrimalBudgetsUptoSaid :=
 OpenClaim.holds_of_cond 6 Tryz.f6 rfl rfl rfl rfl rfl rfl rfl ⟨rfl,rfl,rfl,rfl,rfl⟩ rfl rfl rfl rfl rfl (by kernel_rfl) Tryz.func6 (by kernel_rfl)
  (of_decide_eq_true (by kernel_rfl)) (by unfold Func.isWrapper;first | (rw[if_pos (by decide +kernel)];kernel_rfl) | (rw[if_neg (by decide +kernel)];exact⟨rfl,rfl⟩))
  (fun os a H enc _ F=>by rw[OpenClaim.pre_eq_preRow];exact z9z os a H enc F)
theorem yaw(f:FuncId)(b:Func)(c:Tryz.pinned.checked.prog.funcNamed "actuary/actuarylaw18.PrimalBudgets" = some f)(d:Tryz.pinned.checked.prog.funcs[f]? = some b) :
  true=Tryz.pinned.checked.prog.looks []∧∀(j:Nat) t,b.params[j]? = some t→Tryz.pinned.checked.prog.wantsStandIn t=false:=by
 obtain rfl:f=6:=Option.some.inj ((show Tryz.prog.funcNamed "actuary/actuarylaw18.PrimalBudgets" = some 6 by kernel_rfl).symm.trans c) |>.symm;obtain rfl:b=Tryz.f6:=(Option.some.inj (Tryz.func6.symm.trans d)).symm;refine⟨by kernel_rfl,fun j t a=>?_⟩;rw[Tryz.params6]at a
 match j,a with
 | 0,a=>simp at a;subst a;exact(show Tryz.prog.wantsStandIn 40=false by kernel_rfl)
 | 1,a=>simp at a;subst a;exact(show Tryz.prog.wantsStandIn 5=false by kernel_rfl)
 | j+2,a=>simp at a
theorem primalBudgets_upto_card:Rows.PrimalBudgetsUptoCardSaid :=
 Claim7.holds_tied_plain_at .later [] _ _ _ _ z8G (fun _ h=>by cases h) (by kernel_rfl) (fun _ h=>by cases h) primalBudgetsUpto_row_tie rfl ⟨rfl,rfl⟩ (by kernel_rfl) rfl yaw (by kernel_rfl)
