/- PrimalEnters returns true for every input of bulk at most 1048576 (any prices, any columns that may come in), and the input reads as it did; the variable errors.errorType lies as the program's text lays it (tied by the card). Conditions: none beyond the statement's own bound and the card's own. -/
import Derived.Test.YtmpkpcpllhacpaaGreatDoorRowKZr
import Derived.Test.YtmpkpcpllhacpaaGreatDoorEn18Zr
set_option linter.all false
set_option maxRecDepth 100000
namespace Go.Proofs.YtmpkpcpllhacpaaGreatDoor
open Go.ChangeShapes Go.WideShapes Go.ChangeAt Go.RowKit Go.Deep
abbrev z9w:Array Value:=#[.slice none 0 0,.slice none 0 0]
theorem yau(os:Os){H:Type}(enc:TypeId × Value→H):∃a,DataW.whole enc Tryz.prog ((laidWorld os).forCall (fun _ _=>0) ⟨#[],z9w,[]⟩).memory Tryz.f3.params.toList Rows.primalEntersSpec.vars false z9w.toList 8=some ([.nil,.nil],[],a) :=
 ⟨[],by kernel_rfl⟩
theorem z9x(os:Os)(U:os.Started)(H:Type)(enc:TypeId × Value→H)(F:Stop.Interp) :
  ReturnsInHanded {} Tryz.checked os 3 .any ((Rows.OpenSpec.upto Rows.primalEntersSpec).preRow enc Tryz.prog Tryz.f3 Rows.primalEntersUptoRow.domain false Rows.primalEntersUptoRow.laid) (((Rows.OpenSpec.upto Rows.primalEntersSpec).at F).post enc Tryz.prog Tryz.f3 false true false false):=by
 obtain⟨ap,a⟩:=yau os enc
 refine returnsInHanded_of_row (C:=Tryz.checked) (s:=Rows.OpenSpec.upto Rows.primalEntersSpec) own U (by kernel_rfl) Tryz.func3
  (witness_row_at (enc:=enc) (C:=Tryz.checked) false (laidWorld os) z9w rfl (by kernel_rfl) (by kernel_rfl) (by kernel_rfl)
   (OpenSpec.preRow_of_cond 8 a (by kernel_rfl) (fun k hk=>by cases hk;kernel_rfl) (by kernel_rfl) (znG os _))) ?_
 intro W base args y gs ab g m _ G _ A _ _;have hk:=G _ rfl;have f:=m;obtain⟨p,q,z,B,rfl,al,am⟩:=m;have l:DataW.TrodAll enc Tryz.prog W 0 (fun _=>true) true Tryz.f3.params.toList args.toList y p:=z;rw[Tryz.params3]at l g;obtain⟨v0,au,b,ae,n,q0,aj,rfl,rfl,h0,S⟩:=trodAll_cons l;obtain⟨v1,av,c,af,o,q1,rfl,rfl,rfl,h1,T⟩:=trodAll_cons S;obtain⟨rfl,rfl,rfl⟩:=trodAll_nil T;obtain rfl:args=#[v0,v1]:=by cases args;simp_all
 obtain⟨rfl,rfl⟩:=trodVars_none B;have ak:Rows.uptoBulk b+(Rows.uptoBulk c+0)≤1048576:=by
  have h:=of_decide_eq_true hk;simpa only[List.append_nil,Rows.uptoBulkAll]using h
 obtain⟨r,Q,u,rfl⟩:=okWide_slice Tryz.underlying22 (g 0 22 v0 rfl rfl);obtain⟨t,R,v,rfl⟩:=okWide_slice Tryz.underlying23 (g 1 23 v1 rfl rfl);have M:=h0;obtain⟨f0,h0⟩:=h0;obtain⟨Z,an,ac,V,i,K,O,_,_,D⟩:=zrv h0
 dsimp only at D
 simp[Value.cells]at i;obtain⟨rfl,rfl,rfl⟩:=i;have N:=h1;obtain⟨f1,h1⟩:=h1;obtain⟨aa,ao,ad,X,j,L,P,E⟩:=zwj h1
 dsimp only at E
 simp[Value.cells]at j;obtain⟨rfl,rfl,rfl⟩:=j;have I:∀x∈n,x.block<W.heap.size:=fun x a=>f.lt x (by simp[a])
 have J:∀x∈o,x.block<W.heap.size:=fun x a=>f.lt x (by simp[a])
 have d:((Rows.OpenSpec.upto Rows.primalEntersSpec).at F).fn H ([b,c]++[])={ results:=[.lit (.bool true)],args:=[b,c] }:=rfl;refine(Lw.enters r Q u V t R v X W (zlF A) O P K L (by omega) (by omega)).mono fun e Y ⟨he,hb⟩=>?_
 subst he;refine⟨_,rfl,_,_,_,[],(n++(o++[])),[],f,?_,?_,?_,hb.frame _,fun h=>by cases h⟩
 ·rw[d];exact trodAll_mk1 (shut_bool Tryz.underlying4 true)
 ·rw[d];exact trodAll_cons_mk (Below.trod zqj (by kernel_rfl) (of_decide_eq_true (by kernel_rfl)) M hb I) (trodAll_cons_mk (Below.trod zqj (by kernel_rfl) (of_decide_eq_true (by kernel_rfl)) N hb J) trodAll_mk0)
 ·rw[d];rfl
theorem z8F:Rows.PrimalEntersUptoSaid :=
 OpenClaim.holds_of_cond 3 Tryz.f3 rfl rfl rfl rfl rfl rfl rfl ⟨rfl,rfl,rfl,rfl,rfl⟩ rfl rfl rfl rfl rfl (by kernel_rfl) Tryz.func3 (by kernel_rfl)
  (of_decide_eq_true (by kernel_rfl)) (by unfold Func.isWrapper;first | (rw[if_pos (by decide +kernel)];kernel_rfl) | (rw[if_neg (by decide +kernel)];exact⟨rfl,rfl⟩))
  (fun os a H enc _ F=>by rw[OpenClaim.pre_eq_preRow];exact z9x os a H enc F)
theorem yat(f:FuncId)(b:Func)(c:Tryz.pinned.checked.prog.funcNamed "actuary/actuarylaw18.PrimalEnters" = some f)(d:Tryz.pinned.checked.prog.funcs[f]? = some b) :
  true=Tryz.pinned.checked.prog.looks []∧∀(j:Nat) t,b.params[j]? = some t→Tryz.pinned.checked.prog.wantsStandIn t=false:=by
 obtain rfl:f=3:=Option.some.inj ((show Tryz.prog.funcNamed "actuary/actuarylaw18.PrimalEnters" = some 3 by kernel_rfl).symm.trans c) |>.symm;obtain rfl:b=Tryz.f3:=(Option.some.inj (Tryz.func3.symm.trans d)).symm;refine⟨by kernel_rfl,fun j t a=>?_⟩;rw[Tryz.params3]at a
 match j,a with
 | 0,a=>simp at a;subst a;exact(show Tryz.prog.wantsStandIn 22=false by kernel_rfl)
 | 1,a=>simp at a;subst a;exact(show Tryz.prog.wantsStandIn 23=false by kernel_rfl)
 | j+2,a=>simp at a
theorem primalEnters_upto_card:Rows.PrimalEntersUptoCardSaid :=
 Claim7.holds_tied_plain_at .later [] _ _ _ _ z8F (fun _ h=>by cases h) (by kernel_rfl) (fun _ h=>by cases h) primalEntersUpto_row_tie rfl ⟨rfl,rfl⟩ (by kernel_rfl) rfl yat (by kernel_rfl)
