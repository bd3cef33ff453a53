/- PrimalSolves returns true for every input of bulk at most 1048576 (any small problem),and the input reads as it did;the variable errors.errorType lies as the program's text lays it (tied by the card). Conditions: none beyond the statement's own bound and the card's own. -/
import Derived.Test.YtbpjabgfcbjjmaaGreatDoorRowKZc
import Derived.Test.YtbpjabgfcbjjmaaGreatDoorPv18Zc
set_option linter.all false
set_option maxHeartbeats 4000000
set_option maxRecDepth 100000
namespace Go.Proofs.YtbpjabgfcbjjmaaGreatDoor
open Go.ChangeShapes Go.WideShapes Go.ChangeAt Go.RowKit Go.Deep
abbrev y6G:Array Value:=#[.agg #[.int .u8 0,.int .i8 0,.int .i8 0,.int .i8 0,.slice none 0 0]]
theorem y6K(os:Os){H:Type}(enc:TypeId × Value→H):∃a,DataW.whole enc Tryz.prog ((laidWorld os).forCall (fun _ _=>0) ⟨#[],y6G,[]⟩).memory Tryz.f4.params.toList Rows.primalSolvesSpec.vars false y6G.toList 8=some ([.agg [.lit (.int .u8 0),.agg [.lit (.int .i8 0),.lit (.int .i8 0),.lit (.int .i8 0)],.nil]],[],a) :=
 ⟨[],by kernel_rfl⟩
theorem y6H(os:Os)(O:os.Started)(H:Type)(enc:TypeId × Value→H)(F:Stop.Interp) :
  ReturnsInHanded {} Tryz.checked os 4 .any ((Rows.OpenSpec.upto Rows.primalSolvesSpec).preRow enc Tryz.prog Tryz.f4 Rows.primalSolvesUptoRow.domain false Rows.primalSolvesUptoRow.laid) (((Rows.OpenSpec.upto Rows.primalSolvesSpec).at F).post enc Tryz.prog Tryz.f4 false true false false):=by
 obtain⟨Z,d⟩:=y6K os enc
 refine returnsInHanded_of_row (C:=Tryz.checked) (s:=Rows.OpenSpec.upto Rows.primalSolvesSpec) own O (by kernel_rfl) Tryz.func4
  (witness_row_at (enc:=enc) (C:=Tryz.checked) false (laidWorld os) y6G rfl (by kernel_rfl) (by kernel_rfl) (by kernel_rfl)
   (OpenSpec.preRow_of_cond 8 d (by kernel_rfl) (fun k hk=>by cases hk;kernel_rfl) (by kernel_rfl) (znG os _))) ?_
 intro W base args y T Q r n _ G _ B _ _;have hk:=G _ rfl;have o:=n;obtain⟨p,q,z,D,rfl,X,Y⟩:=n;have m:DataW.TrodAll enc Tryz.prog W 0 (fun _=>true) true Tryz.f4.params.toList args.toList y p:=z;rw[Tryz.params4]at m r;obtain⟨v0,ab,a,R,u,q0,U,rfl,rfl,h0,N⟩:=trodAll_cons m;obtain⟨rfl,rfl,rfl⟩:=trodAll_nil N;obtain rfl:args=#[v0]:=by cases args;simp_all
 obtain⟨rfl,rfl⟩:=trodVars_none D;have V:Rows.uptoBulk a+0≤1048576:=by
  have h:=of_decide_eq_true hk;simpa only[List.append_nil,Rows.uptoBulkAll]using h
 obtain⟨v,rfl,_⟩:=okWide_struct Tryz.underlying26 (r 0 26 v0 rfl rfl);have L:=h0;obtain⟨S,h0⟩:=h0;obtain⟨l,f,g,i,A,t,j,ls,b,M,J,E,K⟩:=y4Z h0;obtain⟨l0⟩:=v;have b:l0=[.int .u8 l,.int .i8 f,.int .i8 g,.int .i8 i,.slice A t j]:=b;subst b;have I:∀x∈u,x.block<W.heap.size:=fun x d=>o.lt x (by simp[d])
 have c:((Rows.OpenSpec.upto Rows.primalSolvesSpec).at F).fn H ([a]++[])={ results:=[.lit (.bool true)],args:=[a] }:=rfl;refine(Lw.solves18 l f g i A t j ls W M J E K (zlF B)).mono fun e P ⟨he,hb⟩=>?_
 subst he;refine⟨_,rfl,_,_,_,[],(u++[]),[],o,?_,?_,?_,hb.frame _,fun h=>by cases h⟩
 ·rw[c];exact trodAll_mk1 (shut_bool Tryz.underlying4 true)
 ·rw[c];exact trodAll_cons_mk (Below.trod zqj (by kernel_rfl) (of_decide_eq_true (by kernel_rfl)) L hb I) trodAll_mk0
 ·rw[c];rfl
theorem y6F:Rows.PrimalSolvesUptoSaid :=
 OpenClaim.holds_of_cond 4 Tryz.f4 rfl rfl rfl rfl rfl rfl rfl ⟨rfl,rfl,rfl,rfl,rfl⟩ rfl rfl rfl rfl rfl (by kernel_rfl) Tryz.func4 (by kernel_rfl)
  (of_decide_eq_true (by kernel_rfl)) (by unfold Func.isWrapper;first | (rw[if_pos (by decide +kernel)];kernel_rfl) | (rw[if_neg (by decide +kernel)];exact⟨rfl,rfl⟩))
  (fun os a H enc _ F=>by rw[OpenClaim.pre_eq_preRow];exact y6H os a H enc F)
theorem y6J(f:FuncId)(b:Func)(hf:Tryz.pinned.checked.prog.funcNamed "actuary/actuarylaw18.PrimalSolves" = some f)(c:Tryz.pinned.checked.prog.funcs[f]? = some b) :
  true=Tryz.pinned.checked.prog.looks []∧∀(j:Nat) t,b.params[j]? = some t→Tryz.pinned.checked.prog.wantsStandIn t=false:=by
 obtain rfl:f=4:=Option.some.inj ((show Tryz.prog.funcNamed "actuary/actuarylaw18.PrimalSolves" = some 4 by kernel_rfl).symm.trans hf) |>.symm;obtain rfl:b=Tryz.f4:=(Option.some.inj (Tryz.func4.symm.trans c)).symm;refine⟨by kernel_rfl,fun j t a=>?_⟩;rw[Tryz.params4]at a
 match j,a with
 | 0,a=>simp at a;subst a;exact(show Tryz.prog.wantsStandIn 26=false by kernel_rfl)
 | j+1,a=>simp at a
theorem primalSolves_upto_card:Rows.PrimalSolvesUptoCardSaid :=
 Claim7.holds_tied_plain_at .later [] _ _ _ _ y6F (fun _ h=>by cases h) (by kernel_rfl) (fun _ h=>by cases h) primalSolvesUpto_row_tie rfl ⟨rfl,rfl⟩ (by kernel_rfl) rfl y6J (by kernel_rfl)
