/- DualRuns returns true for every input of bulk at most 1048576 (any problem,any budget),and the input reads as it did;the variable errors.errorType lies as the program's text lays it (tied by the card). Conditions: none beyond the statement's own bound and the card's own. -/
import Derived.Test.YtdbgbaiekpbaoaaGreatDoorOpenZp
import Derived.Test.YtdbgbaiekpbaoaaGreatDoorRun19Zp
set_option linter.all false
namespace Go.Proofs.YtdbgbaiekpbaoaaGreatDoor
open Go.ChangeShapes Go.WideShapes Go.ChangeAt Go.RowKit Go.Deep
set_option maxRecDepth 100000
abbrev zNz:Array Value := #[.agg #[.slice none 0 0, .slice none 0 0], .int .u8 0]
theorem zNO (os:Os) {H:Type} (enc:TypeId × Value → H):∃ places,DataW.whole enc Tryz.prog ((laidWorld os).forCall (fun _ _ => 0) ⟨#[],zNz,[]⟩).memory Tryz.f5.params.toList Rows.dualRunsSpec.vars false zNz.toList 8 = some ([.agg [.nil, .nil], .lit (.int .u8 0)],[],places) :=
 ⟨[],by kernel_rfl⟩
theorem zNA (os:Os) (started:os.Started) (H:Type) (enc:TypeId × Value → H) (F:Stop.Interp) :
  ReturnsInHanded {} Tryz.checked os 5 .any ((Rows.OpenSpec.upto Rows.dualRunsSpec).preRow enc Tryz.prog Tryz.f5 Rows.dualRunsUptoRow.domain false Rows.dualRunsUptoRow.laid) (((Rows.OpenSpec.upto Rows.dualRunsSpec).at F).post enc Tryz.prog Tryz.f5 false true false false):=by
 obtain ⟨places,hx⟩:=zNO os enc
 refine returnsInHanded_of_row (C:=Tryz.checked) (s:=Rows.OpenSpec.upto Rows.dualRunsSpec) own started (by kernel_rfl) Tryz.func5
  (witness_row_at (enc:=enc) (C:=Tryz.checked) false (laidWorld os) zNz rfl (by kernel_rfl) (by kernel_rfl) (by kernel_rfl)
   (OpenSpec.preRow_of_cond 8 hx (by kernel_rfl) (fun k hk => by cases hk;kernel_rfl) (by kernel_rfl) (znG os _))) ?_
 intro W base args ds gs before hval hW _ hcond _ hL _ _
 have hk:=hcond _ rfl
 have hW':=hW
 obtain ⟨p,q,hA0,hV,rfl,hfz,hnd⟩:=hW
 have hA:DataW.TrodAll enc Tryz.prog W 0 (fun _ => true) true Tryz.f5.params.toList args.toList ds p:=hA0
 rw [Tryz.params5] at hA hval
 obtain ⟨v0,vs0,d0,ds0,p0,q0,hargs,rfl,rfl,h0,r0⟩:=trodAll_cons hA
 obtain ⟨v1,vs1,d1,ds1,p1,q1,rfl,rfl,rfl,h1,r1⟩:=trodAll_cons r0
 obtain ⟨rfl,rfl,rfl⟩:=trodAll_nil r1
 obtain rfl:args = #[v0,v1]:=by cases args;simp_all
 obtain ⟨rfl,rfl⟩:=trodVars_none hV
 have hbk:Rows.uptoBulk d0 + (Rows.uptoBulk d1 + 0) ≤ 1048576:=by
  have h:=of_decide_eq_true hk
  simpa only [List.append_nil,Rows.uptoBulkAll] using h
 obtain ⟨csr,rfl,hsz⟩:=okWide_struct Tryz.underlying44 (hval 0 44 v0 rfl rfl)
 obtain ⟨n,rfl,rfl,rfl,hwn⟩:=open_int Tryz.underlying5 (hval 1 5 v1 rfl rfl) h1
 have hr0:=h0
 obtain ⟨f0,h0⟩:=h0
 obtain ⟨A,nA,cA,L,nL,cL,qs,ls,e0,hf,hls,hn,hm,hna,hnl,hca,hcl⟩:=zMj h0 (by show Rows.uptoBulk d0 ≤ 1048576;omega)
 obtain ⟨l⟩:=csr
 have e0:l = [.slice A nA cA, .slice L nL cL]:=e0
 subst e0
 have hu:0 ≤ n ∧ n < 256:=by
  simp [Lit.wf,IntKind.min,IntKind.max,IntKind.signed,IntKind.bits] at hwn
  omega
 have hlt0:∀ x ∈ p0,x.block < W.heap.size:=fun x hx => hW'.lt x (by simp [hx])
 have ef:((Rows.OpenSpec.upto Rows.dualRunsSpec).at F).fn H ([d0, .lit (.int .u8 n)] ++ []) = { results:=[.lit (.bool true)],args:=[d0, .lit (.int .u8 n)] }:=rfl
 refine (Lw.runs A nA cA L nL cL qs ls n W hf hls hn hm hna hnl hca hcl hu.1 hu.2 (zlF hL)).mono fun e W' ⟨he,hb⟩ => ?_
 subst he
 refine ⟨_,rfl,_,_,_,[],(p0 ++ ([] ++ [])),[],hW',?_,?_,?_,hb.frame _,fun h => by cases h⟩
 ·rw [ef];exact trodAll_mk1 (shut_bool Tryz.underlying4 true)
 ·rw [ef]
  exact trodAll_cons_mk (Below.trod zqj (by kernel_rfl) (of_decide_eq_true (by kernel_rfl)) hr0 hb hlt0) (trodAll_cons_mk (shut_int Tryz.underlying5 hwn) trodAll_mk0)
 ·rw [ef];rfl
theorem zNu:Rows.DualRunsUptoSaid :=
 OpenClaim.holds_of_cond 5 Tryz.f5 rfl rfl rfl rfl rfl rfl rfl ⟨rfl,rfl,rfl,rfl,rfl⟩ rfl rfl rfl rfl rfl (by kernel_rfl) Tryz.func5 (by kernel_rfl)
  (of_decide_eq_true (by kernel_rfl)) (by unfold Func.isWrapper;first | (rw [if_pos (by decide +kernel)];kernel_rfl) | (rw [if_neg (by decide +kernel)];exact ⟨rfl,rfl⟩))
  (fun os started H enc _ F => by rw [OpenClaim.pre_eq_preRow];exact zNA os started H enc F)
theorem zNN (f:FuncId) (fn:Func) (hf:Tryz.pinned.checked.prog.funcNamed "actuary/actuarylaw19.DualRuns" = some f) (hfn:Tryz.pinned.checked.prog.funcs[f]? = some fn) :
  true = Tryz.pinned.checked.prog.looks [] ∧ ∀ (j:Nat) t,fn.params[j]? = some t → Tryz.pinned.checked.prog.wantsStandIn t = false:=by
 obtain rfl:f = 5:=Option.some.inj ((show Tryz.prog.funcNamed "actuary/actuarylaw19.DualRuns" = some 5 by kernel_rfl).symm.trans hf) |>.symm
 obtain rfl:fn = Tryz.f5:=(Option.some.inj (Tryz.func5.symm.trans hfn)).symm
 refine ⟨by kernel_rfl,fun j t ht => ?_⟩
 rw [Tryz.params5] at ht
 match j,ht with
 | 0,ht => simp at ht;subst ht;exact (show Tryz.prog.wantsStandIn 44 = false by kernel_rfl)
 | 1,ht => simp at ht;subst ht;exact (show Tryz.prog.wantsStandIn 5 = false by kernel_rfl)
 | j + 2,ht => simp at ht
theorem dualRuns_upto_card:Rows.DualRunsUptoCardSaid :=
 Claim7.holds_tied_plain_at .later [] _ _ _ _ zNu (fun _ h => by cases h) (by kernel_rfl) (fun _ h => by cases h) dualRunsUpto_row_tie rfl ⟨rfl,rfl⟩ (by kernel_rfl) rfl zNN (by kernel_rfl)
end Go.Proofs.YtdbgbaiekpbaoaaGreatDoor
