/- DualShows returns true for every input of bulk at most 1048576,and the input reads as it did;errors.errorType lies as the program's text lays it (tied by the card). Conditions: none beyond the statement's own bound and the card's own. -/
import Derived.Test.YtdbgbaiekpbaoaaGreatDoorSh19Zp
set_option linter.all false
namespace Go.Proofs.YtdbgbaiekpbaoaaGreatDoor
open Go.ChangeShapes Go.WideShapes Go.ChangeAt Go.RowKit Go.Deep
set_option maxRecDepth 100000
abbrev zQe:Array Value := #[.agg #[.slice none 0 0, .slice none 0 0]]
theorem zQD (os:Os) {H:Type} (enc:TypeId × Value → H):∃ places,DataW.whole enc Tryz.prog ((laidWorld os).forCall (fun _ _ => 0) ⟨#[],zQe,[]⟩).memory Tryz.f7.params.toList Rows.dualShowsSpec.vars false zQe.toList 8 = some ([.agg [.nil, .nil]],[],places) :=
 ⟨[],by kernel_rfl⟩
theorem zQf (os:Os) (started:os.Started) (H:Type) (enc:TypeId × Value → H) (F:Stop.Interp) :
  ReturnsInHanded {} Tryz.checked os 7 .any ((Rows.OpenSpec.upto Rows.dualShowsSpec).preRow enc Tryz.prog Tryz.f7 Rows.dualShowsUptoRow.domain false Rows.dualShowsUptoRow.laid) (((Rows.OpenSpec.upto Rows.dualShowsSpec).at F).post enc Tryz.prog Tryz.f7 false true false false):=by
 obtain ⟨places,hx⟩:=zQD os enc
 refine returnsInHanded_of_row (C:=Tryz.checked) (s:=Rows.OpenSpec.upto Rows.dualShowsSpec) own started (by kernel_rfl) Tryz.func7
  (witness_row_at (enc:=enc) (C:=Tryz.checked) false (laidWorld os) zQe rfl (by kernel_rfl) (by kernel_rfl) (by kernel_rfl)
   (OpenSpec.preRow_of_cond 8 hx (by kernel_rfl) (fun k hk => by cases hk;kernel_rfl) (by kernel_rfl) (znG os _))) ?_
 intro W base args ds gs before hval hW _ hcond _ hL _ _
 have hk:=hcond _ rfl
 have hW':=hW
 obtain ⟨p,q,hA0,hV,rfl,hfz,hnd⟩:=hW
 have hA:DataW.TrodAll enc Tryz.prog W 0 (fun _ => true) true Tryz.f7.params.toList args.toList ds p:=hA0
 rw [Tryz.params7] at hA hval
 obtain ⟨v0,vs0,d0,ds0,p0,q0,hargs,rfl,rfl,h0,r0⟩:=trodAll_cons hA
 obtain ⟨rfl,rfl,rfl⟩:=trodAll_nil r0
 obtain rfl:args = #[v0]:=by cases args;simp_all
 obtain ⟨rfl,rfl⟩:=trodVars_none hV
 have hbk:Rows.uptoBulk d0 + 0 ≤ 1048576:=by
  have h:=of_decide_eq_true hk
  simpa only [List.append_nil,Rows.uptoBulkAll] using h
 obtain ⟨csr,rfl,hsz⟩:=okWide_struct Tryz.underlying44 (hval 0 44 v0 rfl rfl)
 have hr0:=h0
 obtain ⟨f0,h0⟩:=h0
 obtain ⟨A,nA,cA,L,nL,cL,qs,ls,e0,hf,hls,hn,hm,hna,hnl,hca,hcl⟩:=zMj h0 (by show Rows.uptoBulk d0 ≤ 1048576;omega)
 obtain ⟨l⟩:=csr
 have e0:l = [.slice A nA cA, .slice L nL cL]:=e0
 subst e0
 have hlt0:∀ x ∈ p0,x.block < W.heap.size:=fun x hx => hW'.lt x (by simp [hx])
 have ef:((Rows.OpenSpec.upto Rows.dualShowsSpec).at F).fn H ([d0] ++ []) = { results:=[.lit (.bool true)],args:=[d0] }:=rfl
 refine (Lw.shows A nA cA L nL cL qs ls W hf hls hn hm hna hnl hca hcl (zlF hL)).mono fun e W' ⟨he,hb⟩ => ?_
 subst he
 refine ⟨_,rfl,_,_,_,[],(p0 ++ []),[],hW',?_,?_,?_,hb.frame _,fun h => by cases h⟩
 ·rw [ef];exact trodAll_mk1 (shut_bool Tryz.underlying4 true)
 ·rw [ef]
  exact trodAll_cons_mk (Below.trod zqj (by kernel_rfl) (of_decide_eq_true (by kernel_rfl)) hr0 hb hlt0) trodAll_mk0
 ·rw [ef];rfl
theorem zPE:Rows.DualShowsUptoSaid :=
 OpenClaim.holds_of_cond 7 Tryz.f7 rfl rfl rfl rfl rfl rfl rfl ⟨rfl,rfl,rfl,rfl,rfl⟩ rfl rfl rfl rfl rfl (by kernel_rfl) Tryz.func7 (by kernel_rfl)
  (of_decide_eq_true (by kernel_rfl)) (by unfold Func.isWrapper;first | (rw [if_pos (by decide +kernel)];kernel_rfl) | (rw [if_neg (by decide +kernel)];exact ⟨rfl,rfl⟩))
  (fun os started H enc _ F => by rw [OpenClaim.pre_eq_preRow];exact zQf os started H enc F)
theorem zQC (f:FuncId) (fn:Func) (hf:Tryz.pinned.checked.prog.funcNamed "actuary/actuarylaw19.DualShows" = some f) (hfn:Tryz.pinned.checked.prog.funcs[f]? = some fn) :
  true = Tryz.pinned.checked.prog.looks [] ∧ ∀ (j:Nat) t,fn.params[j]? = some t → Tryz.pinned.checked.prog.wantsStandIn t = false:=by
 obtain rfl:f = 7:=Option.some.inj ((show Tryz.prog.funcNamed "actuary/actuarylaw19.DualShows" = some 7 by kernel_rfl).symm.trans hf) |>.symm
 obtain rfl:fn = Tryz.f7:=(Option.some.inj (Tryz.func7.symm.trans hfn)).symm
 refine ⟨by kernel_rfl,fun j t ht => ?_⟩
 rw [Tryz.params7] at ht
 match j,ht with
 | 0,ht => simp at ht;subst ht;exact (show Tryz.prog.wantsStandIn 44 = false by kernel_rfl)
 | j + 1,ht => simp at ht
theorem dualShows_upto_card:Rows.DualShowsUptoCardSaid :=
 Claim7.holds_tied_plain_at .later [] _ _ _ _ zPE (fun _ h => by cases h) (by kernel_rfl) (fun _ h => by cases h) dualShowsUpto_row_tie rfl ⟨rfl,rfl⟩ (by kernel_rfl) rfl zQC (by kernel_rfl)
end Go.Proofs.YtdbgbaiekpbaoaaGreatDoor
