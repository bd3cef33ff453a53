/- DualChooses returns true for every input of bulk at most 1048576 (any prices,any line,any columns that may come in,any n),and the input reads as it did;the variable errors.errorType lies as the program's text lays it (tied by the card). Conditions: none beyond the statement's own bound and the card's own. -/
import Derived.Test.YtdbgbaiekpbaoaaGreatDoorRows
import Derived.Test.YtdbgbaiekpbaoaaGreatDoorCards
import Derived.Test.YtdbgbaiekpbaoaaGreatDoorTie
import Derived.Test.YtdbgbaiekpbaoaaGreatDoorOpenZq
import Derived.Test.YtdbgbaiekpbaoaaGreatDoorCh19Zq
import Derived.ChangeSame
import Derived.ChangeVars
import Derived.LaidLaws
import Derived.LaidHandle
import Derived.Stop.Joined
import Derived.Deep.DeepHandedRow
import Derived.SevenTiedAt
set_option linter.all false
namespace Go.Proofs.YtdbgbaiekpbaoaaGreatDoor
open Go.ChangeShapes Go.WideShapes Go.ChangeAt Go.RowKit Go.Deep
set_option maxRecDepth 100000
theorem et:Tryz.prog.globalNamed "errors.errorType" = some 0:=by kernel_rfl
theorem rt:(Tryz.prog.cutTypes.find? (·.1 == "internal/reflectlite.rtype")).map (·.2) = some 211:=by kernel_rfl
theorem size:Tryz.prog.types.size = 318:=by kernel_rfl
theorem zDL:((List.range 318).filter fun t => Tryz.prog.rowNamed t [101,114,114,111,114]) = [55]:=by kernel_rfl
theorem zlF {W:World} (h:laidMetH Tryz.prog Rows.dualChoosesUptoRow.laid W):W.cell? ⟨0,0,none⟩ = some Err.HandleV:=by
 have h':laidMet Tryz.prog [] W ∧ handlesMet Tryz.prog Rows.dualChoosesUptoRow.laid W:=h
 obtain ⟨name,u,ty,e1,e2,e3,e4,e5⟩:=h'.2 _ (List.mem_singleton.2 rfl)
 have en:name = [101,114,114,111,114]:=(Option.some.inj e1).symm
 subst en
 obtain rfl:=Option.some.inj (rt.symm.trans e2)
 have hm:ty ∈ (List.range 318).filter fun t => Tryz.prog.rowNamed t [101,114,114,111,114]:=List.mem_filter.2 ⟨List.mem_range.2 (by rw [← size];exact e3),e4⟩
 rw [zDL] at hm
 obtain rfl:=List.mem_singleton.1 hm
 have hh:typeHandle Tryz.prog 55 = .pointer (some ⟨1,55,none⟩):=by kernel_rfl
 rw [hh] at e5
 simpa using World.var?_cell et e5 0
noncomputable def laidWorld (os:Os):World :=
 let w0:=World.holding Tryz.prog os ⟨#[], #[],[]⟩
 { w0 with heap:=w0.heap.modify 0 fun
   | .cells _ t frozen => .cells #[Err.HandleV] t frozen
   | o => o }
abbrev zuq:Array Value := #[.slice none 0 0, .slice none 0 0, .slice none 0 0, .int .i64 0]
theorem znG (os:Os) (args:Array Value):laidMetH Tryz.prog Rows.dualChoosesUptoRow.laid ((laidWorld os).forCall (fun _ _ => 0) ⟨#[],args,[]⟩).memory :=
 laidMetH_of_parts (laidMet_nil _ _) (by kernel_rfl)
theorem zwB (os:Os) {H:Type} (enc:TypeId × Value → H):∃ places,DataW.whole enc Tryz.prog ((laidWorld os).forCall (fun _ _ => 0) ⟨#[],zuq,[]⟩).memory Tryz.f3.params.toList Rows.dualChoosesSpec.vars false zuq.toList 8 = some ([.nil, .nil, .nil, .lit (.int .i64 0)],[],places) :=
 ⟨[],by kernel_rfl⟩
theorem zur (os:Os) (started:os.Started) (H:Type) (enc:TypeId × Value → H) (F:Stop.Interp) :
  ReturnsInHanded {} Tryz.checked os 3 .any ((Rows.OpenSpec.upto Rows.dualChoosesSpec).preRow enc Tryz.prog Tryz.f3 Rows.dualChoosesUptoRow.domain false Rows.dualChoosesUptoRow.laid) (((Rows.OpenSpec.upto Rows.dualChoosesSpec).at F).post enc Tryz.prog Tryz.f3 false true false false):=by
 obtain ⟨places,hx⟩:=zwB os enc
 refine returnsInHanded_of_row (C:=Tryz.checked) (s:=Rows.OpenSpec.upto Rows.dualChoosesSpec) own started (by kernel_rfl) Tryz.func3
  (witness_row_at (enc:=enc) (C:=Tryz.checked) false (laidWorld os) zuq rfl (by kernel_rfl) (by kernel_rfl) (by kernel_rfl)
   (OpenSpec.preRow_of_cond 8 hx (by kernel_rfl) (fun k hk => by cases hk;kernel_rfl) (by kernel_rfl) (znG os _))) ?_
 intro W base args ds gs before hval hW _ hcond _ hL _ _
 have hk:=hcond _ rfl
 have hW':=hW
 obtain ⟨p,q,hA0,hV,rfl,hfz,hnd⟩:=hW
 have hA:DataW.TrodAll enc Tryz.prog W 0 (fun _ => true) true Tryz.f3.params.toList args.toList ds p:=hA0
 rw [Tryz.params3] at hA hval
 obtain ⟨v0,vs0,d0,ds0,p0,q0,hargs,rfl,rfl,h0,r0⟩:=trodAll_cons hA
 obtain ⟨v1,vs1,d1,ds1,p1,q1,rfl,rfl,rfl,h1,r1⟩:=trodAll_cons r0
 obtain ⟨v2,vs2,d2,ds2,p2,q2,rfl,rfl,rfl,h2,r2⟩:=trodAll_cons r1
 obtain ⟨v3,vs3,d3,ds3,p3,q3,rfl,rfl,rfl,h3,r3⟩:=trodAll_cons r2
 obtain ⟨rfl,rfl,rfl⟩:=trodAll_nil r3
 obtain rfl:args = #[v0,v1,v2,v3]:=by cases args;simp_all
 obtain ⟨rfl,rfl⟩:=trodVars_none hV
 have hbk:Rows.uptoBulk d0 + (Rows.uptoBulk d1 + (Rows.uptoBulk d2 + (Rows.uptoBulk d3 + 0))) ≤ 1048576:=by
  have h:=of_decide_eq_true hk
  simpa only [List.append_nil,Rows.uptoBulkAll] using h
 obtain ⟨X,nX,cX,rfl⟩:=okWide_slice Tryz.underlying22 (hval 0 22 v0 rfl rfl)
 obtain ⟨Y,nY,cY,rfl⟩:=okWide_slice Tryz.underlying22 (hval 1 22 v1 rfl rfl)
 obtain ⟨Z,nZ,cZ,rfl⟩:=okWide_slice Tryz.underlying23 (hval 2 23 v2 rfl rfl)
 obtain ⟨n,rfl,rfl,rfl,hwn⟩:=open_int Tryz.underlying3 (hval 3 3 v3 rfl rfl) h3
 have hr0:=h0
 have hr1:=h1
 have hr2:=h2
 obtain ⟨f0,h0⟩:=h0
 obtain ⟨f1,h1⟩:=h1
 obtain ⟨f2,h2⟩:=h2
 obtain ⟨X',nX',cX',xs,e0,hnx,hx,_,_,hbx⟩:=zrv h0
 obtain ⟨Y',nY',cY',ys,e1,hny,hy,_,_,hby⟩:=zrv h1
 obtain ⟨Z',nZ',cZ',zs,e2,hnz,hz,hbz⟩:=zwj h2
 dsimp only at hbx hby hbz
 simp [Value.cells] at e0 e1 e2
 obtain ⟨rfl,rfl,rfl⟩:=e0
 obtain ⟨rfl,rfl,rfl⟩:=e1
 obtain ⟨rfl,rfl,rfl⟩:=e2
 have hlt0:∀ x ∈ p0,x.block < W.heap.size:=fun x hx => hW'.lt x (by simp [hx])
 have hlt1:∀ x ∈ p1,x.block < W.heap.size:=fun x hx => hW'.lt x (by simp [hx])
 have hlt2:∀ x ∈ p2,x.block < W.heap.size:=fun x hx => hW'.lt x (by simp [hx])
 have ef:((Rows.OpenSpec.upto Rows.dualChoosesSpec).at F).fn H ([d0,d1,d2, .lit (.int .i64 n)] ++ []) = { results:=[.lit (.bool true)],args:=[d0,d1,d2, .lit (.int .i64 n)] }:=rfl
 refine (Lw.chooses X nX cX xs Y nY cY ys Z nZ cZ zs n W (zlF hL) hx hy hz hnx hny hnz (by omega) (by omega) (by omega)).mono fun e W' ⟨he,hb⟩ => ?_
 subst he
 refine ⟨_,rfl,_,_,_,[],(p0 ++ (p1 ++ (p2 ++ ([] ++ [])))),[],hW',?_,?_,?_,hb.frame _,fun h => by cases h⟩
 ·rw [ef];exact trodAll_mk1 (shut_bool Tryz.underlying4 true)
 ·rw [ef]
  exact trodAll_cons_mk (Below.trod zqj (by kernel_rfl) (of_decide_eq_true (by kernel_rfl)) hr0 hb hlt0) (trodAll_cons_mk (Below.trod zqj (by kernel_rfl) (of_decide_eq_true (by kernel_rfl)) hr1 hb hlt1) (trodAll_cons_mk (Below.trod zqj (by kernel_rfl) (of_decide_eq_true (by kernel_rfl)) hr2 hb hlt2) (trodAll_cons_mk (shut_int Tryz.underlying3 hwn) trodAll_mk0)))
 ·rw [ef];rfl
theorem zpT:Rows.DualChoosesUptoSaid :=
 OpenClaim.holds_of_cond 3 Tryz.f3 rfl rfl rfl rfl rfl rfl rfl ⟨rfl,rfl,rfl,rfl,rfl⟩ rfl rfl rfl rfl rfl (by kernel_rfl) Tryz.func3 (by kernel_rfl)
  (of_decide_eq_true (by kernel_rfl)) (by unfold Func.isWrapper;first | (rw [if_pos (by decide +kernel)];kernel_rfl) | (rw [if_neg (by decide +kernel)];exact ⟨rfl,rfl⟩))
  (fun os started H enc _ F => by rw [OpenClaim.pre_eq_preRow];exact zur os started H enc F)
theorem zwA (f:FuncId) (fn:Func) (hf:Tryz.pinned.checked.prog.funcNamed "actuary/actuarylaw19.DualChooses" = some f) (hfn:Tryz.pinned.checked.prog.funcs[f]? = some fn) :
  true = Tryz.pinned.checked.prog.looks [] ∧ ∀ (j:Nat) t,fn.params[j]? = some t → Tryz.pinned.checked.prog.wantsStandIn t = false:=by
 obtain rfl:f = 3:=Option.some.inj ((show Tryz.prog.funcNamed "actuary/actuarylaw19.DualChooses" = some 3 by kernel_rfl).symm.trans hf) |>.symm
 obtain rfl:fn = Tryz.f3:=(Option.some.inj (Tryz.func3.symm.trans hfn)).symm
 refine ⟨by kernel_rfl,fun j t ht => ?_⟩
 rw [Tryz.params3] at ht
 match j,ht with
 | 0,ht => simp at ht;subst ht;exact (show Tryz.prog.wantsStandIn 22 = false by kernel_rfl)
 | 1,ht => simp at ht;subst ht;exact (show Tryz.prog.wantsStandIn 22 = false by kernel_rfl)
 | 2,ht => simp at ht;subst ht;exact (show Tryz.prog.wantsStandIn 23 = false by kernel_rfl)
 | 3,ht => simp at ht;subst ht;exact (show Tryz.prog.wantsStandIn 3 = false by kernel_rfl)
 | j + 4,ht => simp at ht
theorem dualChooses_upto_card:Rows.DualChoosesUptoCardSaid :=
 Claim7.holds_tied_plain_at .later [] _ _ _ _ zpT (fun _ h => by cases h) (by kernel_rfl) (fun _ h => by cases h) dualChoosesUpto_row_tie rfl ⟨rfl,rfl⟩ (by kernel_rfl) rfl zwA (by kernel_rfl)
end Go.Proofs.YtdbgbaiekpbaoaaGreatDoor
