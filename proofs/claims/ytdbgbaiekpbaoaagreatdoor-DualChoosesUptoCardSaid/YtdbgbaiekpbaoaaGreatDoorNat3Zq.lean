/- nat.Words,nat.Add by their contracts. Conditions: as each says. Steps of a drawn region: a call of a Go function by its contract;append of words. Conditions: as each says. Conditions: as they say. -/
import Derived.Test.YtdbgbaiekpbaoaaGreatDoorOutZq
import Derived.Deep.RegionLaw
import Derived.Laws.AppendOwnNone
namespace Go.Proofs.YtdbgbaiekpbaoaaGreatDoor
open Go.RowKit Am
open Lib (hid)
attribute [local go_sem ↓] Go.wp_at_zero Go.wp_at_succ
set_option maxHeartbeats 400000
set_option maxRecDepth 100000
namespace Nt
theorem words (A:Option Addr) (m c:Nat) (xs:List Nat) (w:World) (h:SW w (.slice A m c) xs) (hb:xs.length ≤ LIM):Calls Tryz.prog 158 #[.agg #[.slice A m c]] w (zCs w xs):=by
 have h2:=(h.alloc (.cells #[.slice A m c] 31)).reads
 have H2:=hid h2
 have HB:=hid hb
 clear h h2 hb
 go_enter Tryz.func158,Tryz.ntmps158
 go_wp2_with fail
 refine (clone _ xs _ H2.out HB.out).mono ?_
 rintro e w1 ⟨A1,m1,c1,rfl,hs1,hb1⟩
 go_wp2
 go_ret
 exact ⟨_,_,_,rfl,hs1,bstep (zae w _) hb1 (by simp)⟩

theorem add (A B:Option Addr) (m c m' c' a b:Nat) (w:World) (ha:zas w (.slice A m c) a) (hb:zas w (.slice B m' c') b) (hla:wlen a ≤ LIM) (hlb:wlen b ≤ LIM) :
  Calls Tryz.prog 120 #[.agg #[.slice A m c], .agg #[.slice B m' c']] w (zc0 w (a + b)):=by
 obtain ⟨xs,hx,hcx,rfl,hlx,rfl⟩:=ha.words
 obtain ⟨ys,hy,hcy,rfl,hly,rfl⟩:=hb.words
 rw [← hlx] at hla
 rw [← hly] at hlb
 clear hlx hly ha hb
 obtain ⟨n,hn⟩:∃ n,n = max xs.length ys.length + 1:=⟨_,rfl⟩
 have g1:n ≤ 16 * LIM:=by have:=zaP;omega
 have HN:=hid hn
 have HX:=hid hx
 have HY:=hid hy
 clear hx hy hcx hcy
 obtain ⟨M,hM'⟩:∃ M,M = max xs.length ys.length:=⟨_,rfl⟩
 have hM:(if xs.length < ys.length then (ys.length:Int) else (xs.length:Int)) = (M:Int):=by split <;> omega
 have hL:wrap64 ((M:Int) + 1) = (n:Int):=by
  have:=zaP
  rw [show (M:Int) + 1 = (n:Int) by omega]
  unfold wrap64;omega
 clear hM'
 clear hn
 go_enter Tryz.func120,Tryz.ntmps120
 go_wp2_with (at_make;go_must (refine zdz rfl _ _ rfl n _ rfl rfl hL g1 (w.heap.size + 1 + 1 + 1) (by simp) ?_))
 intro w1 ho
 have HO:=hid ho
 clear ho hM hL g1
 go_wp2
 go_loopw [6,19] (fun cy i wr => ∃ (j C:Nat) (os:List Nat),i = .int .i64 j ∧ cy = .int .u64 C ∧ j ≤ n ∧ AddInv xs ys os j C ∧ OutAt (((w.alloc (.cells #[.slice A xs.length c] 31)).alloc (.cells #[.slice B ys.length c'] 31)).alloc (.cells #[.slice none 0 0] 31)) wr (w.heap.size + 1 + 1 + 1) n os)
  (fun _ i _ => n - (intOf i).toNat)
 case atStart => exact ⟨0,0,List.replicate n 0,rfl,rfl,Nat.zero_le _,AddInv.start xs ys n,HO.out⟩
 case round =>
  obtain ⟨j,C,os,rfl,rfl,hj,hI,hO⟩:=hrel
  have HI:=hid hI
  have HO2:=hid hO
  have hC:=hI.one
  have hXr:=hid (hO.keep (((HX.out.alloc _).alloc _).alloc _) (by simp))
  have hYr:=hid (hO.keep (((HY.out.alloc _).alloc _).alloc _) (by simp))
  have hc0:=hO.old (b:=w.heap.size) (o:=0) (v := .slice A xs.length c) (by omega) (zaf (zaf (zax rfl rfl)))
  have hc1:=hO.old (b:=w.heap.size + 1) (o:=0) (v := .slice B ys.length c') (by omega) (zaf (zax (by simp) rfl))
  have hx1:=zdM HX.out.2 j
  have hy1:=zdM HY.out.2 j
  clear hI
  by_cases hlt:j < n
  ·have hcell:=hO.cell hlt
   have hfro:=hO.fro j
   have hsz:=hO.lt
   have hnb:n ≤ 9223372036854775807:=by have:=HN.out;have:=zaP;omega
   have hi1:(0:Int) ≤ (j:Int):=Int.natCast_nonneg _
   have hi2:(j:Int) < (n:Int):=by omega
   clear hO
   go_wp2_with fail
   have q1:=zaf (ob := .cells #[.slice B ys.length c'] 31) (zaf (ob := .cells #[.slice A xs.length c] 31) hcell)
   have q2:=zd1 (ob := .cells #[.slice B ys.length c'] 31) (zxk (ob := .cells #[.slice A xs.length c] 31) hsz) (zd1 (ob := .cells #[.slice A xs.length c] 31) hsz hfro)
   go_region_held3 (fun w' => w'.cell? ⟨w.heap.size,0,none⟩ = some (.slice A xs.length c) ∧ w'.cell? ⟨w.heap.size + 1,0,none⟩ = some (.slice B ys.length c'))
    (first | ((try go_split_ands);(try simp only [World.cell?_drew]);(repeat' apply And.intro) <;> (first | assumption | exact zaf (by assumption) | exact zah (by omega) (by assumption))) | go_keep)
    (first
     | (go_at_call 157;(with_reducible refine (word (.slice A xs.length c) xs _ (by omega) _ ?_).mono ?_);(exact hXr.out.drew);rintro e w' ⟨rfl,rfl⟩)
     | (go_at_call 157;(with_reducible refine (word (.slice B ys.length c') ys _ (by omega) _ ?_).mono ?_);(exact hYr.out.drew.alloc _);rintro e w' ⟨rfl,rfl⟩)
     | (go_at_call 159;(with_reducible refine (Word.add (wd xs j) (wd ys j) C (by assumption) (by assumption) (by assumption) _).mono ?_);rintro e w' ⟨rfl,rfl⟩))
   go_wp2
   go_roundw
   case rel => exact ⟨j + 1,_,_,by go_num,rfl,by omega,HI.out.next (by rw [HO2.out.len];exact hlt) HX.out.2 HY.out.2,(((HO2.out.alloc _).alloc _).store j _).drew⟩
   case measure => simp [intOf];omega
  ·obtain rfl:j = n:=by omega
   have hv:=HI.out.done HO2.out.len.symm HX.out.2 HY.out.2 (by have:=HN.out;omega) (by have:=HN.out;omega)
   have hs:=hO.sw HI.out.wds
   have hb0:=hO.bel
   have HV:=hid hv
   have HS:=hid hs
   have HB:=hid hb0
   clear hv hs hb0 hO
   go_wp2_with fail
   refine (trim _ os _ HS.out).mono ?_
   rintro e w2 ⟨A2,m2,c2,rfl,hs2,hb2⟩
   have hk:=zad hb2 ((HB.out.block (w.heap.size + 1 + 1) (by omega)).trans (zam (by simp)))
   have hc:w2.cell? ⟨w.heap.size + 1 + 1,0,none⟩ = some (.slice none 0 0):=zac hk 0
   have hf:=zag hk 0
   have HK:=hid hk
   have h0:=HB.out.size
   have h1:=hb2.size
   simp at h0
   clear hk
   go_wp2
   refine bodyPost_ret (v := .agg #[.slice A2 m2 c2]) (by simp [results,Tryz.results120,go_sem,hc]) rfl ?_
   rw [HV.out] at hs2
   refine ⟨_,_,_,rfl,hs2.setCell (p:=⟨w.heap.size + 1 + 1,0,none⟩) HK.out (by decide) _,Below.setCell ?_ (by simp;omega) _⟩
   exact bstep ((((zae w _).alloc (by simp) _).alloc (by simp;omega) _).trans (HB.out.mono (by omega))) hb2 (by omega)
end Nt
end Go.Proofs.YtdbgbaiekpbaoaaGreatDoor
namespace Go.Proofs.YtdbgbaiekpbaoaaGreatDoor
open Go.RowKit Am
open Lib (hid)
set_option maxHeartbeats 1000000
set_option maxRecDepth 100000
theorem znT {ops:Array Oper} {o:Oper} {a:Act} {w:World} {K:Act → World → Prop} {Q:Exit → Act → World → Prop} {E:Prop} (hg:o.guard = none)
  (f:FuncId) {fn:Func} {c:Code} (hf:Tryz.prog.funcs[f]? = some fn) (hname:(fn.name == "runtime.NumGoroutine") = false) (hb:fn.body = some c) (xs:List Operand) (ts:Array TypeId) (hop:o.op = .call { callee := .value (.func f),args:=xs.toArray,argTypes:=ts })
  (args:List Value) (ha:xs.map a.eval = args) {R:Ending → World → Prop} (hc:Calls Tryz.prog f args.toArray w R) (hK:∀ e w',R e w' → ∃ v,e = .returned v ∧ K (a.put o.dst v) w') :
  if Region.wanted o (yielded ops a.tmps) = true then Oper.wp Tryz.prog o a w K Q else E:=by
 have hw:Region.wanted o (yielded ops a.tmps) = true:=by simp [Region.wanted,hg]
 rw [if_pos hw]
 have hrun:(execOp a.eval o).run Tryz.prog w = .ok (.enter f args.toArray) w:=by
  unfold execOp
  simp only [hop]
  subst ha
  have hn:¬ fn.name = "runtime.NumGoroutine":=by simpa using hname
  simp [go_sem,resolve,invoke,callFunc,hf,hn,hb]
 unfold Oper.wp
 rw [hrun,Oper.upon_enter]
 refine hc.mono ?_
 intro e w' hr
 obtain ⟨v,rfl,h⟩:=hK e w' hr
 exact h
theorem zqA {ops:Array Oper} {o:Oper} {a:Act} {w:World} {K:Act → World → Prop} {Q:Exit → Act → World → Prop} {E:Prop} (hg:o.guard = none)
  (s x:Operand) (hop:o.op = .call { callee := .builtin .append,args := #[s,x],argTypes := #[29,29] })
  {W0:World} {H n:Nat} {ys xs:List Nat} (hO:OutAt W0 w H n ys) (hy:Wds ys) (hs:a.eval s = .slice (some ⟨H,0,none⟩) n n) {X:Value} (hx:a.eval x = X) (hX:SR w X xs) (hl:n + xs.length ≤ LIM)
  (hK:∀ A m c w',SW w' (.slice A m c) (ys ++ xs) → Below H w w' → K (a.put o.dst (.slice A m c)) w') :
  if Region.wanted o (yielded ops a.tmps) = true then Oper.wp Tryz.prog o a w K Q else E:=by
 have hw:Region.wanted o (yielded ops a.tmps) = true:=by simp [Region.wanted,hg]
 rw [if_pos hw]
 obtain ⟨i0,hi,hz0,hz1,hz2⟩:=info_parts zf7
 obtain ⟨A,c,rfl,hlc,hc9,hwx,hnil,hcell⟩:=hX
 rcases A with _ | ad
 ·obtain ⟨rfl,rfl⟩:=hnil rfl
  have hrun:=run_append_owned_none (P:=Tryz.prog) (w:=w) H 29 o.type 193 i0 1 Tryz.underlying29 hi _ n _ hO.own
  unfold Oper.wp
  simp [execOp,hop,resolve,invoke,builtin,hs,hx,hrun,Result.andThen]
  exact hK _ _ _ _ (by rw [List.append_nil];exact hO.sw hy) (Below.refl _ _)
 ·refine wp_append_own w s x 29 hop H 193 i0 (.int .u64 0) 1 8 Tryz.underlying29 hi hz0 hz1 hz2 rfl (by decide) _ n _ hs hO.own ad xs.length c (wcells xs) hx (by rw [zdA];omega) (hcell ad rfl) (zgf xs)
   (by unfold maxLen;have:=zaP;omega) (by have:=zaP;omega) (Nat.le_of_lt hO.lt) fun v' w' hown hgrow _ => ?_
  rw [← zia] at hown
  have hl2:n + xs.length = (ys ++ xs).length:=by rw [List.length_append,hO.len]
  rw [hl2] at hown
  have hs':=SW.of_own hown (fun z hz => (List.mem_append.1 hz).elim (hy z) (hwx z))
  obtain ⟨A',m',c',rfl⟩:=hs'.slice
  exact hK _ _ _ _ hs' ((Below.refl _ _).grown hgrow (Nat.le_of_lt hO.lt) (fun k hk => by cases hk;exact Nat.le_refl _))
end Go.Proofs.YtdbgbaiekpbaoaaGreatDoor
