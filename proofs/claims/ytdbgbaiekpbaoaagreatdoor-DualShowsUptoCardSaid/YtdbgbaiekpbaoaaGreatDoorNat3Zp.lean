/- nat.Words,nat.Add by their contracts. Conditions: as each says. Steps of a drawn region: a call of a Go function by its contract;append of words. Conditions: as each says. Frames for drawn regions: what stands below a world is kept. Conditions: as each says. Sums of fractions,and tables of them. Conditions: as each says. A square table taken apart by elimination with exchange: what each step keeps,and what comes of it. Conditions: as each says. Elimination whole: the pivots found,the table taken apart or not regular;both ways to solve by it. Conditions: as each says. How long numbers grow by elimination,by any measure that adds up. Conditions: as each says. Conditions: as they say. -/
import Derived.Test.YtdbgbaiekpbaoaaGreatDoorOutZp
import Derived.Deep.RegionLaw
import Derived.Laws.AppendOwnNone
import Derived.Deep.RegionHeld3
import Derived.OneCell
namespace Go.Proofs.YtdbgbaiekpbaoaaGreatDoor
open Go.RowKit Am
open Lib (hid)
attribute [local go_sem ↓] Go.wp_at_zero Go.wp_at_succ
set_option maxHeartbeats 400000
set_option maxRecDepth 100000
namespace Nt
theorem words (A:Option Addr) (m c:Nat) (xs:List Nat) (w:World) (h:SW w (.slice A m c) xs) (hb:xs.length ≤ LIM):Calls Tryz.prog 158 #[.agg #[.slice A m c]] w (zCs w xs):=by
 have h2:=(h.alloc (.cells #[.slice A m c] 31)).reads
 have H2:=hid h2
 have HB:=hid hb
 clear h h2 hb
 go_enter Tryz.func158,Tryz.ntmps158
 go_wp2_with fail
 refine (clone _ xs _ H2.out HB.out).mono ?_
 rintro e w1 ⟨A1,m1,c1,rfl,hs1,hb1⟩
 go_wp2
 go_ret
 exact ⟨_,_,_,rfl,hs1,bstep (zae w _) hb1 (by simp)⟩

theorem add (A B:Option Addr) (m c m' c' a b:Nat) (w:World) (ha:zas w (.slice A m c) a) (hb:zas w (.slice B m' c') b) (hla:wlen a ≤ LIM) (hlb:wlen b ≤ LIM) :
  Calls Tryz.prog 120 #[.agg #[.slice A m c], .agg #[.slice B m' c']] w (zc0 w (a + b)):=by
 obtain ⟨xs,hx,hcx,rfl,hlx,rfl⟩:=ha.words
 obtain ⟨ys,hy,hcy,rfl,hly,rfl⟩:=hb.words
 rw [← hlx] at hla
 rw [← hly] at hlb
 clear hlx hly ha hb
 obtain ⟨n,hn⟩:∃ n,n = max xs.length ys.length + 1:=⟨_,rfl⟩
 have g1:n ≤ 16 * LIM:=by have:=zaP;omega
 have HN:=hid hn
 have HX:=hid hx
 have HY:=hid hy
 clear hx hy hcx hcy
 obtain ⟨M,hM'⟩:∃ M,M = max xs.length ys.length:=⟨_,rfl⟩
 have hM:(if xs.length < ys.length then (ys.length:Int) else (xs.length:Int)) = (M:Int):=by split <;> omega
 have hL:wrap64 ((M:Int) + 1) = (n:Int):=by
  have:=zaP
  rw [show (M:Int) + 1 = (n:Int) by omega]
  unfold wrap64;omega
 clear hM'
 clear hn
 go_enter Tryz.func120,Tryz.ntmps120
 go_wp2_with (at_make;go_must (refine zdz rfl _ _ rfl n _ rfl rfl hL g1 (w.heap.size + 1 + 1 + 1) (by simp) ?_))
 intro w1 ho
 have HO:=hid ho
 clear ho hM hL g1
 go_wp2
 go_loopw [6,19] (fun cy i wr => ∃ (j C:Nat) (os:List Nat),i = .int .i64 j ∧ cy = .int .u64 C ∧ j ≤ n ∧ AddInv xs ys os j C ∧ OutAt (((w.alloc (.cells #[.slice A xs.length c] 31)).alloc (.cells #[.slice B ys.length c'] 31)).alloc (.cells #[.slice none 0 0] 31)) wr (w.heap.size + 1 + 1 + 1) n os)
  (fun _ i _ => n - (intOf i).toNat)
 case atStart => exact ⟨0,0,List.replicate n 0,rfl,rfl,Nat.zero_le _,AddInv.start xs ys n,HO.out⟩
 case round =>
  obtain ⟨j,C,os,rfl,rfl,hj,hI,hO⟩:=hrel
  have HI:=hid hI
  have HO2:=hid hO
  have hC:=hI.one
  have hXr:=hid (hO.keep (((HX.out.alloc _).alloc _).alloc _) (by simp))
  have hYr:=hid (hO.keep (((HY.out.alloc _).alloc _).alloc _) (by simp))
  have hc0:=hO.old (b:=w.heap.size) (o:=0) (v := .slice A xs.length c) (by omega) (cell_al (cell_al (zax rfl rfl)))
  have hc1:=hO.old (b:=w.heap.size + 1) (o:=0) (v := .slice B ys.length c') (by omega) (cell_al (zax (by simp) rfl))
  have hx1:=zdM HX.out.2 j
  have hy1:=zdM HY.out.2 j
  clear hI
  by_cases hlt:j < n
  ·have hcell:=hO.cell hlt
   have hfro:=hO.fro j
   have hsz:=hO.lt
   have hnb:n ≤ 9223372036854775807:=by have:=HN.out;have:=zaP;omega
   have hi1:(0:Int) ≤ (j:Int):=Int.natCast_nonneg _
   have hi2:(j:Int) < (n:Int):=by omega
   clear hO
   go_wp2_with fail
   have q1:=cell_al (ob := .cells #[.slice B ys.length c'] 31) (cell_al (ob := .cells #[.slice A xs.length c] 31) hcell)
   have q2:=zd1 (ob := .cells #[.slice B ys.length c'] 31) (zxk (ob := .cells #[.slice A xs.length c] 31) hsz) (zd1 (ob := .cells #[.slice A xs.length c] 31) hsz hfro)
   go_region_held3 (fun w' => w'.cell? ⟨w.heap.size,0,none⟩ = some (.slice A xs.length c) ∧ w'.cell? ⟨w.heap.size + 1,0,none⟩ = some (.slice B ys.length c'))
    (first | ((try go_split_ands);(try simp only [World.cell?_drew]);(repeat' apply And.intro) <;> (first | assumption | exact cell_al (by assumption) | exact cell_set (by omega) (by assumption))) | go_keep)
    (first
     | (go_at_call 157;(with_reducible refine (word (.slice A xs.length c) xs _ (by omega) _ ?_).mono ?_);(exact hXr.out.drew);rintro e w' ⟨rfl,rfl⟩)
     | (go_at_call 157;(with_reducible refine (word (.slice B ys.length c') ys _ (by omega) _ ?_).mono ?_);(exact hYr.out.drew.alloc _);rintro e w' ⟨rfl,rfl⟩)
     | (go_at_call 159;(with_reducible refine (Word.add (wd xs j) (wd ys j) C (by assumption) (by assumption) (by assumption) _).mono ?_);rintro e w' ⟨rfl,rfl⟩))
   go_wp2
   go_roundw
   case rel => exact ⟨j + 1,_,_,by go_num,rfl,by omega,HI.out.next (by rw [HO2.out.len];exact hlt) HX.out.2 HY.out.2,(((HO2.out.alloc _).alloc _).store j _).drew⟩
   case measure => simp [intOf];omega
  ·obtain rfl:j = n:=by omega
   have hv:=HI.out.done HO2.out.len.symm HX.out.2 HY.out.2 (by have:=HN.out;omega) (by have:=HN.out;omega)
   have hs:=hO.sw HI.out.wds
   have hb0:=hO.bel
   have HV:=hid hv
   have HS:=hid hs
   have HB:=hid hb0
   clear hv hs hb0 hO
   go_wp2_with fail
   refine (trim _ os _ HS.out).mono ?_
   rintro e w2 ⟨A2,m2,c2,rfl,hs2,hb2⟩
   have hk:=zad hb2 ((HB.out.block (w.heap.size + 1 + 1) (by omega)).trans (zam (by simp)))
   have hc:w2.cell? ⟨w.heap.size + 1 + 1,0,none⟩ = some (.slice none 0 0):=zac hk 0
   have hf:=zag hk 0
   have HK:=hid hk
   have h0:=HB.out.size
   simp at h0
   clear hk
   go_wp2
   refine bodyPost_ret (v := .agg #[.slice A2 m2 c2]) (by simp [results,Tryz.results120,go_sem,hc]) rfl ?_
   rw [HV.out] at hs2
   refine ⟨_,_,_,rfl,hs2.setCell (p:=⟨w.heap.size + 1 + 1,0,none⟩) HK.out (by decide) _,Below.setCell ?_ (by simp;omega) _⟩
   exact bstep ((((zae w _).alloc (by simp) _).alloc (by simp;omega) _).trans (HB.out.mono (by omega))) hb2 (by omega)
end Nt
end Go.Proofs.YtdbgbaiekpbaoaaGreatDoor
namespace Go.Proofs.YtdbgbaiekpbaoaaGreatDoor
open Go.RowKit Am
open Lib (hid)
set_option maxHeartbeats 1000000
set_option maxRecDepth 100000
theorem znT {ops:Array Oper} {o:Oper} {a:Act} {w:World} {K:Act → World → Prop} {Q:Exit → Act → World → Prop} {E:Prop} (hg:o.guard = none)
  (f:FuncId) {fn:Func} {c:Code} (hf:Tryz.prog.funcs[f]? = some fn) (hname:(fn.name == "runtime.NumGoroutine") = false) (hb:fn.body = some c) (xs:List Operand) (ts:Array TypeId) (hop:o.op = .call { callee := .value (.func f),args:=xs.toArray,argTypes:=ts })
  (args:List Value) (ha:xs.map a.eval = args) {R:Ending → World → Prop} (hc:Calls Tryz.prog f args.toArray w R) (hK:∀ e w',R e w' → ∃ v,e = .returned v ∧ K (a.put o.dst v) w') :
  if Region.wanted o (yielded ops a.tmps) = true then Oper.wp Tryz.prog o a w K Q else E:=by
 have hw:Region.wanted o (yielded ops a.tmps) = true:=by simp [Region.wanted,hg]
 rw [if_pos hw]
 have hrun:(execOp a.eval o).run Tryz.prog w = .ok (.enter f args.toArray) w:=by
  unfold execOp
  simp only [hop]
  subst ha
  have hn:¬ fn.name = "runtime.NumGoroutine":=by simpa using hname
  simp [go_sem,resolve,invoke,callFunc,hf,hn,hb]
 unfold Oper.wp
 rw [hrun,Oper.upon_enter]
 refine hc.mono ?_
 intro e w' hr
 obtain ⟨v,rfl,h⟩:=hK e w' hr
 exact h
theorem zqA {ops:Array Oper} {o:Oper} {a:Act} {w:World} {K:Act → World → Prop} {Q:Exit → Act → World → Prop} {E:Prop} (hg:o.guard = none)
  (s x:Operand) (hop:o.op = .call { callee := .builtin .append,args := #[s,x],argTypes := #[29,29] })
  {W0:World} {H n:Nat} {ys xs:List Nat} (hO:OutAt W0 w H n ys) (hy:Wds ys) (hs:a.eval s = .slice (some ⟨H,0,none⟩) n n) {X:Value} (hx:a.eval x = X) (hX:SR w X xs) (hl:n + xs.length ≤ LIM)
  (hK:∀ A m c w',SW w' (.slice A m c) (ys ++ xs) → Below H w w' → K (a.put o.dst (.slice A m c)) w') :
  if Region.wanted o (yielded ops a.tmps) = true then Oper.wp Tryz.prog o a w K Q else E:=by
 have hw:Region.wanted o (yielded ops a.tmps) = true:=by simp [Region.wanted,hg]
 rw [if_pos hw]
 obtain ⟨i0,hi,hz0,hz1,hz2⟩:=info_parts zf7
 obtain ⟨A,c,rfl,hlc,hc9,hwx,hnil,hcell⟩:=hX
 rcases A with _ | ad
 ·obtain ⟨rfl,rfl⟩:=hnil rfl
  have hrun:=run_append_owned_none (P:=Tryz.prog) (w:=w) H 29 o.type 193 i0 1 Tryz.underlying29 hi _ n _ hO.own
  unfold Oper.wp
  simp [execOp,hop,resolve,invoke,builtin,hs,hx,hrun,Result.andThen]
  exact hK _ _ _ _ (by rw [List.append_nil];exact hO.sw hy) (Below.refl _ _)
 ·refine wp_append_own w s x 29 hop H 193 i0 (.int .u64 0) 1 8 Tryz.underlying29 hi hz0 hz1 hz2 rfl (by decide) _ n _ hs hO.own ad xs.length c (wcells xs) hx (by rw [zdA];omega) (hcell ad rfl) (zgf xs)
   (by unfold maxLen;have:=zaP;omega) (by have:=zaP;omega) (Nat.le_of_lt hO.lt) fun v' w' hown hgrow _ => ?_
  rw [← zia] at hown
  have hl2:n + xs.length = (ys ++ xs).length:=by rw [List.length_append,hO.len]
  rw [hl2] at hown
  have hs':=SW.of_own hown (fun z hz => (List.mem_append.1 hz).elim (hy z) (hwx z))
  obtain ⟨A',m',c',rfl⟩:=hs'.slice
  exact hK _ _ _ _ hs' ((Below.refl _ _).grown hgrow (Nat.le_of_lt hO.lt) (fun k hk => by cases hk;exact Nat.le_refl _))
end Go.Proofs.YtdbgbaiekpbaoaaGreatDoor
namespace Go.Proofs.YtdbgbaiekpbaoaaGreatDoor
open Go.RowKit Am
open Lib (hid)
theorem al2 {a w:World} (h:Below a.heap.size a w) (o:Obj):Below a.heap.size a (w.alloc o):=h.alloc h.size o
theorem bdrew {B:Nat} {a w:World} (h:Below B a w):Below B a w.drew:=zhk h 1
theorem zc1 {a w w':World} (h:Below a.heap.size a w) (hb:Below w.heap.size w w'):Below a.heap.size a w':=bstep h hb h.size
theorem set2 {a w:World} {b o:Nat} {u:Value} (h:Below a.heap.size a w) (hb:a.heap.size ≤ b):Below a.heap.size a (w.setCell ⟨b,o,none⟩ u):=h.setCell hb u
theorem zbD (W:World) (o:Obj) (cs:Array Value) (t:TypeId):((W.alloc o).alloc (.cells cs t)).heap[W.heap.size + 1]? = some (.cells cs t (0,0)):=zam (by simp)
theorem zan {w w1:World} {b:Nat} {v:Value} {t:TypeId} (hb:Below w.heap.size w w1) (h:w.heap[b]? = some (.cells #[v] t (0,0))) :
  w1.heap[b]? = some (.cells #[v] t (0,0)) ∧ (w1.cell? ⟨b,0,none⟩ = some v ∧ w1.frozen? ⟨b,0,none⟩ = false) ∧
  ((∀ o,(w1.alloc o).cell? ⟨b,0,none⟩ = some v) ∧ (∀ o,(w1.alloc o).frozen? ⟨b,0,none⟩ = false)) ∧
  ((∀ o o',((w1.alloc o).alloc o').cell? ⟨b,0,none⟩ = some v) ∧ (∀ o o',((w1.alloc o).alloc o').frozen? ⟨b,0,none⟩ = false)) ∧
  ((b ≠ w1.heap.size ∧ w1.heap.size ≠ b) ∧ (b ≠ w1.heap.size + 1 ∧ w1.heap.size + 1 ≠ b)):=by
 have h1:=zad hb h
 have hl:b < w1.heap.size:=(Array.getElem?_eq_some_iff.1 h1).1
 exact ⟨h1,⟨zac h1 0,zag h1 0⟩,⟨fun o => zac (zak h1) 0,fun o => zag (zak h1) 0⟩,⟨fun o o' => zac (zak (zak h1)) 0,fun o o' => zag (zak (zak h1)) 0⟩,by omega⟩
def Box (w:World) (b:Nat):Prop := ∃ v,w.heap[b]? = some (.cells #[v] 31 (0,0))
theorem Box.of {w:World} {b:Nat} {v:Value} (h:w.heap[b]? = some (.cells #[v] 31 (0,0))):Box w b:=⟨v,h⟩
theorem Box.new (w:World) (v:Value):Box (w.alloc (.cells #[v] 31)) w.heap.size:=⟨v,zal _ _ _⟩
theorem Box.new1 (w:World) (o:Obj) (v:Value):Box ((w.alloc o).alloc (.cells #[v] 31)) (w.heap.size + 1):=⟨v,zbD _ _ _ _⟩
theorem Box.alloc {w:World} {b:Nat} {o:Obj} (h:Box w b):Box (w.alloc o) b:=⟨_,zak h.choose_spec⟩
theorem Box.below {w w':World} {b:Nat} (h:Box w b) (hb:Below w.heap.size w w'):Box w' b:=⟨_,zad hb h.choose_spec⟩
theorem Box.drew {w:World} {b:Nat} (h:Box w b):Box w.drew b:=⟨_,h.choose_spec⟩
theorem Box.set {w:World} {b b':Nat} {u:Value} (h:Box w b):Box (w.setCell ⟨b',0,none⟩ u) b:=by
 obtain ⟨v,h⟩:=h
 by_cases e:b = b'
 ·subst e;exact ⟨u,one_setCell h⟩
 ·exact ⟨v,(Below.heap_setCell w ⟨b',0,none⟩ u b e).trans h⟩
theorem Box.cell {w:World} {b:Nat} {u:Value} (h:Box w b):(w.setCell ⟨b,0,none⟩ u).cell? ⟨b,0,none⟩ = some u:=by
 obtain ⟨v,h⟩:=h
 exact zac (one_setCell h) 0
theorem zas.setBox {w:World} {s:Value} {n b:Nat} {u:Value} (h:zas w s n) (hb:Box w b):zas (w.setCell ⟨b,0,none⟩ u) s n:=by
 obtain ⟨v,hb⟩:=hb
 exact h.setCell (p:=⟨b,0,none⟩) hb (by decide) u
theorem zeo (w:World) (v:Value) (t:TypeId):(w.alloc (.cells #[v] t)).cell? ⟨w.heap.size,0,none⟩ = some v:=zax rfl rfl
theorem zfx (w:World) (o:Obj) (v:Value) (t:TypeId):((w.alloc o).alloc (.cells #[v] t)).cell? ⟨w.heap.size + 1,0,none⟩ = some v:=zax (by simp) rfl
end Go.Proofs.YtdbgbaiekpbaoaaGreatDoor
namespace Am
def zai:Nat → (Nat → Rat) → Rat
  | 0,_ => 0
  | n + 1,f => zai n f + f n
def el (xs:List Rat) (i:Nat):Rat:=xs.getD i 0
theorem znd {xs:List Rat} {i:Nat} {a:Rat} (h:xs[i]? = some a):el xs i = a:=by unfold el;rw [List.getD_eq_getElem?_getD,h];rfl
theorem zaH {xs:List Rat} {j:Nat} (h:j < xs.length):xs[j]? = some (el xs j):=by
 rw [List.getElem?_eq_getElem h];unfold el;rw [List.getD_eq_getElem?_getD,List.getElem?_eq_getElem h];rfl
theorem zDb {xs:List Rat} {j:Nat} (h:xs.length ≤ j):el xs j = 0:=by
 unfold el;rw [List.getD_eq_getElem?_getD,List.getElem?_eq_none h];rfl
theorem zrm (n j:Nat):el (List.replicate n (0:Rat)) j = 0:=by
 unfold el;rw [List.getD_eq_getElem?_getD,List.getElem?_replicate];split <;> rfl
theorem ziZ {xs:List Rat} {i j:Nat} {a:Rat} (hi:i < xs.length):el (xs.set i a) j = if i = j then a else el xs j:=by
 unfold el
 rw [List.getD_eq_getElem?_getD,List.getD_eq_getElem?_getD,List.getElem?_set]
 split
 ·rename_i h;subst h;simp
 ·rfl
theorem zyn {xs ys:List Rat} (hl:xs.length = ys.length) (h:∀ i,i < xs.length → el xs i = el ys i):xs = ys:=by
 apply List.ext_getElem?
 intro i
 by_cases hi:i < xs.length
 ·rw [zaH hi,zaH (by omega),h i hi]
 ·rw [List.getElem?_eq_none (by omega),List.getElem?_eq_none (by omega)]
theorem zaj {f g:Nat → Rat}:∀ {n:Nat},(∀ i,i < n → f i = g i) → zai n f = zai n g
 | 0,_ => rfl
 | n + 1,h => by rw [zai,zai,zaj (fun i hi => h i (by omega)),h n (by omega)]
theorem zgd:∀ n:Nat,zai n (fun _ => 0) = 0
 | 0 => rfl
 | n + 1 => by rw [zai,zgd n];grind
theorem zcn {f:Nat → Rat} {n:Nat} (h:∀ i,i < n → f i = 0):zai n f = 0:=(zaj h).trans (zgd n)
theorem zcm (f g:Nat → Rat):∀ n:Nat,zai n (fun i => f i + g i) = zai n f + zai n g
 | 0 => by simp only [zai];grind
 | n + 1 => by rw [zai,zai,zai,zcm f g n];grind
theorem za7 (f:Nat → Rat) (c:Rat):∀ n:Nat,zai n (fun i => c * f i) = c * zai n f
 | 0 => by simp only [zai];grind
 | n + 1 => by rw [zai,zai,za7 f c n];grind
theorem zb6 (f:Nat → Rat) (c:Rat) (n:Nat):zai n (fun i => f i * c) = zai n f * c:=by
 rw [Rat.mul_comm, ← za7];exact zaj fun i _ => Rat.mul_comm _ _
theorem zbq (f:Nat → Nat → Rat) (m:Nat):∀ n:Nat,zai n (fun i => zai m (fun j => f i j)) = zai m (fun j => zai n (fun i => f i j))
 | 0 => by simp only [zai];rw [zgd]
 | n + 1 => by rw [zai,zbq f m n, ← zcm];rfl
theorem zbI {f:Nat → Rat} {k:Nat}:∀ {n:Nat},k < n → (∀ i,i < n → i ≠ k → f i = 0) → zai n f = f k
 | 0,h,_ => absurd h (Nat.not_lt_zero _)
 | n + 1,h,hz => by
  rw [zai]
  by_cases e:k = n
  ·subst e
   rw [zcn fun i hi => hz i (by omega) (by omega)];grind
  ·rw [zbI (by omega) fun i hi => hz i (by omega),hz n (by omega) (by omega)];grind
theorem zh6 {f:Nat → Rat} {m:Nat}:∀ {n:Nat},m ≤ n → (∀ i,m ≤ i → i < n → f i = 0) → zai n f = zai m f
 | 0,h,_ => by rw [Nat.le_zero.1 h]
 | n + 1,h,hz => by
  by_cases e:m = n + 1
  ·rw [e]
  ·rw [zai,zh6 (n:=n) (by omega) fun i h1 h2 => hz i h1 (by omega),hz n (by omega) (by omega)];grind
theorem zdJ {f:Nat → Rat} {k:Nat} {n:Nat} (h:k < n):zai n f = f k + zai n (fun i => if i = k then 0 else f i):=by
 have e:zai n f = zai n (fun i => (if i = k then f k else 0) + (if i = k then 0 else f i)):=zaj fun i _ => by
  by_cases e:i = k
  ·subst e;rw [if_pos rfl,if_pos rfl];grind
  ·rw [if_neg e,if_neg e];grind
 rw [e,zcm,zbI (k:=k) h fun i _ hi => if_neg hi,if_pos rfl]
def en (L:List (List Rat)) (i j:Nat):Rat:=el (L.getD i []) j
theorem gset {α:Type} {L:List α} {i j:Nat} {a d:α} (hi:i < L.length):(L.set i a).getD j d = if i = j then a else L.getD j d:=by
 rw [List.getD_eq_getElem?_getD,List.getD_eq_getElem?_getD,List.getElem?_set]
 split
 ·rename_i h;subst h;simp
 ·rfl
theorem zaO {α:Type} {L:List α} {i:Nat} {d:α} (hi:i < L.length):L[i]? = some (L.getD i d):=by
 rw [List.getElem?_eq_getElem hi,List.getD_eq_getElem?_getD,List.getElem?_eq_getElem hi];rfl
theorem getD_some {α:Type} {L:List α} {i:Nat} {a d:α} (h:L[i]? = some a):L.getD i d = a:=by
 rw [List.getD_eq_getElem?_getD,h];rfl
def Reg (n:Nat) (M:Nat → Nat → Rat):Prop := ∀ x:Nat → Rat,(∀ i,i < n → zai n (fun j => M i j * x j) = 0) → ∀ j,j < n → x j = 0
theorem Reg.unique {n:Nat} {M:Nat → Nat → Rat} (h:Reg n M) {x y:Nat → Rat} (e:∀ i,i < n → zai n (fun j => M i j * x j) = zai n (fun j => M i j * y j)):∀ j,j < n → x j = y j:=by
 intro j hj
 have:=h (fun j => x j + (-1) * y j) (fun i hi => by
  have e1:zai n (fun j => M i j * (x j + (-1) * y j)) = zai n (fun j => M i j * x j + (-1) * (M i j * y j)):=zaj fun j _ => by grind
  rw [e1,zcm,za7,e i hi];grind) j hj
 grind
theorem zqE {n:Nat} {M:Nat → Nat → Rat} (ex:∀ v:Nat → Rat, ∃ x:Nat → Rat, ∀ i,i < n → zai n (fun j => M i j * x j) = v i) {y z:Nat → Rat}
  (e:∀ j,j < n → zai n (fun i => y i * M i j) = zai n (fun i => z i * M i j)):∀ i,i < n → y i = z i:=by
 intro k hk
 obtain ⟨x,hx⟩:=ex fun i => if i = k then 1 else 0
 have key:∀ y:Nat → Rat,zai n (fun j => zai n (fun i => y i * M i j) * x j) = y k:=by
  intro y
  have e1:zai n (fun j => zai n (fun i => y i * M i j) * x j) = zai n (fun j => zai n (fun i => y i * (M i j * x j))):=zaj fun j _ => by
   rw [← zb6];exact zaj fun i _ => by grind
  rw [e1,zbq]
  have e2:zai n (fun i => zai n (fun j => y i * (M i j * x j))) = zai n (fun i => y i * (if i = k then 1 else 0)):=zaj fun i hi => by
   rw [za7,hx i hi]
  rw [e2,zbI hk fun i _ hi => by rw [if_neg hi];grind,if_pos rfl];grind
 rw [← key y, ← key z]
 exact zaj fun j hj => by rw [e j hj]
end Am
namespace Am
structure LUv where
  lo:List (List Rat)
  up:List (List Rat)
  perm:List Nat
  odd:Bool
def zly (xs:List Rat) (r:Rat) (ys:List Rat):List Rat:=List.zipWith (fun a b => a + r * b) xs ys
theorem zdt {xs ys:List Rat} {r:Rat} (h:xs.length = ys.length):(zly xs r ys).length = xs.length:=by simp [zly];omega
theorem zmR {xs ys:List Rat} {r:Rat} {k:Nat} {a b:Rat} (ha:xs[k]? = some a) (hb:ys[k]? = some b):(zly xs r ys)[k]? = some (a + r * b):=by
 simp [zly,List.getElem?_zipWith,ha,hb]
theorem zuD {xs ys:List Rat} (r:Rat) (h:xs.length = ys.length) {k:Nat} (hk:k < xs.length):el (zly xs r ys) k = el xs k + r * el ys k :=
 znd (zmR (zaH hk) (zaH (by omega)))
def sw {α:Type} (L:List α) (i j:Nat) (d:α):List α:=(L.set i (L.getD j d)).set j (L.getD i d)
theorem zja {α:Type} (L:List α) (i j:Nat) (d:α):(sw L i j d).length = L.length:=by simp [sw]
def tw (i j k:Nat):Nat:=if k = j then i else if k = i then j else k
theorem zlp {i j k n:Nat} (hi:i < n) (hj:j < n) (hk:k < n):tw i j k < n:=by unfold tw;grind
theorem zxO (i j k:Nat):tw i j (tw i j k) = k:=by unfold tw;grind
theorem zgp {α:Type} {L:List α} {i j:Nat} {d:α} (hi:i < L.length) (hj:j < L.length) (k:Nat):(sw L i j d).getD k d = L.getD (tw i j k) d:=by
 unfold sw tw
 rw [gset (by simpa using hj),gset hi]
 by_cases h1:j = k
 ·rw [if_pos h1,if_pos h1.symm]
 ·rw [if_neg h1,if_neg (Ne.symm h1)]
  by_cases h2:i = k
  ·rw [if_pos h2,if_pos h2.symm]
  ·rw [if_neg h2,if_neg (Ne.symm h2)]
def zaT (c:Nat) (lo up:List (List Rat)):Nat → List (List Rat) × List (List Rat)
  | 0 => (lo,up)
  | t + 1 => ((zaT c lo up t).1.set (c + 1 + t) (((zaT c lo up t).1.getD (c + 1 + t) []).set c (en (zaT c lo up t).2 (c + 1 + t) c / en (zaT c lo up t).2 c c)),
      (zaT c lo up t).2.set (c + 1 + t) (zly ((zaT c lo up t).2.getD (c + 1 + t) []) (-(en (zaT c lo up t).2 (c + 1 + t) c / en (zaT c lo up t).2 c c)) ((zaT c lo up t).2.getD c [])))
structure Sq (n:Nat) (F:LUv):Prop where
  ll:F.lo.length = n
  lr:∀ i,i < n → (F.lo.getD i []).length = n
  ul:F.up.length = n
  ur:∀ i,i < n → (F.up.getD i []).length = n
  pl:F.perm.length = n
def LUv.turn (F:LUv) (c k:Nat):LUv:=⟨(sw F.lo c k []).set c (((sw F.lo c k []).getD c []).set c 1),sw F.up c k [],sw F.perm c k 0,if c = k then F.odd else !F.odd⟩
def LUv.step (F:LUv) (c k:Nat):LUv:=let G:=F.turn c k;{ G with lo:=(zaT c G.lo G.up (F.up.length - (c + 1))).1,up:=(zaT c G.lo G.up (F.up.length - (c + 1))).2 }
structure LUinv (n:Nat) (M:Nat → Nat → Rat) (c:Nat) (F:LUv):Prop where
  sq:Sq n F
  pr:∀ i,i < n → F.perm.getD i 0 < n
  pi:∀ i j,i < n → j < n → F.perm.getD i 0 = F.perm.getD j 0 → i = j
  sum:∀ i,i < n → ∀ j,j < n → M (F.perm.getD i 0) j = zai c (fun t => en F.lo i t * en F.up t j) + (if c ≤ i then en F.up i j else 0)
  one:∀ i,i < c → en F.lo i i = 1
  tri:∀ i t,i < n → t < n → i < t ∨ c ≤ t → en F.lo i t = 0
  zero:∀ t i,t < c → i < n → t < i → en F.up i t = 0
  piv:∀ t,t < c → en F.up t t ≠ 0
theorem zi2 {L:List (List Rat)} {i:Nat} {r:List Rat} (hi:i < L.length) (k j:Nat):en (L.set i r) k j = if i = k then el r j else en L k j:=by
 unfold en;rw [gset hi];split <;> rfl
theorem zyp (n k i j:Nat):en (List.replicate n (List.replicate k (0:Rat))) i j = 0:=by
 unfold en
 rw [List.getD_eq_getElem?_getD,List.getElem?_replicate]
 split
 ·exact zrm _ _
 ·rfl
theorem zfU (c n:Nat) (lo up:List (List Rat)) (h1:lo.length = n) (h2:∀ i,i < n → (lo.getD i []).length = n) (h3:up.length = n) (h4:∀ i,i < n → (up.getD i []).length = n) (hc:c < n) :
  ∀ t,c + 1 + t ≤ n →
   ((zaT c lo up t).1.length = n ∧ (∀ i,i < n → ((zaT c lo up t).1.getD i []).length = n) ∧ (zaT c lo up t).2.length = n ∧ (∀ i,i < n → ((zaT c lo up t).2.getD i []).length = n)) ∧
   (∀ i,i < n → ∀ j,j < n → en (zaT c lo up t).2 i j = if c < i ∧ i < c + 1 + t then en up i j + -(en up i c / en up c c) * en up c j else en up i j) ∧
   (∀ i,i < n → ∀ j,j < n → en (zaT c lo up t).1 i j = if (c < i ∧ i < c + 1 + t) ∧ j = c then en up i c / en up c c else en lo i j)
 | 0,_ => by
  refine ⟨⟨h1,h2,h3,h4⟩,fun i _ j _ => ?_,fun i _ j _ => ?_⟩
  ·rw [if_neg (by omega)];rfl
  ·rw [if_neg (by omega)];rfl
 | t + 1,ht => by
  obtain ⟨⟨a1,a2,a3,a4⟩,hu,hl⟩:=zfU c n lo up h1 h2 h3 h4 hc t (by omega)
  have e1:en (zaT c lo up t).2 (c + 1 + t) c = en up (c + 1 + t) c:=by rw [hu _ (by omega) _ hc,if_neg (by omega)]
  have e2:∀ j,j < n → en (zaT c lo up t).2 c j = en up c j:=fun j hj => by rw [hu _ hc _ hj,if_neg (by omega)]
  refine ⟨⟨by simp [zaT,a1],fun i hi => ?_,by simp [zaT,a3],fun i hi => ?_⟩,fun i hi j hj => ?_,fun i hi j hj => ?_⟩
  ·show (List.getD (List.set _ _ _) i []).length = n
   rw [gset (by omega)]
   split
   ·rw [List.length_set];exact a2 _ (by omega)
   ·exact a2 _ hi
  ·show (List.getD (List.set _ _ _) i []).length = n
   rw [gset (by omega)]
   split
   ·rw [zdt (by rw [a4 _ (by omega),a4 _ hc])];exact a4 _ (by omega)
   ·exact a4 _ hi
  ·show en (List.set _ _ _) i j = _
   rw [zi2 (by omega)]
   by_cases e:c + 1 + t = i
   ·subst e
    rw [if_pos rfl,if_pos (by omega),zuD _ (by rw [a4 _ (by omega),a4 _ hc]) (by rw [a4 _ hi];exact hj)]
    show en (zaT c lo up t).2 (c + 1 + t) j + -(en (zaT c lo up t).2 (c + 1 + t) c / en (zaT c lo up t).2 c c) * en (zaT c lo up t).2 c j = _
    rw [e1,e2 _ hc,e2 _ hj,hu _ hi _ hj,if_neg (by omega)]
   ·rw [if_neg e,hu _ hi _ hj]
    by_cases e3:c < i ∧ i < c + 1 + t
    ·rw [if_pos e3,if_pos (by omega)]
    ·rw [if_neg e3,if_neg (by omega)]
  ·show en (List.set _ _ _) i j = _
   rw [zi2 (by omega)]
   by_cases e:c + 1 + t = i
   ·subst e
    rw [if_pos rfl,ziZ (by rw [a2 _ hi];exact hc)]
    by_cases e3:c = j
    ·rw [if_pos e3,if_pos (by omega),e1,e2 _ hc]
    ·rw [if_neg e3,if_neg (by omega)]
     show en (zaT c lo up t).1 (c + 1 + t) j = _
     rw [hl _ hi _ hj,if_neg (by omega)]
   ·rw [if_neg e,hl _ hi _ hj]
    by_cases e3:(c < i ∧ i < c + 1 + t) ∧ j = c
    ·rw [if_pos e3,if_pos (by omega)]
    ·rw [if_neg e3,if_neg (by omega)]
theorem LUinv.start {n:Nat} {L:List (List Rat)} (h:L.length = n) (hr:∀ i,i < n → (L.getD i []).length = n):LUinv n (en L) 0 ⟨List.replicate n (List.replicate n 0),L,List.range n,false⟩:=by
 have hg:∀ i,i < n → (List.range n).getD i 0 = i:=fun i hi => by rw [List.getD_eq_getElem?_getD,List.getElem?_range hi];rfl
 refine ⟨⟨by simp,fun i hi => ?_,h,hr,by simp⟩,fun i hi => by rw [hg i hi];exact hi,fun i j hi hj e => by rw [hg i hi,hg j hj] at e;exact e,fun i hi j _ => ?_,fun i hi => absurd hi (Nat.not_lt_zero _),fun i t _ _ _ => zyp _ _ _ _,fun t i hi => absurd hi (Nat.not_lt_zero _),fun t hi => absurd hi (Nat.not_lt_zero _)⟩
 ·rw [List.getD_eq_getElem?_getD,List.getElem?_replicate,if_pos hi];simp
 ·rw [hg i hi,if_pos (Nat.zero_le _)];simp only [zai];grind
theorem zvA {n:Nat} {F:LUv} (s:Sq n F) {c k:Nat} (hc:c < n) (hk:k < n):∀ i j,i < n → j < n → en (F.turn c k).lo i j = if i = c ∧ j = c then 1 else en F.lo (tw c k i) j:=by
 intro i j hi hj
 show en (List.set _ _ _) i j = _
 rw [zi2 (by rw [zja,s.ll];exact hc)]
 by_cases e:c = i
 ·subst e
  rw [if_pos rfl,ziZ (by rw [zgp (by rw [s.ll];exact hc) (by rw [s.ll];exact hk),s.lr _ (zlp hc hk hc)];exact hc)]
  by_cases e2:c = j
  ·rw [if_pos e2,if_pos ⟨rfl,e2.symm⟩]
  ·rw [if_neg e2,if_neg (by omega),zgp (by rw [s.ll];exact hc) (by rw [s.ll];exact hk)];rfl
 ·rw [if_neg e,if_neg (by omega)]
  unfold en;rw [zgp (by rw [s.ll];exact hc) (by rw [s.ll];exact hk)]
theorem zlo {n:Nat} {F:LUv} (s:Sq n F) {c k:Nat} (hc:c < n) (hk:k < n):∀ i j,en (F.turn c k).up i j = en F.up (tw c k i) j:=by
 intro i j
 show en (sw _ _ _ _) i j = _
 unfold en;rw [zgp (by rw [s.ul];exact hc) (by rw [s.ul];exact hk)]
theorem znV {n:Nat} {F:LUv} (s:Sq n F) {c k:Nat} (hc:c < n) (hk:k < n):Sq n (F.turn c k):=by
 refine ⟨?_,fun i hi => ?_,?_,fun i hi => ?_,?_⟩
 ·show (List.set _ _ _).length = n;rw [List.length_set,zja,s.ll]
 ·show (List.getD (List.set _ _ _) i []).length = n
  rw [gset (by rw [zja,s.ll];exact hc)]
  split
  ·rw [List.length_set,zgp (by rw [s.ll];exact hc) (by rw [s.ll];exact hk)];exact s.lr _ (zlp hc hk hc)
  ·rw [zgp (by rw [s.ll];exact hc) (by rw [s.ll];exact hk)];exact s.lr _ (zlp hc hk hi)
 ·show (sw _ _ _ _).length = n;rw [zja,s.ul]
 ·show (List.getD (sw _ _ _ _) i []).length = n
  rw [zgp (by rw [s.ul];exact hc) (by rw [s.ul];exact hk)];exact s.ur _ (zlp hc hk hi)
 ·show (sw _ _ _ _).length = n;rw [zja,s.pl]
theorem zvt {n:Nat} {F:LUv} (s:Sq n F) {c k:Nat} (hc:c < n) (hk:k < n):∀ i j,i < n → j < n → en (F.step c k).lo i j = if c < i ∧ j = c then en (F.turn c k).up i c / en (F.turn c k).up c c else en (F.turn c k).lo i j:=by
 have t:=znV s hc hk
 obtain ⟨_,_,hl⟩:=zfU c n (F.turn c k).lo (F.turn c k).up t.ll t.lr t.ul t.ur hc (n - (c + 1)) (by omega)
 intro i j hi hj
 show en (zaT c _ _ (F.up.length - (c + 1))).1 i j = _
 rw [s.ul,hl i hi j hj]
 by_cases e:c < i ∧ j = c
 ·rw [if_pos e,if_pos (by omega)]
 ·rw [if_neg e,if_neg (by omega)]
theorem zvu {n:Nat} {F:LUv} (s:Sq n F) {c k:Nat} (hc:c < n) (hk:k < n):∀ i j,i < n → j < n → en (F.step c k).up i j = if c < i then en (F.turn c k).up i j + -(en (F.turn c k).up i c / en (F.turn c k).up c c) * en (F.turn c k).up c j else en (F.turn c k).up i j:=by
 have t:=znV s hc hk
 obtain ⟨_,hu,_⟩:=zfU c n (F.turn c k).lo (F.turn c k).up t.ll t.lr t.ul t.ur hc (n - (c + 1)) (by omega)
 intro i j hi hj
 show en (zaT c _ _ (F.up.length - (c + 1))).2 i j = _
 rw [s.ul,hu i hi j hj]
 by_cases e:c < i
 ·rw [if_pos e,if_pos (by omega)]
 ·rw [if_neg e,if_neg (by omega)]
theorem zqB {n:Nat} {F:LUv} (s:Sq n F) {c k:Nat} (hc:c < n) (hk:k < n):Sq n (F.step c k):=by
 have t:=znV s hc hk
 obtain ⟨⟨a1,a2,a3,a4⟩,_,_⟩:=zfU c n (F.turn c k).lo (F.turn c k).up t.ll t.lr t.ul t.ur hc (n - (c + 1)) (by omega)
 refine ⟨?_,?_,?_,?_,t.pl⟩
 ·show (zaT c _ _ (F.up.length - (c + 1))).1.length = n;rw [s.ul];exact a1
 ·show ∀ i,i < n → (List.getD (zaT c _ _ (F.up.length - (c + 1))).1 i []).length = n;rw [s.ul];exact a2
 ·show (zaT c _ _ (F.up.length - (c + 1))).2.length = n;rw [s.ul];exact a3
 ·show ∀ i,i < n → (List.getD (zaT c _ _ (F.up.length - (c + 1))).2 i []).length = n;rw [s.ul];exact a4
theorem LUinv.step {n:Nat} {M:Nat → Nat → Rat} {c k:Nat} {F:LUv} (h:LUinv n M c F) (hc:c < n) (hck:c ≤ k) (hk:k < n) (hp:en F.up k c ≠ 0):LUinv n M (c + 1) (F.step c k):=by
 have s:=h.sq
 have gl:=zvA s (k:=k) hc hk
 have gu:=zlo s (k:=k) hc hk
 have gp:∀ i,(F.turn c k).perm.getD i 0 = F.perm.getD (tw c k i) 0:=fun i => zgp (by rw [s.pl];exact hc) (by rw [s.pl];exact hk) i
 have twl:∀ i,i < c → tw c k i = i:=fun i hi => by unfold tw;rw [if_neg (by omega),if_neg (by omega)]
 have twg:∀ i,c ≤ i → c ≤ tw c k i:=fun i hi => by unfold tw;grind
 have twn:∀ i,i < n → tw c k i < n:=fun i hi => zlp hc hk hi
 have tc:tw c k c = k:=by unfold tw;by_cases e:c = k <;> simp [e]
 have hpp:en (F.turn c k).up c c ≠ 0:=by rw [gu,tc];exact hp
 have lo':=zvt s (k:=k) hc hk
 have up':=zvu s (k:=k) hc hk
 refine ⟨zqB s hc hk,fun i hi => ?_,fun i j hi hj e => ?_,fun i hi j hj => ?_,fun i hi => ?_,fun i t hi ht hit => ?_,fun t i ht hi hti => ?_,fun t ht => ?_⟩
 ·show (F.turn c k).perm.getD i 0 < n;rw [gp];exact h.pr _ (twn i hi)
 ·have e':(F.turn c k).perm.getD i 0 = (F.turn c k).perm.getD j 0:=e
  rw [gp,gp] at e'
  have:=h.pi _ _ (twn i hi) (twn j hj) e'
  rw [← zxO c k i,this,zxO]
 ·show M ((F.turn c k).perm.getD i 0) j = _
  rw [gp,h.sum _ (twn i hi) j hj]
  have e1:zai (c + 1) (fun t => en (F.step c k).lo i t * en (F.step c k).up t j) = zai c (fun t => en F.lo (tw c k i) t * en F.up t j) + en (F.step c k).lo i c * en (F.step c k).up c j:=by
   rw [zai]
   congr 1
   refine zaj fun t ht => ?_
   rw [lo' i t hi (by omega),if_neg (by omega),gl i t hi (by omega),if_neg (by omega),up' t j (by omega) hj,if_neg (by omega),gu,twl t ht]
  rw [e1,lo' i c hi hc,up' c j hc hj,if_neg (Nat.lt_irrefl c),up' i j hi hj]
  rcases Nat.lt_trichotomy i c with hic | hic | hic
  ·rw [twl i hic,if_neg (by omega),if_neg (by omega),if_neg (by omega),gl i c hi hc,if_neg (by omega),twl i hic,h.tri i c hi hc (by omega)];grind
  ·subst hic
   rw [if_pos (twg i (Nat.le_refl _)),if_neg (by omega),if_neg (by omega),gl i i hi hi,if_pos ⟨rfl,rfl⟩,gu];grind
  ·rw [if_pos (twg i (by omega)),if_pos ⟨hic,rfl⟩,if_pos (by omega),if_pos hic, ← gu i j]
   grind
 ·rw [lo' i i (by omega) (by omega),if_neg (by omega),gl i i (by omega) (by omega)]
  by_cases e:i = c
  ·rw [if_pos ⟨e,e⟩]
  ·rw [if_neg (by omega),twl i (by omega)];exact h.one i (by omega)
 ·rw [lo' i t hi ht,if_neg (by omega),gl i t hi ht,if_neg (by omega)]
  refine h.tri _ _ (twn i hi) ht ?_
  by_cases e:c ≤ t
  ·exact .inr e
  ·rw [twl i (by omega)];exact .inl (by omega)
 ·rw [up' i t hi (by omega)]
  by_cases e:t = c
  ·subst e
   rw [if_pos hti]
   grind
  ·have z1:en (F.turn c k).up i t = 0:=by
    rw [gu]
    refine h.zero t _ (by omega) (twn i hi) ?_
    by_cases hic:i < c
    ·rw [twl i hic];exact hti
    ·have:=twg i (by omega);omega
   by_cases hic:c < i
   ·have z2:en (F.turn c k).up c t = 0:=by
     rw [gu,tc];exact h.zero t k (by omega) hk (by omega)
    rw [if_pos hic,z1,z2];grind
   ·rw [if_neg hic];exact z1
 ·rw [up' t t (by omega) (by omega),if_neg (by omega)]
  by_cases e:t = c
  ·subst e;exact hpp
  ·rw [gu,twl t (by omega)];exact h.piv t (by omega)
end Am
namespace Am
def zeg (up:List (List Rat)) (c:Nat):Nat → Nat → Nat
  | 0,k => k
  | f + 1,k => if en up k c = 0 then zeg up c f (k + 1) else k
theorem ziG (up:List (List Rat)) (c:Nat):∀ f k,k ≤ zeg up c f k ∧ zeg up c f k ≤ k + f ∧ (∀ i,k ≤ i → i < zeg up c f k → en up i c = 0) ∧ (zeg up c f k < k + f → en up (zeg up c f k) c ≠ 0)
 | 0,k => ⟨Nat.le_refl _,Nat.le_refl _,fun i h1 h2 => absurd h2 (by simp only [zeg];omega),fun h => absurd h (by simp only [zeg];omega)⟩
 | f + 1,k => by
  unfold zeg
  split
  ·rename_i h
   obtain ⟨a,b,c',d⟩:=ziG up c f (k + 1)
   refine ⟨by omega,by omega,fun i h1 h2 => ?_,fun h1 => d (by omega)⟩
   by_cases e:i = k
   ·rw [e];exact h
   ·exact c' i (by omega) h2
  ·rename_i h
   exact ⟨Nat.le_refl _,by omega,fun i h1 h2 => absurd h2 (by omega),fun _ => h⟩
def zsD (n:Nat):Nat → Nat → LUv → Option LUv
  | 0,_,F => some F
  | f + 1,c,F => if zeg F.up c (n - c) c = n then none else zsD n f (c + 1) (F.step c (zeg F.up c (n - c) c))
def zg4 (n:Nat) (L:List (List Rat)):LUv:=⟨List.replicate n (List.replicate n 0),L,List.range n,false⟩
def zoN (n:Nat) (L:List (List Rat)):Option LUv:=zsD n n 0 (zg4 n L)
def zji (U:Nat → Nat → Rat) (n:Nat) (v:Nat → Rat):Nat → Nat → Rat
  | 0,_ => 0
  | f + 1,j => if j = n - (f + 1) then (v (n - (f + 1)) - zai n (fun t => if n - (f + 1) < t then U (n - (f + 1)) t * zji U n v f t else 0)) / U (n - (f + 1)) (n - (f + 1)) else zji U n v f j
theorem ziL (U:Nat → Nat → Rat) (n:Nat) (v:Nat → Rat) (f j:Nat):zji U n v (f + 1) j = if j = n - (f + 1) then (v (n - (f + 1)) - zai n (fun t => if n - (f + 1) < t then U (n - (f + 1)) t * zji U n v f t else 0)) / U (n - (f + 1)) (n - (f + 1)) else zji U n v f j:=rfl
theorem zjb (U:Nat → Nat → Rat) (n:Nat) (v:Nat → Rat) (hp:∀ t,t < n → U t t ≠ 0) (hz:∀ t i,t < n → i < n → t < i → U i t = 0) :
  ∀ f,f ≤ n → ∀ i,n - f ≤ i → i < n → zai n (fun t => U i t * zji U n v f t) = v i
 | 0,_ => fun i h1 h2 => absurd h1 (by omega)
 | f + 1,hf => fun i h1 h2 => by
  have hk:n - (f + 1) < n:=by omega
  by_cases e:i = n - (f + 1)
  ·rw [zdJ (k:=i) h2]
   have e1:zai n (fun t => if t = i then 0 else U i t * zji U n v (f + 1) t) = zai n (fun t => if i < t then U i t * zji U n v f t else 0):=zaj fun t ht => by
    by_cases e2:t = i
    ·rw [if_pos e2,if_neg (by omega)]
    ·rw [if_neg e2]
     by_cases e3:i < t
     ·rw [if_pos e3,ziL,if_neg (by omega)]
     ·rw [if_neg e3,hz t i ht h2 (by omega)];grind
   rw [e1]
   have e2:zji U n v (f + 1) i = (v i - zai n (fun t => if i < t then U i t * zji U n v f t else 0)) / U i i:=by
    rw [ziL,if_pos e, ← e]
   rw [e2]
   have:=hp i h2
   grind
  ·have ih:=zjb U n v hp hz f (by omega) i (by omega) h2
   rw [← ih]
   refine zaj fun t ht => ?_
   rw [ziL]
   by_cases e2:t = n - (f + 1)
   ·rw [if_pos e2,hz t i ht h2 (by omega)];grind
   ·rw [if_neg e2]
theorem zi9 {n:Nat} {M:Nat → Nat → Rat} {c:Nat} {F:LUv} (h:LUinv n M c F) {i:Nat} (hi:i < n) (x:Nat → Rat) :
  zai n (fun j => M (F.perm.getD i 0) j * x j) = zai c (fun t => en F.lo i t * zai n (fun j => en F.up t j * x j)) + (if c ≤ i then zai n (fun j => en F.up i j * x j) else 0):=by
 have e1:zai n (fun j => M (F.perm.getD i 0) j * x j) = zai n (fun j => zai c (fun t => en F.lo i t * (en F.up t j * x j)) + (if c ≤ i then en F.up i j * x j else 0)):=zaj fun j hj => by
  rw [h.sum i hi j hj]
  have : zai c (fun t => en F.lo i t * (en F.up t j * x j)) = zai c (fun t => en F.lo i t * en F.up t j) * x j:=by
   rw [← zb6];exact zaj fun t _ => by grind
  rw [this]
  split <;> grind
 rw [e1,zcm,zbq]
 congr 1
 ·exact zaj fun t _ => za7 _ _ _
 ·split
  ·rfl
  ·exact zgd n
theorem zh0 {n:Nat} {M:Nat → Nat → Rat} {c:Nat} {F:LUv} (h:LUinv n M c F):∀ k,k < n → ∃ i,i < n ∧ F.perm.getD i 0 = k:=by
 have key:∀ (m:Nat) (p:Nat → Nat),(∀ i,i < m → p i < m) → (∀ i j,i < m → j < m → p i = p j → i = j) → ∀ k,k < m → ∃ i,i < m ∧ p i = k:=by
  intro m
  induction m with
  | zero => intro p _ _ k hk;omega
  | succ m ih =>
   intro p h1 h2 k hk
   by_cases hkm:p m = k
   ·exact ⟨m,by omega,hkm⟩
   ·-- the place m is given away: what is sent to m goes where m goes
    have q1:∀ i,i < m → (if p i = m then p m else p i) < m:=by
     intro i hi
     have a:=h1 i (by omega)
     have b:=h1 m (by omega)
     split
     ·rename_i e
      have : p m ≠ m:=fun e2 => by have:=h2 i m (by omega) (by omega) (by omega);omega
      omega
     ·omega
    have q2:∀ i j,i < m → j < m → (if p i = m then p m else p i) = (if p j = m then p m else p j) → i = j:=by
     intro i j hi hj e
     by_cases e1:p i = m
     ·by_cases e2:p j = m
      ·exact h2 i j (by omega) (by omega) (by omega)
      ·rw [if_pos e1,if_neg e2] at e
       have:=h2 m j (by omega) (by omega) e;omega
     ·by_cases e2:p j = m
      ·rw [if_neg e1,if_pos e2] at e
       have:=h2 i m (by omega) (by omega) e;omega
      ·rw [if_neg e1,if_neg e2] at e
       exact h2 i j (by omega) (by omega) e
    by_cases hk2:k = m
    ·subst hk2
     -- somebody is sent to m
     obtain ⟨i,hi,e⟩:=ih (fun i => if p i = k then p k else p i) q1 q2 (p k) (by have:=h1 k (by omega);omega)
     refine ⟨i,by omega,?_⟩
     by_cases e1:p i = k
     ·exact e1
     ·simp only [if_neg e1] at e
      have:=h2 i k (by omega) (by omega) e;omega
    ·obtain ⟨i,hi,e⟩:=ih (fun i => if p i = m then p m else p i) q1 q2 k (by omega)
     by_cases e1:p i = m
     ·simp only [if_pos e1] at e;exact absurd e hkm
     ·simp only [if_neg e1] at e;exact ⟨i,by omega,e⟩
 exact key n (fun i => F.perm.getD i 0) h.pr h.pi
theorem LUinv.stuck {n:Nat} {M:Nat → Nat → Rat} {c:Nat} {F:LUv} (h:LUinv n M c F) (hc:c < n) (hz:∀ i,c ≤ i → i < n → en F.up i c = 0):¬ Reg n M:=by
 intro hr
 -- x c = 1,nothing behind,and back from the triangle ahead of it
 let x:Nat → Rat:=fun j => if j < c then zji (en F.up) c (fun i => - en F.up i c) c j else if j = c then 1 else 0
 have hx:∀ i,i < n → zai n (fun j => en F.up i j * x j) = zai c (fun j => en F.up i j * zji (en F.up) c (fun i => - en F.up i c) c j) + en F.up i c:=by
  intro i hi
  rw [zh6 (m:=c + 1) (by omega) fun j h1 h2 => by show en F.up i j * (if j < c then _ else if j = c then 1 else 0) = 0;rw [if_neg (by omega),if_neg (by omega)];grind]
  rw [zai]
  congr 1
  ·exact zaj fun j hj => by show en F.up i j * (if j < c then _ else if j = c then 1 else 0) = _;rw [if_pos hj]
  ·show en F.up i c * (if c < c then _ else if c = c then 1 else 0) = _;rw [if_neg (by omega),if_pos rfl];grind
 have up0:∀ i,i < c → zai n (fun j => en F.up i j * x j) = 0:=by
  intro i hi
  rw [hx i (by omega),zjb (en F.up) c _ (fun t ht => h.piv t ht) (fun t i ht hi2 hti => h.zero t i ht (by omega) hti) c (Nat.le_refl _) i (by omega) hi]
  grind
 have lo0:∀ i,c ≤ i → i < n → zai n (fun j => en F.up i j * x j) = 0:=by
  intro i hi hin
  rw [hx i hin,hz i hi hin,zcn fun j hj => by rw [h.zero j i hj hin (by omega)];grind]
  grind
 have hall:∀ k,k < n → zai n (fun j => M k j * x j) = 0:=by
  intro k hk
  obtain ⟨i,hi,rfl⟩:=zh0 h k hk
  rw [zi9 h hi,zcn fun t ht => by rw [up0 t ht];grind]
  split
  ·rw [lo0 i (by assumption) hi];grind
  ·grind
 have:=hr x hall c hc
 simp [x] at this
theorem zoM {n:Nat} {M:Nat → Nat → Rat}:∀ f c F,c + f = n → LUinv n M c F → (∃ G,zsD n f c F = some G ∧ LUinv n M n G) ∨ (zsD n f c F = none ∧ ¬ Reg n M)
 | 0,c,F,e,h => .inl ⟨F,rfl,by obtain rfl:c = n:=(by omega);exact h⟩
 | f + 1,c,F,e,h => by
  obtain ⟨a,b,hz,hp⟩:=ziG F.up c (n - c) c
  unfold zsD
  split
  ·rename_i h1
   exact .inr ⟨rfl,h.stuck (by omega) fun i h2 h3 => hz i h2 (by omega)⟩
  ·rename_i h1
   exact zoM f (c + 1) _ (by omega) (h.step (by omega) a (by omega) (hp (by omega)))
theorem zoO {n:Nat} {L:List (List Rat)} (h:L.length = n) (hr:∀ i,i < n → (L.getD i []).length = n):(∃ G,zoN n L = some G ∧ LUinv n (en L) n G) ∨ (zoN n L = none ∧ ¬ Reg n (en L)) :=
 zoM n 0 _ (by omega) (LUinv.start h hr)
def fwd (F:LUv) (b:List Rat):Nat → List Rat
  | 0 => []
  | k + 1 => fwd F b k ++ [el b (F.perm.getD k 0) - zai k (fun c => en F.lo k c * el (fwd F b k) c)]
theorem zcx (F:LUv) (b:List Rat):∀ k,(fwd F b k).length = k
 | 0 => rfl
 | k + 1 => by simp [fwd,zcx F b k]
theorem zkF {xs ys:List Rat} {i:Nat} (h:i < xs.length):el (xs ++ ys) i = el xs i:=by
 unfold el;rw [List.getD_eq_getElem?_getD,List.getD_eq_getElem?_getD,List.getElem?_append_left h]
theorem zoz {xs:List Rat} {a:Rat}:el (xs ++ [a]) xs.length = a:=by
 unfold el;rw [List.getD_eq_getElem?_getD,List.getElem?_append_right (Nat.le_refl _)];simp
theorem zoG (F:LUv) (b:List Rat) {i:Nat}:∀ {k:Nat},i < k → el (fwd F b k) i = el b (F.perm.getD i 0) - zai i (fun c => en F.lo i c * el (fwd F b i) c)
 | 0,h => absurd h (Nat.not_lt_zero _)
 | k + 1,h => by
  by_cases e:i = k
  ·subst e
   conv => lhs;unfold fwd
   have:=zoz (xs:=fwd F b i) (a:=el b (F.perm.getD i 0) - zai i (fun c => en F.lo i c * el (fwd F b i) c))
   rw [zcx] at this;exact this
  ·conv => lhs;unfold fwd
   rw [zkF (by rw [zcx];omega)];exact zoG F b (by omega)
theorem zrx (F:LUv) (b:List Rat) {i j:Nat}:∀ {k:Nat},i < j → j ≤ k → el (fwd F b k) i = el (fwd F b j) i:=by
 intro k h1 h2;rw [zoG F b (by omega),zoG F b h1]
def bwd (F:LUv) (n:Nat) (z:List Rat):Nat → List Rat
  | 0 => []
  | f + 1 => (el z (n - (f + 1)) - zai f (fun c => en F.up (n - (f + 1)) (n - f + c) * el (bwd F n z f) c)) / en F.up (n - (f + 1)) (n - (f + 1)) :: bwd F n z f
theorem zpC (F:LUv) (n:Nat) (z:List Rat):∀ f,(bwd F n z f).length = f
 | 0 => rfl
 | f + 1 => by simp [bwd,zpC F n z f]
theorem zlL (F:LUv) (n:Nat) (z:List Rat):∀ {f j:Nat},j < f → ∀ i,el (bwd F n z f) (j + i) = el (bwd F n z (f - j)) i
 | 0,_,h,_ => absurd h (Nat.not_lt_zero _)
 | f + 1,0,_,i => by rw [Nat.zero_add];rfl
 | f + 1,j + 1,h,i => by
  rw [show j + 1 + i = (j + i) + 1 by omega,show f + 1 - (j + 1) = f - j by omega]
  exact zlL F n z (by omega) i
def zaR (n:Nat) (F:LUv) (b:List Rat):List Rat:=bwd F n (fwd F b n) n
theorem zgc (g:Nat → Rat) (a:Nat):∀ b,zai (a + b) g = zai a g + zai b (fun c => g (a + c))
 | 0 => by simp only [zai,Nat.add_zero];grind
 | b + 1 => by rw [show a + (b + 1) = (a + b) + 1 by omega,zai,zai,zgc g a b];grind
theorem zlb (n:Nat) (F:LUv) (b:List Rat):(zaR n F b).length = n:=zpC _ _ _ _
theorem zl5 (n:Nat) (F:LUv) (b:List Rat) {i:Nat} (h:i < n) :
  el (zaR n F b) i = (el (fwd F b n) i - zai (n - (i + 1)) (fun c => en F.up i (i + 1 + c) * el (zaR n F b) (i + 1 + c))) / en F.up i i:=by
 have e0:=zlL F n (fwd F b n) (f:=n) (j:=i) h 0
 unfold zaR
 rw [Nat.add_zero] at e0
 rw [e0,show n - i = (n - (i + 1)) + 1 by omega]
 show (el (fwd F b n) (n - (n - (i + 1) + 1)) - _) / _ = _
 rw [show n - (n - (i + 1) + 1) = i by omega]
 congr 2
 refine zaj fun c hc => ?_
 rw [show n - (n - (i + 1)) = i + 1 by omega]
 congr 1
 exact (zlL F n (fwd F b n) (f:=n) (j:=i + 1) (by omega) c).symm
theorem zsm {n:Nat} {M:Nat → Nat → Rat} {F:LUv} (h:LUinv n M n F) (b:List Rat) {i:Nat} (hi:i < n):zai n (fun t => en F.up i t * el (zaR n F b) t) = el (fwd F b n) i:=by
 have e:=zl5 n F b hi
 have hp:=h.piv i hi
 have e1:=zgc (fun t => en F.up i t * el (zaR n F b) t) (i + 1) (n - (i + 1))
 rw [show i + 1 + (n - (i + 1)) = n by omega,zai,zcn (n:=i) (fun t ht => by rw [h.zero t i (by omega) hi ht];grind)] at e1
 rw [e1]
 generalize zai (n - (i + 1)) (fun c => en F.up i (i + 1 + c) * el (zaR n F b) (i + 1 + c)) = s at *
 grind
theorem zsl {n:Nat} {M:Nat → Nat → Rat} {F:LUv} (h:LUinv n M n F) (b:List Rat) {k:Nat} (hk:k < n):zai n (fun j => M k j * el (zaR n F b) j) = el b k:=by
 obtain ⟨i,hi,rfl⟩:=zh0 h k hk
 rw [zi9 h hi,if_neg (by omega)]
 have e1:zai n (fun t => en F.lo i t * zai n (fun j => en F.up t j * el (zaR n F b) j)) = zai n (fun t => en F.lo i t * el (fwd F b n) t):=zaj fun t ht => by rw [zsm h b ht]
 have e2:=zh6 (f:=fun t => en F.lo i t * el (fwd F b n) t) (m:=i + 1) (n:=n) (by omega) fun t h1 h2 => by rw [h.tri i t hi h2 (by omega)];grind
 rw [e1,e2,zai,h.one i hi,zoG F b hi]
 have e3:zai i (fun t => en F.lo i t * el (fwd F b n) t) = zai i (fun t => en F.lo i t * el (fwd F b i) t):=zaj fun t ht => by rw [zrx F b ht (by omega)]
 rw [e3]
 generalize zai i (fun t => en F.lo i t * el (fwd F b i) t) = s
 grind
theorem zsx {n:Nat} {p:Nat → Nat} (g:Nat → Rat) (h1:∀ i,i < n → p i < n) (h2:∀ i j,i < n → j < n → p i = p j → i = j) (h3:∀ k,k < n → ∃ i,i < n ∧ p i = k):zai n (fun k => g (p k)) = zai n g:=by
 have e1:zai n (fun k => g (p k)) = zai n (fun k => zai n (fun i => if i = p k then g i else 0)):=zaj fun k hk => by
  rw [zbI (k:=p k) (h1 k hk) fun i _ hi => if_neg hi,if_pos rfl]
 rw [e1,zbq]
 refine zaj fun i hi => ?_
 obtain ⟨k,hk,e⟩:=h3 i hi
 rw [zbI (k:=k) hk fun j hj hne => if_neg fun e2 => hne (h2 j k hj hk (by omega)),if_pos e.symm]
def zbX (F:LUv) (c:List Rat):Nat → List Rat
  | 0 => []
  | k + 1 => zbX F c k ++ [(el c k - zai k (fun r => en F.up r k * el (zbX F c k) r)) / en F.up k k]
theorem zbT (F:LUv) (c:List Rat):∀ k,(zbX F c k).length = k
 | 0 => rfl
 | k + 1 => by simp [zbX,zbT F c k]
theorem zk1 (F:LUv) (b:List Rat) {i:Nat}:∀ {k:Nat},i < k → el (zbX F b k) i = (el b i - zai i (fun c => en F.up c i * el (zbX F b i) c)) / en F.up i i
 | 0,h => absurd h (Nat.not_lt_zero _)
 | k + 1,h => by
  by_cases e:i = k
  ·subst e
   conv => lhs;unfold zbX
   have:=zoz (xs:=zbX F b i) (a:=(el b i - zai i (fun c => en F.up c i * el (zbX F b i) c)) / en F.up i i)
   rw [zbT] at this;exact this
  ·conv => lhs;unfold zbX
   rw [zkF (by rw [zbT];omega)];exact zk1 F b (by omega)
theorem znE (F:LUv) (b:List Rat) {i j:Nat}:∀ {k:Nat},i < j → j ≤ k → el (zbX F b k) i = el (zbX F b j) i:=by
 intro k h1 h2;rw [zk1 F b (by omega),zk1 F b h1]
def zlK (F:LUv) (n:Nat) (z:List Rat):Nat → List Rat
  | 0 => []
  | f + 1 => (el z (n - (f + 1)) - zai f (fun c => en F.lo (n - f + c) (n - (f + 1)) * el (zlK F n z f) c)) :: zlK F n z f
theorem zmU (F:LUv) (n:Nat) (z:List Rat):∀ f,(zlK F n z f).length = f
 | 0 => rfl
 | f + 1 => by simp [zlK,zmU F n z f]
theorem zka (F:LUv) (n:Nat) (z:List Rat):∀ {f j:Nat},j < f → ∀ i,el (zlK F n z f) (j + i) = el (zlK F n z (f - j)) i
 | 0,_,h,_ => absurd h (Nat.not_lt_zero _)
 | f + 1,0,_,i => by rw [Nat.zero_add];rfl
 | f + 1,j + 1,h,i => by
  rw [show j + 1 + i = (j + i) + 1 by omega,show f + 1 - (j + 1) = f - j by omega]
  exact zka F n z (by omega) i
def luW (n:Nat) (F:LUv) (c:List Rat):List Rat:=zlK F n (zbX F c n) n
theorem zAY (n:Nat) (F:LUv) (b:List Rat):(luW n F b).length = n:=zmU _ _ _ _
theorem zyu (n:Nat) (F:LUv) (b:List Rat) {i:Nat} (h:i < n) :
  el (luW n F b) i = el (zbX F b n) i - zai (n - (i + 1)) (fun c => en F.lo (i + 1 + c) i * el (luW n F b) (i + 1 + c)):=by
 have e0:=zka F n (zbX F b n) (f:=n) (j:=i) h 0
 unfold luW
 rw [Nat.add_zero] at e0
 rw [e0,show n - i = (n - (i + 1)) + 1 by omega]
 show (el (zbX F b n) (n - (n - (i + 1) + 1)) - _) = _
 rw [show n - (n - (i + 1) + 1) = i by omega]
 congr 1
 refine zaj fun c hc => ?_
 rw [show n - (n - (i + 1)) = i + 1 by omega]
 congr 1
 exact (zka F n (zbX F b n) (f:=n) (j:=i + 1) (by omega) c).symm
def back (p:List Nat) (w:List Rat):Nat → List Rat → List Rat
  | 0,y => y
  | k + 1,y => (back p w k y).set (p.getD k 0) (el w k)
theorem zjk (p:List Nat) (w:List Rat) (y:List Rat):∀ k,(back p w k y).length = y.length
 | 0 => rfl
 | k + 1 => by simp [back,zjk p w y k]
theorem zpA {n:Nat} {p:List Nat} (w y:List Rat) (hy:y.length = n) (h1:∀ i,i < n → p.getD i 0 < n) (h2:∀ i j,i < n → j < n → p.getD i 0 = p.getD j 0 → i = j):∀ k,k ≤ n → ∀ i,i < k → el (back p w k y) (p.getD i 0) = el w i
 | 0,_,i,hi => absurd hi (Nat.not_lt_zero _)
 | k + 1,hk,i,hi => by
  show el (List.set _ _ _) _ = _
  rw [ziZ (by rw [zjk,hy];exact h1 k (by omega))]
  by_cases e:p.getD k 0 = p.getD i 0
  ·rw [if_pos e,h2 k i (by omega) (by omega) e]
  ·rw [if_neg e]
   exact zpA w y hy h1 h2 k (by omega) i (by have : i ≠ k:=fun e2 => e (by rw [e2]);omega)
def zcq (n:Nat) (F:LUv) (c:List Rat):List Rat:=back F.perm (luW n F c) n (List.replicate n 0)
theorem zoP (n:Nat) (F:LUv) (c:List Rat):(zcq n F c).length = n:=by unfold zcq;rw [zjk];simp
theorem zla {n:Nat} {M:Nat → Nat → Rat} {F:LUv} (h:LUinv n M n F) (c:List Rat) {j:Nat} (hj:j < n):zai n (fun i => el (zcq n F c) i * M i j) = el c j:=by
 rw [← zsx (p:=fun i => F.perm.getD i 0) _ h.pr h.pi (zh0 h)]
 have e1:zai n (fun k => el (zcq n F c) (F.perm.getD k 0) * M (F.perm.getD k 0) j) = zai n (fun k => zai n (fun t => el (luW n F c) k * (en F.lo k t * en F.up t j))):=zaj fun k hk => by
  unfold zcq
  rw [zpA _ _ (by simp) h.pr h.pi n (Nat.le_refl _) k hk,h.sum k hk j hj,if_neg (by omega),za7];grind
 rw [e1,zbq]
 have e2:∀ t,t < n → zai n (fun k => el (luW n F c) k * (en F.lo k t * en F.up t j)) = el (zbX F c n) t * en F.up t j:=by
  intro t ht
  have e3:zai n (fun k => el (luW n F c) k * (en F.lo k t * en F.up t j)) = zai n (fun k => en F.lo k t * el (luW n F c) k) * en F.up t j:=by
   rw [← zb6];exact zaj fun k _ => by grind
  have e4:=zgc (fun k => en F.lo k t * el (luW n F c) k) (t + 1) (n - (t + 1))
  rw [show t + 1 + (n - (t + 1)) = n by omega,zai,h.one t ht,zcn (n:=t) (fun k hk => by rw [h.tri k t (by omega) ht (by omega)];grind)] at e4
  rw [e3,e4,zyu n F c ht]
  generalize zai (n - (t + 1)) (fun x => en F.lo (t + 1 + x) t * el (luW n F c) (t + 1 + x)) = s
  grind
 rw [zaj e2]
 have e5:=zh6 (f:=fun t => el (zbX F c n) t * en F.up t j) (m:=j + 1) (n:=n) (by omega) fun t h1 h2 => by rw [h.zero j t hj h2 (by omega)];grind
 rw [e5,zai,zk1 F c hj]
 have e6:zai j (fun t => el (zbX F c n) t * en F.up t j) = zai j (fun t => en F.up t j * el (zbX F c j) t):=zaj fun t ht => by rw [znE F c ht (by omega)];grind
 have hp:=h.piv j hj
 rw [e6]
 generalize zai j (fun t => en F.up t j * el (zbX F c j) t) = s
 grind
theorem LUinv.reg {n:Nat} {M:Nat → Nat → Rat} {F:LUv} (h:LUinv n M n F):Reg n M:=by
 intro x hx j hj
 -- by what makes the unit row j
 have key:∀ c:List Rat,zai n (fun j => el c j * x j) = 0:=by
  intro c
  have e1:zai n (fun j => el c j * x j) = zai n (fun j => zai n (fun i => el (zcq n F c) i * (M i j * x j))):=zaj fun j hj => by
   rw [← zla h c hj, ← zb6];exact zaj fun i _ => by grind
  rw [e1,zbq]
  exact zcn fun i hi => by rw [za7,hx i hi];grind
 have:=key ((List.replicate n 0).set j 1)
 rw [zbI (k:=j) hj fun i hi hne => by rw [ziZ (by simpa using hj),if_neg (Ne.symm hne),zrm];grind,ziZ (by simpa using hj),if_pos rfl] at this
 grind
end Am
namespace Am
structure SzLaw (m:Rat → Nat):Prop where
  add:∀ a b,m (a + b) ≤ m a + m b + 1
  mul:∀ a b,m (a * b) ≤ m a + m b
  neg:∀ a,m (-a) = m a
  inv:∀ a,m a⁻¹ ≤ m a
  zero:m 0 ≤ 1
  one:m 1 ≤ 1
namespace SzLaw
variable {m:Rat → Nat} (h:SzLaw m)
include h
theorem div (a b:Rat):m (a / b) ≤ m a + m b:=by
 rw [Rat.div_def];have:=h.mul a b⁻¹;have:=h.inv b;omega
theorem sub (a b:Rat):m (a - b) ≤ m a + m b + 1:=by
 rw [Rat.sub_eq_add_neg];have:=h.add a (-b);rw [h.neg] at this;exact this
theorem subSum (a:Rat) (f:Nat → Rat) (s:Nat):∀ k,(∀ i,i < k → m (f i) ≤ s) → m (a - zai k f) ≤ m a + k * (s + 1)
 | 0,_ => by rw [zai,show a - 0 = a by grind];omega
 | k + 1,hs => by
  have e:a - zai (k + 1) f = (a - zai k f) - f k:=by rw [zai];grind
  rw [e,Nat.add_mul]
  have:=h.sub (a - zai k f) (f k);have:=subSum a f s k (fun i hi => hs i (by omega));have:=hs k (by omega)
  omega
end SzLaw
structure LUsz (m:Rat → Nat) (n u:Nat) (F:LUv):Prop where
  lo:∀ i,i < n → ∀ j,j < n → m (en F.lo i j) ≤ u
  up:∀ i,i < n → ∀ j,j < n → m (en F.up i j) ≤ u
theorem LUsz.step {m:Rat → Nat} (h:SzLaw m) {n u:Nat} {F:LUv} (s:Sq n F) (z:LUsz m n u F) (hu:1 ≤ u) {c k:Nat} (hc:c < n) (hk:k < n):LUsz m n (4 * u + 1) (F.step c k):=by
 have tu:∀ i,i < n → ∀ j,j < n → m (en (F.turn c k).up i j) ≤ u:=fun i hi j hj => by rw [zlo s hc hk];exact z.up _ (zlp hc hk hi) j hj
 have tq:∀ i,i < n → m (en (F.turn c k).up i c / en (F.turn c k).up c c) ≤ 2 * u:=fun i hi => by have:=h.div (en (F.turn c k).up i c) (en (F.turn c k).up c c);have:=tu i hi c hc;have:=tu c hc c hc;omega
 refine ⟨fun i hi j hj => ?_,fun i hi j hj => ?_⟩
 ·rw [zvt s hc hk i j hi hj]
  split
  ·have:=tq i hi;omega
  ·rw [zvA s hc hk i j hi hj]
   split
   ·have:=h.one;omega
   ·have:=z.lo _ (zlp hc hk hi) j hj;omega
 ·rw [zvu s hc hk i j hi hj]
  split
  ·have h1:=h.add (en (F.turn c k).up i j) (-(en (F.turn c k).up i c / en (F.turn c k).up c c) * en (F.turn c k).up c j)
   have h2:=h.mul (-(en (F.turn c k).up i c / en (F.turn c k).up c c)) (en (F.turn c k).up c j)
   rw [h.neg] at h2
   have:=tq i hi;have:=tu i hi j hj;have:=tu c hc j hj
   omega
  ·have:=tu i hi j hj;omega
theorem zoL {m:Rat → Nat} (h:SzLaw m) {n:Nat}:∀ f c u F G,c + f = n → Sq n F → 1 ≤ u → LUsz m n u F → zsD n f c F = some G → LUsz m n (4 ^ f * (u + 1)) G
 | 0,c,u,F,G,_,s,hu,z,e => by
  injection e with e;subst e
  exact ⟨fun i hi j hj => by have:=z.lo i hi j hj;omega,fun i hi j hj => by have:=z.up i hi j hj;omega⟩
 | f + 1,c,u,F,G,hf,s,hu,z,e => by
  unfold zsD at e
  split at e
  ·cases e
  ·rename_i h1
   obtain ⟨a,b,_,_⟩:=ziG F.up c (n - c) c
   have hk:zeg F.up c (n - c) c < n:=by omega
   have:=zoL h f (c + 1) (4 * u + 1) _ G (by omega) (zqB s (by omega) hk) (by omega) (z.step h s hu (by omega) hk) e
   have e2:4 ^ (f + 1) * (u + 1) = 4 ^ f * (4 * u + 1 + 1) + 4 ^ f * 2:=by rw [Nat.pow_succ];generalize 4 ^ f = p;rw [Nat.mul_assoc, ← Nat.mul_add];congr 1
   exact ⟨fun i hi j hj => by have:=this.lo i hi j hj;omega,fun i hi j hj => by have:=this.up i hi j hj;omega⟩
def uB (n s:Nat):Nat:=4 ^ n * (s + 2)
theorem zl6 {n:Nat} {L:List (List Rat)} (h:L.length = n) (hr:∀ i,i < n → (L.getD i []).length = n):Sq n (zg4 n L):=(LUinv.start h hr).sq
theorem zi6 {m:Rat → Nat} (h:SzLaw m) {n s:Nat} {L:List (List Rat)} (hs:∀ i,i < n → ∀ j,j < n → m (en L i j) ≤ s):LUsz m n (s + 1) (zg4 n L) :=
 ⟨fun i _ j _ => by show m (en (List.replicate n (List.replicate n 0)) i j) ≤ _;rw [zyp];have:=h.zero;omega,fun i hi j hj => by have:=hs i hi j hj;show m (en L i j) ≤ _;omega⟩
theorem zk9 {m:Rat → Nat} (h:SzLaw m) {n s:Nat} {L:List (List Rat)} {G:LUv} (hl:L.length = n) (hr:∀ i,i < n → (L.getD i []).length = n) (hs:∀ i,i < n → ∀ j,j < n → m (en L i j) ≤ s) (e:zoN n L = some G):LUsz m n (uB n s) G :=
 zoL h n 0 (s + 1) _ G (by omega) (zl6 hl hr) (by omega) (zi6 h hs) e
theorem zys {n:Nat} (t:Nat → Nat) (P:Nat → Nat → Nat) (s v e:Nat) (h0:∀ i,i < n → P i 0 ≤ s) (h1:∀ i,i < n → ∀ k,k < i → P i (k + 1) ≤ P i k + v + t k) (h2:∀ i,i < n → t i ≤ P i i + e) :
  ∀ i,i < n → t i + v ≤ 2 ^ i * (s + e + v) ∧ ∀ k,k ≤ i → P i k + (s + e + v) ≤ s + 2 ^ k * (s + e + v):=by
 intro i
 induction i using Nat.strongRecOn with
 | _ i ih =>
  intro hi
  have key:∀ k,k ≤ i → P i k + (s + e + v) ≤ s + 2 ^ k * (s + e + v):=by
   intro k
   induction k with
   | zero => intro _;have:=h0 i hi;rw [Nat.pow_zero];omega
   | succ k ihk =>
    intro hk
    have a:=h1 i hi k (by omega)
    have b:=(ih k (by omega) (by omega)).1
    have c:=ihk (by omega)
    rw [Nat.pow_succ,Nat.mul_right_comm]
    generalize 2 ^ k * (s + e + v) = q at *
    omega
  have:=key i (Nat.le_refl _);have:=h2 i hi
  exact ⟨by generalize 2 ^ i * (s + e + v) = q at *;omega,key⟩
theorem zyr {n:Nat} (t:Nat → Nat) (P:Nat → Nat → Nat) (s v e:Nat) (h0:∀ i,i < n → P i 0 ≤ s) (h1:∀ i,i < n → ∀ k,k < n - (i + 1) → P i (k + 1) ≤ P i k + v + t (i + 1 + k)) (h2:∀ i,i < n → t i ≤ P i (n - (i + 1)) + e) :
  ∀ d i,i < n → n - (i + 1) = d → t i + v ≤ 2 ^ d * (s + e + v) ∧ ∀ k,k ≤ d → P i k + 2 ^ (d - k) * (s + e + v) ≤ s + 2 ^ d * (s + e + v):=by
 intro d
 induction d using Nat.strongRecOn with
 | _ d ih =>
  intro i hi hd
  have key:∀ k,k ≤ d → P i k + 2 ^ (d - k) * (s + e + v) ≤ s + 2 ^ d * (s + e + v):=by
   intro k
   induction k with
   | zero => intro _;have:=h0 i hi;rw [Nat.sub_zero];omega
   | succ k ihk =>
    intro hk
    have a:=h1 i hi k (by omega)
    have b:=(ih (d - (k + 1)) (by omega) (i + 1 + k) (by omega) (by omega)).1
    have c:=ihk (by omega)
    rw [show d - k = (d - (k + 1)) + 1 by omega,Nat.pow_succ,Nat.mul_right_comm] at c
    generalize 2 ^ (d - (k + 1)) * (s + e + v) = q at *
    generalize 2 ^ d * (s + e + v) = r at *
    omega
  have a:=key d (Nat.le_refl _);have b:=h2 i hi
  rw [Nat.sub_self,Nat.pow_zero,Nat.one_mul] at a
  rw [hd] at b
  exact ⟨by generalize 2 ^ d * (s + e + v) = q at *;omega,key⟩
theorem pow_le {a b:Nat} (h:a ≤ b):2 ^ a ≤ 2 ^ b:=Nat.pow_le_pow_right (by omega) h
def xB (n u s:Nat):Nat:=4 ^ n * (s + 4 * u + 4)
theorem four (n:Nat):(4:Nat) ^ n = 2 ^ n * 2 ^ n:=by rw [show (4:Nat) = 2 * 2 from rfl,Nat.mul_pow]
section
variable {m:Rat → Nat} (h:SzLaw m) {n u s:Nat} {F:LUv} {b:List Rat} (z:LUsz m n u F)
include h z
theorem zry (hp:∀ i,i < n → F.perm.getD i 0 < n) (hb:∀ i,i < n → m (el b i) ≤ s) :
  ∀ i,i < n → m (el (fwd F b n) i) + (u + 1) ≤ 2 ^ i * (s + 0 + (u + 1)) ∧ ∀ k,k ≤ i → m (el b (F.perm.getD i 0) - zai k (fun c => en F.lo i c * el (fwd F b n) c)) + (s + 0 + (u + 1)) ≤ s + 2 ^ k * (s + 0 + (u + 1)):=by
 refine zys (fun i => m (el (fwd F b n) i)) (fun i k => m (el b (F.perm.getD i 0) - zai k (fun c => en F.lo i c * el (fwd F b n) c))) s (u + 1) 0 (fun i hi => ?_) (fun i hi k hk => ?_) (fun i hi => ?_)
 ·show m (_ - zai 0 _) ≤ s
  rw [zai,show ∀ a:Rat,a - 0 = a by intro a;grind];exact hb _ (hp i hi)
 ·show m (_ - zai (k + 1) _) ≤ m (_ - zai k _) + (u + 1) + m _
  rw [zai,show ∀ a x y:Rat,a - (x + y) = (a - x) - y by intro a x y;grind]
  have h1:=h.sub (el b (F.perm.getD i 0) - zai k (fun c => en F.lo i c * el (fwd F b n) c)) (en F.lo i k * el (fwd F b n) k)
  have h2:=h.mul (en F.lo i k) (el (fwd F b n) k)
  have h3:=z.lo i hi k (by omega)
  omega
 ·show m (el (fwd F b n) i) ≤ m (_ - zai i _) + 0
  rw [zoG F b hi,zaj fun c hc => by rw [← zrx F b (j:=i) (i:=c) (k:=n) hc (by omega)]]
  exact Nat.le_refl _
theorem zwr {y:Nat} (hy:∀ i,i < n → m (el (fwd F b n) i) ≤ y) :
  ∀ d i,i < n → n - (i + 1) = d → m (el (zaR n F b) i) + (u + 1) ≤ 2 ^ d * (y + u + (u + 1)) ∧ ∀ k,k ≤ d → m (el (fwd F b n) i - zai k (fun c => en F.up i (i + 1 + c) * el (zaR n F b) (i + 1 + c))) + 2 ^ (d - k) * (y + u + (u + 1)) ≤ y + 2 ^ d * (y + u + (u + 1)):=by
 refine zyr (fun i => m (el (zaR n F b) i)) (fun i k => m (el (fwd F b n) i - zai k (fun c => en F.up i (i + 1 + c) * el (zaR n F b) (i + 1 + c)))) y (u + 1) u (fun i hi => ?_) (fun i hi k hk => ?_) (fun i hi => ?_)
 ·show m (_ - zai 0 _) ≤ y
  rw [zai,show ∀ a:Rat,a - 0 = a by intro a;grind];exact hy _ hi
 ·show m (_ - zai (k + 1) _) ≤ m (_ - zai k _) + (u + 1) + m _
  rw [zai,show ∀ a x y:Rat,a - (x + y) = (a - x) - y by intro a x y;grind]
  have h1:=h.sub (el (fwd F b n) i - zai k (fun c => en F.up i (i + 1 + c) * el (zaR n F b) (i + 1 + c))) (en F.up i (i + 1 + k) * el (zaR n F b) (i + 1 + k))
  have h2:=h.mul (en F.up i (i + 1 + k)) (el (zaR n F b) (i + 1 + k))
  have h3:=z.up i hi (i + 1 + k) (by omega)
  omega
 ·show m (el (zaR n F b) i) ≤ m (_ - zai _ _) + u
  rw [zl5 n F b hi]
  have:=h.div (el (fwd F b n) i - zai (n - (i + 1)) (fun c => en F.up i (i + 1 + c) * el (zaR n F b) (i + 1 + c))) (en F.up i i)
  have:=z.up i hi i hi
  omega
theorem zoF (hb:∀ i,i < n → m (el b i) ≤ s) :
  ∀ i,i < n → m (el (zbX F b n) i) + (u + 1) ≤ 2 ^ i * (s + u + (u + 1)) ∧ ∀ k,k ≤ i → m (el b i - zai k (fun c => en F.up c i * el (zbX F b n) c)) + (s + u + (u + 1)) ≤ s + 2 ^ k * (s + u + (u + 1)):=by
 refine zys (fun i => m (el (zbX F b n) i)) (fun i k => m (el b i - zai k (fun c => en F.up c i * el (zbX F b n) c))) s (u + 1) u (fun i hi => ?_) (fun i hi k hk => ?_) (fun i hi => ?_)
 ·show m (_ - zai 0 _) ≤ s
  rw [zai,show ∀ a:Rat,a - 0 = a by intro a;grind];exact hb _ hi
 ·show m (_ - zai (k + 1) _) ≤ m (_ - zai k _) + (u + 1) + m _
  rw [zai,show ∀ a x y:Rat,a - (x + y) = (a - x) - y by intro a x y;grind]
  have h1:=h.sub (el b i - zai k (fun c => en F.up c i * el (zbX F b n) c)) (en F.up k i * el (zbX F b n) k)
  have h2:=h.mul (en F.up k i) (el (zbX F b n) k)
  have h3:=z.up k (by omega) i hi
  omega
 ·show m (el (zbX F b n) i) ≤ m (_ - zai i _) + u
  rw [zk1 F b hi,zaj fun c hc => by rw [← znE F b (j:=i) (i:=c) (k:=n) hc (by omega)]]
  have:=h.div (el b i - zai i (fun c => en F.up c i * el (zbX F b n) c)) (en F.up i i)
  have:=z.up i hi i hi
  omega
theorem zt2 {y:Nat} (hy:∀ i,i < n → m (el (zbX F b n) i) ≤ y) :
  ∀ d i,i < n → n - (i + 1) = d → m (el (luW n F b) i) + (u + 1) ≤ 2 ^ d * (y + 0 + (u + 1)) ∧ ∀ k,k ≤ d → m (el (zbX F b n) i - zai k (fun c => en F.lo (i + 1 + c) i * el (luW n F b) (i + 1 + c))) + 2 ^ (d - k) * (y + 0 + (u + 1)) ≤ y + 2 ^ d * (y + 0 + (u + 1)):=by
 refine zyr (fun i => m (el (luW n F b) i)) (fun i k => m (el (zbX F b n) i - zai k (fun c => en F.lo (i + 1 + c) i * el (luW n F b) (i + 1 + c)))) y (u + 1) 0 (fun i hi => ?_) (fun i hi k hk => ?_) (fun i hi => ?_)
 ·show m (_ - zai 0 _) ≤ y
  rw [zai,show ∀ a:Rat,a - 0 = a by intro a;grind];exact hy _ hi
 ·show m (_ - zai (k + 1) _) ≤ m (_ - zai k _) + (u + 1) + m _
  rw [zai,show ∀ a x y:Rat,a - (x + y) = (a - x) - y by intro a x y;grind]
  have h1:=h.sub (el (zbX F b n) i - zai k (fun c => en F.lo (i + 1 + c) i * el (luW n F b) (i + 1 + c))) (en F.lo (i + 1 + k) i * el (luW n F b) (i + 1 + k))
  have h2:=h.mul (en F.lo (i + 1 + k) i) (el (luW n F b) (i + 1 + k))
  have h3:=z.lo (i + 1 + k) (by omega) i hi
  omega
 ·show m (el (luW n F b) i) ≤ m (_ - zai _ _) + 0
  rw [zyu n F b hi]
  exact Nat.le_refl _
end
end Am
