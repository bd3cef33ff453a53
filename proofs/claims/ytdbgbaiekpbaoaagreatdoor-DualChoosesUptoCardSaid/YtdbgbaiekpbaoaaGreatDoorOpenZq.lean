/- What is handed in,as it reads: pairs,rows of pairs,lines,answers. Conditions: as each says. What lies in memory where a literal is built. Conditions: as each says. actuarylaw16.Make by its contract. Conditions: as it says. dual.All by its contract. Conditions: as it says. What lies in memory while actuarylaw16.Right fills a row up. Conditions: as each says. vec.Cmp,Same by their contracts. Conditions: as each says. Fractions of numbers that an int holds are short. Conditions: as each says. Conditions: as they say. -/
import Derived.Test.YtdbgbaiekpbaoaaGreatDoorRows
import Derived.Test.YtdbgbaiekpbaoaaGreatDoorLaw1Zq
import Derived.Test.YtdbgbaiekpbaoaaGreatDoorBoolsZq
import Derived.WalkKit
import Derived.ProofKit
import Derived.OpenShut
import Derived.JoinedCond
import Derived.Deep.Slices
import Derived.Deep.Grids
import Derived.Test.YtdbgbaiekpbaoaaGreatDoorProb1Zq
import Derived.Test.YtdbgbaiekpbaoaaGreatDoorVec1Zq
import Derived.Test.YtdbgbaiekpbaoaaGreatDoorFrameZq
import Derived.Test.YtdbgbaiekpbaoaaGreatDoorVec5Zq
import Derived.Test.YtdbgbaiekpbaoaaGreatDoorRat6Zq
import Derived.Test.YtdbgbaiekpbaoaaGreatDoorBasMemZq
import Derived.Laws.Small
import Derived.Test.YtdbgbaiekpbaoaaGreatDoorVec4Zq
set_option linter.all false
namespace Go.Proofs.YtdbgbaiekpbaoaaGreatDoor
open Go.ChangeShapes Go.WideShapes Go.ChangeAt Go.RowKit Go.Deep
set_option maxRecDepth 100000
set_option maxHeartbeats 4000000
theorem own:ownKnob Tryz.prog.godebug = none:=by kernel_rfl
theorem zqj:laidOutB Tryz.prog = true:=by kernel_rfl
theorem zkC:Tryz.prog.cellsOf 121 = 2:=by kernel_rfl
theorem zwz:Tryz.prog.cellsOf 3 = 1:=by kernel_rfl
theorem zmS (b o k:Nat):(⟨b,o,none⟩:Addr).add k = ⟨b,o + k,none⟩:=by unfold Addr.add;split <;> simp_all
theorem zuZ {α:Type} {Q:Nat → α → Prop}:∀ n:Nat,(∀ i,i < n → ∃ x,Q i x) → ∃ l:List α,l.length = n ∧ ∀ i x,l[i]? = some x → Q i x
 | 0,_ => ⟨[],rfl,fun i x h => by simp at h⟩
 | n + 1,h => by
  obtain ⟨l,hl,hq⟩:=zuZ n (fun i hi => h i (by omega))
  obtain ⟨x,hx⟩:=h n (by omega)
  refine ⟨l ++ [x],by simp [hl],fun i y hy => ?_⟩
  rcases Nat.lt_trichotomy i l.length with h1 | h1 | h1
  ·rw [List.getElem?_append_left h1] at hy;exact hq i y hy
  ·subst h1;rw [List.getElem?_append_right (Nat.le_refl _)] at hy;simp at hy;subst hy;rw [hl];exact hx
  ·rw [List.getElem?_eq_none (by simp;omega)] at hy;cases hy
theorem zDM {H:Type} (d:DataW H):1 ≤ Rows.uptoBulk d:=by
 cases d with
 | lit l => cases l <;> simp [Rows.uptoBulk]
 | nil => simp [Rows.uptoBulk]
 | ptr d => simp [Rows.uptoBulk]
 | slice elems spare => simp [Rows.uptoBulk]
 | agg parts => simp [Rows.uptoBulk]
 | iface t d => simp [Rows.uptoBulk]
 | map entries => simp [Rows.uptoBulk]
 | held h => simp [Rows.uptoBulk]
theorem zoK {H:Type} (l:List (DataW H)):l.length ≤ Rows.uptoBulkAll l:=by
 induction l with
 | nil => simp [Rows.uptoBulkAll]
 | cons x r ih => have:=zDM x;simp only [Rows.uptoBulkAll,List.length_cons];omega
theorem i64_of {x:Int} (h:(Lit.int .i64 x).wf = true):I64 x:=by
 simp [Lit.wf,IntKind.min,IntKind.max,IntKind.signed,IntKind.bits] at h
 exact ⟨h.1,h.2⟩
section
variable {H:Type} {enc:TypeId × Value → H} {W:World} {base:Nat} {sp:Nat → Bool} {held:Bool}
theorem zAH {fuel:Nat} {cs:List Value} {x:DataW H × List MemPlace} (h:DataW.trod enc Tryz.prog W base sp held fuel 121 cs = some x):∃ a b:Int,cs = [.int .i64 a, .int .i64 b] ∧ I64 a ∧ I64 b:=by
 obtain ⟨ys,n',_,_,hl,hyl,hg⟩:=DataW.trod_struct Tryz.underlying121 h
 rw [zkC] at hl
 match cs,hl with
 | [c0,c1],_ =>
  have g0:DataW.trod enc Tryz.prog W base sp held n' 3 ([c0,c1].take (Tryz.prog.cellsOf 3)) = ys[0]?:=hg 0 _ rfl
  have g1:DataW.trod enc Tryz.prog W base sp held n' 3 ([c1].take (Tryz.prog.cellsOf 3)) = ys[1]?:=hg 1 _ rfl
  rw [zwz] at g0 g1
  have hy:ys.length = 2:=hyl
  rw [List.getElem?_eq_getElem (show 0 < ys.length by omega)] at g0
  rw [List.getElem?_eq_getElem (show 1 < ys.length by omega)] at g1
  obtain ⟨a,ha,_,wa⟩:=DataW.trod_int Tryz.underlying3 g0
  obtain ⟨b,hb,_,wb⟩:=DataW.trod_int Tryz.underlying3 g1
  simp at ha hb
  subst ha hb
  exact ⟨a,b,rfl,i64_of wa,i64_of wb⟩
theorem zrv {fuel:Nat} {cs:List Value} {x:DataW H × List MemPlace} (h:DataW.trod enc Tryz.prog W base sp held fuel 22 cs = some x) :
  ∃ (A:Option Addr) (n cp:Nat) (ps:List (Int × Int)),cs = [.slice A n cp] ∧ n = ps.length ∧ zcs W A ps ∧ n ≤ cp ∧ cp ≤ 9223372036854775807 ∧ n ≤ Rows.uptoBulk x.1:=by
 rcases open_slice Tryz.underlying22 h with ⟨hcs,hx⟩ | ⟨a,len,cap,m,q,D,Pl,hcs,_,hl,hm,hmm,hx,hel⟩
 ·exact ⟨none,0,0,[],hcs,rfl,fun k y hy => by simp at hy,Nat.le_refl _,by decide,Nat.zero_le _⟩
 ·have spot:0 < len → a.spot = none:=by
   intro h0
   obtain ⟨cs0,hc0,_⟩:=hel 0 (by rw [hmm];split <;> omega)
   rw [zkC] at hc0
   obtain ⟨_,hcl0,hat0⟩:=World.cells?_some hc0
   have e9:=hat0 0 (by omega)
   rw [List.getElem?_eq_getElem (show 0 < cs0.length by omega)] at e9
   have:=World.cell?_spot e9
   simpa [Addr.add] using this
  have key:∀ i,i < len → ∃ y:Int × Int,I64 y.1 ∧ I64 y.2 ∧ ∃ b o,some a = some ⟨b,o,none⟩ ∧ W.cell? ⟨b,o + i * 2,none⟩ = some (.int .i64 y.1) ∧ W.cell? ⟨b,o + i * 2 + 1,none⟩ = some (.int .i64 y.2):=by
   intro i hi
   have him:i < m:=by rw [hmm];split <;> omega
   obtain ⟨cs',hc,ht⟩:=hel i him
   rw [zkC] at hc
   obtain ⟨_,hcl,hat⟩:=World.cells?_some hc
   obtain ⟨u,v,rfl,wu,wv⟩:=zAH ht
   have e0:=hat 0 (by omega)
   have e1:=hat 1 (by omega)
   simp only [List.getElem?_cons_zero,List.getElem?_cons_succ] at e0 e1
   have hsp:=spot (by omega)
   obtain ⟨b,o,s⟩:=a
   obtain rfl:s = none:=hsp
   rw [zmS,zmS] at e0 e1
   exact ⟨(u,v),wu,wv,b,o,rfl,e0,e1⟩
  obtain ⟨ps,hps,hq⟩:=zuZ len key
  refine ⟨some a,len,cap,ps,hcs,hps.symm,hq,hl,by unfold maxLen at hm;omega,?_⟩
  have h1:=zoK ((List.range len).map D)
  rw [List.length_map,List.length_range] at h1
  rw [hx]
  simp only [Rows.uptoBulk]
  omega
end
theorem zup:Tryz.prog.cellsOf 4 = 1:=by kernel_rfl
theorem zwj {H:Type} {enc:TypeId × Value → H} {W:World} {base:Nat} {held:Bool} {fuel:Nat} {cs:List Value} {x:DataW H × List MemPlace} (h:DataW.trod enc Tryz.prog W base (fun _ => true) held fuel 23 cs = some x) :
  ∃ (A:Option Addr) (n cp:Nat) (xs:List Bool),cs = [.slice A n cp] ∧ n = xs.length ∧ zgu W A xs ∧ n ≤ Rows.uptoBulk x.1:=by
 rcases open_bools Tryz.underlying23 Tryz.underlying4 zup h with ⟨hcs,hx⟩ | ⟨a,len,cap,B,hcs,_,hl,hm,hx,hel⟩
 ·exact ⟨none,0,0,[],hcs,rfl,fun k y hy => by simp at hy,Nat.zero_le _⟩
 ·refine ⟨some a,len,cap,(List.range len).map B,hcs,by simp,fun k y hk => ?_,?_⟩
  ·have hkl:k < len:=by have:=(List.getElem?_eq_some_iff.1 hk).1;simpa using this
   rw [List.getElem?_map,List.getElem?_range hkl] at hk
   injection hk with hk
   subst hk
   have hc:=hel k (by omega)
   have hsp:a.spot = none:=by
    have:=World.cell?_spot (hel 0 (by omega))
    simpa [Addr.add] using this
   obtain ⟨b,o,s⟩:=a
   obtain rfl:s = none:=hsp
   rw [zmS] at hc
   exact ⟨b,o,rfl,hc⟩
  ·have h1:=zoK ((List.range len).map fun i => (DataW.lit (.bool (B i)):DataW H))
   rw [List.length_map,List.length_range] at h1
   rw [hx]
   simp only [boolRow,Rows.uptoBulk]
   first | omega | (simp;omega)
end Go.Proofs.YtdbgbaiekpbaoaaGreatDoor
namespace Go.Proofs.YtdbgbaiekpbaoaaGreatDoor
open Go.RowKit Am
open Lib (hid)
set_option maxHeartbeats 1000000
set_option maxRecDepth 100000
theorem zqg (w:World) (a b:Int):∀ (j:Nat) (x:Int),[a,b][j]? = some x → (w.alloc (.cells #[.int .i64 a, .int .i64 b] 3)).cell? ⟨w.heap.size,j,none⟩ = some (.int .i64 x):=by
 intro j x h
 match j,h with
 | 0,h => simp at h;subst h;exact zax rfl rfl
 | 1,h => simp at h;subst h;exact zax rfl rfl
 | j + 2,h => simp at h
theorem zyt {w:World} {b:Nat} (hb:w.heap.size = b) (x0 x1:Int):∀ (j:Nat) (x:Int),[x0,x1][j]? = some x → (w.alloc (.cells #[.int .i64 x0, .int .i64 x1] 3)).cell? ⟨b,j,none⟩ = some (.int .i64 x):=by
 subst hb;exact zqg w x0 x1
theorem zuW {w:World} {b:Nat} {xs:List Int} (h:∀ (j:Nat) (x:Int),xs[j]? = some x → w.cell? ⟨b,j,none⟩ = some (.int .i64 x)):∀ (j:Nat) (x:Int),xs[j]? = some x → w.drew.cell? ⟨b,j,none⟩ = some (.int .i64 x):=h
theorem zAV {w:World} {b:Nat} {xs:List Int} {o:Obj} (h:∀ (j:Nat) (x:Int),xs[j]? = some x → w.cell? ⟨b,j,none⟩ = some (.int .i64 x)):∀ (j:Nat) (x:Int),xs[j]? = some x → (w.alloc o).cell? ⟨b,j,none⟩ = some (.int .i64 x):=fun j x hx => zaf (h j x hx)
theorem zoX {u:World} {b:Nat} (hb:u.heap.size = b) {r r':RR} {p p':PRow} (h:RowS u r p) (h':RowS u r' p'):RowsS (u.alloc (.cells #[r.c, .int .i64 r.k, .bool r.g,r.s,r.d,r'.c, .int .i64 r'.k, .bool r'.g,r'.s,r'.d] 110)) 0 (.slice (some ⟨b,0,none⟩) 2 2) [p,p']:=by
 subst hb
 have ho:=World.ownsRow_lit (e:=110) (size:=5) (base:=0) u #[r.c, .int .i64 r.k, .bool r.g,r.s,r.d,r'.c, .int .i64 r'.k, .bool r'.g,r'.s,r'.d] 2 (Nat.zero_le _) (by decide) rfl
 refine ⟨[r,r'],rfl,?_,ho⟩
 intro k r0 q0 h1 h2
 match k,h1,h2 with
 | 0,h1,h2 => simp at h1 h2;subst h1 h2;exact h.below (zae u _)
 | 1,h1,h2 => simp at h1 h2;subst h1 h2;exact h'.below (zae u _)
 | k + 2,h1,_ => simp at h1
end Go.Proofs.YtdbgbaiekpbaoaaGreatDoor
namespace Go.Proofs.YtdbgbaiekpbaoaaGreatDoor
open Go.RowKit Am
open Lib (hid)
attribute [local go_sem ↓] Go.wp_at_zero Go.wp_at_succ
set_option maxHeartbeats 4000000
set_option maxRecDepth 100000
theorem VecS.setT {w:World} {H:Nat} {v:Value} {qs:List Rat} (h:VecS w H v qs) {p:Addr} {t:TypeId} {cs:Array Value} (hg:w.heap[p.block]? = some (.cells cs t (0,0))) (h1:193 ≠ t) (h2:35 ≠ t) (u:Value):VecS (w.setCell p u) H v qs:=by
 obtain ⟨l,_,_,h3⟩:=h.row
 exact h.setCell (za6 h3 hg h2) hg h1 u
theorem RatS.setT {w:World} {g:Bool} {s d:Value} {q:Rat} (h:RatS w g s d q) {p:Addr} {t:TypeId} {cs:Array Value} (hg:w.heap[p.block]? = some (.cells cs t (0,0))) (h1:193 ≠ t) (u:Value):RatS (w.setCell p u) g s d q :=
 ⟨⟨h.num.abs.setCell hg h1 u,h.num.neg⟩,h.den.setCell hg h1 u⟩
theorem RowS.setT {w:World} {r:RR} {p:PRow} (h:RowS w r p) {a:Addr} {t:TypeId} {cs:Array Value} (hg:w.heap[a.block]? = some (.cells cs t (0,0))) (h1:193 ≠ t) (h2:35 ≠ t) (u:Value):RowS (w.setCell a u) r p :=
 ⟨h.coef.setT hg h1 h2 u,h.kind,h.rhs.setT hg h1 u⟩
theorem RowsL.setT {w:World} {H:Nat} {v:Value} {l:List RR} {ps:List PRow} (h:RowsL w H v l ps) {a:Addr} {t:TypeId} {cs:Array Value} (hg:w.heap[a.block]? = some (.cells cs t (0,0))) (h1:193 ≠ t) (h2:35 ≠ t) (h3:110 ≠ t) (u:Value):RowsL (w.setCell a u) H v l ps :=
 ⟨h.len,fun k r p e1 e2 => (h.each k r p e1 e2).setT hg h1 h2 u,zc9 h.own fun k hk => Below.heap_setCell w a u k (fun e => za6 h.own hg h3 (by rw [hk,e]))⟩
theorem zij.blk {w w':World} (h:zij w w') {b:Nat} {cs:Array Value} {t:TypeId} (hb:w.heap[b]? = some (.cells cs t (0,0))) (ht:110 ≠ t):w'.heap[b]? = some (.cells cs t (0,0)) :=
 (h b (Array.getElem?_eq_some_iff.1 hb).1 fun cs' e => by rw [hb] at e;injection e with e;injection e with _ e2;exact ht e2.symm).trans hb
def zJI (ls:List LineV):List PRow:=ls.map zH6
def From (N:Nat) (l:List RR):Prop := ∀ (i:Nat) (ri:RR) (b:Nat),l[i]? = some ri → ri.c.ownBlock = some b → N ≤ b
def zGF (w:World) (cost:List Rat) (rows:List PRow) (e:Ending) (w':World):Prop := ∃ (C:Option Addr) (nC cC:Nat) (R:Option Addr) (nR cR:Nat) (l:List RR),e = .returned (.agg #[.slice C nC cC, .slice R nR cR]) ∧
  VecS w' w.heap.size (.slice C nC cC) cost ∧ RowsL w' w.heap.size (.slice R nR cR) l rows ∧ Apart (.slice C nC cC) l ∧ From w.heap.size l ∧ Below w.heap.size w w'
namespace Lw
end Lw
end Go.Proofs.YtdbgbaiekpbaoaaGreatDoor
namespace Go.Proofs.YtdbgbaiekpbaoaaGreatDoor
open Go.RowKit Am
open Lib (hid)
attribute [local go_sem ↓] Go.wp_at_zero Go.wp_at_succ
set_option maxHeartbeats 2000000
set_option maxRecDepth 100000
theorem zsy (n:Nat):(madeCells (Value.bool false).cells (n * 1)).toList = tcells (List.replicate n false):=by
 apply List.ext_getElem?
 intro j
 rw [show (Value.bool false).cells = #[.bool false] from rfl,Nat.mul_one]
 by_cases hj:j < n
 ·simp [madeCells,tcells,hj,Nat.mod_one]
 ·simp [madeCells,tcells,hj]
theorem zf8 {w:World} {ops:Array Oper} {rest:List Oper} {o:Oper} {a:Act} {Q:Exit → Act → World → Prop}
  (hg:o.guard = none) (l c:Operand) (hop:o.op = Op.makeSlice 23 l c) (n:Nat) (L:Int) (hl:a.eval l = .int .i64 L) (hc:a.eval c = .int .i64 L) (hL:L = (n:Int)) (hb:n ≤ 1048576) (H:Nat) (hH:w.heap.size = H)
  (hK:∀ w1,BoolsS w1 w.heap.size (.slice (some ⟨H,0,none⟩) n n) (List.replicate n false) → Below w.heap.size w w1 → wpList Tryz.prog ops Q rest (a.put o.dst (.slice (some ⟨H,0,none⟩) n n)) w1):wpList Tryz.prog ops Q (o :: rest) a w:=by
 obtain ⟨i0,hi,hz0,hz1,hz2⟩:=info_parts zuV
 subst hH
 subst hL
 refine wpList_make_full w hg l c 23 hop w.heap.size 4 i0 _ 1 Tryz.underlying23 hi hz0 hz1 .i64 .i64 n n n hl hc rfl rfl (by rw [hz2];omega) (by unfold maxLen;omega) (Nat.le_refl _) ?_
 intro w1 hown hgrow
 rw [zsy] at hown
 exact hK w1 ⟨by rw [List.length_replicate];exact hown⟩ ((Below.refl _ _).grown hgrow (Nat.le_refl _) (fun k hk => by cases hk))
def zsn (n k:Nat):List Bool:=List.replicate k true ++ List.replicate (n - k) false
theorem zhU (n:Nat):zsn n 0 = List.replicate n false:=by simp [zsn]
theorem zjB (n:Nat):zsn n n = List.replicate n true:=by simp [zsn]
theorem zoQ {n k:Nat} (h:k < n):(zsn n k).set k true = zsn n (k + 1):=by
 unfold zsn
 rw [List.set_append,if_neg (by rw [List.length_replicate];omega),List.length_replicate,Nat.sub_self,show n - k = (n - (k + 1)) + 1 by omega,List.replicate_succ,List.set_cons_zero,List.replicate_succ' (n:=k),List.append_assoc];rfl
theorem zrF {n k:Nat} (h:k < n):(zsn n k)[k]? = some false:=by
 unfold zsn
 rw [List.getElem?_append_right (by rw [List.length_replicate];omega),List.length_replicate,Nat.sub_self,List.getElem?_replicate,if_pos (by omega)]
namespace Du
theorem zzg (n:Nat) (hn:n ≤ 64) (hp:0 < n) (w:World):Calls Tryz.prog 16 #[.int .i64 (n:Int)] w fun e w' => ∃ A,e = .returned (.slice A n n) ∧ BoolsS w' w.heap.size (.slice A n n) (List.replicate n true) ∧ Below w.heap.size w w':=by
 have hnb:n ≤ 9223372036854775807:=by omega
 have hmin:min (n:Int) 64 = (n:Int):=by omega
 have hmax:max (0:Int) (n:Int) = (n:Int):=by omega
 have hm1:¬ ((64:Int) < (n:Int)):=by omega
 have hm2:(n:Int) ≤ 64:=by omega
 go_enter Tryz.func16,Tryz.ntmps16
 go_wp2_with (at_make;go_must (refine zf8 rfl _ _ rfl n _ rfl rfl rfl (by omega) w.heap.size rfl ?_;intro w1 ho hb1;have HO:=hid ho;have HB1:=hid hb1;clear ho hb1))
 go_loopw [11] (fun i wr => ∃ k:Nat,i = .int .i64 k ∧ k ≤ n ∧ BoolsS wr w.heap.size (.slice (some ⟨w.heap.size,0,none⟩) n n) (zsn n k) ∧ Below w.heap.size w wr)
  (fun i _ => n - (intOf i).toNat)
 case atStart => exact ⟨0,rfl,Nat.zero_le _,by rw [zhU];exact HO.out,HB1.out⟩
 case round =>
  obtain ⟨k,rfl,hk,hv,hB⟩:=hrel
  have HV:=hid hv
  have HB:=hid hB
  clear hB
  by_cases hlt:k < n
  ·have y0:=hv.at_ (zrF hlt)
   have yf:=hv.fro k
   have hi1:(0:Int) ≤ (k:Int):=Int.natCast_nonneg _
   have hi2:(k:Int) < (n:Int):=by omega
   clear hv
   go_wp2
   go_roundw
   case rel => exact ⟨k + 1,by go_num,by omega,by rw [← zoQ hlt];exact HV.out.store k true,HB.out.setCell (p:=⟨w.heap.size,k,none⟩) (Nat.le_refl _) _⟩
   case measure => simp [intOf];omega
  ·obtain rfl:n = k:=by omega
   clear hv
   go_wp2
   go_ret
   exact ⟨_,rfl,by have h:=HV.out;rw [zjB] at h;exact h,HB.out⟩
theorem zwa (w:World):Calls Tryz.prog 16 #[.int .i64 0] w fun e w' => ∃ A,e = .returned (.slice A 0 0) ∧ BoolsS w' w.heap.size (.slice A 0 0) [] ∧ Below w.heap.size w w':=by

 go_enter Tryz.func16,Tryz.ntmps16
 go_wp2_with (at_make;go_must (refine zf8 rfl _ _ rfl 0 _ rfl rfl rfl (by omega) w.heap.size rfl ?_;intro w1 ho hb1;have HO:=hid ho;have HB1:=hid hb1;clear ho hb1))
 go_loopw [11] (fun i wr => ∃ k:Nat,i = .int .i64 k ∧ k ≤ 0 ∧ BoolsS wr w.heap.size (.slice (some ⟨w.heap.size,0,none⟩) 0 0) (zsn 0 k) ∧ Below w.heap.size w wr)
  (fun i _ => 0 - (intOf i).toNat)
 case atStart => exact ⟨0,rfl,Nat.zero_le _,by rw [zhU];exact HO.out,HB1.out⟩
 case round =>
  obtain ⟨k,rfl,hk,hv,hB⟩:=hrel
  have HV:=hid hv
  have HB:=hid hB
  clear hB
  by_cases hlt:k < 0
  ·exact absurd hlt (Nat.not_lt_zero _)
  ·obtain rfl:k = 0:=by omega
   clear hv
   go_wp2
   go_ret
   exact ⟨_,rfl,by have h:=HV.out;rw [zjB] at h;exact h,HB.out⟩
theorem zzf (n:Int) (hn:n < 0) (w:World):Calls Tryz.prog 16 #[.int .i64 n] w fun e w' => ∃ A,e = .returned (.slice A 0 0) ∧ BoolsS w' w.heap.size (.slice A 0 0) [] ∧ Below w.heap.size w w':=by
 have h1:¬ (64:Int) < n:=by omega
 have h2:n ≤ 0:=by omega
 have h3:¬ 0 < n:=by omega
 have h4:min n 64 = n:=by omega
 have h5:max 0 n = 0:=by omega

 go_enter Tryz.func16,Tryz.ntmps16
 go_wp2_with (at_make;go_must (refine zf8 rfl _ _ rfl 0 _ rfl rfl rfl (by omega) w.heap.size rfl ?_;intro w1 ho hb1;have HO:=hid ho;have HB1:=hid hb1;clear ho hb1))
 go_loopw [11] (fun i wr => ∃ k:Nat,i = .int .i64 k ∧ k ≤ 0 ∧ BoolsS wr w.heap.size (.slice (some ⟨w.heap.size,0,none⟩) 0 0) (zsn 0 k) ∧ Below w.heap.size w wr)
  (fun i _ => 0 - (intOf i).toNat)
 case atStart => exact ⟨0,rfl,Nat.zero_le _,by rw [zhU];exact HO.out,HB1.out⟩
 case round =>
  obtain ⟨k,rfl,hk,hv,hB⟩:=hrel
  have HV:=hid hv
  have HB:=hid hB
  clear hB
  by_cases hlt:k < 0
  ·exact absurd hlt (Nat.not_lt_zero _)
  ·obtain rfl:k = 0:=by omega
   clear hv
   go_wp2
   go_ret
   exact ⟨_,rfl,by have h:=HV.out;rw [zjB] at h;exact h,HB.out⟩
theorem zze (n:Int) (hn:64 < n) (w:World):Calls Tryz.prog 16 #[.int .i64 n] w fun e w' => ∃ A,e = .returned (.slice A 64 64) ∧ BoolsS w' w.heap.size (.slice A 64 64) (List.replicate 64 true) ∧ Below w.heap.size w w':=by
 have h1:(64:Int) ≤ n:=by omega
 have h4:min n 64 = 64:=by omega

 go_enter Tryz.func16,Tryz.ntmps16
 go_wp2_with (at_make;go_must (refine zf8 rfl _ _ rfl 64 _ rfl rfl rfl (by omega) w.heap.size rfl ?_;intro w1 ho hb1;have HO:=hid ho;have HB1:=hid hb1;clear ho hb1))
 go_loopw [11] (fun i wr => ∃ k:Nat,i = .int .i64 k ∧ k ≤ 64 ∧ BoolsS wr w.heap.size (.slice (some ⟨w.heap.size,0,none⟩) 64 64) (zsn 64 k) ∧ Below w.heap.size w wr)
  (fun i _ => 64 - (intOf i).toNat)
 case atStart => exact ⟨0,rfl,Nat.zero_le _,by rw [zhU];exact HO.out,HB1.out⟩
 case round =>
  obtain ⟨k,rfl,hk,hv,hB⟩:=hrel
  have HV:=hid hv
  have HB:=hid hB
  clear hB
  by_cases hlt:k < 64
  ·have y0:=hv.at_ (zrF hlt)
   have yf:=hv.fro k
   have hi1:(0:Int) ≤ (k:Int):=Int.natCast_nonneg _
   have hi2:(k:Int) < (64:Int):=by omega
   clear hv
   go_wp2
   go_roundw
   case rel => exact ⟨k + 1,by go_num,by omega,by rw [← zoQ hlt];exact HV.out.store k true,HB.out.setCell (p:=⟨w.heap.size,k,none⟩) (Nat.le_refl _) _⟩
   case measure => simp [intOf];omega
  ·obtain rfl:k = 64:=by omega
   clear hv
   go_wp2
   go_ret
   exact ⟨_,rfl,by have h:=HV.out;rw [zjB] at h;exact h,HB.out⟩
theorem all (n:Nat) (hn:n ≤ 64) (w:World):Calls Tryz.prog 16 #[.int .i64 (n:Int)] w fun e w' => ∃ A,e = .returned (.slice A n n) ∧ BoolsS w' w.heap.size (.slice A n n) (List.replicate n true) ∧ Below w.heap.size w w':=by
 rcases Nat.eq_zero_or_pos n with rfl | hp
 ·exact zwa w
 ·exact zzg n hn hp w
theorem all_any (n:Int) (w:World):Calls Tryz.prog 16 #[.int .i64 n] w fun e w' => ∃ (A:Option Addr) (K:Nat),(K:Int) = max 0 (min n 64) ∧ e = .returned (.slice A K K) ∧ BoolsS w' w.heap.size (.slice A K K) (List.replicate K true) ∧ Below w.heap.size w w':=by
 by_cases h0:n < 0
 ·exact (zzf n h0 w).mono fun e w' ⟨A,h1,h2,h3⟩ => ⟨A,0,by omega,h1,h2,h3⟩
 ·by_cases h1:64 < n
  ·exact (zze n h1 w).mono fun e w' ⟨A,h2,h3,h4⟩ => ⟨A,64,by omega,h2,h3,h4⟩
  ·obtain ⟨k,rfl⟩:=Int.eq_ofNat_of_zero_le (show 0 ≤ n by omega)
   exact (all k (by omega) w).mono fun e w' ⟨A,h2,h3,h4⟩ => ⟨A,k,by omega,h2,h3,h4⟩
end Du
end Go.Proofs.YtdbgbaiekpbaoaaGreatDoor
namespace Go.Proofs.YtdbgbaiekpbaoaaGreatDoor
open Go.RowKit Am
open Lib (hid)
set_option maxHeartbeats 1000000
set_option maxRecDepth 100000
theorem znO {w:World} {H N:Nat} {e:TypeId} {size:Nat} {v:Value} {n:Nat} {xs:List Value} (h:w.ownsRow H e size v n xs) (hN:∀ b,v.ownBlock = some b → N ≤ b):w.ownsRow N e size v n xs:=by
 refine ⟨h.1,?_⟩
 rcases h.2 with h2 | ⟨g,cap,cur,hv,hg,r⟩
 ·exact .inl h2
 ·exact .inr ⟨g,cap,cur,hv,hN g (by rw [hv];rfl),r⟩
theorem VecS.raise {w:World} {H N:Nat} {v:Value} {qs:List Rat} (h:VecS w H v qs) (hN:∀ b,v.ownBlock = some b → N ≤ b):VecS w N v qs:=by
 obtain ⟨l,h1,h2,h3⟩:=h.row;exact ⟨l,h1,h2,znO h3 hN⟩
theorem zff.blk {w w':World} (h:zff w w') {b:Nat} {cs:Array Value} {t:TypeId} (hb:w.heap[b]? = some (.cells cs t (0,0))) (ht:35 ≠ t):w'.heap[b]? = some (.cells cs t (0,0)) :=
 (h b (Array.getElem?_eq_some_iff.1 hb).1 fun cs' e => by rw [hb] at e;injection e with e;injection e with _ e2;exact ht e2.symm).trans hb
def zei (l:List RR) (k:Nat) (c:Value):List RR:=l.modify k fun r => { r with c:=c }
theorem zib {l:List RR} {k:Nat} {c:Value} {i:Nat} {r:RR} (h:(zei l k c)[i]? = some r):∃ r0,l[i]? = some r0 ∧ ((i = k ∧ r.c = c) ∨ (i ≠ k ∧ r.c = r0.c)):=by
 unfold zei at h
 rw [List.getElem?_modify] at h
 cases e:l[i]? with
 | none => rw [e] at h;simp at h
 | some r0 =>
  rw [e] at h
  simp at h
  refine ⟨r0,rfl,?_⟩
  by_cases hk:k = i
  ·left;rw [if_pos hk] at h;subst h;exact ⟨hk.symm,rfl⟩
  ·right;rw [if_neg hk] at h;subst h;exact ⟨fun e => hk e.symm,rfl⟩
theorem zsz {l:List RR} {k:Nat} {r:RR} (h:l[k]? = some r):zei l k r.c = l:=by
 unfold zei
 apply List.ext_getElem?
 intro i
 rw [List.getElem?_modify]
 by_cases hk:k = i
 ·subst hk;rw [h];simp
 ·simp [hk]
structure RSt (w0 wz:World) (pb:Nat) (C:Value) (cost:List Rat) (R:Value) (l:List RR) (ps:List PRow) (k:Nat) (cv:Value) (qs:List Rat):Prop where
  res:wz.heap[w0.heap.size + 1]? = some (.cells #[.slice none 0 0, .slice none 0 0] 47 (0,0))
  pbx:wz.heap[pb]? = some (.cells #[C,R] 47 (0,0))
  cost:VecS wz w0.heap.size C cost
  len:l.length = ps.length
  each:∀ (i:Nat) (r:RR) (p:PRow),l[i]? = some r → ps[i]? = some p → (i ≠ k → VecS wz 0 r.c p.coef) ∧ r.k = p.kind ∧ RatS wz r.g r.s r.d p.rhs
  own:wz.ownsRow w0.heap.size 110 5 R ps.length (zcW l)
  cur:VecS wz w0.heap.size cv qs
  ap:Apart C (zei l k cv)
  fr:From w0.heap.size l
  bel:Below w0.heap.size w0 wz
namespace RSt
variable {w0 wz w':World} {pb:Nat} {C:Value} {cost:List Rat} {R:Value} {l:List RR} {ps:List PRow} {k:Nat} {cv:Value} {qs:List Rat}
theorem below (h:RSt w0 wz pb C cost R l ps k cv qs) (hb:Below wz.heap.size wz w'):RSt w0 w' pb C cost R l ps k cv qs :=
  ⟨zad hb h.res,zad hb h.pbx,h.cost.below hb,h.len,fun i r p a b => ⟨fun e => ((h.each i r p a b).1 e).below hb,(h.each i r p a b).2.1,(h.each i r p a b).2.2.below hb⟩,
   zc9 h.own fun k hk => hb.block k (h.own.lt k hk).2,h.cur.below hb,h.ap,h.fr,h.bel.trans (hb.mono h.bel.size)⟩
theorem alloc (h:RSt w0 wz pb C cost R l ps k cv qs) (o:Obj):RSt w0 (wz.alloc o) pb C cost R l ps k cv qs:=h.below (zae wz o)
theorem drew (h:RSt w0 wz pb C cost R l ps k cv qs):RSt w0 wz.drew pb C cost R l ps k cv qs:=h.below (zap wz 1)
theorem append (h:RSt w0 wz pb C cost R l ps k cv qs) (hk:k < l.length) {cv':Value} {q:Rat} (hv:VecS w' w0.heap.size cv' (qs ++ [q])) (hr:zff wz w') (hg:wz.grownBy w' cv.ownBlock) (hc:cv'.ownBlock = cv.ownBlock ∨ ∃ b,cv'.ownBlock = some b ∧ wz.heap.size ≤ b) :
  RSt w0 w' pb C cost R l ps k cv' (qs ++ [q]):=by
 obtain ⟨rk,hrk⟩:∃ r,l[k]? = some r:=⟨l[k],List.getElem?_eq_getElem hk⟩
 have hwk:(zei l k cv)[k]? = some { rk with c:=cv }:=by unfold zei;rw [List.getElem?_modify,hrk];simp
 have zDE:∀ b,C.ownBlock = some b → w'.heap[b]? = wz.heap[b]?:=fun b hb => hg.block b (h.cost.lt hb).2 fun e => h.ap.2 k _ b hwk e.symm hb
 have keepI:∀ i r p,l[i]? = some r → ps[i]? = some p → i ≠ k → VecS w' 0 r.c p.coef:=by
  intro i r p h1 h2 hik
  have hv:=(h.each i r p h1 h2).1 hik
  refine hv.keepAll (fun b hb => hg.block b (hv.lt hb).2 fun e => ?_) fun _ _ _ _ x => x.keepT hr
  have hwi:(zei l k cv)[i]? = some r:=by unfold zei;rw [List.getElem?_modify,h1];simp;intro e;exact absurd e.symm hik
  exact hik (h.ap.1 i k r _ b hwi hwk hb e.symm)
 refine ⟨hr.blk h.res (by decide),hr.blk h.pbx (by decide),h.cost.keepAll zDE fun _ _ _ _ x => x.keepT hr,h.len,fun i r p h1 h2 => ⟨keepI i r p h1 h2,(h.each i r p h1 h2).2.1,(h.each i r p h1 h2).2.2.keepT hr⟩,?_,hv,?_,h.fr,?_⟩
 ·refine zc9 h.own fun b hb => ?_
  rcases h.own.2 with ⟨e,_⟩ | ⟨g,cap,cur,e,_,hh,_⟩
  ·rw [e] at hb;cases hb
  ·rw [e] at hb;injection hb with hb;subst hb
   exact (hr.blk hh (by decide)).trans hh.symm
 ·have hlt:∀ (i:Nat) (r:RR) (b:Nat),(zei l k cv)[i]? = some r → r.c.ownBlock = some b → b < wz.heap.size:=by
   intro i r b h1 h2
   obtain ⟨r0,h3,⟨rfl,h4⟩ | ⟨h4,h5⟩⟩:=zib h1
   ·rw [h4] at h2;exact (h.cur.lt h2).2
   ·obtain ⟨p,hp⟩:∃ p,ps[i]? = some p:=⟨ps[i]'(by rw [← h.len];exact (List.getElem?_eq_some_iff.1 h3).1),List.getElem?_eq_getElem _⟩
    rw [h5] at h2;exact (((h.each i r0 p h3 hp).1 h4).lt h2).2
  have look:∀ (i:Nat) (r:RR) (b:Nat),(zei l k cv')[i]? = some r → r.c.ownBlock = some b → (∃ r',(zei l k cv)[i]? = some r' ∧ r'.c.ownBlock = some b) ∨ (i = k ∧ wz.heap.size ≤ b):=by
   intro i r b h1 h2
   obtain ⟨r0,h3,⟨rfl,h4⟩ | ⟨h4,h5⟩⟩:=zib h1
   ·rw [h4] at h2
    rcases hc with hc | ⟨b',hc,hb'⟩
    ·exact .inl ⟨_,hwk,by rw [← hc];exact h2⟩
    ·rw [hc] at h2;injection h2 with h2;exact .inr ⟨rfl,by omega⟩
   ·exact .inl ⟨r0,by unfold zei;rw [List.getElem?_modify,h3];simp;intro e;exact absurd e.symm h4,by rw [← h5];exact h2⟩
  refine ⟨fun i j ri rj b hi hj bi bj => ?_,fun i ri b hi bi hcb => ?_⟩
  ·rcases look i ri b hi bi with ⟨r1,a1,a2⟩ | ⟨a1,a2⟩ <;> rcases look j rj b hj bj with ⟨r2,b1,b2⟩ | ⟨b1,b2⟩
   ·exact h.ap.1 i j r1 r2 b a1 b1 a2 b2
   ·have:=hlt i r1 b a1 a2;omega
   ·have:=hlt j r2 b b1 b2;omega
   ·omega
  ·rcases look i ri b hi bi with ⟨r1,a1,a2⟩ | ⟨a1,a2⟩
   ·exact h.ap.2 i r1 b a1 a2 hcb
   ·have:=(h.cost.lt hcb).2;omega
 ·exact h.bel.grown hg h.bel.size fun b hb => (h.cur.lt hb).1
end RSt
structure ROut (w0 w:World) (pb:Nat) (C:Value) (cost:List Rat) (R:Value) (l:List RR) (ps:List PRow):Prop where
  res:w.heap[w0.heap.size + 1]? = some (.cells #[.slice none 0 0, .slice none 0 0] 47 (0,0))
  pbx:w.heap[pb]? = some (.cells #[C,R] 47 (0,0))
  cost:VecS w w0.heap.size C cost
  rows:RowsL w w0.heap.size R l ps
  ap:Apart C l
  fr:From w0.heap.size l
  bel:Below w0.heap.size w0 w
theorem ROut.below {w0 w w':World} {pb:Nat} {C:Value} {cost:List Rat} {R:Value} {l:List RR} {ps:List PRow} (h:ROut w0 w pb C cost R l ps) (hb:Below w.heap.size w w'):ROut w0 w' pb C cost R l ps :=
 ⟨zad hb h.res,zad hb h.pbx,h.cost.below hb,h.rows.below hb,h.ap,h.fr,h.bel.trans (hb.mono h.bel.size)⟩
theorem ROut.drew {w0 w:World} {pb:Nat} {C:Value} {cost:List Rat} {R:Value} {l:List RR} {ps:List PRow} (h:ROut w0 w pb C cost R l ps):ROut w0 w.drew pb C cost R l ps:=h.below (zap w 1)
theorem RSt.start {w0 wz:World} {pb:Nat} {C:Value} {cost:List Rat} {R:Value} {l:List RR} {ps:List PRow} (h:ROut w0 wz pb C cost R l ps) {k:Nat} {r:RR} {p:PRow} (hr:l[k]? = some r) (hp:ps[k]? = some p):RSt w0 wz pb C cost R l ps k r.c p.coef :=
 ⟨h.res,h.pbx,h.cost,h.rows.len,fun i r p h1 h2 => ⟨fun _ => (h.rows.each i r p h1 h2).coef,(h.rows.each i r p h1 h2).kind,(h.rows.each i r p h1 h2).rhs⟩,h.rows.own,(h.rows.each k r p hr hp).coef.raise fun b hb => h.fr k r b hr hb,by rw [zsz hr];exact h.ap,h.fr,h.bel⟩
theorem zxs {w:World} {H n cap:Nat} {A:Option Addr} {e:TypeId} {size:Nat} {xs:List Value} (h:w.ownsRow H e size (.slice A n cap) n xs) (i:Nat) (hi:i ≤ n) :
  w.ownsRow H e size (.slice A i cap) i (xs.take (i * size)):=by
 have hl:i * size ≤ n * size:=Nat.mul_le_mul_right _ hi
 refine ⟨by rw [List.length_take,h.1];omega,?_⟩
 rcases h.2 with ⟨h',hn⟩ | ⟨g',cap',cur,h',hb,hg,hnc,hcm,hcs,htake⟩
 ·injection h' with e1 e2 e3
  subst e1 e2 e3
  obtain rfl:i = 0:=by omega
  exact .inl ⟨rfl,rfl⟩
 ·injection h' with e1 e2 e3
  subst e1 e3
  exact .inr ⟨g',cap,cur,rfl,hb,hg,by omega,hcm,hcs,by rw [← htake,List.take_take,Nat.min_eq_left hl]⟩
theorem zqu (l:List RV):∀ k,(rcells l).take (k * 3) = rcells (l.take k):=by
 induction l with
 | nil => intro k;simp [rcells]
 | cons a l ih =>
  intro k
  cases k with
  | zero => simp [rcells]
  | succ k => rw [show (k + 1) * 3 = k * 3 + 1 + 1 + 1 by omega,zcy];simp [zcy,ih]
theorem VecS.cut {w:World} {H n cap:Nat} {A:Option Addr} {qs:List Rat} (h:VecS w H (.slice A n cap) qs) (i:Nat) (hi:i ≤ n):VecS w H (.slice A i cap) (qs.take i):=by
 have hn:=h.len
 subst hn
 obtain ⟨l,h1,h2,h3⟩:=h.row
 refine ⟨l.take i,by simp [h1],fun k r q a b => ?_,?_⟩
 ·rw [List.getElem?_take] at a b
  split at a
  ·rw [if_pos ‹_›] at b;exact h2 k r q a b
  ·cases a
 ·have h4:=zxs h3 i hi
  rw [zqu] at h4
  rw [List.length_take,Nat.min_eq_left hi];exact h4
theorem zA4 {w:World} {H b n cap:Nat} {e:TypeId} {size:Nat} {xs:List Value} (h:w.ownsRow H e size (.slice (some ⟨b,0,none⟩) n cap) n xs):∃ cur,w.heap[b]? = some (.cells cur e (0,0)) ∧ H ≤ b:=by
 rcases h.2 with ⟨h',hn⟩ | ⟨g',cap',cur,h',hb,hg,hnc,hcm,hcs,htake⟩
 ·cases h'
 ·injection h' with e1;injection e1 with e1;injection e1 with e1;subst e1;exact ⟨cur,hg,hb⟩
theorem zq7 {w:World} {b b' o:Nat} {cs cs':Array Value} {t t':TypeId} (u:Value) (h:w.heap[b]? = some (.cells cs t (0,0))) (h':w.heap[b']? = some (.cells cs' t' (0,0))) (ht:t ≠ t'):(w.setCell ⟨b,o,none⟩ u).heap[b']? = some (.cells cs' t' (0,0)):=by
 refine (Below.heap_setCell w ⟨b,o,none⟩ u b' fun e => ?_).trans h'
 have e:b' = b:=e
 subst e
 rw [h] at h';injection h' with h';injection h' with _ e2;exact ht e2
theorem RSt.put {w0 wz:World} {pb:Nat} {C:Value} {cost:List Rat} {bR nR cR:Nat} {l:List RR} {ps:List PRow} {k:Nat} {A:Option Addr} {n c:Nat} {qs:List Rat} (h:RSt w0 wz pb C cost (.slice (some ⟨bR,0,none⟩) nR cR) l ps k (.slice A n c) qs) (hn:nR = ps.length) (nc:Nat) (hnc:nc ≤ n) :
  ROut w0 (wz.setCell ⟨bR,k * 5,none⟩ (.slice A nc c)) pb C cost (.slice (some ⟨bR,0,none⟩) nR cR) (zei l k (.slice A nc c)) (ps.modify k fun p => { p with coef:=qs.take nc }):=by
 subst hn
 obtain ⟨cur,hg,hH⟩:=zA4 h.own
 have hcut:=h.cur.cut nc hnc
 have hlk:∀ (i:Nat) (r:RR) (b:Nat),(zei l k (.slice A nc c))[i]? = some r → r.c.ownBlock = some b → ∃ r',(zei l k (.slice A n c))[i]? = some r' ∧ r'.c.ownBlock = some b:=by
  intro i r b h1 h2
  obtain ⟨r0,h3,⟨rfl,h4⟩ | ⟨h4,h5⟩⟩:=zib h1
  ·exact ⟨{ r0 with c := .slice A n c },by unfold zei;rw [List.getElem?_modify,h3];simp,by rw [h4] at h2;cases A with
    | none => cases h2
    | some a => exact h2⟩
  ·exact ⟨r0,by unfold zei;rw [List.getElem?_modify,h3];simp;intro e;exact absurd e.symm h4,by rw [← h5];exact h2⟩
 refine ⟨zq7 _ hg h.res (by decide),zq7 _ hg h.pbx (by decide),h.cost.setT (p:=⟨bR,k * 5,none⟩) hg (by decide) (by decide) _,⟨by simp [zei,h.len],?_,?_⟩,⟨fun i j ri rj b hi hj bi bj => ?_,fun i ri b hi bi => ?_⟩,fun i ri b hi bi => ?_,h.bel.setCell hH _⟩
 ·intro i r p h1 h2
  obtain ⟨r0,h3,hor⟩:=zib h1
  have hrr:r.k = r0.k ∧ r.g = r0.g ∧ r.s = r0.s ∧ r.d = r0.d:=by
   unfold zei at h1;rw [List.getElem?_modify,h3] at h1;simp at h1
   split at h1 <;> (subst h1;exact ⟨rfl,rfl,rfl,rfl⟩)
  rw [List.getElem?_modify] at h2
  cases e:ps[i]? with
  | none => rw [e] at h2;simp at h2
  | some p0 =>
   rw [e] at h2
   simp at h2
   have he:=h.each i r0 p0 h3 e
   rcases hor with ⟨rfl,h4⟩ | ⟨h4,h5⟩
   ·rw [if_pos rfl] at h2
    subst h2
    refine ⟨by rw [h4];exact ((hcut.base (Nat.zero_le _)).setT (p:=⟨bR,i * 5,none⟩) hg (by decide) (by decide) _),by rw [hrr.1];exact he.2.1,by rw [hrr.2.1,hrr.2.2.1,hrr.2.2.2];exact he.2.2.setT (p:=⟨bR,i * 5,none⟩) hg (by decide) _⟩
   ·rw [if_neg (fun e => h4 e.symm)] at h2
    subst h2
    refine ⟨by rw [h5];exact ((he.1 h4).setT (p:=⟨bR,k * 5,none⟩) hg (by decide) (by decide) _),by rw [hrr.1];exact he.2.1,by rw [hrr.2.1,hrr.2.2.1,hrr.2.2.2];exact he.2.2.setT (p:=⟨bR,k * 5,none⟩) hg (by decide) _⟩
 ·rw [List.length_modify,zei, ← zpb];exact (h.own.stored _ _).1
 ·obtain ⟨r1,a1,a2⟩:=hlk i ri b hi bi
  obtain ⟨r2,b1,b2⟩:=hlk j rj b hj bj
  exact h.ap.1 i j r1 r2 b a1 b1 a2 b2
 ·obtain ⟨r1,a1,a2⟩:=hlk i ri b hi bi
  exact h.ap.2 i r1 b a1 a2
 ·obtain ⟨r0,h3,⟨rfl,h4⟩ | ⟨h4,h5⟩⟩:=zib hi
  ·rw [h4] at bi;exact (hcut.lt bi).1
  ·rw [h5] at bi;exact h.fr i r0 b h3 bi
end Go.Proofs.YtdbgbaiekpbaoaaGreatDoor
namespace Go.Proofs.YtdbgbaiekpbaoaaGreatDoor
open Go.RowKit Am
open Lib (hid)
attribute [local go_sem ↓] Go.wp_at_zero Go.wp_at_succ
set_option maxHeartbeats 2000000
set_option maxRecDepth 100000
def zlz:List Rat → List Rat → Int
  | [],[] => 0
  | [],_ :: _ => -1
  | _ :: _,[] => 1
  | a :: xs,b :: ys => if zlX a b = 0 then zlz xs ys else zlX a b
theorem zot:∀ xs ys:List Rat,zlz xs ys = 0 ↔ xs = ys
 | [],[] => by simp [zlz]
 | [],_ :: _ => by simp [zlz]
 | _ :: _,[] => by simp [zlz]
 | a :: xs,b :: ys => by
  unfold zlz
  by_cases h:zlX a b = 0
  ·rw [if_pos h,zot xs ys,(zkD a b).1 h];simp
  ·rw [if_neg h]
   constructor
   ·intro e;exact absurd e h
   ·intro e;injection e with e1 _;exact absurd ((zkD a b).2 e1) h
theorem zuu {xs ys:List Rat} {k:Nat} {a b:Rat} (ha:xs[k]? = some a) (hb:ys[k]? = some b):zlz (xs.drop k) (ys.drop k) = if zlX a b = 0 then zlz (xs.drop (k + 1)) (ys.drop (k + 1)) else zlX a b:=by
 have h1:xs.drop k = a :: xs.drop (k + 1):=by
  rw [List.drop_eq_getElem_cons (List.getElem?_eq_some_iff.1 ha).1,(List.getElem?_eq_some_iff.1 ha).2]
 have h2:ys.drop k = b :: ys.drop (k + 1):=by
  rw [List.drop_eq_getElem_cons (List.getElem?_eq_some_iff.1 hb).1,(List.getElem?_eq_some_iff.1 hb).2]
 rw [h1,h2,zlz]
theorem zwD {xs ys:List Rat} {k:Nat} (h:k = min xs.length ys.length):zlz (xs.drop k) (ys.drop k) = if xs.length < ys.length then -1 else if ys.length < xs.length then 1 else 0:=by
 rcases Nat.lt_trichotomy xs.length ys.length with h1 | h1 | h1
 ·have e1:xs.drop k = []:=List.drop_eq_nil_of_le (by omega)
  rw [if_pos h1,e1]
  cases e:ys.drop k with
  | nil => have:=congrArg List.length e;simp at this;omega
  | cons => rfl
 ·have e1:xs.drop k = []:=List.drop_eq_nil_of_le (by omega)
  have e2:ys.drop k = []:=List.drop_eq_nil_of_le (by omega)
  rw [if_neg (by omega),if_neg (by omega),e1,e2];rfl
 ·have e2:ys.drop k = []:=List.drop_eq_nil_of_le (by omega)
  rw [if_neg (by omega),if_pos h1,e2]
  cases e:xs.drop k with
  | nil => have:=congrArg List.length e;simp at this;omega
  | cons => rfl
namespace Vc
theorem cmp (S:Nat) (hS:8 * S + 8 ≤ LIM) (A:Option Addr) (n c:Nat) (xs:List Rat) (H:Nat) (B:Option Addr) (n' c':Nat) (ys:List Rat) (H':Nat) (w:World) (hx:VecS w H (.slice A n c) xs) (hy:VecS w H' (.slice B n' c') ys) (zx:∀ q ∈ xs,mw q ≤ S) (zy:∀ q ∈ ys,mw q ≤ S) :
  Calls Tryz.prog 68 #[.slice A n c, .slice B n' c'] w fun e w' => e = .returned (.int .i64 (zlz xs ys)) ∧ Below w.heap.size w w':=by
 have HNX:=hid hx.len
 have HNY:=hid hy.len
 have HX:=hid hx
 have HY:=hid hy
 have HSS:=hid hS
 have ZX:=hid zx
 have ZY:=hid zy
 have hnb:n ≤ 9223372036854775807:=by have h1:=hx.form.2.1;have h2:=hx.form.2.2.1;unfold maxLen at h2;omega
 have hnb2:n' ≤ 9223372036854775807:=by have h1:=hy.form.2.1;have h2:=hy.form.2.2.1;unfold maxLen at h2;omega
 clear zx zy hS hx hy
 obtain ⟨N,hN⟩:∃ N,N = min n n':=⟨_,rfl⟩
 have HN:=hid hN
 have hNb:N ≤ 9223372036854775807:=by omega
 have hN1:N ≤ n:=by omega
 have hN2:N ≤ n':=by omega
 clear hN
 have hW:w = w:=rfl
 go_enter Tryz.func68,Tryz.ntmps68
 go_upto_region 1 with fail
 clear hW
 go_cut [11,12] (fun a b wr => a = .int .i64 (N:Int) ∧ b = .int .i64 0 ∧ wr = w)
 case first =>
  go_wp2
  all_goals
   go_meet
   case rel => exact ⟨by congr 1;have:=HN.out;omega,rfl,rfl⟩
 case rest =>
  obtain ⟨rfl,rfl,rfl⟩:=hcut
  rename World => w
  go_wp2
  go_loopw [12] (fun i wr => ∃ k:Nat,i = .int .i64 k ∧ k ≤ N ∧ zlz xs ys = zlz (xs.drop k) (ys.drop k) ∧ Below w.heap.size w wr)
   (fun i _ => N - (intOf i).toNat)
  case atStart => exact ⟨0,rfl,Nat.zero_le _,rfl,Below.refl _ _⟩
  case round =>
   obtain ⟨k,rfl,hk,hD,hB⟩:=hrel
   have HD:=hid hD
   by_cases hlt:k < N
   ·obtain ⟨bx,rfl,_,_⟩:=HX.out.has (by omega)
    obtain ⟨by_,rfl,_,_⟩:=HY.out.has (by omega)
    have ha:=zaH (xs:=xs) (j:=k) (by rw [← HNX.out];omega)
    have hb_:=zaH (xs:=ys) (j:=k) (by rw [← HNY.out];omega)
    obtain ⟨ga,Aa,ma,ca,Da,mda,cda,y0,y1,y2,hRa⟩:=(HX.out.below hB).at_ ha
    obtain ⟨gb,Ab,mb,cb,Db,mdb,cdb,z0,z1,z2,hRb⟩:=(HY.out.below hB).at_ hb_
    have HDR:=hid (zuu ha hb_)
    have HLC:=hid (show 4 * (mw (el xs k) + mw (el ys k)) + 8 ≤ LIM by have:=HSS.out;have:=ZX.out _ (List.mem_of_getElem? ha);have:=ZY.out _ (List.mem_of_getElem? hb_);omega)
    have HRa:=hid (show RatS wr ga (.slice Aa ma ca) (.slice Da mda cda) (el xs k) from hRa)
    have HRb:=hid (show RatS wr gb (.slice Ab mb cb) (.slice Db mdb cdb) (el ys k) from hRb)
    have HW:=hid (show Bel w wr from Bel.mk hB)
    have zbJ:wr.cell? ⟨bx,k * 3,none⟩ = some (.bool ga):=y0
    have x0_1d:=zaa zbJ
    have zbY:wr.cell? ⟨bx,k * 3 + 1,none⟩ = some (.slice Aa ma ca):=y1
    have x1_1d:=zaa zbY
    have zcb:wr.cell? ⟨bx,k * 3 + 2,none⟩ = some (.slice Da mda cda):=y2
    have x2_1d:=zaa zcb
    have zd7:wr.cell? ⟨by_,k * 3,none⟩ = some (.bool gb):=z0
    have x3_1d:=zaa zd7
    have zfb:wr.cell? ⟨by_,k * 3 + 1,none⟩ = some (.slice Ab mb cb):=z1
    have x4_1d:=zaa zfb
    have zfc:wr.cell? ⟨by_,k * 3 + 2,none⟩ = some (.slice Db mdb cdb):=z2
    have x5_1d:=zaa zfc
    have hi1:(0:Int) ≤ (k:Int):=Int.natCast_nonneg _
    have hi2:(k:Int) < (N:Int):=by omega
    have hi3:(k:Int) < (n:Int):=by omega
    have hi4:(k:Int) < (n':Int):=by omega
    clear hB hD ha hb_ y0 y1 y2 z0 z1 z2 hRa hRb
    go_wp2_with fail
    refine zaS (S:=fun w' => w'.cell? ⟨bx,k * 3,none⟩ = some (.bool ga) ∧ w'.cell? ⟨bx,k * 3 + 1,none⟩ = some (.slice Aa ma ca) ∧ w'.cell? ⟨bx,k * 3 + 2,none⟩ = some (.slice Da mda cda) ∧ w'.cell? ⟨by_,k * 3,none⟩ = some (.bool gb) ∧ w'.cell? ⟨by_,k * 3 + 1,none⟩ = some (.slice Ab mb cb) ∧ w'.cell? ⟨by_,k * 3 + 2,none⟩ = some (.slice Db mdb cdb)) [] (by kernel_rfl) ?_ (fun hHeld => ?_)
    ·((try go_split_ands);(try simp only [World.cell?_drew]);with_reducible repeat' first | assumption | apply And.intro | refine zah (by omega) ?_ | refine zaf ?_)
    refine zaw [0,1,2,3,4,5,6,7] ?_
    repeat (refine tkL (v:=?_) rfl (by kernel_rfl) (fun _ _ _ h => h) (by rfl) ?_ hHeld ?_;rotate_left;(focus ((intro w hSw;(try dsimp only at hSw);go_simp);(try with_reducible rfl)));try simp only [Act.put,pu1,pu2,pu3,pu4,pu5,pu6])
    refine zao ?_
    refine zaB (i:=8) rfl (by kernel_rfl) (fun K hK => ?_)
    go_simp
    (go_at_call 13;(with_reducible refine (Rt.cmpr ga Aa ma ca Da mda cda (el xs k) gb Ab mb cb Db mdb cdb (el ys k) _ HRa.out.drew HRb.out.drew HLC.out).mono ?_);rintro e v1 ⟨rfl,hb⟩;have zn7:=hid (HW.out.drew.below hb);have zcX:=zab hb x0_1d;have x0_2d:=zaa zcX;have zdq:=zab hb x1_1d;have x1_2d:=zaa zdq;have zej:=zab hb x2_1d;have x2_2d:=zaa zej;have zfa:=zab hb x3_1d;have x3_2d:=zaa zfa;have zgt:=zab hb x4_1d;have x4_2d:=zaa zgt;have zhd:=zab hb x5_1d;have x5_2d:=zaa zhd;clear hb)
    (try go_wp2_with fail)
    refine hK.out _ _ ?_ (fun hHeld => ?_)
    ·((try go_split_ands);(try simp only [World.cell?_drew]);with_reducible repeat' first | assumption | apply And.intro | refine zah (by omega) ?_ | refine zaf ?_)
    clear hK K
    try simp only [Act.put,pu1,pu2,pu3,pu4,pu5,pu6]
    refine zaw [9] ?_
    repeat (refine tkL (v:=?_) rfl (by kernel_rfl) (fun _ _ _ h => h) (by rfl) ?_ hHeld ?_;rotate_left;(focus ((intro w hSw;(try dsimp only at hSw);go_simp);(try with_reducible rfl)));try simp only [Act.put,pu1,pu2,pu3,pu4,pu5,pu6])
    refine zao ?_
    refine zaM (by kernel_rfl) ?_ _
    by_cases hz:zlX (el xs k) (el ys k) = 0
    ·rw [hz]
     have HF:=hid (show zlz xs ys = zlz (xs.drop (k + 1)) (ys.drop (k + 1)) by rw [HD.out,HDR.out,if_pos hz])
     clear hz
     go_wp2
     go_roundw
     case rel => exact ⟨k + 1,by go_num,by omega,HF.out,zn7.out.b⟩
     case measure => simp [intOf];omega
    ·have HF:=hid (show zlz xs ys = zlX (el xs k) (el ys k) by rw [HD.out,HDR.out,if_neg hz])
     generalize zlX (el xs k) (el ys k) = z at hz HF
     have hz2:(z != 0) = true:=by simp [hz]
     go_wp2
     go_ret
     exact ⟨by rw [HF.out];rfl,zn7.out.b⟩
   ·obtain rfl:N = k:=by omega
    have HF:=hid (show zlz xs ys = if n < n' then -1 else if n' < n then 1 else 0 by rw [hD,zwD (by rw [← HNX.out, ← HNY.out];exact HN.out), ← HNX.out, ← HNY.out])
    have HB:=hid hB
    clear hD hB
    rcases Nat.lt_trichotomy n n' with h1 | h1 | h1
    ·have e:zlz xs ys = -1:=(by rw [HF.out,if_pos h1])
     have d1:(n:Int) < (n':Int):=(by omega)
     have E:=hid e
     clear e
     go_wp2
     go_ret
     exact ⟨by rw [E.out];rfl,HB.out⟩
    ·have e:zlz xs ys = 0:=(by rw [HF.out,if_neg (by omega),if_neg (by omega)])
     have d1:¬ (n:Int) < (n':Int):=(by omega)
     have d2:¬ (n':Int) < (n:Int):=(by omega)
     have d3:¬ n < n':=(by omega)
     have d4:¬ n' < n:=(by omega)
     have E:=hid e
     clear e
     go_wp2
     go_ret
     exact ⟨by rw [E.out];rfl,HB.out⟩
    ·have e:zlz xs ys = 1:=(by rw [HF.out,if_neg (by omega),if_pos h1])
     have d1:¬ (n:Int) < (n':Int):=(by omega)
     have d2:(n':Int) < (n:Int):=(by omega)
     have d3:¬ n < n':=(by omega)
     have E:=hid e
     clear e
     go_wp2
     go_ret
     exact ⟨by rw [E.out];rfl,HB.out⟩
theorem same (S:Nat) (hS:8 * S + 8 ≤ LIM) (A:Option Addr) (n c:Nat) (xs:List Rat) (H:Nat) (B:Option Addr) (n' c':Nat) (ys:List Rat) (H':Nat) (w:World) (hx:VecS w H (.slice A n c) xs) (hy:VecS w H' (.slice B n' c') ys) (zx:∀ q ∈ xs,mw q ≤ S) (zy:∀ q ∈ ys,mw q ≤ S) :
  Calls Tryz.prog 20 #[.slice A n c, .slice B n' c'] w fun e w' => e = .returned (.bool (decide (xs = ys))) ∧ Below w.heap.size w w':=by
 have HC:=hid (cmp S hS A n c xs H B n' c' ys H' w hx hy zx zy)
 have HD:=hid (show (zlz xs ys == 0) = decide (xs = ys) by rw [Bool.eq_iff_iff];simp [zot])
 clear hx hy zx zy hS
 go_enter Tryz.func20,Tryz.ntmps20
 go_wp2_with fail
 refine HC.out.mono ?_
 rintro e w1 ⟨rfl,hb⟩
 have HB:=hid hb
 clear hb
 generalize zlz xs ys = z at HD
 by_cases hz:z = 0
 ·have h2:(z == 0) = true:=by simp [hz]
  have E:=hid (show decide (xs = ys) = true by rw [← HD.out,h2])
  subst hz
  go_wp2
  go_ret
  exact ⟨by rw [E.out];rfl,HB.out⟩
 ·have h2:(z == 0) = false:=by simp [hz]
  have E:=hid (show decide (xs = ys) = false by rw [← HD.out,h2])
  go_wp2
  go_ret
  exact ⟨by rw [E.out];rfl,HB.out⟩
end Vc
end Go.Proofs.YtdbgbaiekpbaoaaGreatDoor
namespace Go.Proofs.YtdbgbaiekpbaoaaGreatDoor
open Go.RowKit Am
open Lib (hid)
theorem zH7 {p d:Int} (hp:I64 p) (hd:I64 d):mw (fr p d) ≤ 1:=by
 unfold fr
 split
 ·exact zu9 p hp
 ·have h:=zhX p d ‹_›
  have h1:=zdl (n:=p.natAbs) (by unfold B64;omega)
  have h2:=zdl (n:=d.natAbs) (by unfold B64;omega)
  omega
theorem zyq {w:World} {A:Option Addr} {ps:List (Int × Int)} (h:zcs w A ps):∀ q ∈ frs ps,mw q ≤ 1:=by
 intro q hq
 obtain ⟨x,hx,rfl⟩:=List.mem_map.1 hq
 obtain ⟨k,hk⟩:=List.mem_iff_getElem?.1 hx
 obtain ⟨h1,h2,_⟩:=h k x hk
 exact zH7 h1 h2
theorem zuU (ps:List (Int × Int)):(frs ps).length = ps.length:=by simp [frs]
end Go.Proofs.YtdbgbaiekpbaoaaGreatDoor
