/- actuarylaw20.awake by its contract. Conditions: none. -/
import Derived.Test.YtohkhcbocknliaaCert4M
import Derived.Test.YtohkhcbocknliaaCert5M
import Derived.Test.YtohkhcbocknliaaLaw2M
namespace Go.Proofs.Ytohkhcbocknliaa
set_option linter.unusedSimpArgs false
set_option linter.unusedVariables false
open Go.RowKit Am
attribute [local go_sem ↓] Go.wp_at_zero Go.wp_at_succ
set_option maxHeartbeats 4000000
set_option maxRecDepth 100000
theorem ints2 (w : World) (a b : Int) : ∀ (j : Nat) (x : Int), [a, b][j]? = some x → (w.alloc (.cells #[.int .i64 a, .int .i64 b] 3)).cell? ⟨w.heap.size, j, none⟩ = some (.int .i64 x) := by
  intro j x h
  match j, h with
  | 0, h => simp at h; subst h; exact cell_nw rfl rfl
  | 1, h => simp at h; subst h; exact cell_nw rfl rfl
  | j + 2, h => simp at h
theorem ints1 (w : World) (a : Int) : ∀ (j : Nat) (x : Int), [a][j]? = some x → (w.alloc (.cells #[.int .i64 a] 3)).cell? ⟨w.heap.size, j, none⟩ = some (.int .i64 x) := by
  intro j x h
  match j, h with
  | 0, h => simp at h; subst h; exact cell_nw rfl rfl
  | j + 1, h => simp at h
theorem ints2' {w : World} {b : Nat} (hb : w.heap.size = b) (x0 x1 : Int) : ∀ (j : Nat) (x : Int), [x0, x1][j]? = some x → (w.alloc (.cells #[.int .i64 x0, .int .i64 x1] 3)).cell? ⟨b, j, none⟩ = some (.int .i64 x) := by
  subst hb; exact ints2 w x0 x1
theorem ints1' {w : World} {b : Nat} (hb : w.heap.size = b) (x0 : Int) : ∀ (j : Nat) (x : Int), [x0][j]? = some x → (w.alloc (.cells #[.int .i64 x0] 3)).cell? ⟨b, j, none⟩ = some (.int .i64 x) := by
  subst hb; exact ints1 w x0
theorem ints_drew {w : World} {b : Nat} {xs : List Int} (h : ∀ (j : Nat) (x : Int), xs[j]? = some x → w.cell? ⟨b, j, none⟩ = some (.int .i64 x)) : ∀ (j : Nat) (x : Int), xs[j]? = some x → w.drew.cell? ⟨b, j, none⟩ = some (.int .i64 x) := h
theorem ints_al {w : World} {b : Nat} {xs : List Int} {o : Obj} (h : ∀ (j : Nat) (x : Int), xs[j]? = some x → w.cell? ⟨b, j, none⟩ = some (.int .i64 x)) : ∀ (j : Nat) (x : Int), xs[j]? = some x → (w.alloc o).cell? ⟨b, j, none⟩ = some (.int .i64 x) := fun j x hx => cell_al (h j x hx)
theorem vec_lit2 {u : World} {b : Nat} (hb : u.heap.size = b) {g g' : Bool} {s d s' d' : Value} {q q' : Rat} (h : RatS u g s d q) (h' : RatS u g' s' d' q') : VecS (u.alloc (.cells #[.bool g, s, d, .bool g', s', d'] 40)) 0 (.slice (some ⟨b, 0, none⟩) 2 2) [q, q'] := by
  subst hb
  have ho := World.ownsRow_lit (e := 40) (size := 3) (base := 0) u #[.bool g, s, d, .bool g', s', d'] 2 (Nat.zero_le _) (by decide) rfl
  refine ⟨[(g, s, d), (g', s', d')], rfl, ?_, ho⟩
  intro k r q0 h1 h2
  match k, h1, h2 with
  | 0, h1, h2 => simp at h1 h2; subst h1 h2; exact h.alloc _
  | 1, h1, h2 => simp at h1 h2; subst h1 h2; exact h'.alloc _
  | k + 2, h1, _ => simp at h1
theorem rows_lit1 {u : World} {b : Nat} (hb : u.heap.size = b) {r : RR} {p : PRow} (h : RowS u r p) : RowsS (u.alloc (.cells #[r.c, .int .i64 r.k, .bool r.g, r.s, r.d] 48)) 0 (.slice (some ⟨b, 0, none⟩) 1 1) [p] := by
  subst hb
  have ho := World.ownsRow_lit (e := 48) (size := 5) (base := 0) u #[r.c, .int .i64 r.k, .bool r.g, r.s, r.d] 1 (Nat.zero_le _) (by decide) rfl
  refine ⟨[r], rfl, ?_, ho⟩
  intro k r0 q0 h1 h2
  match k, h1, h2 with
  | 0, h1, h2 => simp at h1 h2; subst h1 h2; exact h.below (below_alloc u _)
  | k + 1, h1, _ => simp at h1
theorem rows_lit2 {u : World} {b : Nat} (hb : u.heap.size = b) {r r' : RR} {p p' : PRow} (h : RowS u r p) (h' : RowS u r' p') : RowsS (u.alloc (.cells #[r.c, .int .i64 r.k, .bool r.g, r.s, r.d, r'.c, .int .i64 r'.k, .bool r'.g, r'.s, r'.d] 48)) 0 (.slice (some ⟨b, 0, none⟩) 2 2) [p, p'] := by
  subst hb
  have ho := World.ownsRow_lit (e := 48) (size := 5) (base := 0) u #[r.c, .int .i64 r.k, .bool r.g, r.s, r.d, r'.c, .int .i64 r'.k, .bool r'.g, r'.s, r'.d] 2 (Nat.zero_le _) (by decide) rfl
  refine ⟨[r, r'], rfl, ?_, ho⟩
  intro k r0 q0 h1 h2
  match k, h1, h2 with
  | 0, h1, h2 => simp at h1 h2; subst h1 h2; exact h.below (below_alloc u _)
  | 1, h1, h2 => simp at h1 h2; subst h1 h2; exact h'.below (below_alloc u _)
  | k + 2, h1, _ => simp at h1
/-- the document's example -/
def aCost : List Rat := rats [1, 1]
def aRows : List PRow := [⟨rats [1, 2], 2, ((4 : Int) : Rat)⟩, ⟨rats [3, 1], 1, ((9 : Int) : Rat)⟩]
abbrev aQ : List Rat := [Rat.divInt 1 4, ((0 : Int) : Rat)]
abbrev aH : List Rat := [Rat.divInt 1 2, ((0 : Int) : Rat)]
theorem aCl : aCost.length = 2 := rfl
theorem aQl : aQ.length = aRows.length := rfl
theorem aHl : aH.length = aRows.length := rfl
theorem aNl : (rats [1, 0]).length = aRows.length := rfl
theorem aXl : aCost.length = (rats [0, 2]).length := rfl
theorem aXl' : (rats [0, 2]).length = aCost.length := rfl
theorem a1 : boundsB 2 aCost aRows aQ = true := by kernel_rfl
theorem a2 : boundsB 2 aCost aRows (rats [1, 0]) = false := by kernel_rfl
theorem a3 : sb aQ aRows = Rat.divInt 1 1 := by kernel_rfl
theorem a4 : boundsB 2 aCost aRows aH = true := by kernel_rfl
theorem a5 : fitsB aCost aRows (rats [0, 2]) = true := by kernel_rfl
theorem a6 : sb aH aRows = dot aCost (rats [0, 2]) := by kernel_rfl
theorem sm_rats {xs : List Int} (h : ∀ x ∈ xs, I64 x) : Sm (rats xs) := by
  intro q hq
  obtain ⟨x, hx, rfl⟩ := List.mem_map.1 hq
  exact Nat.le_trans (mw_int x (h x hx)) (by decide)
theorem aGood : Good 2 2 aCost aRows := by
  have h1 : I64 4 := by constructor <;> decide
  have h2 : I64 9 := by constructor <;> decide
  refine ⟨by decide, by decide, sm_rats (by decide), ?_, ?_⟩
  · intro p hp
    simp only [aRows, List.mem_cons, List.not_mem_nil, or_false] at hp
    rcases hp with rfl | rfl
    · exact ⟨rfl, sm_rats (by decide), Nat.le_trans (mw_int 4 h1) (by decide)⟩
    · exact ⟨rfl, sm_rats (by decide), Nat.le_trans (mw_int 9 h2) (by decide)⟩
  · intro p hp
    simp only [aRows, List.mem_cons, List.not_mem_nil, or_false] at hp
    rcases hp with rfl | rfl <;> decide
theorem aSm (p d : Int) (hp : I64 p) (hd : I64 d) (hd0 : d ≠ 0) : Sm [Rat.divInt p d, ((0 : Int) : Rat)] := by
  intro q hq
  simp only [List.mem_cons, List.not_mem_nil, or_false] at hq
  rcases hq with rfl | rfl
  · have h := mw_divInt p d hd0
    have h1 := wlen_word (n := p.natAbs) (by unfold B64; omega)
    have h2 := wlen_word (n := d.natAbs) (by unfold B64; omega)
    omega
  · exact Nat.le_trans (mw_int 0 (by constructor <;> decide)) (by decide)
theorem Ct.bounds_nope (C : Option Addr) (nc cc : Nat) (R : Option Addr) (nr cr : Nat) (cost : List Rat) (rows : List PRow) (Y : Option Addr) (ny cy : Nat) (y : List Rat) (w : World) (hc : VecS w 0 (.slice C nc cc) cost) (hr : RowsS w 0 (.slice R nr cr) rows) (hy : VecS w 0 (.slice Y ny cy) y)
    (hl : y.length = rows.length) (hg : Good nc nr cost rows) (zy : Sm y) (hcl : cost.length = nc) (hbb : boundsB nc cost rows y = false) : Calls Try.prog 8 #[.agg #[.slice C nc cc, .slice R nr cr], .slice Y ny cy] w (RetRatB w 0 false) := by
  have h := Ct.bounds_ok C nc cc R nr cr cost rows Y ny cy y w hc hr hy hl hg zy hcl
  rw [hbb] at h; exact h
theorem a7 : mw (sb aQ aRows) ≤ 10000 := by
  rw [a3]
  have h := mw_divInt 1 1 (by decide)
  have h1 := wlen_word (n := (1 : Int).natAbs) (by decide)
  omega
theorem one64 : I64 1 := by constructor <;> decide
theorem one0 : (1 : Int) ≠ 0 := by decide
theorem aQs : Sm aQ := aSm 1 4 (by constructor <;> decide) (by constructor <;> decide) (by decide)
theorem aHs : Sm aH := aSm 1 2 (by constructor <;> decide) (by constructor <;> decide) (by decide)
theorem aNs : Sm (rats [1, 0]) := sm_rats (by decide)
theorem aXs : Sm (rats [0, 2]) := sm_rats (by decide)
/-- the example of what fits nothing -/
def iCost : List Rat := rats [0]
def iRows : List PRow := [⟨rats [1], 1, ((-1 : Int) : Rat)⟩]
theorem i1 : signedB iRows (rats [-1]) = true := by kernel_rfl
theorem i2 : ((scale ((-1 : Int) : Rat) (sv 1 (rats [-1]) iRows)).any fun q => decide (q < 0)) = false := by kernel_rfl
theorem i3 : decide (0 < sb (rats [-1]) iRows) = true := by kernel_rfl
theorem i4 : 0 < sb (rats [-1]) iRows := of_decide_eq_true i3
theorem iYl : (rats [-1]).length = iRows.length := rfl
theorem iYs : Sm (rats [-1]) := sm_rats (by decide)
theorem iGood : Good 1 1 iCost iRows := by
  have h1 : I64 (-1) := by constructor <;> decide
  refine ⟨by decide, by decide, sm_rats (by decide), ?_, ?_⟩
  · intro p hp
    simp only [iRows, List.mem_cons, List.not_mem_nil, or_false] at hp
    subst hp
    exact ⟨rfl, sm_rats (by decide), Nat.le_trans (mw_int (-1) h1) (by decide)⟩
  · intro p hp
    simp only [iRows, List.mem_cons, List.not_mem_nil, or_false] at hp
    subst hp
    decide
theorem s1 : ∀ (j : Nat) (a s c : Rat), (rats [0, 2])[j]? = some a → (sv 2 aH aRows)[j]? = some s → aCost[j]? = some c → a = 0 ∨ s = c := by
  intro j a s c h1 h2 h3
  match j, h1, h2, h3 with
  | 0, h1, _, _ => left; exact (Option.some.inj h1).symm
  | 1, _, h2, h3 => right; rw [← Option.some.inj h2, ← Option.some.inj h3]; kernel_rfl
  | j + 2, h1, _, _ => cases h1
theorem s2 : ∀ (k : Nat) (p : PRow) (q : Rat), aRows[k]? = some p → aH[k]? = some q → rowOver p (rats [0, 2]) = 0 ∨ q = 0 := by
  intro k p q h1 h2
  match k, h1, h2 with
  | 0, h1, _ => left; rw [← Option.some.inj h1]; kernel_rfl
  | 1, _, h2 => right; exact (Option.some.inj h2).symm
  | k + 2, h1, _ => cases h1
end Go.Proofs.Ytohkhcbocknliaa
