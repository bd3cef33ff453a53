/- Sums of fractions, and that a bound of the rows is not above what numbers that fit cost. Conditions: as each says. -/
import Derived.Test.YtohkhcbocknliaaCert2M
namespace Go.Proofs.Ytohkhcbocknliaa
set_option linter.unusedSimpArgs false
set_option linter.unusedVariables false
open Am
set_option maxHeartbeats 1000000
theorem sumTo_congr {f g : Nat → Rat} : ∀ {n : Nat}, (∀ i, i < n → f i = g i) → sumTo n f = sumTo n g
  | 0, _ => rfl
  | n + 1, h => by rw [sumTo, sumTo, sumTo_congr (fun i hi => h i (by omega)), h n (by omega)]
theorem sumTo_le {f g : Nat → Rat} : ∀ {n : Nat}, (∀ i, i < n → f i ≤ g i) → sumTo n f ≤ sumTo n g
  | 0, _ => Rat.le_refl
  | n + 1, h => by
    have h1 := sumTo_le (n := n) (fun i hi => h i (by omega))
    have h2 := h n (by omega)
    rw [sumTo, sumTo]; grind
theorem sumTo_zero : ∀ n : Nat, sumTo n (fun _ => 0) = 0
  | 0 => rfl
  | n + 1 => by rw [sumTo, sumTo_zero n]; grind
theorem sumTo_add (f g : Nat → Rat) : ∀ n : Nat, sumTo n (fun i => f i + g i) = sumTo n f + sumTo n g
  | 0 => by simp only [sumTo]; grind
  | n + 1 => by rw [sumTo, sumTo, sumTo, sumTo_add f g n]; grind
theorem sumTo_mul (f : Nat → Rat) (c : Rat) : ∀ n : Nat, sumTo n (fun i => c * f i) = c * sumTo n f
  | 0 => by simp only [sumTo]; grind
  | n + 1 => by rw [sumTo, sumTo, sumTo_mul f c n]; grind
theorem sumTo_swap (f : Nat → Nat → Rat) (m : Nat) : ∀ n : Nat, sumTo n (fun i => sumTo m (fun j => f i j)) = sumTo m (fun j => sumTo n (fun i => f i j))
  | 0 => by simp only [sumTo]; rw [sumTo_zero]
  | n + 1 => by rw [sumTo, sumTo_swap f m n, ← sumTo_add]; rfl
/-- what the number j gets of the first n rows -/
def tj (rows : List PRow) (ys : List Rat) (j n : Nat) : Rat := sumTo n fun k => el ys k * el (rows.getD k default).coef j
theorem el_rep (n j : Nat) : el (List.replicate n (0 : Rat)) j = 0 := by
  unfold el; rw [List.getD_eq_getElem?_getD, List.getElem?_replicate]; split <;> rfl
theorem el_svTo {n : Nat} {rows : List PRow} (ys : List Rat) (h : Rows n rows) {j : Nat} (hj : j < n) : ∀ k, k ≤ rows.length → el (svTo n ys rows k) j = tj rows ys j k
  | 0, _ => el_rep n j
  | k + 1, hk => by
    have ih := el_svTo ys h hj k (by omega)
    obtain ⟨p, hp⟩ : ∃ p, rows[k]? = some p := ⟨rows[k]'(by omega), List.getElem?_eq_getElem _⟩
    have hl := (h p (List.mem_of_getElem? hp)).1
    have hl2 := svTo_len (ys := ys) h k (by omega)
    have ha : (svTo n ys rows k)[j]? = some (el (svTo n ys rows k) j) := by
      rw [List.getElem?_eq_getElem (by omega)]; unfold el; rw [List.getD_eq_getElem?_getD, List.getElem?_eq_getElem (by omega)]; rfl
    have hb : p.coef[j]? = some (el p.coef j) := by
      rw [List.getElem?_eq_getElem (by omega)]; unfold el; rw [List.getD_eq_getElem?_getD, List.getElem?_eq_getElem (by omega)]; rfl
    have he := el_of (addT_get (r := el ys k) ha hb)
    show el (addT (svTo n ys rows k) (el ys k) (rows.getD k default).coef) j = tj rows ys j (k + 1)
    rw [getD_of hp, he, ih]
    unfold tj
    rw [sumTo, getD_of hp]
theorem el_sv {n : Nat} {rows : List PRow} (ys : List Rat) (h : Rows n rows) {j : Nat} (hj : j < n) : el (sv n ys rows) j = tj rows ys j rows.length := el_svTo ys h hj _ (Nat.le_refl _)
theorem get_el {xs : List Rat} {j : Nat} (h : j < xs.length) : xs[j]? = some (el xs j) := by
  rw [List.getElem?_eq_getElem h]; unfold el; rw [List.getD_eq_getElem?_getD, List.getElem?_eq_getElem h]; rfl
/-- is no number, of the first j, worth more than it costs? -/
def cheapTo (cost : List Rat) (rows : List PRow) (ys : List Rat) (j : Nat) : Bool := (List.range j).all fun i => decide (tj rows ys i rows.length ≤ el cost i)
theorem cheap_succ (cost : List Rat) (rows : List PRow) (ys : List Rat) (j : Nat) : cheapTo cost rows ys (j + 1) = (cheapTo cost rows ys j && decide (tj rows ys j rows.length ≤ el cost j)) := by
  unfold cheapTo; rw [List.range_succ, List.all_append]; simp
theorem cheap_dear {n : Nat} {cost : List Rat} {rows : List PRow} {ys : List Rat} (h : Rows n rows) (hc : cost.length = n) : cheapTo cost rows ys n = !dearB n cost rows ys := by
  have hs := sv_len (ys := ys) h
  have hl : (addT cost ((-1 : Int) : Rat) (sv n ys rows)).length = n := by rw [addT_len (by omega), hc]
  have hg : ∀ j, j < n → (addT cost ((-1 : Int) : Rat) (sv n ys rows))[j]? = some (el cost j + ((-1 : Int) : Rat) * tj rows ys j rows.length) := by
    intro j hj
    rw [addT_get (get_el (by omega)) (get_el (by omega)), el_sv ys h hj]
  have e1 : ((-1 : Int) : Rat) = -1 := by rfl
  rw [Bool.eq_iff_iff]
  unfold cheapTo dearB
  simp only [List.all_eq_true, List.mem_range, decide_eq_true_eq, Bool.not_eq_true', List.any_eq_false]
  constructor
  · intro h1 q hq
    obtain ⟨j, hj⟩ := List.mem_iff_getElem?.1 hq
    have hjn : j < n := by have := (List.getElem?_eq_some_iff.1 hj).1; omega
    rw [hg j hjn] at hj
    have h2 := h1 j hjn
    rw [← Option.some.inj hj, e1]
    grind
  · intro h1 j hj
    have h2 := h1 _ (List.mem_of_getElem? (hg j hj))
    rw [e1] at h2
    grind
theorem bounds_cheap {n : Nat} {cost : List Rat} {rows : List PRow} {ys : List Rat} (h : Rows n rows) (hc : cost.length = n) : boundsB n cost rows ys = (cheapTo cost rows ys n && signedTo rows ys rows.length) := by
  unfold boundsB signedB
  rw [cheap_dear h hc, Bool.and_comm]
theorem term_le {p : PRow} {x : List Rat} {q : Rat} (hk : 1 ≤ p.kind ∧ p.kind ≤ 3) (hs : signB p q = true) (hh : holdsB p x = true) : q * p.rhs ≤ q * dot p.coef x := by
  have ho : rowOver p x = dot p.coef x - p.rhs := rfl
  rcases (by omega : p.kind = 1 ∨ p.kind = 2 ∨ p.kind = 3) with e | e | e
  · rw [signB_one e] at hs
    have hq : ¬ 0 < q := by simpa using hs
    rw [← holds_le e] at hh
    have hx := (num_nonpos _).1 (of_decide_eq_true hh)
    rw [ho] at hx
    have h0 : 0 ≤ -q := by grind
    have h1 := Rat.mul_le_mul_of_nonneg_left (show dot p.coef x ≤ p.rhs by grind) h0
    grind
  · rw [signB_two e] at hs
    have hq : ¬ q < 0 := by simpa using hs
    rw [← holds_ge e] at hh
    have hx := of_decide_eq_true hh
    rw [ho] at hx
    have h0 : 0 ≤ q := by grind
    exact Rat.mul_le_mul_of_nonneg_left (show p.rhs ≤ dot p.coef x by grind) h0
  · rw [← holds_eq e] at hh
    have hx : rowOver p x = 0 := of_decide_eq_true hh
    rw [ho] at hx
    have : dot p.coef x = p.rhs := by grind
    rw [this]
    exact Rat.le_refl
/-- A bound is not above what numbers that fit cost. -/
theorem weak {n : Nat} {cost x y : List Rat} {rows : List PRow} (h : Rows n rows) (hk : Kinds rows) (hc : cost.length = n) (hb : boundsB n cost rows y = true) (hf : fitsB cost rows x = true) : sb y rows ≤ dot cost x := by
  unfold fitsB at hf
  rw [Bool.and_eq_true, Bool.and_eq_true] at hf
  obtain ⟨⟨hx, hn⟩, hr⟩ := hf
  have hxl := of_decide_eq_true hx
  rw [Bool.not_eq_true', List.any_eq_false] at hn
  rw [List.all_eq_true] at hr
  have hb2 := hb
  rw [bounds_cheap h hc, Bool.and_eq_true] at hb2
  obtain ⟨hch, hsg⟩ := hb2
  have hch' : ∀ j, j < n → tj rows y j rows.length ≤ el cost j := by
    intro j hj
    unfold cheapTo at hch
    rw [List.all_eq_true] at hch
    exact of_decide_eq_true (hch j (List.mem_range.2 hj))
  have hsg' : ∀ k, k < rows.length → signB (rows.getD k default) (el y k) = true := by
    intro k hk
    unfold signedTo at hsg
    rw [List.all_eq_true] at hsg
    exact hsg k (List.mem_range.2 hk)
  have hrow : ∀ k, k < rows.length → rows.getD k default ∈ rows := by
    intro k hk
    rw [getD_of (List.getElem?_eq_getElem hk)]; exact List.getElem_mem hk
  have e1 : sumTo rows.length (fun k => el y k * sumTo n (fun j => el (rows.getD k default).coef j * el x j)) = sumTo n (fun j => tj rows y j rows.length * el x j) := by
    have e2 : ∀ k, el y k * sumTo n (fun j => el (rows.getD k default).coef j * el x j) = sumTo n (fun j => el y k * el (rows.getD k default).coef j * el x j) := by
      intro k; rw [← sumTo_mul]; exact sumTo_congr fun j _ => by grind
    rw [sumTo_congr (fun k _ => e2 k), sumTo_swap]
    refine sumTo_congr fun j _ => ?_
    unfold tj
    rw [Rat.mul_comm, ← sumTo_mul]
    exact sumTo_congr fun k _ => by grind
  have h1 : sb y rows ≤ sumTo rows.length (fun k => el y k * sumTo n (fun j => el (rows.getD k default).coef j * el x j)) := by
    refine sumTo_le fun k hkl => ?_
    have hm := hrow k hkl
    have ht := term_le (x := x) (hk _ hm) (hsg' k hkl) (hr _ hm)
    have e3 : dot (rows.getD k default).coef x = sumTo n (fun j => el (rows.getD k default).coef j * el x j) := by
      unfold dot dotTo; rw [(h _ hm).1]
    rw [e3] at ht
    exact ht
  have h2 : sumTo n (fun j => tj rows y j rows.length * el x j) ≤ dot cost x := by
    unfold dot dotTo
    rw [hc]
    refine sumTo_le fun j hj => ?_
    have hx0 : 0 ≤ el x j := by
      have := hn _ (List.mem_of_getElem? (get_el (xs := x) (j := j) (by omega)))
      have h9 : ¬ el x j < 0 := by simpa using this
      grind
    exact Rat.mul_le_mul_of_nonneg_right (hch' j hj) hx0
  rw [e1] at h1
  exact Rat.le_trans h1 h2
end Go.Proofs.Ytohkhcbocknliaa
