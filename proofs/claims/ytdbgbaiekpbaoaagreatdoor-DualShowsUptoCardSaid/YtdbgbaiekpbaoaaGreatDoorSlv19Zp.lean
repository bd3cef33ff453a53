/- dual.Solve of a small problem whose costs are not below 0,from the basis of what its rows leave: what comes of it,by any budget. Conditions: as each says. -/
import Derived.Test.YtdbgbaiekpbaoaaGreatDoorDuSZp
import Derived.Test.YtdbgbaiekpbaoaaGreatDoorExZp
set_option linter.all false
namespace Go.Proofs.YtdbgbaiekpbaoaaGreatDoor
open Go.RowKit Am
set_option maxHeartbeats 2000000
set_option maxRecDepth 100000
theorem zNy {xs:List Rat} (h:∀ k,k < xs.length → 0 ≤ el xs k):(xs.any fun q => decide (q < 0)) = false:=by
 rw [List.any_eq_false]
 intro q hq
 obtain ⟨k,hk⟩:=List.mem_iff_getElem?.1 hq
 have:=h k (List.getElem?_eq_some_iff.1 hk).1
 rw [znd hk] at this
 rw [decide_eq_false (Rat.not_lt.2 this)];decide
theorem zKN:∀ a,a ≤ 5 → ∀ b,b ≤ 4 → binom (a + b) b ≤ 126:=by decide +kernel
theorem zKB:∀ n,n ≤ 4 → zor n 1 ≤ LIM:=by unfold LIM;decide +kernel
theorem zKY {m N:Nat} {A:List (List Rat)} {b c:List Rat} {cols:List Nat} (h:Basis m N A cols) (hc:c.length = N) (r:zx5 N A c cols) :
  ∀ n,(∀ i,i < n → ∃ k j,zbE N A b c (List.replicate N true) (zvo (zbE N A b c (List.replicate N true)) cols i) = .piv k j) → Basis m N A (zvo (zbE N A b c (List.replicate N true)) cols n) ∧ zx5 N A c (zvo (zbE N A b c (List.replicate N true)) cols n)
 | 0,_ => ⟨h,r⟩
 | n + 1,hn => by
  obtain ⟨h1,h2⟩:=zKY h hc r n fun i hi => hn i (by omega)
  obtain ⟨k,j,e⟩:=hn n (by omega)
  have p:=zwH h1 hc e
  rw [zvo,e]
  exact ⟨h1.swap p.hk p.hj (by have:=p.t;grind),p.right h1 hc h2⟩
theorem zLu {m N S:Nat} {A:List (List Rat)} {cols:List Nat} (hB:Basis m N A cols) (zA:∀ r ∈ A, ∀ q ∈ r,mw q ≤ S):zhg mw m S (bc A cols):=fun j hj i hi => by
 rw [ztZ (by rw [hB.len];exact hj) (by rw [hB.rect.len];exact hi)]
 have e:=zaO (L:=A) (i:=i) (d:=[]) (by rw [hB.rect.len];exact hi)
 have hm:=List.mem_of_getElem? e
 exact zA _ hm _ (List.mem_of_getElem? (zaH (by rw [hB.rect.row i hi];exact hB.lt j hj)))
theorem zL1 {m N S:Nat} {A:List (List Rat)} {cols:List Nat} {b:List Rat} (hB:Basis m N A cols) (hz:zhg mw m S (bc A cols)) (hb:b.length = m) (zb:∀ x ∈ b,mw x ≤ S):∀ x ∈ za5 A b cols,mw x ≤ sB m S S:=by
 have hl:=hB.len
 unfold za5
 rw [hl]
 exact zrD (zci hB.sq hB.reg _).2 (zo0 zo5 hB.sq hB.reg hz fun i hi => zrz zb (by rw [hb];exact hi))
theorem zLB {m N S:Nat} {A:List (List Rat)} {cols:List Nat} {xs:List Rat} (hB:Basis m N A cols) (hx:xs.length = m) (zx:∀ x ∈ xs,mw x ≤ S) (hS:1 ≤ S):∀ q ∈ zh1 N cols xs,mw q ≤ S:=fun q hq => by
 obtain ⟨j,hj⟩:=List.mem_iff_getElem?.1 hq
 have hl:=(List.getElem?_eq_some_iff.1 hj).1
 rw [zl8] at hl
 rw [← znd hj,zvg hl,hB.len]
 by_cases hb:Bas m (fun k => cols.getD k 0) j
 ·obtain ⟨k,hk,rfl⟩:=hb
  rw [zA7 hB.inj _ hk];exact zrz zx (by rw [hx];exact hk)
 ·rw [zyz _ hb];exact Nat.le_trans (by decide) hS
theorem zLl {S:Nat} {xs:List Rat} (zx:∀ x ∈ xs,mw x ≤ S):∀ q ∈ scale (-1) xs,mw q ≤ S:=fun q hq => by
 obtain ⟨x,hx,rfl⟩:=List.mem_map.1 hq
 rw [show (-1:Rat) * x = -x by grind,zhY];exact zx x hx
abbrev zKg (nC nR:Nat) (cost:List Rat) (rows:List PRow):List Nat → Am.Next:=zbE (nC + nR) (zc3 rows) (zg8 rows) (zjD cost rows) (List.replicate (nC + nR) true)
namespace Cheap
variable {nC nR:Nat} {cost:List Rat} {rows:List PRow} (h:Cheap nC nR cost rows)
include h
theorem at_ {k:Nat} (hk:k < rows.length):rows.getD k default ∈ rows:=List.mem_of_getElem? (zaO hk)
theorem coefs:∀ k,k < rows.length → (rows.getD k default).coef.length = nC:=fun _ hk => (h.g.rw_ _ (h.at_ hk)).1
theorem kinds:∀ k,k < rows.length → (rows.getD k default).kind ≠ 3:=fun _ hk => h.k3 _ (h.at_ hk)
theorem cntR:cnt rows nR = nR:=zpU h.kinds nR (by rw [h.lr];exact Nat.le_refl _)
theorem basis:Basis nR (nC + nR) (zc3 rows) (zli nC nR):=by have:=zqz h.coefs h.kinds;rwa [h.lr] at this
theorem clen:(zjD cost rows).length = nC + nR:=by unfold zjD;rw [List.length_append,List.length_replicate,h.lc,h.lr,h.cntR]
theorem right:zx5 (nC + nR) (zc3 rows) (zjD cost rows) (zli nC nR):=by have:=zKV h.coefs h.kinds h.lc h.nn;rwa [h.lr] at this
theorem enter_none:zdi (zaC (nC + nR) (zc3 rows) (zli nC nR) (zjD cost rows)) (List.replicate (nC + nR) true) = none:=by
 unfold zdi
 refine zhz _ _ fun j _ hj e => ?_
 have hj2:j < nC + nR:=by
  have l:=zKp (A:=zc3 rows) (cols:=zli nC nR) h.clen;rw [l] at hj;omega
 have:=h.right j hj2
 exact absurd e.2 (Rat.not_lt.2 this)
theorem zA:∀ r ∈ zc3 rows, ∀ q ∈ r,mw q ≤ 1:=fun r hr q hq => by
 unfold zc3 at hr
 obtain ⟨k,hk,rfl⟩:=List.mem_map.1 hr
 rw [List.mem_range] at hk
 rcases List.mem_append.1 hq with h1 | h1
 ·exact (h.g.rw_ _ (h.at_ hk)).2.1 q h1
 ·exact zsi rows k q h1
theorem zb:∀ q ∈ zg8 rows,mw q ≤ 1:=fun q hq => by
 obtain ⟨p,hp,rfl⟩:=List.mem_map.1 hq;exact (h.g.rw_ p hp).2.2
theorem zc:∀ q ∈ zjD cost rows,mw q ≤ 1:=fun q hq => by
 rcases List.mem_append.1 hq with h1 | h1
 ·exact h.g.sc q h1
 ·rw [(List.mem_replicate.1 h1).2];decide
theorem seq (f:Nat):Basis nR (nC + nR) (zc3 rows) (pivs (zKg nC nR cost rows) f (zli nC nR)).cols ∧ zx5 (nC + nR) (zc3 rows) (zjD cost rows) (pivs (zKg nC nR cost rows) f (zli nC nR)).cols:=by
 obtain ⟨e1,e2,_⟩:=zoW (zKg nC nR cost rows) f (zli nC nR)
 rw [e1];exact zKY h.basis h.clen h.right _ e2
theorem ends:(pivs (zKg nC nR cost rows) 4000 (zli nC nR)).err = false:=by
 cases he:(pivs (zKg nC nR cost rows) 4000 (zli nC nR)).err with
 | false => rfl
 | true =>
  obtain ⟨_,e2,e3,_⟩:=zoW (zKg nC nR cost rows) 4000 (zli nC nR)
  obtain ⟨h1,h2⟩:=e3 he
  have:=zLe (b:=zg8 rows) h.basis h.clen h.right 4001 fun i hi => by
   by_cases e:i = 4000
   ·subst e;exact h2
   ·exact e2 i (by omega)
  have:=zKN nC h.g.hc nR h.g.hr
  omega
end Cheap
def zLE (r:RunOut):Int:=match r.at_ with
  | some _ => 2
  | none => 1
def zLF (nC nR:Nat) (rows:List PRow) (r:RunOut):List Rat:=match r.at_ with
  | some _ => []
  | none => (zh1 (nC + nR) r.cols (za5 (zc3 rows) (zg8 rows) r.cols)).take nC
def zLG (cost:List Rat) (rows:List PRow) (r:RunOut):List Rat:=match r.at_ with
  | some k => scale (-1) (zbf (zc3 rows) r.cols k)
  | none => zcl (zc3 rows) r.cols (zjD cost rows)
theorem Cheap.spec {nC nR:Nat} {cost:List Rat} {rows:List PRow} (h:Cheap nC nR cost rows) {f:Nat} {k:Nat} (he:(pivs (zKg nC nR cost rows) f (zli nC nR)).err = false) (ha:(pivs (zKg nC nR cost rows) f (zli nC nR)).at_ = some k):zbE (nC + nR) (zc3 rows) (zg8 rows) (zjD cost rows) (List.replicate (nC + nR) true) (pivs (zKg nC nR cost rows) f (zli nC nR)).cols = .bad k:=by
 obtain ⟨e1,_,_,e4,_⟩:=zoW (zKg nC nR cost rows) f (zli nC nR)
 rw [e1];have:=e4 he;rw [ha] at this;exact this
theorem Cheap.spec0 {nC nR:Nat} {cost:List Rat} {rows:List PRow} (h:Cheap nC nR cost rows) {f:Nat} (he:(pivs (zKg nC nR cost rows) f (zli nC nR)).err = false) (ha:(pivs (zKg nC nR cost rows) f (zli nC nR)).at_ = none):zbE (nC + nR) (zc3 rows) (zg8 rows) (zjD cost rows) (List.replicate (nC + nR) true) (pivs (zKg nC nR cost rows) f (zli nC nR)).cols = .stop:=by
 obtain ⟨e1,_,_,e4,_⟩:=zoW (zKg nC nR cost rows) f (zli nC nR)
 rw [e1];have:=e4 he;rw [ha] at this;exact this
theorem Cheap.sizes {nC nR:Nat} {cost:List Rat} {rows:List PRow} (h:Cheap nC nR cost rows) {f:Nat} (he:(pivs (zKg nC nR cost rows) f (zli nC nR)).err = false) :
  (∀ q ∈ zLF nC nR rows (pivs (zKg nC nR cost rows) f (zli nC nR)),mw q ≤ sB nR 1 1) ∧ (∀ q ∈ zLG cost rows (pivs (zKg nC nR cost rows) f (zli nC nR)),mw q ≤ sB nR 1 1):=by
 have hB:=(h.seq f).1
 have hz:=zLu hB h.zA
 unfold zLF zLG
 cases ha:(pivs (zKg nC nR cost rows) f (zli nC nR)).at_ with
 | some k => exact ⟨fun q hq => (by cases hq),zLl (ziO hB hz (Nat.le_refl _) (zCv hB (h.spec he ha)))⟩
 | none => exact ⟨fun q hq => zLB hB (hB.vals_ok _).2 (zL1 hB hz (by simp [zg8,h.lr]) h.zb) (zma _ _ _) q (List.mem_of_mem_take hq),znb hB hz h.clen h.zc⟩
theorem Cheap.cap {nC nR:Nat} {cost:List Rat} {rows:List PRow} (h:Cheap nC nR cost rows):8 * sB nR 1 1 + 8 ≤ LIM:=by
 have:=zos (zKB nR h.g.hr);unfold pB at this;omega
def zK8 (w:World) (nC nR:Nat) (cost:List Rat) (rows:List PRow) (r:RunOut) (e:Ending) (w':World):Prop := ∃ (P:Option Addr) (nP cP:Nat) (D:Option Addr) (cD:Nat),
  e = .returned (.tuple #[.agg #[.int .i64 (zLE r), .slice P nP cP, .slice D nR cD, .slice none 0 0, .int .i64 (r.n:Int)], .nilIface]) ∧
  VecS w' w.heap.size (.slice P nP cP) (zLF nC nR rows r) ∧ VecS w' w.heap.size (.slice D nR cD) (zLG cost rows r) ∧ Below w.heap.size w w'
def zK9 (w:World) (n:Int) (e:Ending) (w':World):Prop := ∃ fb,e = .returned (.tuple #[.agg #[.int .i64 0, .slice none 0 0, .slice none 0 0, .slice none 0 0, .int .i64 0], .iface 195 (.pointer (some ⟨fb,0,none⟩))]) ∧
  w'.heap[fb]? = some (.cells #[.string zve, .int .i64 n, .iface 59 (.int .i64 180)] 199 (0,0)) ∧ Below w.heap.size w w'
namespace Du
section
variable {nC nR cC cR tc Hc:Nat} {C R T:Option Addr} {cost:List Rat} {rows:List PRow} {w:World} (hc:VecS w 0 (.slice C nC cC) cost) (hr:RowsS w 0 (.slice R nR cR) rows) (hi:IntsS w Hc (.slice T nR tc) (zli nC nR)) (h:Cheap nC nR cost rows) (budget:Int) (hb:budget ≤ 9223372036854775807)
include hc hr hi h hb
theorem zK1:Calls Tryz.prog 18 #[.agg #[.slice C nC cC, .slice R nR cR], .slice T nR tc, .int .i64 budget] w (zzb w (nC + nR) nC nR cost rows (pivs (zKg nC nR cost rows) budget.toNat (zli nC nR))):=by
 have h1:=h.g.hc
 have h2:=h.g.hr
 exact Du.solve 1 (Nat.le_refl _) C nC cC R nR cR cost rows (nC + nR) (by rw [h.cntR]) T tc Hc (zli nC nR) budget w hc hr (by omega) (by omega) (fun p hp => ⟨(h.g.rw_ p hp).1,fun q hq => Nat.le_trans ((h.g.rw_ p hp).2.1 q hq) (by decide),Nat.le_trans (h.g.rw_ p hp).2.2 (by decide)⟩) h.g.kd h.g.sc (fun p hp => (h.g.rw_ p hp).2) hi h.basis (zKB nR h2) hb h.enter_none
theorem zLH (he:(pivs (zKg nC nR cost rows) budget.toNat (zli nC nR)).err = false):Calls Tryz.prog 18 #[.agg #[.slice C nC cC, .slice R nR cR], .slice T nR tc, .int .i64 budget] w (zK8 w nC nR cost rows (pivs (zKg nC nR cost rows) budget.toNat (zli nC nR))):=by
 refine (zK1 hc hr hi h budget hb).mono ?_
 rintro e w' ⟨hb',h1 | ⟨_,k,D,cD,ha,rfl,hv⟩ | ⟨_,ha,P,cP,D,cD,rfl,hv,hd⟩⟩
 ·rw [he] at h1;cases h1.1
 ·exact ⟨none,0,0,D,cD,by unfold zLE;rw [ha],by unfold zLF;rw [ha];exact VecS.nil _ _,by unfold zLG;rw [ha];exact hv,hb'⟩
 ·exact ⟨P,nC,cP,D,cD,by unfold zLE;rw [ha],by unfold zLF;rw [ha];exact hv,by unfold zLG;rw [ha];exact hd,hb'⟩
end
section
variable {nC nR cC cR tc Hc:Nat} {C R T:Option Addr} {cost:List Rat} {rows:List PRow} {w:World} (hc:VecS w 0 (.slice C nC cC) cost) (hr:RowsS w 0 (.slice R nR cR) rows) (hi:IntsS w Hc (.slice T nR tc) (zli nC nR)) (h:Cheap nC nR cost rows) {r:RunOut} (hq:pivs (zKg nC nR cost rows) 4000 (zli nC nR) = r)
include hc hr hi h hq
theorem solve4:Calls Tryz.prog 18 #[.agg #[.slice C nC cC, .slice R nR cR], .slice T nR tc, .int .i64 4000] w (zK8 w nC nR cost rows r):=by
 subst hq
 exact zLH hc hr hi h 4000 (by decide) h.ends
end
end Du
end Go.Proofs.YtdbgbaiekpbaoaaGreatDoor
