/- Runs of pivots: what they come to,by any budget;the dual's end ahead of as many pivots as there are bases. Conditions: as each says. A region that draws its order,of which one operation waits for all others: what is read may be taken first even where that one writes it. Conditions: as each says. The primal's pivots: what comes in,what leaves,the point stays where it may be;its end ahead of as many pivots as there are bases. Conditions: as each says. A problem begun with a column more for each row: its basis,its point;the first phase ends at its least. Conditions: as each says. Between the phases,and the second one: the added columns stay at 0;what the end tells of the problem begun with. Conditions: as each says. append of made noughts to a row of the call's own. Conditions: as each says. Conditions: as they say. -/
import Derived.Test.YtdbgbaiekpbaoaaGreatDoorEtaZp
import Derived.Deep.RegionHeld
import Derived.Test.YtdbgbaiekpbaoaaGreatDoorOutZp
import Derived.Test.YtdbgbaiekpbaoaaGreatDoorWordZp
import Derived.Lib.AppendZerosOnto
set_option linter.all false
namespace Am
inductive Next where
  | stop:Next
  | bad:Nat → Next
  | piv:Nat → Nat → Next
structure RunOut where
  cols:List Nat
  at_:Option Nat
  n:Nat
  err:Bool
def pivs (next:List Nat → Next):Nat → List Nat → RunOut
  | 0,cols => match next cols with
    | .stop => ⟨cols,none,0,false⟩
    | .bad k => ⟨cols,some k,0,false⟩
    | .piv _ _ => ⟨cols,none,0,true⟩
  | f + 1,cols => match next cols with
    | .stop => ⟨cols,none,0,false⟩
    | .bad k => ⟨cols,some k,0,false⟩
    | .piv k j => { pivs next f (cols.set k j) with n:=(pivs next f (cols.set k j)).n + 1 }
def zvo (next:List Nat → Next) (cols:List Nat):Nat → List Nat
  | 0 => cols
  | i + 1 => match next (zvo next cols i) with
    | .piv k j => (zvo next cols i).set k j
    | _ => zvo next cols i
theorem zmc (next:List Nat → Next) (cols:List Nat) {k j:Nat} (h:next cols = .piv k j):∀ i,zvo next cols (i + 1) = zvo next (cols.set k j) i
 | 0 => by simp only [zvo,h]
 | i + 1 => by rw [zvo,zmc next cols h i];rfl
theorem zoW (next:List Nat → Next):∀ f cols,(pivs next f cols).cols = zvo next cols (pivs next f cols).n ∧ (∀ i,i < (pivs next f cols).n → ∃ k j,next (zvo next cols i) = .piv k j) ∧
  ((pivs next f cols).err = true → (pivs next f cols).n = f ∧ ∃ k j,next (zvo next cols f) = .piv k j) ∧
  ((pivs next f cols).err = false → next (zvo next cols (pivs next f cols).n) = match (pivs next f cols).at_ with | none => .stop | some k => .bad k) ∧ ((pivs next f cols).err = true → (pivs next f cols).at_ = none)
 | 0,cols => by
  unfold pivs;split
  ·rename_i h;exact ⟨rfl,fun i hi => absurd hi (Nat.not_lt_zero _),fun h => (by cases h),fun _ => h,fun _ => rfl⟩
  ·rename_i h;exact ⟨rfl,fun i hi => absurd hi (Nat.not_lt_zero _),fun h => (by cases h),fun _ => h,fun h => (by cases h)⟩
  ·rename_i h;exact ⟨rfl,fun i hi => absurd hi (Nat.not_lt_zero _),fun _ => ⟨rfl,_,_,h⟩,fun h => (by cases h),fun _ => rfl⟩
 | f + 1,cols => by
  unfold pivs;split
  ·rename_i h;exact ⟨rfl,fun i hi => absurd hi (Nat.not_lt_zero _),fun h => (by cases h),fun _ => h,fun _ => rfl⟩
  ·rename_i h;exact ⟨rfl,fun i hi => absurd hi (Nat.not_lt_zero _),fun h => (by cases h),fun _ => h,fun h => (by cases h)⟩
  ·rename_i k j h
   obtain ⟨a,b,c,d,e⟩:=zoW next f (cols.set k j)
   have s:=zmc next cols h
   refine ⟨by rw [s];exact a,fun i hi => ?_,fun he => ?_,fun he => by rw [s];exact d he,e⟩
   ·cases i with
    | zero => exact ⟨k,j,h⟩
    | succ i => rw [s];exact b i (Nat.lt_of_succ_lt_succ hi)
   ·obtain ⟨c1,c2⟩:=c he
    exact ⟨by show _ + 1 = _;omega,by rw [s];exact c2⟩
def zbk (cols:List Nat) (xs:List Rat):Nat → Option Nat
  | 0 => none
  | k + 1 => match zbk cols xs k with
    | none => if el xs k < 0 then some k else none
    | some b => if el xs k < 0 ∧ cols.getD k 0 < cols.getD b 0 then some k else some b
def zi5 (cols:List Nat) (xs:List Rat):Option Nat:=zbk cols xs xs.length
theorem zdk (cols:List Nat) (xs:List Rat):∀ n,match zbk cols xs n with
  | none => ∀ k,k < n → 0 ≤ el xs k
  | some b => b < n ∧ el xs b < 0 ∧ ∀ k,k < n → el xs k < 0 → cols.getD b 0 ≤ cols.getD k 0
 | 0 => by simp only [zbk];intro k hk;omega
 | n + 1 => by
  have ih:=zdk cols xs n
  simp only [zbk]
  cases h:zbk cols xs n with
  | none =>
   rw [h] at ih
   simp only at ih ⊢
   by_cases hx:el xs n < 0
   ·rw [if_pos hx]
    exact ⟨by omega,hx,fun k hk hkx => by
     by_cases e:k = n
     ·rw [e];exact Nat.le_refl _
     ·have:=ih k (by omega);grind⟩
   ·rw [if_neg hx]
    intro k hk
    by_cases e:k = n
    ·rw [e];grind
    ·exact ih k (by omega)
  | some b =>
   rw [h] at ih
   simp only at ih ⊢
   obtain ⟨i1,i2,i3⟩:=ih
   by_cases hx:el xs n < 0 ∧ cols.getD n 0 < cols.getD b 0
   ·rw [if_pos hx]
    exact ⟨by omega,hx.1,fun k hk hkx => by
     by_cases e:k = n
     ·rw [e];exact Nat.le_refl _
     ·have:=i3 k (by omega) hkx;omega⟩
   ·rw [if_neg hx]
    exact ⟨by omega,i2,fun k hk hkx => by
     by_cases e:k = n
     ·subst e;have : ¬ cols.getD k 0 < cols.getD b 0:=fun h2 => hx ⟨hkx,h2⟩
      omega
     ·exact i3 k (by omega) hkx⟩
def za4 (p l:List Rat) (may:List Bool):Nat → Option Nat
  | 0 => none
  | j + 1 => if may.getD j false = true ∧ el l j < 0 then
      match za4 p l may j with
      | none => some j
      | some b => if el p j / -el l j < el p b / -el l b then some j else some b
    else za4 p l may j
def zhy (p l:List Rat) (may:List Bool):Option Nat:=za4 p l may (min p.length (min l.length may.length))
theorem zdW (p l:List Rat) (may:List Bool):∀ n,match za4 p l may n with
  | none => ∀ j,j < n → may.getD j false = true → 0 ≤ el l j
  | some b => b < n ∧ may.getD b false = true ∧ el l b < 0 ∧ ∀ j,j < n → may.getD j false = true → el l j < 0 → el p b / -el l b ≤ el p j / -el l j ∧ (j < b → el p b / -el l b < el p j / -el l j)
 | 0 => by simp only [za4];intro k hk;omega
 | n + 1 => by
  have ih:=zdW p l may n
  simp only [za4]
  by_cases hx:may.getD n false = true ∧ el l n < 0
  ·rw [if_pos hx]
   cases h:za4 p l may n with
   | none =>
    rw [h] at ih
    simp only at ih ⊢
    refine ⟨by omega,hx.1,hx.2,fun j hj hm hl => ?_⟩
    by_cases e:j = n
    ·rw [e];exact ⟨Rat.le_refl,fun h => by omega⟩
    ·have:=ih j (by omega) hm;grind
   | some b =>
    rw [h] at ih
    simp only at ih ⊢
    obtain ⟨i1,i2,i3,i4⟩:=ih
    by_cases hq:el p n / -el l n < el p b / -el l b
    ·rw [if_pos hq]
     refine ⟨by omega,hx.1,hx.2,fun j hj hm hl => ?_⟩
     by_cases e:j = n
     ·rw [e];exact ⟨Rat.le_refl,fun h => by omega⟩
     ·have:=(i4 j (by omega) hm hl).1
      exact ⟨by grind,fun _ => by grind⟩
    ·rw [if_neg hq]
     refine ⟨by omega,i2,i3,fun j hj hm hl => ?_⟩
     by_cases e:j = n
     ·subst e;exact ⟨by grind,fun h => by omega⟩
     ·exact i4 j (by omega) hm hl
  ·rw [if_neg hx]
   cases h:za4 p l may n with
   | none =>
    rw [h] at ih
    simp only at ih ⊢
    intro j hj hm
    by_cases e:j = n
    ·subst e
     have : ¬ el l j < 0:=fun h => hx ⟨hm,h⟩
     grind
    ·exact ih j (by omega) hm
   | some b =>
    rw [h] at ih
    simp only at ih ⊢
    obtain ⟨i1,i2,i3,i4⟩:=ih
    refine ⟨by omega,i2,i3,fun j hj hm hl => ?_⟩
    by_cases e:j = n
    ·subst e;exact absurd ⟨hm,hl⟩ hx
    ·exact i4 j (by omega) hm hl
def zbE (N:Nat) (A:List (List Rat)) (b c:List Rat) (may:List Bool) (cols:List Nat):Next :=
  match zi5 cols (za5 A b cols) with
  | none => .stop
  | some k => match zhy (zaC N A cols c) (zk8 N A cols k) may with
    | none => .bad k
    | some j => .piv k j
def zx5 (N:Nat) (A:List (List Rat)) (c:List Rat) (cols:List Nat):Prop := ∀ j,j < N → 0 ≤ el (zaC N A cols c) j
section
variable {m N:Nat} {A:List (List Rat)} {b c:List Rat}
structure DPiv (m N:Nat) (A:List (List Rat)) (b c:List Rat) (cols:List Nat) (k j:Nat):Prop where
  hk:k < m
  hj:j < N
  x:el (za5 A b cols) k < 0
  xl:∀ l,l < m → el (za5 A b cols) l < 0 → cols.getD k 0 ≤ cols.getD l 0
  t:el (zav A cols j) k < 0
  q:∀ i,i < N → el (zav A cols i) k < 0 → el (zaC N A cols c) j / -el (zav A cols j) k ≤ el (zaC N A cols c) i / -el (zav A cols i) k ∧ (i < j → el (zaC N A cols c) j / -el (zav A cols j) k < el (zaC N A cols c) i / -el (zav A cols i) k)
theorem zwH {cols:List Nat} (h:Basis m N A cols) (hc:c.length = N) {k j:Nat} (e:zbE N A b c (List.replicate N true) cols = .piv k j):DPiv m N A b c cols k j:=by
 have hm:∀ i,i < N → (List.replicate N true).getD i false = true:=fun i hi => by rw [List.getD_eq_getElem?_getD,List.getElem?_replicate,if_pos hi];rfl
 have lp:(zaC N A cols c).length = N:=by unfold zaC;rw [zdt (by rw [zkb,hc]),hc]
 have ll:∀ k,(zk8 N A cols k).length = N:=fun k => zkb _ _ _
 have lm:∀ k,min (zaC N A cols c).length (min (zk8 N A cols k).length (List.replicate N true).length) = N:=fun k => by rw [lp,ll,List.length_replicate];omega
 unfold zbE at e
 have s1:=zdk cols (za5 A b cols) (za5 A b cols).length
 split at e
 ·cases e
 ·rename_i k' h1
  unfold zi5 at h1
  rw [h1,(h.vals_ok b).2] at s1
  simp only at s1
  split at e
  ·cases e
  ·rename_i j' h2
   injection e with e1 e2
   subst e1 e2
   unfold zhy at h2
   rw [lm] at h2
   have s2:=zdW (zaC N A cols c) (zk8 N A cols k') (List.replicate N true) N
   rw [h2] at s2
   simp only at s2
   obtain ⟨a1,a2,a3⟩:=s1
   obtain ⟨b1,_,b3,b4⟩:=s2
   rw [h.line_el a1 b1] at b3 b4
   exact ⟨a1,b1,a2,a3,b3,fun i hi hl => by
    have:=b4 i hi (hm i hi) (by rw [h.line_el a1 hi];exact hl)
    rw [h.line_el a1 hi] at this;exact this⟩
theorem zox {p q a b:Rat} (ha:0 < a) (hb:0 < b):p / a < q / b ↔ p * b < q * a:=by
 rw [Rat.div_lt_iff ha,show q / b * a = q * a / b by rw [Rat.div_def,Rat.div_def,Rat.mul_assoc,Rat.mul_comm b⁻¹, ← Rat.mul_assoc],Rat.lt_div_iff hb]
theorem DPiv.right {cols:List Nat} (h:Basis m N A cols) (hc:c.length = N) {k j:Nat} (p:DPiv m N A b c cols k j) (r:zx5 N A c cols):zx5 N A c (cols.set k j):=by
 have h':=h.swap p.hk p.hj (by have:=p.t;grind)
 have d0:=h.dic b
 have p0:=h.pri hc
 have p1:=h'.pri hc
 obtain ⟨Y,hY,_⟩:=d0.row k p.hk
 -- what the prices are behind it
 have q0:0 ≤ el (zaC N A cols c) j / -el (zav A cols j) k:=by
  rw [Rat.div_def]
  exact Rat.mul_nonneg (r j p.hj) (Rat.le_of_lt (Rat.inv_pos.2 (by have:=p.t;grind)))
 generalize hth:el (zaC N A cols c) j / -el (zav A cols j) k = th at q0
 have hj0:el (zaC N A cols c) j + th * el (zav A cols j) k = 0:=by
  have:=p.t
  rw [← hth]
  have e:el (zaC N A cols c) j / -el (zav A cols j) k * -el (zav A cols j) k = el (zaC N A cols c) j:=Rat.div_mul_cancel (by grind)
  grind
 have pn:Pri m N (en A) (el c) (fun l => (cols.set k j).getD l 0) (fun i => el (zcl A cols c) i - th * Y i) (fun i => el (zaC N A cols c) i + th * el (zav A cols i) k):=by
  refine ⟨fun i hi => ?_,fun l hl => ?_⟩
  ·show el (zaC N A cols c) i + th * el (zav A cols i) k = _
   rw [p0.eq i hi,hY i hi]
   have : zai m (fun t => (el (zcl A cols c) t - th * Y t) * en A t i) = zai m (fun t => el (zcl A cols c) t * en A t i + (-th) * (Y t * en A t i)):=zaj fun t _ => by grind
   rw [this,zcm,za7];grind
  ·show el (zaC N A cols c) ((cols.set k j).getD l 0) + th * el (zav A cols ((cols.set k j).getD l 0)) k = 0
   rw [gset (by rw [h.len];exact p.hk)]
   by_cases e:k = l
   ·rw [if_pos e];exact hj0
   ·rw [if_neg e]
    have u:el (zav A cols (cols.getD l 0)) k = if l = k then 1 else 0:=d0.uni k l p.hk hl
    rw [u,if_neg (Ne.symm e),p0.zero l hl];grind
 have same:=p1.same pn (h'.dic b) pn.zero
 intro i hi
 rw [same i hi]
 by_cases hl:el (zav A cols i) k < 0
 ·have g:=(p.q i hi hl).1
  rw [hth] at g
  have : th * -el (zav A cols i) k ≤ el (zaC N A cols c) i:=by
   have e:el (zaC N A cols c) i / -el (zav A cols i) k * -el (zav A cols i) k = el (zaC N A cols c) i:=Rat.div_mul_cancel (by grind)
   rw [← e]
   exact Rat.mul_le_mul_of_nonneg_right g (by grind)
  grind
 ·have:=Rat.mul_nonneg q0 (show 0 ≤ el (zav A cols i) k by grind)
  have:=r i hi
  grind
theorem zLe {cols:List Nat} (h:Basis m N A cols) (hc:c.length = N) (r:zx5 N A c cols):∀ n,(∀ i,i < n → ∃ k j,zbE N A b c (List.replicate N true) (zvo (zbE N A b c (List.replicate N true)) cols i) = .piv k j) → n ≤ binom N m:=by
 intro n hn
 generalize hnx:zbE N A b c (List.replicate N true) = nx at *
 have ok:∀ i,i ≤ n → Basis m N A (zvo nx cols i) ∧ zx5 N A c (zvo nx cols i):=by
  intro i
  induction i with
  | zero => intro _;exact ⟨h,r⟩
  | succ i ih =>
   intro hi
   obtain ⟨h1,h2⟩:=ih (by omega)
   obtain ⟨k,j,e⟩:=hn i (by omega)
   have p:=zwH h1 hc (b:=b) (by rw [hnx];exact e)
   rw [zvo,e]
   exact ⟨h1.swap p.hk p.hj (by have:=p.t;grind),p.right h1 hc h2⟩
 have hp:∀ i, ∃ kj:Nat × Nat,i < n → nx (zvo nx cols i) = .piv kj.1 kj.2:=fun i => by
  by_cases hi:i < n
  ·obtain ⟨k,j,e⟩:=hn i hi;exact ⟨(k,j),fun _ => e⟩
  ·exact ⟨(0,0),fun h => absurd h hi⟩
 let K:Nat → Nat × Nat:=fun i => Classical.choose (hp i)
 have hK:∀ i,i < n → nx (zvo nx cols i) = .piv (K i).1 (K i).2:=fun i => Classical.choose_spec (hp i)
 have nxt:∀ i,i < n → zvo nx cols (i + 1) = (zvo nx cols i).set (K i).1 (K i).2:=fun i hi => by rw [zvo,hK i hi]
 have pv:∀ i,i < n → DPiv m N A b c (zvo nx cols i) (K i).1 (K i).2:=fun i hi => zwH (ok i (by omega)).1 hc (by rw [hnx];exact hK i hi)
 refine zLq (N:=N) (m:=m) (β:=fun i k => (zvo nx cols i).getD k 0) (fun i hi => (ok i (by omega)).1.lt) (fun i hi => (ok i (by omega)).1.inj) fun i j hij hj per => ?_
 refine zKE (m:=m) (N:=N) (L:=j - i) (A:=en A) (b:=el b) (c:=el c) (β:=fun a k => (zvo nx cols (i + a)).getD k 0) (T:=fun a r s => el (zav A (zvo nx cols (i + a)) s) r) (x:=fun a => el (za5 A b (zvo nx cols (i + a)))) (y:=fun a => el (zcl A (zvo nx cols (i + a)) c)) (d:=fun a => el (zaC N A (zvo nx cols (i + a)) c)) (r:=fun a => (K (i + a)).1) (t:=fun a => (K (i + a)).2)
  ⟨fun a ha => (ok (i + a) (by omega)).1.inj,fun a ha => (pv (i + a) (by omega)).hk,fun a ha hb => ?_,fun a ha k hk => ?_,?_⟩ (by omega) (fun a ha => (ok (i + a) (by omega)).1.dic b) (fun a ha => (ok (i + a) (by omega)).1.pri hc) (fun a ha => (ok (i + a) (by omega)).2) (fun a ha => (pv (i + a) (by omega)).hj)
  (fun a ha => ⟨(pv (i + a) (by omega)).x,(pv (i + a) (by omega)).xl⟩) (fun a ha => ⟨(pv (i + a) (by omega)).t,fun s hs hl => ?_⟩)
 ·obtain ⟨l,hl,e⟩:=hb
  have u:=((ok (i + a) (by omega)).1.dic b).uni _ l (pv (i + a) (by omega)).hk hl
  have t:=(pv (i + a) (by omega)).t
  simp only at e u
  rw [e] at u
  rw [u] at t
  split at t <;> grind
 ·show (zvo nx cols (i + a + 1)).getD k 0 = _
  rw [nxt (i + a) (by omega),gset (by rw [(ok (i + a) (by omega)).1.len];exact (pv (i + a) (by omega)).hk)]
  by_cases e:(K (i + a)).1 = k
  ·rw [if_pos e,if_pos e.symm]
  ·rw [if_neg e,if_neg (Ne.symm e)]
 ·intro u
  show Bas m (fun k => (zvo nx cols (i + 0)).getD k 0) u ↔ Bas m (fun k => (zvo nx cols (i + (j - i))).getD k 0) u
  rw [show i + (j - i) = j by omega];exact per u
 ·have q:=((pv (i + a) (by omega)).q s (by have:=(pv (i + a) (by omega)).hj;show s < N;have hs':s < (K (i + a)).2:=hs;omega) hl).2 hs
  have t:=(pv (i + a) (by omega)).t
  have hl':el (zav A (zvo nx cols (i + a)) s) (K (i + a)).1 < 0:=hl
  rw [zox (by grind) (by grind)] at q
  exact q
end
end Am
namespace Go
theorem pu1 {α:Type _} (l:List α) (i:Nat) (a:α):l.toArray.setIfInBounds i a = (l.set i a).toArray:=List.setIfInBounds_toArray l i a
theorem pu2 {α:Type _} {l:List α} {a b:α}:(a :: l).set 0 b = b :: l:=rfl
theorem pu3 {α:Type _} {l:List α} {a b:α} {n:Nat}:(a :: l).set (n + 1) b = a :: l.set n b:=rfl
theorem pu4 {α:Type _} {l:List α} {i:Nat} (h:i < l.toArray.size):l.toArray[i] = l[i]'(by simpa using h):=rfl
theorem pu5 {α:Type _} {l:List α} {a:α} (h:0 < (a :: l).length):(a :: l)[0] = a:=rfl
theorem pu6 {α:Type _} {l:List α} {a:α} {i:Nat} (h:i + 1 < (a :: l).length):(a :: l)[i + 1] = l[i]'(Nat.lt_of_succ_lt_succ h):=rfl
theorem kp {p:Prop} (h:p:=by ((try go_split_ands);(try simp only [World.cell?_drew]);with_reducible repeat' first | assumption | apply And.intro | refine Proofs.YtdbgbaiekpbaoaaGreatDoor.cell_set (by omega) ?_ | refine Proofs.YtdbgbaiekpbaoaaGreatDoor.cell_al ?_)):p:=h
section
variable {P:Program} {ops:Array Oper} {Q:Exit → Act → World → Prop} {md:Region.Mode} {S:World → Prop} {fin:Nat}
def zc4 (P:Program) (md:Region.Mode) (ops:Array Oper) (Q:Exit → Act → World → Prop) (S:World → Prop) (fin:Nat):Nat → Array Bool → Act → World → Prop
  | 0,listed,a,w => Region.ready md ops listed = [] ∧ Q .normal a w
  | fuel + 1,listed,a,w =>
    (Region.ready md ops listed = [] → Q .normal a w) ∧
    ∀ i ∈ Region.ready md ops listed,wpOp P ops Q i (fun a' w' => (i ≠ fin → S w → S w') ∧ zc4 P md ops Q S fin fuel (listed.setIfInBounds i true) a' w') a w
theorem zmf:∀ (fuel:Nat) (listed:Array Bool) (a:Act) (w:World),zc4 P md ops Q S fin fuel listed a w → wpAny P md ops Q fuel listed a w
 | 0,_,_,_,h => h
 | fuel + 1,_,_,_,h => ⟨h.1,fun i hi => wpOp_mono (fun a' w' h' => zmf fuel _ a' w' h'.2) (h.2 i hi)⟩
def ze2 (md:Region.Mode) (ops:Array Oper) (fin i:Nat):Bool:=((ops[fin]?).map fun o => o.after.any fun e => Region.binds md e && e.on == i).getD false
theorem zpa {i:Nat} {listed:Array Bool} (h:ze2 md ops fin i = true) (hi:i ∈ Region.ready md ops listed):fin ∉ Region.ready md ops listed:=by
 intro hf
 obtain ⟨_,o,ho,hall⟩:=mem_ready.1 hf
 have h0:=(mem_ready.1 hi).1
 unfold ze2 at h
 rw [ho] at h
 simp only [Option.map_some,Option.getD_some,Array.any_eq_true',Bool.and_eq_true,beq_iff_eq] at h
 obtain ⟨e,he,hb,rfl⟩:=h
 have h1:=hall e he hb
 rcases Nat.lt_or_ge e.on listed.size with h' | h'
 ·simp [h'] at h0 h1;rw [h0] at h1;cases h1
 ·simp [Array.getElem?_eq_none h'] at h1
theorem zpe {i:Nat} {oi:Oper} {v:Value} (hi:ops[i]? = some oi) (hsel:∀ (j:Nat) (o:Oper) cs b,ops[j]? = some o → o.op ≠ .select cs b)
  (hQ:∀ c a w,Q (.panic c) (a.put oi.dst v) w → Q (.panic c) a w) (hw:ze2 md ops fin i = true) :
  ∀ (fuel:Nat) (listed:Array Bool) (a:Act) (w:World),
   (∀ j oj,ops[j]? = some oj → j ≠ i → listed.getD j true = false → (∀ e ∈ oj.after,Region.binds md e = true → e.on ≠ i) → oi.apart ops oj = true) →
   i ∈ Region.ready md ops listed → YieldsIf P ops S oi v a → S w →
   zc4 P md ops Q S fin fuel (listed.setIfInBounds i true) (a.put oi.dst v) w → zc4 P md ops Q S fin (fuel + 1) listed a w:=by
 intro fuel
 induction fuel with
 | zero =>
  intro listed a w _ hr hy hS H
  refine ⟨fun h => (by rw [h] at hr;cases hr),fun j hj => ?_⟩
  by_cases hji:j = i
  ·subst hji;exact hy.wpOp hi hS ⟨fun _ _ => hS,H⟩
  ·have:=ready_mono hj hji
   rw [H.1] at this
   cases this
 | succ fuel ih =>
  intro listed a w hfree hr hy hS H
  refine ⟨fun h => (by rw [h] at hr;cases hr),fun j hj => ?_⟩
  by_cases hji:j = i
  ·subst hji;exact hy.wpOp hi hS ⟨fun _ _ => hS,H⟩
  ·have h1:=H.2 j (ready_mono hj hji)
   have hjf:j ≠ fin:=fun e => zpa hw hr (by rw [← e];exact hj)
   obtain ⟨hjun,oj,hoj,hall⟩:=mem_ready.1 hj
   have hnot:∀ e ∈ oj.after,Region.binds md e = true → e.on ≠ i:=fun e he hb heq => by
    have h1:=hall e he hb
    have h0:=(mem_ready.1 hr).1
    rw [heq] at h1
    rcases Nat.lt_or_ge i listed.size with h' | h'
    ·simp [h'] at h0 h1;rw [h0] at h1;cases h1
    ·simp [Array.getElem?_eq_none h'] at h1
   have h2:=wpOp_putIf hoj (hfree j oj hoj hji hjun hnot) (fun cs b => hsel i oi cs b hi) (fun cs b => hsel j oj cs b hoj) hQ hy h1
   have hfree':∀ k ok,ops[k]? = some ok → k ≠ i → (listed.setIfInBounds j true).getD k true = false →
     (∀ e ∈ ok.after,Region.binds md e = true → e.on ≠ i) → oi.apart ops ok = true:=fun k ok hk hki hun hno => by
    refine hfree k ok hk hki ?_ hno
    by_cases hjk:j = k
    ·subst hjk;exact hjun
    ·rw [getD_set_ne true hjk] at hun;exact hun
   refine wpOp_mono (fun a' w' h3 => ⟨fun _ => h3.2.1 hjf,ih (listed.setIfInBounds j true) a' w' hfree' (ready_mono hr (Ne.symm hji)) h3.1 (h3.2.1 hjf hS) ?_⟩) h2
   rw [Array.setIfInBounds_comm _ _ hji]
   exact h3.2.2
theorem zqH {i:Nat} {oi:Oper} {v:Value} {fuel:Nat} {listed:Array Bool} {a:Act} {w:World} (hi:ops[i]? = some oi)
  (hk:(Region.noSelect ops && Region.free md ops listed i && (Region.ready md ops listed).contains i && ze2 md ops fin i) = true)
  (hQ:∀ c a w,Q (.panic c) (a.put oi.dst v) w → Q (.panic c) a w) (hy:YieldsIf P ops S oi v a) (hS:S w)
  (h:zc4 P md ops Q S fin fuel (listed.setIfInBounds i true) (a.put oi.dst v) w):zc4 P md ops Q S fin (fuel + 1) listed a w:=by
 simp only [Bool.and_eq_true] at hk
 obtain ⟨⟨⟨hs,hf⟩,hr⟩,hw⟩:=hk
 exact zpe hi (Region.noSelect_spec hs) hQ hw fuel listed a w (Region.free_spec hi hf) (by simpa using hr) hy hS h
theorem znW {i:Nat} {oi:Oper} {v:Value} (hi:ops[i]? = some oi) (hsel:∀ (j:Nat) (o:Oper) cs b,ops[j]? = some o → o.op ≠ .select cs b)
  (hQ:∀ c a w,Q (.panic c) (a.put oi.dst v) w → Q (.panic c) a w) :
  ∀ (fuel:Nat) (listed:Array Bool) (a:Act) (w:World),
   (∀ j oj,ops[j]? = some oj → j ≠ i → listed.getD j true = false → (∀ e ∈ oj.after,Region.binds md e = true → e.on ≠ i) → oi.apart ops oj = true) →
   i ∈ Region.ready md ops listed → YieldsIf P ops (fun _ => True) oi v a →
   zc4 P md ops Q S fin fuel (listed.setIfInBounds i true) (a.put oi.dst v) w → zc4 P md ops Q S fin (fuel + 1) listed a w:=by
 intro fuel
 induction fuel with
 | zero =>
  intro listed a w _ hr hy H
  refine ⟨fun h => (by rw [h] at hr;cases hr),fun j hj => ?_⟩
  by_cases hji:j = i
  ·subst hji;exact hy.wpOp hi trivial ⟨fun _ h => h,H⟩
  ·have:=ready_mono hj hji
   rw [H.1] at this
   cases this
 | succ fuel ih =>
  intro listed a w hfree hr hy H
  refine ⟨fun h => (by rw [h] at hr;cases hr),fun j hj => ?_⟩
  by_cases hji:j = i
  ·subst hji;exact hy.wpOp hi trivial ⟨fun _ h => h,H⟩
  ·have h1:=H.2 j (ready_mono hj hji)
   obtain ⟨hjun,oj,hoj,hall⟩:=mem_ready.1 hj
   have hnot:∀ e ∈ oj.after,Region.binds md e = true → e.on ≠ i:=fun e he hb heq => by
    have h1:=hall e he hb
    have h0:=(mem_ready.1 hr).1
    rw [heq] at h1
    rcases Nat.lt_or_ge i listed.size with h' | h'
    ·simp [h'] at h0 h1;rw [h0] at h1;cases h1
    ·simp [Array.getElem?_eq_none h'] at h1
   have h2:=wpOp_putIf hoj (hfree j oj hoj hji hjun hnot) (fun cs b => hsel i oi cs b hi) (fun cs b => hsel j oj cs b hoj) hQ hy h1
   have hfree':∀ k ok,ops[k]? = some ok → k ≠ i → (listed.setIfInBounds j true).getD k true = false →
     (∀ e ∈ ok.after,Region.binds md e = true → e.on ≠ i) → oi.apart ops ok = true:=fun k ok hk hki hun hno => by
    refine hfree k ok hk hki ?_ hno
    by_cases hjk:j = k
    ·subst hjk;exact hjun
    ·rw [getD_set_ne true hjk] at hun;exact hun
   refine wpOp_mono (fun a' w' h3 => ⟨h3.2.1,ih (listed.setIfInBounds j true) a' w' hfree' (ready_mono hr (Ne.symm hji)) h3.1 ?_⟩) h2
   rw [Array.setIfInBounds_comm _ _ hji]
   exact h3.2.2
theorem zfQ {i:Nat} {oi:Oper} {v:Value} {fuel:Nat} {listed:Array Bool} {a:Act} {w:World} (hi:ops[i]? = some oi)
  (hk:(Region.noSelect ops && Region.free md ops listed i && (Region.ready md ops listed).contains i) = true)
  (hQ:∀ c a w,Q (.panic c) (a.put oi.dst v) w → Q (.panic c) a w) (hy:YieldsIf P ops (fun _ => True) oi v a)
  (h:zc4 P md ops Q S fin fuel (listed.setIfInBounds i true) (a.put oi.dst v) w):zc4 P md ops Q S fin (fuel + 1) listed a w:=by
 simp only [Bool.and_eq_true] at hk
 obtain ⟨⟨hs,hf⟩,hr⟩:=hk
 exact znW hi (Region.noSelect_spec hs) hQ fuel listed a w (Region.free_spec hi hf) (by simpa using hr) hy h
theorem zaN (i:Nat) {o:Oper} {fuel:Nat} {listed:Array Bool} {a:Act} {w:World} (ho:ops[i]? = some o:=by rfl) (hr:Region.ready md ops listed = [i]:=by kernel_rfl)
  (h:∀ K':Act → World → Prop,Shut (∀ a w,S w → (S w → zc4 P md ops Q S fin fuel (listed.setIfInBounds i true) a w) → K' a w) → if Region.wanted o (yielded ops a.tmps) = true then Oper.wp P o a w K' Q else K' (a.put o.dst undef) w) :
  zc4 P md ops Q S fin (fuel + 1) listed a w :=
 ⟨fun h0 => (by rw [hr] at h0;cases h0),fun j hj => by
  rw [hr] at hj
  rcases List.mem_cons.1 hj with rfl | hj
  ·exact wpOp_step ho fun K' hK => h K' fun a w hS hW => hK a w ⟨fun _ _ => hS,hW hS⟩
  ·cases hj⟩
theorem zba {o:Oper} {fuel:Nat} {listed:Array Bool} {a:Act} {w:World} (ho:ops[fin]? = some o:=by rfl) (hr:Region.ready md ops listed = [fin]:=by kernel_rfl)
  (h:∀ K':Act → World → Prop,Shut (∀ a w,zc4 P md ops Q S fin fuel (listed.setIfInBounds fin true) a w → K' a w) → if Region.wanted o (yielded ops a.tmps) = true then Oper.wp P o a w K' Q else K' (a.put o.dst undef) w) :
  zc4 P md ops Q S fin (fuel + 1) listed a w :=
 ⟨fun h0 => (by rw [hr] at h0;cases h0),fun j hj => by
  rw [hr] at hj
  rcases List.mem_cons.1 hj with rfl | hj
  ·exact wpOp_step ho fun K' hK => h K' fun a w hW => hK a w ⟨fun hne => absurd rfl hne,hW⟩
  ·cases hj⟩
theorem za1 {listed:Array Bool} {a:Act} {w:World} {fuel:Nat} (hr:Region.ready md ops listed = []:=by kernel_rfl) (h:Q .normal a w):zc4 P md ops Q S fin fuel listed a w:=by
 cases fuel
 ·exact ⟨hr,h⟩
 ·exact ⟨fun _ => h,by rw [hr];simp⟩
theorem za2 (fin:Nat) {id:Nat} {a:Act} {w:World} (hm:P.follows .mixedOrders = true:=by kernel_rfl) (hS:S w.drew:=by ((try go_split_ands);(try simp only [World.cell?_drew]);with_reducible repeat' first | assumption | apply And.intro | refine Proofs.YtdbgbaiekpbaoaaGreatDoor.cell_set (by omega) ?_ | refine Proofs.YtdbgbaiekpbaoaaGreatDoor.cell_al ?_))
  (h:S w.drew → zc4 P .any ops Q S fin ops.size (Array.replicate ops.size false) a w.drew):(Code.region id ops true).wp P Q a w :=
 wp_region_any hm (zmf _ _ _ _ (h hS))
def zcp (P:Program) (md:Region.Mode) (ops:Array Oper) (Q:Exit → Act → World → Prop) (S:World → Prop) (late:Nat → Bool):Nat → Array Bool → Act → World → Prop
  | 0,listed,a,w => Region.ready md ops listed = [] ∧ Q .normal a w
  | fuel + 1,listed,a,w =>
    (Region.ready md ops listed = [] → Q .normal a w) ∧
    ∀ i ∈ Region.ready md ops listed,wpOp P ops Q i (fun a' w' => (late i = false → S w → S w') ∧ zcp P md ops Q S late fuel (listed.setIfInBounds i true) a' w') a w
theorem zmg {late:Nat → Bool}:∀ (fuel:Nat) (listed:Array Bool) (a:Act) (w:World),zcp P md ops Q S late fuel listed a w → wpAny P md ops Q fuel listed a w
 | 0,_,_,_,h => h
 | fuel + 1,_,_,_,h => ⟨h.1,fun i hi => wpOp_mono (fun a' w' h' => zmg fuel _ a' w' h'.2) (h.2 i hi)⟩
theorem zjd {late:Nat → Bool} {i:Nat} {oi:Oper} {v:Value} {S':World → Prop} (hi:ops[i]? = some oi) (hsel:∀ (j:Nat) (o:Oper) cs b,ops[j]? = some o → o.op ≠ .select cs b)
  (hQ:∀ c a w,Q (.panic c) (a.put oi.dst v) w → Q (.panic c) a w) (hw:(∀ j,late j = true → ze2 md ops j i = true) ∧ (∀ w,S w → S' w) ∨ ∀ w,S' w) :
  ∀ (fuel:Nat) (listed:Array Bool) (a:Act) (w:World),
   (∀ j oj,ops[j]? = some oj → j ≠ i → listed.getD j true = false → (∀ e ∈ oj.after,Region.binds md e = true → e.on ≠ i) → oi.apart ops oj = true) →
   i ∈ Region.ready md ops listed → YieldsIf P ops S' oi v a → (S w ∨ ∀ w,S' w) →
   zcp P md ops Q S late fuel (listed.setIfInBounds i true) (a.put oi.dst v) w → zcp P md ops Q S late (fuel + 1) listed a w:=by
 have hSS:∀ w,(S w ∨ ∀ w,S' w) → S' w:=fun w h => by
  rcases h with h | h
  ·rcases hw with hw | hw
   ·exact hw.2 w h
   ·exact hw w
  ·exact h w
 intro fuel
 induction fuel with
 | zero =>
  intro listed a w _ hr hy hS H
  refine ⟨fun h => (by rw [h] at hr;cases hr),fun j hj => ?_⟩
  by_cases hji:j = i
  ·subst hji;exact hy.wpOp hi (hSS w hS) ⟨fun _ h => h,H⟩
  ·have:=ready_mono hj hji
   rw [H.1] at this
   cases this
 | succ fuel ih =>
  intro listed a w hfree hr hy hS H
  refine ⟨fun h => (by rw [h] at hr;cases hr),fun j hj => ?_⟩
  by_cases hji:j = i
  ·subst hji;exact hy.wpOp hi (hSS w hS) ⟨fun _ h => h,H⟩
  ·have h1:=H.2 j (ready_mono hj hji)
   obtain ⟨hjun,oj,hoj,hall⟩:=mem_ready.1 hj
   have hnot:∀ e ∈ oj.after,Region.binds md e = true → e.on ≠ i:=fun e he hb heq => by
    have h1:=hall e he hb
    have h0:=(mem_ready.1 hr).1
    rw [heq] at h1
    rcases Nat.lt_or_ge i listed.size with h' | h'
    ·simp [h'] at h0 h1;rw [h0] at h1;cases h1
    ·simp [Array.getElem?_eq_none h'] at h1
   have h2:=wpOp_putIf hoj (hfree j oj hoj hji hjun hnot) (fun cs b => hsel i oi cs b hi) (fun cs b => hsel j oj cs b hoj) hQ hy h1
   have hfree':∀ k ok,ops[k]? = some ok → k ≠ i → (listed.setIfInBounds j true).getD k true = false →
     (∀ e ∈ ok.after,Region.binds md e = true → e.on ≠ i) → oi.apart ops ok = true:=fun k ok hk hki hun hno => by
    refine hfree k ok hk hki ?_ hno
    by_cases hjk:j = k
    ·subst hjk;exact hjun
    ·rw [getD_set_ne true hjk] at hun;exact hun
   have hS2:∀ w',(late j = false → S w → S w') → (S w' ∨ ∀ w,S' w):=fun w' h => by
    rcases hS with hS | hS
    ·rcases hw with hw | hw
     ·refine .inl (h ?_ hS)
      cases hl:late j with
      | false => rfl
      | true => exact absurd hj (zpa (hw.1 j hl) hr)
     ·exact .inr hw
    ·exact .inr hS
   refine wpOp_mono (fun a' w' h3 => ⟨h3.2.1,ih (listed.setIfInBounds j true) a' w' hfree' (ready_mono hr (Ne.symm hji)) h3.1 (hS2 w' h3.2.1) ?_⟩) h2
   rw [Array.setIfInBounds_comm _ _ hji]
   exact h3.2.2
def zrC (md:Region.Mode) (ops:Array Oper) (late:List Nat) (i:Nat):Bool:=late.all fun j => ze2 md ops j i
theorem zqI {late:List Nat} {i:Nat} {oi:Oper} {v:Value} {fuel:Nat} {listed:Array Bool} {a:Act} {w:World} (hi:ops[i]? = some oi)
  (hk:(Region.noSelect ops && Region.free md ops listed i && (Region.ready md ops listed).contains i && zrC md ops late i) = true)
  (hQ:∀ c a w,Q (.panic c) (a.put oi.dst v) w → Q (.panic c) a w) (hy:YieldsIf P ops S oi v a) (hS:S w)
  (h:zcp P md ops Q S late.contains fuel (listed.setIfInBounds i true) (a.put oi.dst v) w):zcp P md ops Q S late.contains (fuel + 1) listed a w:=by
 simp only [Bool.and_eq_true] at hk
 obtain ⟨⟨⟨hs,hf⟩,hr⟩,hw⟩:=hk
 exact zjd hi (Region.noSelect_spec hs) hQ (.inl ⟨fun j hj => List.all_eq_true.1 hw j (by simpa using hj),fun _ h => h⟩) fuel listed a w (Region.free_spec hi hf) (by simpa using hr) hy (.inl hS) h
theorem zpf {late:List Nat} {i:Nat} {oi:Oper} {v:Value} {fuel:Nat} {listed:Array Bool} {a:Act} {w:World} (hi:ops[i]? = some oi)
  (hk:(Region.noSelect ops && Region.free md ops listed i && (Region.ready md ops listed).contains i) = true)
  (hQ:∀ c a w,Q (.panic c) (a.put oi.dst v) w → Q (.panic c) a w) (hy:YieldsIf P ops (fun _ => True) oi v a)
  (h:zcp P md ops Q S late.contains fuel (listed.setIfInBounds i true) (a.put oi.dst v) w):zcp P md ops Q S late.contains (fuel + 1) listed a w:=by
 simp only [Bool.and_eq_true] at hk
 obtain ⟨⟨hs,hf⟩,hr⟩:=hk
 exact zjd hi (Region.noSelect_spec hs) hQ (.inr fun _ => trivial) fuel listed a w (Region.free_spec hi hf) (by simpa using hr) hy (.inr fun _ => trivial) h
theorem zaB {late:List Nat} (i:Nat) {o:Oper} {fuel:Nat} {listed:Array Bool} {a:Act} {w:World} (ho:ops[i]? = some o:=by rfl) (hr:Region.ready md ops listed = [i]:=by kernel_rfl)
  (h:∀ K':Act → World → Prop,Shut (∀ a w,S w → (S w → zcp P md ops Q S late.contains fuel (listed.setIfInBounds i true) a w) → K' a w) → if Region.wanted o (yielded ops a.tmps) = true then Oper.wp P o a w K' Q else K' (a.put o.dst undef) w) :
  zcp P md ops Q S late.contains (fuel + 1) listed a w :=
 ⟨fun h0 => (by rw [hr] at h0;cases h0),fun j hj => by
  rw [hr] at hj
  rcases List.mem_cons.1 hj with rfl | hj
  ·exact wpOp_step ho fun K' hK => h K' fun a w hS hW => hK a w ⟨fun _ _ => hS,hW hS⟩
  ·cases hj⟩
theorem zme {late:List Nat} {i j:Nat} {oi oj:Oper} {fuel:Nat} {listed:Array Bool} {a:Act} {w:World} (hoi:ops[i]? = some oi) (hoj:ops[j]? = some oj) (hr:Region.ready md ops listed = [i,j])
  (h1:∀ K':Act → World → Prop,Shut (∀ a w,S w → (S w → zcp P md ops Q S late.contains fuel (listed.setIfInBounds i true) a w) → K' a w) → if Region.wanted oi (yielded ops a.tmps) = true then Oper.wp P oi a w K' Q else K' (a.put oi.dst undef) w)
  (h2:∀ K':Act → World → Prop,Shut (∀ a w,S w → (S w → zcp P md ops Q S late.contains fuel (listed.setIfInBounds j true) a w) → K' a w) → if Region.wanted oj (yielded ops a.tmps) = true then Oper.wp P oj a w K' Q else K' (a.put oj.dst undef) w) :
  zcp P md ops Q S late.contains (fuel + 1) listed a w :=
 ⟨fun h0 => (by rw [hr] at h0;cases h0),fun k hk => by
  rw [hr] at hk
  rcases List.mem_cons.1 hk with rfl | hk
  ·exact wpOp_step hoi fun K' hK => h1 K' fun a w hS hW => hK a w ⟨fun _ _ => hS,hW hS⟩
  ·rcases List.mem_cons.1 hk with rfl | hk
   ·exact wpOp_step hoj fun K' hK => h2 K' fun a w hS hW => hK a w ⟨fun _ _ => hS,hW hS⟩
   ·cases hk⟩
theorem zay {late:List Nat} (i:Nat) {o:Oper} {fuel:Nat} {listed:Array Bool} {a:Act} {w:World} (ho:ops[i]? = some o:=by rfl) (hr:Region.ready md ops listed = [i]:=by kernel_rfl) (hl:late.contains i = true:=by kernel_rfl)
  (h:∀ K':Act → World → Prop,Shut (∀ a w,zcp P md ops Q S late.contains fuel (listed.setIfInBounds i true) a w → K' a w) → if Region.wanted o (yielded ops a.tmps) = true then Oper.wp P o a w K' Q else K' (a.put o.dst undef) w) :
  zcp P md ops Q S late.contains (fuel + 1) listed a w :=
 ⟨fun h0 => (by rw [hr] at h0;cases h0),fun j hj => by
  rw [hr] at hj
  rcases List.mem_cons.1 hj with rfl | hj
  ·exact wpOp_step ho fun K' hK => h K' fun a w hW => hK a w ⟨fun hne => absurd hne (by rw [hl];decide),hW⟩
  ·cases hj⟩
theorem zaM {late:Nat → Bool} {listed:Array Bool} {a:Act} {w:World} {fuel:Nat} (hr:Region.ready md ops listed = []:=by kernel_rfl) (h:Q .normal a w):zcp P md ops Q S late fuel listed a w:=by
 cases fuel
 ·exact ⟨hr,h⟩
 ·exact ⟨fun _ => h,by rw [hr];simp⟩
theorem zaS (late:List Nat) {id:Nat} {a:Act} {w:World} (hm:P.follows .mixedOrders = true:=by kernel_rfl) (hS:S w.drew:=by ((try go_split_ands);(try simp only [World.cell?_drew]);with_reducible repeat' first | assumption | apply And.intro | refine Proofs.YtdbgbaiekpbaoaaGreatDoor.cell_set (by omega) ?_ | refine Proofs.YtdbgbaiekpbaoaaGreatDoor.cell_al ?_))
  (h:S w.drew → zcp P .any ops Q S late.contains ops.size (Array.replicate ops.size false) a w.drew):(Code.region id ops true).wp P Q a w :=
 wp_region_any hm (zmg _ _ _ _ (h hS))
def tk (o:List Nat) (X:Prop):Prop := ∀ n:List Nat,n = o → X
theorem zaw {X:Prop} (o:List Nat) (h:tk o X):X:=h o rfl
theorem zao {X:Prop} (h:X):tk [] X:=fun _ _ => h
section
variable {i:Nat} {o:List Nat} {oi:Oper} {v:Value} {fuel:Nat} {listed:Array Bool} {a a':Act} {w:World} {late:List Nat}
theorem tkL (hi:ops[i]? = some oi:=by rfl)
  (hk:(Region.noSelect ops && Region.free md ops listed i && (Region.ready md ops listed).contains i && zrC md ops late i) = true:=by kernel_rfl)
  (hQ:∀ c a w,Q (.panic c) (a.put oi.dst v) w → Q (.panic c) a w:=by exact fun _ _ _ h => h) (hw:Region.wanted oi (yielded ops a.tmps) = true:=by rfl) (hy:∀ w,S w → (execOp a.eval oi).run P w = .ok (.value v) w:=by ((intro w hSw;(try dsimp only at hSw);go_simp);(try with_reducible rfl))) (ha:a.put oi.dst v = a':=by first | (simp only [Act.put,pu1,pu2,pu3,pu4,pu5,pu6];rfl) | rfl) (hS:S w)
  (h:tk o (zcp P md ops Q S late.contains fuel (listed.setIfInBounds i true) a' w)):tk (i :: o) (zcp P md ops Q S late.contains (fuel + 1) listed a w) :=
 fun _ _ => by subst ha;exact zqI hi hk hQ (.inl ⟨hw,hy⟩) hS (h _ rfl)
theorem skH (hi:ops[i]? = some oi:=by rfl) (hs:Region.noSelect ops = true:=by kernel_rfl) (hf:Region.free md ops listed i = true:=by kernel_rfl) (hr:(Region.ready md ops listed).contains i = true:=by kernel_rfl)
  (hQ:∀ c a w,Q (.panic c) (a.put oi.dst undef) w → Q (.panic c) a w:=by exact fun _ _ _ h => h) (hn:Region.wanted oi (yielded ops a.tmps) = false:=by kernel_rfl) (ha:a.put oi.dst undef = a':=by first | (simp only [Act.put,pu1,pu2,pu3,pu4,pu5,pu6];rfl) | rfl) (hS:S w)
  (h:tk o (wpAnyH P md ops Q S fuel (listed.setIfInBounds i true) a' w)):tk (i :: o) (wpAnyH P md ops Q S (fuel + 1) listed a w) :=
 fun _ _ => by subst ha;exact wpAnyH_take hi hs hf hr hQ (.inr ⟨hn,rfl⟩) hS (h _ rfl)
theorem tkX (hi:ops[i]? = some oi:=by rfl)
  (hk:(Region.noSelect ops && Region.free md ops listed i && (Region.ready md ops listed).contains i) = true:=by kernel_rfl)
  (hQ:∀ c a w,Q (.panic c) (a.put oi.dst v) w → Q (.panic c) a w:=by exact fun _ _ _ h => h) (hw:Region.wanted oi (yielded ops a.tmps) = true:=by rfl) (hy:∀ w,True → (execOp a.eval oi).run P w = .ok (.value v) w:=by ((intro w hSw;(try dsimp only at hSw);go_simp);(try with_reducible rfl))) (ha:a.put oi.dst v = a':=by first | (simp only [Act.put,pu1,pu2,pu3,pu4,pu5,pu6];rfl) | rfl)
  (h:tk o (zcp P md ops Q S late.contains fuel (listed.setIfInBounds i true) a' w)):tk (i :: o) (zcp P md ops Q S late.contains (fuel + 1) listed a w) :=
 fun _ _ => by subst ha;exact zpf hi hk hQ (.inl ⟨hw,hy⟩) (h _ rfl)
theorem tkE {fin:Nat} (hi:ops[i]? = some oi:=by rfl)
  (hk:(Region.noSelect ops && Region.free md ops listed i && (Region.ready md ops listed).contains i && ze2 md ops fin i) = true:=by kernel_rfl)
  (hQ:∀ c a w,Q (.panic c) (a.put oi.dst v) w → Q (.panic c) a w:=by exact fun _ _ _ h => h) (hw:Region.wanted oi (yielded ops a.tmps) = true:=by rfl) (hy:∀ w,S w → (execOp a.eval oi).run P w = .ok (.value v) w:=by ((intro w hSw;(try dsimp only at hSw);go_simp);(try with_reducible rfl))) (ha:a.put oi.dst v = a':=by first | (simp only [Act.put,pu1,pu2,pu3,pu4,pu5,pu6];rfl) | rfl) (hS:S w)
  (h:tk o (zc4 P md ops Q S fin fuel (listed.setIfInBounds i true) a' w)):tk (i :: o) (zc4 P md ops Q S fin (fuel + 1) listed a w) :=
 fun _ _ => by subst ha;exact zqH hi hk hQ (.inl ⟨hw,hy⟩) hS (h _ rfl)
theorem tkH (hi:ops[i]? = some oi:=by rfl)
  (hk:(Region.noSelect ops && Region.free md ops listed i && (Region.ready md ops listed).contains i) = true:=by kernel_rfl)
  (hQ:∀ c a w,Q (.panic c) (a.put oi.dst v) w → Q (.panic c) a w:=by exact fun _ _ _ h => h) (hw:Region.wanted oi (yielded ops a.tmps) = true:=by rfl) (hy:∀ w,S w → (execOp a.eval oi).run P w = .ok (.value v) w:=by ((intro w hSw;(try dsimp only at hSw);go_simp);(try with_reducible rfl))) (ha:a.put oi.dst v = a':=by first | (simp only [Act.put,pu1,pu2,pu3,pu4,pu5,pu6];rfl) | rfl) (hS:S w)
  (h:tk o (wpAnyH P md ops Q S fuel (listed.setIfInBounds i true) a' w)):tk (i :: o) (wpAnyH P md ops Q S (fuel + 1) listed a w):=by
 simp only [Bool.and_eq_true] at hk
 subst ha;exact fun _ _ => wpAnyH_take hi hk.1.1 hk.1.2 hk.2 hQ (.inl ⟨hw,hy⟩) hS (h _ rfl)
end
end
end Go
namespace Am
def zfV (p:List Rat) (may:List Bool):Nat → Nat → Option Nat
  | 0,_ => none
  | f + 1,j => if may.getD j false = true ∧ el p j < 0 then some j else zfV p may f (j + 1)
def zdi (p:List Rat) (may:List Bool):Option Nat:=zfV p may p.length 0
theorem zKj (p:List Rat) (may:List Bool):∀ f s,match zfV p may f s with
  | none => ∀ j,s ≤ j → j < s + f → may.getD j false = true → 0 ≤ el p j
  | some b => s ≤ b ∧ b < s + f ∧ may.getD b false = true ∧ el p b < 0 ∧ ∀ j,s ≤ j → j < b → may.getD j false = true → 0 ≤ el p j
 | 0,s => by simp only [zfV];intro j h1 h2;omega
 | f + 1,s => by
  have ih:=zKj p may f (s + 1)
  simp only [zfV]
  by_cases h:may.getD s false = true ∧ el p s < 0
  ·rw [if_pos h]
   exact ⟨Nat.le_refl _,by omega,h.1,h.2,fun j h1 h2 => by omega⟩
  ·rw [if_neg h]
   have h0:may.getD s false = true → 0 ≤ el p s:=fun hm => by
    have : ¬ el p s < 0:=fun h2 => h ⟨hm,h2⟩
    grind
   cases hb:zfV p may f (s + 1) with
   | none =>
    rw [hb] at ih
    simp only at ih ⊢
    intro j h1 h2 hm
    by_cases e:j = s
    ·rw [e];exact h0 (by rw [← e];exact hm)
    ·exact ih j (by omega) (by omega) hm
   | some b =>
    rw [hb] at ih
    simp only at ih ⊢
    obtain ⟨i1,i2,i3,i4,i5⟩:=ih
    refine ⟨by omega,by omega,i3,i4,fun j h1 h2 hm => ?_⟩
    by_cases e:j = s
    ·rw [e];exact h0 (by rw [← e];exact hm)
    ·exact i5 j (by omega) h2 hm
def znH (cols:List Nat) (xs col:List Rat):Nat → Option Nat
  | 0 => none
  | k + 1 => if 0 < el col k then
      match znH cols xs col k with
      | none => some k
      | some b => if el xs k / el col k < el xs b / el col b ∨ (el xs k / el col k = el xs b / el col b ∧ cols.getD k 0 < cols.getD b 0) then some k else some b
    else znH cols xs col k
def zDG (cols:List Nat) (xs col:List Rat):Option Nat:=znH cols xs col (min col.length cols.length)
theorem zKk (cols:List Nat) (xs col:List Rat):∀ n,match znH cols xs col n with
  | none => ∀ k,k < n → el col k ≤ 0
  | some b => b < n ∧ 0 < el col b ∧ ∀ k,k < n → 0 < el col k → el xs b / el col b ≤ el xs k / el col k ∧ (cols.getD k 0 < cols.getD b 0 → el xs b / el col b < el xs k / el col k)
 | 0 => by simp only [znH];intro k h;omega
 | n + 1 => by
  have ih:=zKk cols xs col n
  simp only [znH]
  by_cases hx:0 < el col n
  ·rw [if_pos hx]
   cases h:znH cols xs col n with
   | none =>
    rw [h] at ih
    simp only at ih ⊢
    refine ⟨by omega,hx,fun k hk hp => ?_⟩
    by_cases e:k = n
    ·rw [e];exact ⟨Rat.le_refl,fun h => by omega⟩
    ·have:=ih k (by omega);grind
   | some b =>
    rw [h] at ih
    simp only at ih ⊢
    obtain ⟨i1,i2,i3⟩:=ih
    by_cases hq:el xs n / el col n < el xs b / el col b ∨ (el xs n / el col n = el xs b / el col b ∧ cols.getD n 0 < cols.getD b 0)
    ·rw [if_pos hq]
     refine ⟨by omega,hx,fun k hk hp => ?_⟩
     by_cases e:k = n
     ·rw [e];exact ⟨Rat.le_refl,fun h => by omega⟩
     ·have g:=i3 k (by omega) hp
      rcases hq with hq | ⟨hq,hc⟩
      ·exact ⟨by grind,fun _ => by grind⟩
      ·exact ⟨by grind,fun hk2 => by have:=g.2 (by omega);grind⟩
    ·rw [if_neg hq]
     refine ⟨by omega,i2,fun k hk hp => ?_⟩
     by_cases e:k = n
     ·subst e
      have h1:¬ el xs k / el col k < el xs b / el col b:=fun h => hq (.inl h)
      refine ⟨by grind,fun hk2 => ?_⟩
      have h2:¬ el xs k / el col k = el xs b / el col b:=fun h => hq (.inr ⟨h,hk2⟩)
      grind
     ·exact i3 k (by omega) hp
  ·rw [if_neg hx]
   cases h:znH cols xs col n with
   | none =>
    rw [h] at ih
    simp only at ih ⊢
    intro k hk
    by_cases e:k = n
    ·rw [e];grind
    ·exact ih k (by omega)
   | some b =>
    rw [h] at ih
    simp only at ih ⊢
    obtain ⟨i1,i2,i3⟩:=ih
    refine ⟨by omega,i2,fun k hk hp => ?_⟩
    by_cases e:k = n
    ·subst e;exact absurd hp hx
    ·exact i3 k (by omega) hp
def zBX (N:Nat) (A:List (List Rat)) (b c:List Rat) (may:List Bool) (cols:List Nat):Next :=
  match zdi (zaC N A cols c) may with
  | none => .stop
  | some j => match zDG cols (za5 A b cols) (zav A cols j) with
    | none => .bad j
    | some k => .piv k j
def zyF (m:Nat) (A:List (List Rat)) (b:List Rat) (cols:List Nat):Prop := ∀ k,k < m → 0 ≤ el (za5 A b cols) k
section
variable {m N:Nat} {A:List (List Rat)} {b c:List Rat} {may:List Bool}
structure PPiv (m N:Nat) (A:List (List Rat)) (b c:List Rat) (may:List Bool) (cols:List Nat) (k j:Nat):Prop where
  hk:k < m
  hj:j < N
  hm:may.getD j false = true
  d:el (zaC N A cols c) j < 0
  dl:∀ i,i < j → may.getD i false = true → 0 ≤ el (zaC N A cols c) i
  t:0 < el (zav A cols j) k
  q:∀ l,l < m → 0 < el (zav A cols j) l → el (za5 A b cols) k / el (zav A cols j) k ≤ el (za5 A b cols) l / el (zav A cols j) l ∧ (cols.getD l 0 < cols.getD k 0 → el (za5 A b cols) k / el (zav A cols j) k < el (za5 A b cols) l / el (zav A cols j) l)
theorem zKp {cols:List Nat} (hc:c.length = N):(zaC N A cols c).length = N:=by unfold zaC;rw [zdt (by rw [zkb,hc]),hc]
theorem zK6 {cols:List Nat} (h:Basis m N A cols) (hc:c.length = N) {k j:Nat} (e:zBX N A b c may cols = .piv k j):PPiv m N A b c may cols k j:=by
 have lp:=zKp (A:=A) (cols:=cols) hc
 unfold zBX at e
 have s1:=zKj (zaC N A cols c) may N 0
 split at e
 ·cases e
 ·rename_i j' h1
  unfold zdi at h1
  rw [lp] at h1
  rw [h1] at s1
  simp only at s1
  split at e
  ·cases e
  ·rename_i k' h2
   injection e with e1 e2
   subst e1 e2
   unfold zDG at h2
   rw [(h.column_ok _).2,h.len,Nat.min_self] at h2
   have s2:=zKk cols (za5 A b cols) (zav A cols j') m
   rw [h2] at s2
   simp only at s2
   obtain ⟨_,a1,a2,a3,a4⟩:=s1
   obtain ⟨b1,b2,b3⟩:=s2
   exact ⟨b1,by omega,a2,a3,fun i hi hm => a4 i (Nat.zero_le _) hi hm,b2,b3⟩
theorem zo9 {cols:List Nat} (h:Basis m N A cols) {k j:Nat} (hk:k < m) (hj:j < N) (hp:el (zav A cols j) k ≠ 0):za5 A b (cols.set k j) = zsC m k (zav A cols j) (za5 A b cols):=by
 have h':=h.swap hk hj hp
 have e:=zp3 h.sq hk (h.column_ok j).1 hp (h.vals_ok b).1
 rw [← zq6] at e
 have:=znS h'.sq h'.reg e (zng _ _ _ _)
 rw [this];unfold za5;rw [h'.len]
theorem PPiv.feas {cols:List Nat} (h:Basis m N A cols) {k j:Nat} (p:PPiv m N A b c may cols k j) (f:zyF m A b cols):zyF m A b (cols.set k j):=by
 intro l hl
 rw [zo9 h p.hk p.hj (by have:=p.t;grind),zkK hl]
 have q0:0 ≤ el (za5 A b cols) k / el (zav A cols j) k:=by
  rw [Rat.div_def];exact Rat.mul_nonneg (f k p.hk) (Rat.le_of_lt (Rat.inv_pos.2 p.t))
 split
 ·exact q0
 ·by_cases hp:0 < el (zav A cols j) l
  ·have g:=(p.q l hl hp).1
   have e:el (za5 A b cols) l / el (zav A cols j) l * el (zav A cols j) l = el (za5 A b cols) l:=Rat.div_mul_cancel (by grind)
   have:=Rat.mul_le_mul_of_nonneg_right g (Rat.le_of_lt hp)
   grind
  ·have:=Rat.mul_nonneg (show 0 ≤ -el (zav A cols j) l by grind) q0
   have:=f l hl
   grind
end
end Am
namespace Am
def sgn (q:Rat):Rat:=if q < 0 then -1 else 1
theorem zDO (q:Rat):sgn q * sgn q = 1:=by unfold sgn;split <;> grind
def zt0 (A:List (List Rat)) (b:List Rat):List (List Rat):=(List.range A.length).map fun k => ((A.getD k []).map fun x => sgn (el b k) * x) ++ zdL A.length k
def zwh (b:List Rat):List Rat:=b.map fun q => sgn q * q
def zKb (m:Nat) (c:List Rat):List Rat:=c ++ List.replicate m 0
def zJG (N m:Nat):List Rat:=List.replicate N 0 ++ List.replicate m 1
def zKa (N m:Nat):List Nat:=(List.range m).map fun k => N + k
def zKc (N m:Nat):List Bool:=List.replicate N true ++ List.replicate m false
theorem zyo {f:Rat → Rat} {xs:List Rat} {j:Nat} (h:j < xs.length):el (xs.map f) j = f (el xs j):=by
 conv => lhs;unfold el
 rw [zbU _ _ h 0];rfl
section
variable {m N:Nat} {A:List (List Rat)} {b c:List Rat} (hA:Rect m N A) (hb:b.length = m)
include hA
theorem zwg {k:Nat} (h:k < m):(zt0 A b).getD k [] = ((A.getD k []).map fun x => sgn (el b k) * x) ++ zdL m k:=by
 unfold zt0;rw [zbU _ _ (by rw [List.length_range,hA.len];exact h) 0,zcA (by rw [hA.len];exact h),hA.len]
theorem zwf {k j:Nat} (h:k < m) (hj:j < N):en (zt0 A b) k j = sgn (el b k) * en A k j:=by
 unfold en;rw [zwg hA h,zkF (by rw [List.length_map,hA.row k h];exact hj),zyo (by rw [hA.row k h];exact hj)]
omit hA in
theorem zzj {b:List Rat} {i:Nat} (h:i < b.length):el (zwh b) i = sgn (el b i) * el b i:=by unfold zwh;rw [zyo h]
include hb
end
section
variable {m N:Nat} {A:List (List Rat)} {b c:List Rat} {may:List Bool}
end
end Am
namespace Am
def zkZ (xs:List Rat):Nat → Nat → Option Nat
  | 0,_ => none
  | f + 1,j => if el xs j = 0 then zkZ xs f (j + 1) else some j
def zuz (own N:Nat) (A:List (List Rat)) (k:Nat) (cn:List Nat × Nat):List Nat × Nat :=
  if own ≤ cn.1.getD k 0 then match zkZ (zk8 N A cn.1 k) own 0 with
    | none => cn
    | some j => (cn.1.set k j,cn.2 + 1)
  else cn
def zAd (own N:Nat) (A:List (List Rat)) (cols:List Nat):Nat → List Nat × Nat
  | 0 => (cols,0)
  | k + 1 => zuz own N A k (zAd own N A cols k)
section
variable {m N own:Nat} {A:List (List Rat)} {b c:List Rat} {may:List Bool}
theorem zpV {cols:List Nat} (h:Basis m N A cols) {k j:Nat} (hk:k < m) (hj:j < N) (hp:el (zav A cols j) k ≠ 0) (i:Nat):zav A (cols.set k j) i = zsC m k (zav A cols j) (zav A cols i):=by
 have h':=h.swap hk hj hp
 have e:=zp3 h.sq hk (h.column_ok j).1 hp (h.column_ok i).1
 rw [← zq6] at e
 have:=znS h'.sq h'.reg e (zng _ _ _ _)
 rw [this];unfold zav;rw [h'.len]
structure Own (m N own:Nat) (A:List (List Rat)) (b:List Rat) (cols:List Nat) (K:Nat):Prop where
  basis:Basis m N A cols
  feas:zyF m A b cols
  zero:∀ k,k < m → own ≤ cols.getD k 0 → el (za5 A b cols) k = 0
  line:∀ k,k < K → k < m → own ≤ cols.getD k 0 → ∀ j,j < own → el (zav A cols j) k = 0
theorem Own.piv {cols:List Nat} (h:Own m N own A b cols m) {k j:Nat} (p:PPiv m N A b c may cols k j) (hj:j < own):Own m N own A b (cols.set k j) m:=by
 have hp:el (zav A cols j) k ≠ 0:=by have:=p.t;grind
 have gd:∀ l,(cols.set k j).getD l 0 = if k = l then j else cols.getD l 0:=fun l => gset (by rw [h.basis.len];exact p.hk)
 refine ⟨h.basis.swap p.hk p.hj hp,p.feas h.basis h.feas,fun l hl hlo => ?_,fun l _ hl hlo i hi => ?_⟩
 ·rw [gd l] at hlo
  split at hlo
  ·omega
  ·rename_i hne
   rw [zo9 h.basis p.hk p.hj hp,zkK hl,if_neg (Ne.symm hne),h.line l hl hl hlo j hj,h.zero l hl hlo];grind
 ·rw [gd l] at hlo
  split at hlo
  ·omega
  ·rename_i hne
   rw [zpV h.basis p.hk p.hj hp,zkK hl,if_neg (Ne.symm hne),h.line l hl hl hlo j hj,h.line l hl hl hlo i hi];grind
theorem Own.seq {cols:List Nat} (h:Own m N own A b cols m) (hc:c.length = N) (hm:∀ j,may.getD j false = true → j < own):∀ i,Own m N own A b (zvo (zBX N A b c may) cols i) m
 | 0 => h
 | i + 1 => by
  have ih:=Own.seq h hc hm i
  rw [zvo]
  split
  ·rename_i k j e
   have p:=zK6 ih.basis hc e
   exact ih.piv p (hm j p.hm)
  ·exact ih
end
section
variable {m N:Nat} {A:List (List Rat)} {b c:List Rat} (hA:Rect m N A) (hb:b.length = m)
theorem zsq {z:Nat → Rat} (hz:∀ i,i < m → zai (N + m) (fun j => en (zt0 A b) i j * z j) = el (zwh b) i) (h0:∀ t,t < m → z (N + t) = 0) (hA:Rect m N A) (hb:b.length = m):∀ i,i < m → zai N (fun j => en A i j * z j) = el b i:=by
 intro i hi
 have e:=hz i hi
 rw [zgc _ N m,zcn (f:=fun t => en (zt0 A b) i (N + t) * z (N + t)) fun t ht => by rw [h0 t ht];grind,zzj (by omega)] at e
 have e1:zai N (fun j => en (zt0 A b) i j * z j) = sgn (el b i) * zai N (fun j => en A i j * z j):=by
  rw [← za7];exact zaj fun j hj => by rw [zwf hA hi hj];grind
 rw [e1] at e
 have s:=zDO (el b i)
 have e2:sgn (el b i) * sgn (el b i) * zai N (fun j => en A i j * z j) = sgn (el b i) * sgn (el b i) * el b i:=by grind
 rw [s] at e2;grind
theorem Own.art_zero {cols:List Nat} (h:Own m (N + m) N (zt0 A b) (zwh b) cols m) {t:Nat} (_:t < m):pt m (fun k => cols.getD k 0) (el (za5 (zt0 A b) (zwh b) cols)) (N + t) = 0:=by
 by_cases hb:Bas m (fun k => cols.getD k 0) (N + t)
 ·obtain ⟨k,hk,e⟩:=hb
  simp only at e
  rw [← e,zA7 h.basis.inj _ hk]
  exact h.zero k hk (by rw [e];omega)
 ·exact zyz _ hb
theorem Own.fits {cols:List Nat} (h:Own m (N + m) N (zt0 A b) (zwh b) cols m) (hA:Rect m N A) (hb:b.length = m) :
  (∀ j,0 ≤ pt m (fun k => cols.getD k 0) (el (za5 (zt0 A b) (zwh b) cols)) j) ∧ ∀ i,i < m → zai N (fun j => en A i j * pt m (fun k => cols.getD k 0) (el (za5 (zt0 A b) (zwh b) cols)) j) = el b i:=by
 refine ⟨fun j => ?_,zsq (h.basis.dic (zwh b)).pt_sol (fun t ht => h.art_zero ht) hA hb⟩
 by_cases hb:Bas m (fun k => cols.getD k 0) j
 ·obtain ⟨k,hk,rfl⟩:=hb
  rw [zA7 h.basis.inj _ hk];exact h.feas k hk
 ·rw [zyz _ hb];exact Rat.le_refl
end
end Am
namespace Go.Proofs.YtdbgbaiekpbaoaaGreatDoor
open Go.RowKit Am
set_option maxHeartbeats 1000000
theorem zfG {P:Program} (w:World) (t tn ty e:TypeId) (i:TypeInfo) (z:Value) (kn:IntKind) (ht:P.underlying t = some (.slice e)) (htn:P.underlying tn = some (.int kn)) (hi:P.info? e = some i) (hz:i.zero = some z)
  (g zKx sCap:Nat) (cur:Array Value) (hg:w.heap[g]? = some (.cells cur e (0,0))) (k:Nat) (hs:0 < i.size) (hzs:z.cells.size = i.size) (hroom:zKx + k ≤ sCap) (h63:((zKx + k:Nat):Int) ≤ 9223372036854775807) (h48:k * i.bytes ≤ 281474976710656)
  (hfit:zKx * i.size + (Builtin.zeroCells z.cells k).toList.length ≤ cur.size) (h1:∀ u ∈ (Builtin.zeroCells z.cells k).toList,u.oneCell' = true) :
  (Builtin.append_ #[t,tn] ty #[.slice (some ⟨g,0,none⟩) zKx sCap, .int .i64 k]).run P w =
   .ok (.slice (some ⟨g,0,none⟩) (zKx + k) sCap) (w.setRow g (cur.toList.take (zKx * i.size) ++ (Builtin.zeroCells z.cells k).toList ++ cur.toList.drop (zKx * i.size + (Builtin.zeroCells z.cells k).toList.length)).toArray):=by
 have hw:IntKind.i64.wrap (k:Int) = k:=by rw [IntKind.wrap_i64];omega
 have hneg:¬ ((k:Int) < 0):=by omega
 have h48i:¬ (281474976710656 < (k:Int) * (i.bytes:Int)):=by rw [← Int.natCast_mul];omega
 have hst:=run_storeCells_at P g (zKx * i.size) e (Builtin.zeroCells z.cells k).toList 0 cur w hg (by simpa using hfit) h1
 simp only [Nat.add_zero] at hst
 by_cases hk:k = 0
 ·subst hk
  have e0:Builtin.zeroCells z.cells 0 = #[]:=by simp [Builtin.zeroCells]
  rw [e0] at hst ⊢
  have hw0:IntKind.i64.wrap (0:Int) = 0:=by decide
  have hr0:zKx ≤ sCap:=hroom
  simp [Builtin.append_,run_underlying ht,run_underlying htn,sizeOf,typeInfo,zeroValue,hi,hz,asInt,asIntOf,hw0,hr0,Addr.add_lit] at hst ⊢
  simp [hst]
 ·have hns:¬ (k * i.size = 0):=Nat.mul_ne_zero hk (by omega)
  simp [Builtin.append_,run_underlying ht,run_underlying htn,sizeOf,typeInfo,zeroValue,hi,hz,asInt,asIntOf,hw,hneg,hns,h48i,hroom,Addr.add_lit,hst]
theorem zgk {P:Program} (w:World) (base:Nat) (t tn ty e:TypeId) (i:TypeInfo) (z:Value) (size bytes:Nat) (kn:IntKind) (ht:P.underlying t = some (.slice e)) (htn:P.underlying tn = some (.int kn)) (hi:P.info? e = some i) (hz:i.zero = some z)
  (hsize:i.size = size) (hby:i.bytes = bytes) (hzs:z.cells.size = size) (hsz:0 < size)
  (v:Value) (n:Nat) (xs:List Value) (hown:w.ownsRow base e size v n xs) (m:Nat) (h1:∀ u ∈ (Builtin.zeroCells z.cells m).toList,u.oneCell' = true)
  (h63:n + m ≤ maxLen) (hbytes:(n + m) * bytes ≤ 140737488355328) (hbase:base ≤ w.heap.size) :
  ∃ v' w',(Builtin.append_ #[t,tn] ty #[v, .int .i64 m]).run P w = .ok v' w' ∧ w'.ownsRow base e size v' (n + m) (xs ++ (Builtin.zeroCells z.cells m).toList) ∧ w.grownBy w' v.ownBlock:=by
 subst hsize
 subst hby
 have hsmall:n + m ≤ 9223372036854775807:=by simp only [maxLen] at h63;omega
 have hl:(Builtin.zeroCells z.cells m).toList.length = m * i.size:=by rw [Array.length_toList,size_zeroCells,hzs]
 have hb2:m * i.bytes ≤ 140737488355328:=Nat.le_trans (Nat.mul_le_mul_right _ (by omega)) hbytes
 have hlen:(xs ++ (Builtin.zeroCells z.cells m).toList).length = (n + m) * i.size:=by rw [List.length_append,hown.1,hl,Nat.add_mul]
 have grown:∀ (old:Nat),old < n + m → ∀ (row:Option Nat),
   (w.drew.alloc (.cells (xs.toArray ++ Builtin.zeroCells z.cells m ++ Builtin.zeroCells z.cells (grownCap w (n + m) old e - (n + m))) e)).ownsRow base e i.size
    (.slice (some ⟨w.heap.size,0,none⟩) (n + m) (grownCap w (n + m) old e)) (n + m) (xs ++ (Builtin.zeroCells z.cells m).toList) ∧
   w.grownBy (w.drew.alloc (.cells (xs.toArray ++ Builtin.zeroCells z.cells m ++ Builtin.zeroCells z.cells (grownCap w (n + m) old e - (n + m))) e)) row:=by
  intro old ho row
  have hge:=grownCap_ge w (n + m) old e
  have hcm:grownCap w (n + m) old e ≤ maxLen:=grownCap_le_maxLen w (n + m) old e h63
  refine ⟨⟨hlen, .inr ⟨w.heap.size,_,_,rfl,hbase,heap_alloc_new w.drew _,hge,hcm,?_,?_⟩⟩,⟨rfl,rfl,rfl,by simp,fun k hk _ => Below.heap_alloc w.drew _ k hk⟩⟩
  ·simp only [Array.size_append,List.size_toArray,size_zeroCells,hzs,hown.1, ← Nat.add_mul]
   congr 1
   omega
  ·simp only [Array.toList_append,List.append_assoc]
   rw [← List.append_assoc, ← hlen]
   exact List.take_left
 rcases hown.2 with ⟨rfl,rfl⟩ | ⟨g,cap,cur,rfl,hbg,hg,hnc,hcm,hcs,htake⟩
 ·have hx:xs = []:=List.eq_nil_of_length_eq_zero (by simpa using hown.1)
  subst hx
  by_cases hm:m = 0
  ·subst hm
   have e0:(Builtin.zeroCells z.cells 0).toList = []:=by simp [Builtin.zeroCells]
   rw [e0]
   refine ⟨.slice none 0 0,w,?_,World.ownsRow_nil w base e i.size,⟨rfl,rfl,rfl,Nat.le_refl _,fun _ _ _ => rfl⟩⟩
   have hw:IntKind.i64.wrap (0:Int) = 0:=by decide
   simp [Builtin.append_,run_underlying ht,run_underlying htn,sizeOf,typeInfo,hi,asInt,asIntOf,hw]
  ·have hr:=Lib.run_append_nil_zeros (P:=P) w t tn ty e i z .i64 kn ht htn hi hz m (by omega) hsz (by omega) (by omega)
   have hgr:=grown 0 (by omega) (Value.ownBlock (.slice none 0 0))
   simp only [Nat.zero_add,List.nil_append,Array.empty_append] at hgr ⊢
   exact ⟨_,_,hr,hgr.1,hgr.2⟩
 ·by_cases hroom:n + m ≤ cap
  ·have hfit:n * i.size + (Builtin.zeroCells z.cells m).toList.length ≤ cur.size:=by rw [hl,hcs, ← Nat.add_mul];exact Nat.mul_le_mul_right _ hroom
   have hr:=zfG (P:=P) w t tn ty e i z kn ht htn hi hz g n cap cur hg m hsz hzs hroom (by omega) (by omega) hfit h1
   refine ⟨_,_,hr,⟨hlen, .inr ⟨g,cap,_,rfl,hbg,setRow_heap w g cur _ e _ hg,hroom,hcm,?_,?_⟩⟩,⟨rfl,rfl,rfl,by simp,fun k _ hk => setRow_other w g k _ (fun e => hk (by simp [Value.ownBlock,e]))⟩⟩
   ·simp only [List.size_toArray,List.length_append,List.length_take,List.length_drop,Array.length_toList] at hfit ⊢
    omega
   ·rw [htake, ← hlen]
    exact List.take_left
  ·have holds:∀ j u,xs[j]? = some u → w.cell? ((⟨g,0,none⟩:Addr).add j) = some u:=hown.cells (g:=g) rfl
   have hold:(Builtin.firstCells i.size n (.slice (some ⟨g,0,none⟩) n cap)).run P w.drew = .ok xs.toArray w.drew:=by
    have h:=run_loadCells_list (P:=P) w.drew ⟨g,0,none⟩ xs holds
    rw [hown.1] at h
    simpa [Builtin.firstCells] using h
   have hr:=Lib.run_append_grow_zeros (P:=P) w t tn ty e i z .i64 kn ht htn hi hz (some ⟨g,0,none⟩) n cap xs hold m (by omega) hsz (by omega) (by omega) (by omega) (growslice_fits (by omega) (by omega))
   have hgr:=grown cap (by omega) (some g)
   exact ⟨_,_,hr,hgr.1,hgr.2⟩
end Go.Proofs.YtdbgbaiekpbaoaaGreatDoor
