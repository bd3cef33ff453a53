/- Problems: what lies in memory,and the laws of it. Conditions: as each says. Runs of pivots: what they come to,by any budget;the dual's end ahead of as many pivots as there are bases. Conditions: as each says. A problem's standard form,as lists;where each row leaves something that makes a basis,and it is right where no cost is below 0. Conditions: as each says. What the dual's end tells of the problem itself: nothing fits,or numbers that fit and cost just what the rows are worth. Conditions: as each says. The primal's pivots: what comes in,what leaves,the point stays where it may be;its end ahead of as many pivots as there are bases. Conditions: as each says. A problem begun with a column more for each row: its basis,its point;the first phase ends at its least. Conditions: as each says. Between the phases,and the second one: the added columns stay at 0;what the end tells of the problem begun with. Conditions: as each says. append of made noughts to a row of the call's own. Conditions: as each says. Conditions: as they say. -/
import Derived.Test.YtdbgbaiekpbaoaaGreatDoorVec1Zq
import Derived.Test.YtdbgbaiekpbaoaaGreatDoorEtaZq
import Derived.Test.YtdbgbaiekpbaoaaGreatDoorWord3Zq
import Derived.Lib.AppendZerosOnto
set_option linter.all false
namespace Go.Proofs.YtdbgbaiekpbaoaaGreatDoor
open Go.RowKit Am
set_option maxHeartbeats 1000000
set_option maxRecDepth 100000
structure PRow where
  coef:List Rat
  kind:Int
  rhs:Rat
instance:Inhabited PRow:=⟨⟨[],0,0⟩⟩
structure RR where
  c:Value
  k:Int
  g:Bool
  s:Value
  d:Value
def zcW (l:List RR):List Value:=l.flatMap fun r => [r.c, .int .i64 r.k, .bool r.g,r.s,r.d]
theorem zd4 (r:RR) (l:List RR):zcW (r :: l) = r.c :: .int .i64 r.k :: .bool r.g :: r.s :: r.d :: zcW l:=by simp [zcW]
theorem zqG (l:List RR):∀ (k:Nat) (r:RR),l[k]? = some r → (zcW l)[k * 5]? = some r.c ∧ (zcW l)[k * 5 + 1]? = some (.int .i64 r.k) ∧ (zcW l)[k * 5 + 2]? = some (.bool r.g) ∧ (zcW l)[k * 5 + 3]? = some r.s ∧ (zcW l)[k * 5 + 4]? = some r.d:=by
 induction l with
 | nil => intro k r h;simp at h
 | cons a l ih =>
  intro k r h
  rw [zd4]
  cases k with
  | zero => simp at h;subst h;simp
  | succ k =>
   have:=ih k r (by simpa using h)
   rw [show (k + 1) * 5 = k * 5 + 1 + 1 + 1 + 1 + 1 by omega]
   simpa using this
theorem zpb (l:List RR):∀ (k:Nat) (c:Value),(zcW l).set (k * 5) c = zcW (l.modify k fun r => { r with c:=c }):=by
 induction l with
 | nil => intro k c;simp [zcW]
 | cons a l ih =>
  intro k c
  cases k with
  | zero => simp [zd4]
  | succ k => rw [show (k + 1) * 5 = k * 5 + 1 + 1 + 1 + 1 + 1 by omega,zd4];simp [zd4,ih]
structure RowS (w:World) (r:RR) (p:PRow):Prop where
  coef:VecS w 0 r.c p.coef
  kind:r.k = p.kind
  rhs:RatS w r.g r.s r.d p.rhs
structure RowsS (w:World) (H:Nat) (v:Value) (ps:List PRow):Prop where
  row:∃ l:List RR,l.length = ps.length ∧ (∀ (k:Nat) (r:RR) (p:PRow),l[k]? = some r → ps[k]? = some p → RowS w r p) ∧ w.ownsRow H 110 5 v ps.length (zcW l)
theorem RowS.below {w w':World} {r:RR} {p:PRow} (h:RowS w r p) (hb:Below w.heap.size w w'):RowS w' r p:=⟨h.coef.below hb,h.kind,h.rhs.below hb⟩
namespace RowsS
variable {w w':World} {H:Nat} {v:Value} {ps:List PRow}
theorem lt (h:RowsS w H v ps) {k:Nat} (hk:v.ownBlock = some k):H ≤ k ∧ k < w.heap.size:=by
 obtain ⟨l,_,_,h⟩:=h.row;exact h.lt k hk
theorem keepAll (h:RowsS w H v ps) (hk:∀ k,v.ownBlock = some k → w'.heap[k]? = w.heap[k]?) (hr:∀ r p,RowS w r p → RowS w' r p):RowsS w' H v ps:=by
 obtain ⟨l,h1,h2,h3⟩:=h.row
 exact ⟨l,h1,fun k r q a b => hr _ _ (h2 k r q a b),zc9 h3 hk⟩
theorem below (h:RowsS w H v ps) (hb:Below w.heap.size w w'):RowsS w' H v ps:=h.keepAll (fun k hk => hb.block k (h.lt hk).2) fun _ _ r => r.below hb
theorem alloc (h:RowsS w H v ps) (o:Obj):RowsS (w.alloc o) H v ps:=h.below (zae w o)
theorem drew (h:RowsS w H v ps):RowsS w.drew H v ps:=h.below (zap w 1)
theorem base {H':Nat} (h:RowsS w H v ps) (hb:H' ≤ H):RowsS w H' v ps:=by
 obtain ⟨l,h1,h2,h3⟩:=h.row;exact ⟨l,h1,h2,zbu h3 hb⟩
theorem nil (w:World) (H:Nat):RowsS w H (.slice none 0 0) []:=⟨[],rfl,fun k r q h => by simp at h,World.ownsRow_nil _ _ _ _⟩
theorem form {A:Option Addr} {n c:Nat} (h:RowsS w H (.slice A n c) ps):n = ps.length ∧ n ≤ c ∧ c ≤ maxLen ∧ ((A = none ∧ c = 0 ∧ ps = []) ∨ ∃ g,A = some ⟨g,0,none⟩ ∧ H ≤ g ∧ g < w.heap.size):=by
 obtain ⟨l,h1,_,h3⟩:=h.row
 rcases h3.2 with ⟨hv,hn⟩ | ⟨g,cap,cur,hv,hg,hh,hn,hm,_⟩
 ·injection hv with e1 e2 e3
  subst e1 e2 e3
  exact ⟨hn.symm,Nat.le_refl _,Nat.zero_le _, .inl ⟨rfl,rfl,List.length_eq_zero_iff.1 hn⟩⟩
 ·injection hv with e1 e2 e3
  subst e1 e2 e3
  exact ⟨rfl,hn,hm, .inr ⟨g,rfl,hg,(Array.getElem?_eq_some_iff.1 hh).1⟩⟩
theorem len {A:Option Addr} {n c:Nat} (h:RowsS w H (.slice A n c) ps):n = ps.length:=h.form.1
theorem has {A:Option Addr} {n c:Nat} (h:RowsS w H (.slice A n c) ps) (hn:0 < n):∃ g,A = some ⟨g,0,none⟩ ∧ H ≤ g ∧ g < w.heap.size:=by
 obtain ⟨h1,h2,h3,h4 | h4⟩:=h.form
 ·omega
 ·exact h4
theorem slice (h:RowsS w H v ps):∃ A n c,v = .slice A n c:=by
 obtain ⟨l,h1,_,h3⟩:=h.row
 rcases h3.2 with ⟨hv,hn⟩ | ⟨g,cap,cur,hv,_⟩
 ·exact ⟨_,_,_,hv⟩
 ·exact ⟨_,_,_,hv⟩
theorem fro {b n c:Nat} (h:RowsS w H (.slice (some ⟨b,0,none⟩) n c) ps) (j:Nat):w.frozen? ⟨b,j,none⟩ = false:=by
 have hn:=h.len
 subst hn
 obtain ⟨l,h1,h2,h3⟩:=h.row
 exact h3.frozenAt j
theorem at_ {b n c:Nat} (h:RowsS w H (.slice (some ⟨b,0,none⟩) n c) ps) {k:Nat} {p:PRow} (hk:ps[k]? = some p) :
  ∃ (C:Option Addr) (nc cc:Nat) (g:Bool) (A:Option Addr) (m c:Nat) (D:Option Addr) (md cd:Nat),w.cell? ⟨b,k * 5,none⟩ = some (.slice C nc cc) ∧ w.cell? ⟨b,k * 5 + 1,none⟩ = some (.int .i64 p.kind) ∧ w.cell? ⟨b,k * 5 + 2,none⟩ = some (.bool g) ∧
   w.cell? ⟨b,k * 5 + 3,none⟩ = some (.slice A m c) ∧ w.cell? ⟨b,k * 5 + 4,none⟩ = some (.slice D md cd) ∧ VecS w 0 (.slice C nc cc) p.coef ∧ RatS w g (.slice A m c) (.slice D md cd) p.rhs:=by
 have hn:=h.len
 subst hn
 obtain ⟨l,h1,h2,h3⟩:=h.row
 have hk':k < ps.length:=(List.getElem?_eq_some_iff.1 hk).1
 obtain ⟨r,hr⟩:∃ r,l[k]? = some r:=⟨l[k]'(by omega),List.getElem?_eq_getElem _⟩
 have hq:=h2 k r p hr hk
 obtain ⟨C,nc,cc,e0⟩:=hq.coef.slice
 obtain ⟨A,m,c,D,md,cd,e1,e2⟩:=hq.rhs.shape
 obtain ⟨g0,g1,g2,g3,g4⟩:=zqG l k r hr
 refine ⟨C,nc,cc,r.g,A,m,c,D,md,cd,?_,?_,?_,?_,?_,?_,?_⟩
 ·rw [h3.cellAt _ (by omega),g0,e0]
 ·rw [h3.cellAt _ (by omega),g1,hq.kind]
 ·rw [h3.cellAt _ (by omega)];exact g2
 ·rw [h3.cellAt _ (by omega),g3,e1]
 ·rw [h3.cellAt _ (by omega),g4,e2]
 ·rw [← e0];exact hq.coef
 ·rw [← e1, ← e2];exact hq.rhs
end RowsS
end Go.Proofs.YtdbgbaiekpbaoaaGreatDoor
namespace Am
inductive Next where
  | stop:Next
  | bad:Nat → Next
  | piv:Nat → Nat → Next
structure RunOut where
  cols:List Nat
  at_:Option Nat
  n:Nat
  err:Bool
def pivs (next:List Nat → Next):Nat → List Nat → RunOut
  | 0,cols => match next cols with
    | .stop => ⟨cols,none,0,false⟩
    | .bad k => ⟨cols,some k,0,false⟩
    | .piv _ _ => ⟨cols,none,0,true⟩
  | f + 1,cols => match next cols with
    | .stop => ⟨cols,none,0,false⟩
    | .bad k => ⟨cols,some k,0,false⟩
    | .piv k j => { pivs next f (cols.set k j) with n:=(pivs next f (cols.set k j)).n + 1 }
def zvo (next:List Nat → Next) (cols:List Nat):Nat → List Nat
  | 0 => cols
  | i + 1 => match next (zvo next cols i) with
    | .piv k j => (zvo next cols i).set k j
    | _ => zvo next cols i
theorem zmc (next:List Nat → Next) (cols:List Nat) {k j:Nat} (h:next cols = .piv k j):∀ i,zvo next cols (i + 1) = zvo next (cols.set k j) i
 | 0 => by simp only [zvo,h]
 | i + 1 => by rw [zvo,zmc next cols h i];rfl
theorem zoW (next:List Nat → Next):∀ f cols,(pivs next f cols).cols = zvo next cols (pivs next f cols).n ∧ (∀ i,i < (pivs next f cols).n → ∃ k j,next (zvo next cols i) = .piv k j) ∧
  ((pivs next f cols).err = true → (pivs next f cols).n = f ∧ ∃ k j,next (zvo next cols f) = .piv k j) ∧
  ((pivs next f cols).err = false → next (zvo next cols (pivs next f cols).n) = match (pivs next f cols).at_ with | none => .stop | some k => .bad k) ∧ ((pivs next f cols).err = true → (pivs next f cols).at_ = none)
 | 0,cols => by
  unfold pivs;split
  ·rename_i h;exact ⟨rfl,fun i hi => absurd hi (Nat.not_lt_zero _),fun h => (by cases h),fun _ => h,fun _ => rfl⟩
  ·rename_i h;exact ⟨rfl,fun i hi => absurd hi (Nat.not_lt_zero _),fun h => (by cases h),fun _ => h,fun h => (by cases h)⟩
  ·rename_i h;exact ⟨rfl,fun i hi => absurd hi (Nat.not_lt_zero _),fun _ => ⟨rfl,_,_,h⟩,fun h => (by cases h),fun _ => rfl⟩
 | f + 1,cols => by
  unfold pivs;split
  ·rename_i h;exact ⟨rfl,fun i hi => absurd hi (Nat.not_lt_zero _),fun h => (by cases h),fun _ => h,fun _ => rfl⟩
  ·rename_i h;exact ⟨rfl,fun i hi => absurd hi (Nat.not_lt_zero _),fun h => (by cases h),fun _ => h,fun h => (by cases h)⟩
  ·rename_i k j h
   obtain ⟨a,b,c,d,e⟩:=zoW next f (cols.set k j)
   have s:=zmc next cols h
   refine ⟨by rw [s];exact a,fun i hi => ?_,fun he => ?_,fun he => by rw [s];exact d he,e⟩
   ·cases i with
    | zero => exact ⟨k,j,h⟩
    | succ i => rw [s];exact b i (Nat.lt_of_succ_lt_succ hi)
   ·obtain ⟨c1,c2⟩:=c he
    exact ⟨by show _ + 1 = _;omega,by rw [s];exact c2⟩
def zbk (cols:List Nat) (xs:List Rat):Nat → Option Nat
  | 0 => none
  | k + 1 => match zbk cols xs k with
    | none => if el xs k < 0 then some k else none
    | some b => if el xs k < 0 ∧ cols.getD k 0 < cols.getD b 0 then some k else some b
def zi5 (cols:List Nat) (xs:List Rat):Option Nat:=zbk cols xs xs.length
theorem zdk (cols:List Nat) (xs:List Rat):∀ n,match zbk cols xs n with
  | none => ∀ k,k < n → 0 ≤ el xs k
  | some b => b < n ∧ el xs b < 0 ∧ ∀ k,k < n → el xs k < 0 → cols.getD b 0 ≤ cols.getD k 0
 | 0 => by simp only [zbk];intro k hk;omega
 | n + 1 => by
  have ih:=zdk cols xs n
  simp only [zbk]
  cases h:zbk cols xs n with
  | none =>
   rw [h] at ih
   simp only at ih ⊢
   by_cases hx:el xs n < 0
   ·rw [if_pos hx]
    exact ⟨by omega,hx,fun k hk hkx => by
     by_cases e:k = n
     ·rw [e];exact Nat.le_refl _
     ·have:=ih k (by omega);grind⟩
   ·rw [if_neg hx]
    intro k hk
    by_cases e:k = n
    ·rw [e];grind
    ·exact ih k (by omega)
  | some b =>
   rw [h] at ih
   simp only at ih ⊢
   obtain ⟨i1,i2,i3⟩:=ih
   by_cases hx:el xs n < 0 ∧ cols.getD n 0 < cols.getD b 0
   ·rw [if_pos hx]
    exact ⟨by omega,hx.1,fun k hk hkx => by
     by_cases e:k = n
     ·rw [e];exact Nat.le_refl _
     ·have:=i3 k (by omega) hkx;omega⟩
   ·rw [if_neg hx]
    exact ⟨by omega,i2,fun k hk hkx => by
     by_cases e:k = n
     ·subst e;have : ¬ cols.getD k 0 < cols.getD b 0:=fun h2 => hx ⟨hkx,h2⟩
      omega
     ·exact i3 k (by omega) hkx⟩
def za4 (p l:List Rat) (may:List Bool):Nat → Option Nat
  | 0 => none
  | j + 1 => if may.getD j false = true ∧ el l j < 0 then
      match za4 p l may j with
      | none => some j
      | some b => if el p j / -el l j < el p b / -el l b then some j else some b
    else za4 p l may j
def zhy (p l:List Rat) (may:List Bool):Option Nat:=za4 p l may (min p.length (min l.length may.length))
theorem zdW (p l:List Rat) (may:List Bool):∀ n,match za4 p l may n with
  | none => ∀ j,j < n → may.getD j false = true → 0 ≤ el l j
  | some b => b < n ∧ may.getD b false = true ∧ el l b < 0 ∧ ∀ j,j < n → may.getD j false = true → el l j < 0 → el p b / -el l b ≤ el p j / -el l j ∧ (j < b → el p b / -el l b < el p j / -el l j)
 | 0 => by simp only [za4];intro k hk;omega
 | n + 1 => by
  have ih:=zdW p l may n
  simp only [za4]
  by_cases hx:may.getD n false = true ∧ el l n < 0
  ·rw [if_pos hx]
   cases h:za4 p l may n with
   | none =>
    rw [h] at ih
    simp only at ih ⊢
    refine ⟨by omega,hx.1,hx.2,fun j hj hm hl => ?_⟩
    by_cases e:j = n
    ·rw [e];exact ⟨Rat.le_refl,fun h => by omega⟩
    ·have:=ih j (by omega) hm;grind
   | some b =>
    rw [h] at ih
    simp only at ih ⊢
    obtain ⟨i1,i2,i3,i4⟩:=ih
    by_cases hq:el p n / -el l n < el p b / -el l b
    ·rw [if_pos hq]
     refine ⟨by omega,hx.1,hx.2,fun j hj hm hl => ?_⟩
     by_cases e:j = n
     ·rw [e];exact ⟨Rat.le_refl,fun h => by omega⟩
     ·have:=(i4 j (by omega) hm hl).1
      exact ⟨by grind,fun _ => by grind⟩
    ·rw [if_neg hq]
     refine ⟨by omega,i2,i3,fun j hj hm hl => ?_⟩
     by_cases e:j = n
     ·subst e;exact ⟨by grind,fun h => by omega⟩
     ·exact i4 j (by omega) hm hl
  ·rw [if_neg hx]
   cases h:za4 p l may n with
   | none =>
    rw [h] at ih
    simp only at ih ⊢
    intro j hj hm
    by_cases e:j = n
    ·subst e
     have : ¬ el l j < 0:=fun h => hx ⟨hm,h⟩
     grind
    ·exact ih j (by omega) hm
   | some b =>
    rw [h] at ih
    simp only at ih ⊢
    obtain ⟨i1,i2,i3,i4⟩:=ih
    refine ⟨by omega,i2,i3,fun j hj hm hl => ?_⟩
    by_cases e:j = n
    ·subst e;exact absurd ⟨hm,hl⟩ hx
    ·exact i4 j (by omega) hm hl
def zbE (N:Nat) (A:List (List Rat)) (b c:List Rat) (may:List Bool) (cols:List Nat):Next :=
  match zi5 cols (za5 A b cols) with
  | none => .stop
  | some k => match zhy (zaC N A cols c) (zk8 N A cols k) may with
    | none => .bad k
    | some j => .piv k j
def zx5 (N:Nat) (A:List (List Rat)) (c:List Rat) (cols:List Nat):Prop := ∀ j,j < N → 0 ≤ el (zaC N A cols c) j
section
variable {m N:Nat} {A:List (List Rat)} {b c:List Rat}
structure DPiv (m N:Nat) (A:List (List Rat)) (b c:List Rat) (cols:List Nat) (k j:Nat):Prop where
  hk:k < m
  hj:j < N
  x:el (za5 A b cols) k < 0
  xl:∀ l,l < m → el (za5 A b cols) l < 0 → cols.getD k 0 ≤ cols.getD l 0
  t:el (zav A cols j) k < 0
  q:∀ i,i < N → el (zav A cols i) k < 0 → el (zaC N A cols c) j / -el (zav A cols j) k ≤ el (zaC N A cols c) i / -el (zav A cols i) k ∧ (i < j → el (zaC N A cols c) j / -el (zav A cols j) k < el (zaC N A cols c) i / -el (zav A cols i) k)
theorem zwH {cols:List Nat} (h:Basis m N A cols) (hc:c.length = N) {k j:Nat} (e:zbE N A b c (List.replicate N true) cols = .piv k j):DPiv m N A b c cols k j:=by
 have hm:∀ i,i < N → (List.replicate N true).getD i false = true:=fun i hi => by rw [List.getD_eq_getElem?_getD,List.getElem?_replicate,if_pos hi];rfl
 have lp:(zaC N A cols c).length = N:=by unfold zaC;rw [zdt (by rw [zkb,hc]),hc]
 have ll:∀ k,(zk8 N A cols k).length = N:=fun k => zkb _ _ _
 have lm:∀ k,min (zaC N A cols c).length (min (zk8 N A cols k).length (List.replicate N true).length) = N:=fun k => by rw [lp,ll,List.length_replicate];omega
 unfold zbE at e
 have s1:=zdk cols (za5 A b cols) (za5 A b cols).length
 split at e
 ·cases e
 ·rename_i k' h1
  unfold zi5 at h1
  rw [h1,(h.vals_ok b).2] at s1
  simp only at s1
  split at e
  ·cases e
  ·rename_i j' h2
   injection e with e1 e2
   subst e1 e2
   unfold zhy at h2
   rw [lm] at h2
   have s2:=zdW (zaC N A cols c) (zk8 N A cols k') (List.replicate N true) N
   rw [h2] at s2
   simp only at s2
   obtain ⟨a1,a2,a3⟩:=s1
   obtain ⟨b1,b2,b3,b4⟩:=s2
   rw [h.line_el a1 b1] at b3 b4
   exact ⟨a1,b1,a2,a3,b3,fun i hi hl => by
    have:=b4 i hi (hm i hi) (by rw [h.line_el a1 hi];exact hl)
    rw [h.line_el a1 hi] at this;exact this⟩
theorem zox {p q a b:Rat} (ha:0 < a) (hb:0 < b):p / a < q / b ↔ p * b < q * a:=by
 rw [Rat.div_lt_iff ha,show q / b * a = q * a / b by rw [Rat.div_def,Rat.div_def,Rat.mul_assoc,Rat.mul_comm b⁻¹, ← Rat.mul_assoc],Rat.lt_div_iff hb]
theorem DPiv.right {cols:List Nat} (h:Basis m N A cols) (hc:c.length = N) {k j:Nat} (p:DPiv m N A b c cols k j) (r:zx5 N A c cols):zx5 N A c (cols.set k j):=by
 have h':=h.swap p.hk p.hj (by have:=p.t;grind)
 have d0:=h.dic b
 have p0:=h.pri hc
 have p1:=h'.pri hc
 obtain ⟨Y,hY,_⟩:=d0.row k p.hk
 -- what the prices are behind it
 have q0:0 ≤ el (zaC N A cols c) j / -el (zav A cols j) k:=by
  rw [Rat.div_def]
  exact Rat.mul_nonneg (r j p.hj) (Rat.le_of_lt (Rat.inv_pos.2 (by have:=p.t;grind)))
 generalize hth:el (zaC N A cols c) j / -el (zav A cols j) k = th at q0
 have hj0:el (zaC N A cols c) j + th * el (zav A cols j) k = 0:=by
  have:=p.t
  rw [← hth]
  have e:el (zaC N A cols c) j / -el (zav A cols j) k * -el (zav A cols j) k = el (zaC N A cols c) j:=Rat.div_mul_cancel (by grind)
  grind
 have pn:Pri m N (en A) (el c) (fun l => (cols.set k j).getD l 0) (fun i => el (zcl A cols c) i - th * Y i) (fun i => el (zaC N A cols c) i + th * el (zav A cols i) k):=by
  refine ⟨fun i hi => ?_,fun l hl => ?_⟩
  ·show el (zaC N A cols c) i + th * el (zav A cols i) k = _
   rw [p0.eq i hi,hY i hi]
   have : zai m (fun t => (el (zcl A cols c) t - th * Y t) * en A t i) = zai m (fun t => el (zcl A cols c) t * en A t i + (-th) * (Y t * en A t i)):=zaj fun t _ => by grind
   rw [this,zcm,za7];grind
  ·show el (zaC N A cols c) ((cols.set k j).getD l 0) + th * el (zav A cols ((cols.set k j).getD l 0)) k = 0
   rw [gset (by rw [h.len];exact p.hk)]
   by_cases e:k = l
   ·rw [if_pos e];exact hj0
   ·rw [if_neg e]
    have u:el (zav A cols (cols.getD l 0)) k = if l = k then 1 else 0:=d0.uni k l p.hk hl
    rw [u,if_neg (Ne.symm e),p0.zero l hl];grind
 have same:=p1.same pn (h'.dic b) pn.zero
 intro i hi
 rw [same i hi]
 by_cases hl:el (zav A cols i) k < 0
 ·have g:=(p.q i hi hl).1
  rw [hth] at g
  have : th * -el (zav A cols i) k ≤ el (zaC N A cols c) i:=by
   have e:el (zaC N A cols c) i / -el (zav A cols i) k * -el (zav A cols i) k = el (zaC N A cols c) i:=Rat.div_mul_cancel (by grind)
   rw [← e]
   exact Rat.mul_le_mul_of_nonneg_right g (by grind)
  grind
 ·have:=Rat.mul_nonneg q0 (show 0 ≤ el (zav A cols i) k by grind)
  have:=r i hi
  grind
end
end Am
namespace Go.Proofs.YtdbgbaiekpbaoaaGreatDoor
open Go.RowKit Am
def cnt (rows:List PRow):Nat → Nat
  | 0 => 0
  | k + 1 => cnt rows k + if (rows.getD k default).kind = 3 then 0 else 1
theorem zyi (rows:List PRow) {j k:Nat} (h:j ≤ k):cnt rows j ≤ cnt rows k:=by
 induction k with
 | zero => rw [Nat.le_zero.1 h];exact Nat.le_refl _
 | succ k ih =>
  by_cases e:j = k + 1
  ·rw [e];exact Nat.le_refl _
  ·exact Nat.le_trans (ih (by omega)) (show cnt rows k ≤ cnt rows k + _ from Nat.le_add_right _ _)
def zfI (k:Int):Int:=if k = 1 then 1 else -1
def zch (rows:List PRow) (k:Nat):List Rat:=(List.range (cnt rows rows.length)).map fun t => if (rows.getD k default).kind ≠ 3 ∧ t = cnt rows k then ((zfI (rows.getD k default).kind:Int):Rat) else 0
def zc3 (rows:List PRow):List (List Rat):=(List.range rows.length).map fun k => (rows.getD k default).coef ++ zch rows k
def zg8 (rows:List PRow):List Rat:=rows.map fun r => r.rhs
def zjD (cost:List Rat) (rows:List PRow):List Rat:=cost ++ List.replicate (cnt rows rows.length) 0
def zli (n m:Nat):List Nat:=(List.range m).map fun k => n + k
theorem zrT {rows:List PRow} {k:Nat} (h:k < rows.length):(zc3 rows).getD k [] = (rows.getD k default).coef ++ zch rows k:=by
 unfold zc3;rw [zbU _ _ (by simpa using h) 0,zcA h]
theorem zql (rows:List PRow) (k:Nat):(zch rows k).length = cnt rows rows.length:=by simp [zch]
theorem zlk {n:Nat} {rows:List PRow} (h:∀ k,k < rows.length → (rows.getD k default).coef.length = n):Rect rows.length (n + cnt rows rows.length) (zc3 rows) :=
 ⟨by simp [zc3],fun i hi => by rw [zrT hi,List.length_append,h i hi,zql]⟩
theorem zvs {n:Nat} {rows:List PRow} (h:∀ k,k < rows.length → (rows.getD k default).coef.length = n) {k t:Nat} (hk:k < rows.length) (ht:t < cnt rows rows.length) :
  en (zc3 rows) k (n + t) = if (rows.getD k default).kind ≠ 3 ∧ t = cnt rows k then ((zfI (rows.getD k default).kind:Int):Rat) else 0:=by
 unfold en
 rw [zrT hk]
 unfold el
 rw [List.getD_eq_getElem?_getD,List.getElem?_append_right (by rw [h k hk];omega),h k hk,show n + t - n = t by omega]
 unfold zch
 rw [List.getElem?_map,List.getElem?_range ht];rfl
theorem zpU {rows:List PRow} (h:∀ k,k < rows.length → (rows.getD k default).kind ≠ 3):∀ k,k ≤ rows.length → cnt rows k = k
 | 0,_ => rfl
 | k + 1,hk => by rw [cnt,zpU h k (by omega),if_neg (h k (by omega))]
theorem zmd (n m:Nat):(zli n m).length = m:=by simp [zli]
theorem zgb {n m k:Nat} (h:k < m):(zli n m).getD k 0 = n + k:=by unfold zli;rw [zbU _ _ (by simpa using h) 0,zcA h]
section
variable {n:Nat} {rows:List PRow} (hl:∀ k,k < rows.length → (rows.getD k default).coef.length = n) (hk:∀ k,k < rows.length → (rows.getD k default).kind ≠ 3)
include hl hk
theorem zrP {i j:Nat} (hi:i < rows.length) (hj:j < rows.length):en (bc (zc3 rows) (zli n rows.length)) j i = if i = j then ((zfI (rows.getD i default).kind:Int):Rat) else 0:=by
 have hc:=zpU hk
 rw [ztZ (by rw [zmd];exact hj) (by rw [(zlk hl).len];exact hi),zgb hj,zvs hl hi (by rw [hc _ (Nat.le_refl _)];exact hj),hc i (by omega)]
 by_cases e:i = j
 ·rw [if_pos ⟨hk i hi,e.symm⟩,if_pos e]
 ·rw [if_neg (fun h => e h.2.symm),if_neg e]
omit hl hk in
theorem zBi (k:Int):((zfI k:Int):Rat) ≠ 0:=by unfold zfI;split <;> decide
theorem zqz:Basis rows.length (n + rows.length) (zc3 rows) (zli n rows.length):=by
 have hc:=zpU hk rows.length (Nat.le_refl _)
 refine ⟨by have:=zlk hl;rw [hc] at this;exact this,zmd _ _,fun k hk => by rw [zgb hk];omega,fun k l hk hl e => by rw [zgb hk,zgb hl] at e;omega,fun x hx j hj => ?_⟩
 have : zai rows.length (fun i => en (bc (zc3 rows) (zli n rows.length)) i j * x i) = 0:=hx j hj
 rw [zbI (k:=j) hj fun i hi hne => by rw [zrP hl hk hj hi,if_neg (Ne.symm hne)];grind,zrP hl hk hj hj,if_pos rfl] at this
 rcases Rat.mul_eq_zero.1 this with h | h
 ·exact absurd h (zBi _)
 ·exact h
end
end Go.Proofs.YtdbgbaiekpbaoaaGreatDoor
namespace Go.Proofs.YtdbgbaiekpbaoaaGreatDoor
open Go.RowKit Am
def zh1 (N:Nat) (cols:List Nat) (xs:List Rat):List Rat:=(List.range N).map fun j => pt cols.length (fun k => cols.getD k 0) (el xs) j
theorem zl8 (N:Nat) (cols:List Nat) (xs:List Rat):(zh1 N cols xs).length = N:=by simp [zh1]
theorem zvg {N:Nat} {cols:List Nat} {xs:List Rat} {j:Nat} (h:j < N):el (zh1 N cols xs) j = pt cols.length (fun k => cols.getD k 0) (el xs) j:=by
 unfold zh1
 conv => lhs;unfold el
 rw [zbU _ _ (by simpa using h) 0,zcA h]
 rfl
section
variable {n:Nat} {rows:List PRow} (hl:∀ k,k < rows.length → (rows.getD k default).coef.length = n) (hk:∀ k,k < rows.length → (rows.getD k default).kind ≠ 3)
include hl
include hk
omit hl hk in
theorem zKf {i:Nat} (h:i < rows.length):el (zg8 rows) i = (rows.getD i default).rhs:=by
 unfold zg8 el;rw [zbU _ _ h default]
omit hl hk in
theorem zKd {k:Int} (h:k = 1):((zfI k:Int):Rat) = 1:=by unfold zfI;rw [if_pos h];rfl
omit hl hk in
theorem zKe {k:Int} (h:k ≠ 1):((zfI k:Int):Rat) = -1:=by unfold zfI;rw [if_neg h];rfl
end
end Go.Proofs.YtdbgbaiekpbaoaaGreatDoor
namespace Am
def zfV (p:List Rat) (may:List Bool):Nat → Nat → Option Nat
  | 0,_ => none
  | f + 1,j => if may.getD j false = true ∧ el p j < 0 then some j else zfV p may f (j + 1)
def zdi (p:List Rat) (may:List Bool):Option Nat:=zfV p may p.length 0
def znH (cols:List Nat) (xs col:List Rat):Nat → Option Nat
  | 0 => none
  | k + 1 => if 0 < el col k then
      match znH cols xs col k with
      | none => some k
      | some b => if el xs k / el col k < el xs b / el col b ∨ (el xs k / el col k = el xs b / el col b ∧ cols.getD k 0 < cols.getD b 0) then some k else some b
    else znH cols xs col k
def zDG (cols:List Nat) (xs col:List Rat):Option Nat:=znH cols xs col (min col.length cols.length)
def zBX (N:Nat) (A:List (List Rat)) (b c:List Rat) (may:List Bool) (cols:List Nat):Next :=
  match zdi (zaC N A cols c) may with
  | none => .stop
  | some j => match zDG cols (za5 A b cols) (zav A cols j) with
    | none => .bad j
    | some k => .piv k j
def zyF (m:Nat) (A:List (List Rat)) (b:List Rat) (cols:List Nat):Prop := ∀ k,k < m → 0 ≤ el (za5 A b cols) k
section
variable {m N:Nat} {A:List (List Rat)} {b c:List Rat} {may:List Bool}
structure PPiv (m N:Nat) (A:List (List Rat)) (b c:List Rat) (may:List Bool) (cols:List Nat) (k j:Nat):Prop where
  hk:k < m
  hj:j < N
  hm:may.getD j false = true
  d:el (zaC N A cols c) j < 0
  dl:∀ i,i < j → may.getD i false = true → 0 ≤ el (zaC N A cols c) i
  t:0 < el (zav A cols j) k
  q:∀ l,l < m → 0 < el (zav A cols j) l → el (za5 A b cols) k / el (zav A cols j) k ≤ el (za5 A b cols) l / el (zav A cols j) l ∧ (cols.getD l 0 < cols.getD k 0 → el (za5 A b cols) k / el (zav A cols j) k < el (za5 A b cols) l / el (zav A cols j) l)
theorem zo9 {cols:List Nat} (h:Basis m N A cols) {k j:Nat} (hk:k < m) (hj:j < N) (hp:el (zav A cols j) k ≠ 0):za5 A b (cols.set k j) = zsC m k (zav A cols j) (za5 A b cols):=by
 have h':=h.swap hk hj hp
 have e:=zp3 h.sq hk (h.column_ok j).1 hp (h.vals_ok b).1
 rw [← zq6] at e
 have:=znS h'.sq h'.reg e (zng _ _ _ _)
 rw [this];unfold za5;rw [h'.len]
theorem PPiv.feas {cols:List Nat} (h:Basis m N A cols) {k j:Nat} (p:PPiv m N A b c may cols k j) (f:zyF m A b cols):zyF m A b (cols.set k j):=by
 intro l hl
 rw [zo9 h p.hk p.hj (by have:=p.t;grind),zkK hl]
 have q0:0 ≤ el (za5 A b cols) k / el (zav A cols j) k:=by
  rw [Rat.div_def];exact Rat.mul_nonneg (f k p.hk) (Rat.le_of_lt (Rat.inv_pos.2 p.t))
 split
 ·exact q0
 ·by_cases hp:0 < el (zav A cols j) l
  ·have g:=(p.q l hl hp).1
   have e:el (za5 A b cols) l / el (zav A cols j) l * el (zav A cols j) l = el (za5 A b cols) l:=Rat.div_mul_cancel (by grind)
   have:=Rat.mul_le_mul_of_nonneg_right g (Rat.le_of_lt hp)
   grind
  ·have:=Rat.mul_nonneg (show 0 ≤ -el (zav A cols j) l by grind) q0
   have:=f l hl
   grind
end
end Am
namespace Am
def sgn (q:Rat):Rat:=if q < 0 then -1 else 1
theorem zDO (q:Rat):sgn q * sgn q = 1:=by unfold sgn;split <;> grind
def zt0 (A:List (List Rat)) (b:List Rat):List (List Rat):=(List.range A.length).map fun k => ((A.getD k []).map fun x => sgn (el b k) * x) ++ zdL A.length k
def zwh (b:List Rat):List Rat:=b.map fun q => sgn q * q
def zKb (m:Nat) (c:List Rat):List Rat:=c ++ List.replicate m 0
def zJG (N m:Nat):List Rat:=List.replicate N 0 ++ List.replicate m 1
def zKa (N m:Nat):List Nat:=(List.range m).map fun k => N + k
def zKc (N m:Nat):List Bool:=List.replicate N true ++ List.replicate m false
theorem zyo {f:Rat → Rat} {xs:List Rat} {j:Nat} (h:j < xs.length):el (xs.map f) j = f (el xs j):=by
 conv => lhs;unfold el
 rw [zbU _ _ h 0];rfl
section
variable {m N:Nat} {A:List (List Rat)} {b c:List Rat} (hA:Rect m N A) (hb:b.length = m)
include hA
theorem zwg {k:Nat} (h:k < m):(zt0 A b).getD k [] = ((A.getD k []).map fun x => sgn (el b k) * x) ++ zdL m k:=by
 unfold zt0;rw [zbU _ _ (by rw [List.length_range,hA.len];exact h) 0,zcA (by rw [hA.len];exact h),hA.len]
theorem zwf {k j:Nat} (h:k < m) (hj:j < N):en (zt0 A b) k j = sgn (el b k) * en A k j:=by
 unfold en;rw [zwg hA h,zkF (by rw [List.length_map,hA.row k h];exact hj),zyo (by rw [hA.row k h];exact hj)]
omit hA in
theorem zzj {b:List Rat} {i:Nat} (h:i < b.length):el (zwh b) i = sgn (el b i) * el b i:=by unfold zwh;rw [zyo h]
include hb
end
section
variable {m N:Nat} {A:List (List Rat)} {b c:List Rat} {may:List Bool}
end
end Am
namespace Am
def zkZ (xs:List Rat):Nat → Nat → Option Nat
  | 0,_ => none
  | f + 1,j => if el xs j = 0 then zkZ xs f (j + 1) else some j
def zuz (own N:Nat) (A:List (List Rat)) (k:Nat) (cn:List Nat × Nat):List Nat × Nat :=
  if own ≤ cn.1.getD k 0 then match zkZ (zk8 N A cn.1 k) own 0 with
    | none => cn
    | some j => (cn.1.set k j,cn.2 + 1)
  else cn
def zAd (own N:Nat) (A:List (List Rat)) (cols:List Nat):Nat → List Nat × Nat
  | 0 => (cols,0)
  | k + 1 => zuz own N A k (zAd own N A cols k)
section
variable {m N own:Nat} {A:List (List Rat)} {b c:List Rat} {may:List Bool}
theorem zpV {cols:List Nat} (h:Basis m N A cols) {k j:Nat} (hk:k < m) (hj:j < N) (hp:el (zav A cols j) k ≠ 0) (i:Nat):zav A (cols.set k j) i = zsC m k (zav A cols j) (zav A cols i):=by
 have h':=h.swap hk hj hp
 have e:=zp3 h.sq hk (h.column_ok j).1 hp (h.column_ok i).1
 rw [← zq6] at e
 have:=znS h'.sq h'.reg e (zng _ _ _ _)
 rw [this];unfold zav;rw [h'.len]
structure Own (m N own:Nat) (A:List (List Rat)) (b:List Rat) (cols:List Nat) (K:Nat):Prop where
  basis:Basis m N A cols
  feas:zyF m A b cols
  zero:∀ k,k < m → own ≤ cols.getD k 0 → el (za5 A b cols) k = 0
  line:∀ k,k < K → k < m → own ≤ cols.getD k 0 → ∀ j,j < own → el (zav A cols j) k = 0
theorem Own.piv {cols:List Nat} (h:Own m N own A b cols m) {k j:Nat} (p:PPiv m N A b c may cols k j) (hj:j < own):Own m N own A b (cols.set k j) m:=by
 have hp:el (zav A cols j) k ≠ 0:=by have:=p.t;grind
 have gd:∀ l,(cols.set k j).getD l 0 = if k = l then j else cols.getD l 0:=fun l => gset (by rw [h.basis.len];exact p.hk)
 refine ⟨h.basis.swap p.hk p.hj hp,p.feas h.basis h.feas,fun l hl hlo => ?_,fun l _ hl hlo i hi => ?_⟩
 ·rw [gd l] at hlo
  split at hlo
  ·omega
  ·rename_i hne
   rw [zo9 h.basis p.hk p.hj hp,zkK hl,if_neg (Ne.symm hne),h.line l hl hl hlo j hj,h.zero l hl hlo];grind
 ·rw [gd l] at hlo
  split at hlo
  ·omega
  ·rename_i hne
   rw [zpV h.basis p.hk p.hj hp,zkK hl,if_neg (Ne.symm hne),h.line l hl hl hlo j hj,h.line l hl hl hlo i hi];grind
end
section
variable {m N:Nat} {A:List (List Rat)} {b c:List Rat} (hA:Rect m N A) (hb:b.length = m)
theorem zsq {z:Nat → Rat} (hz:∀ i,i < m → zai (N + m) (fun j => en (zt0 A b) i j * z j) = el (zwh b) i) (h0:∀ t,t < m → z (N + t) = 0) (hA:Rect m N A) (hb:b.length = m):∀ i,i < m → zai N (fun j => en A i j * z j) = el b i:=by
 intro i hi
 have e:=hz i hi
 rw [zgc _ N m,zcn (f:=fun t => en (zt0 A b) i (N + t) * z (N + t)) fun t ht => by rw [h0 t ht];grind,zzj (by omega)] at e
 have e1:zai N (fun j => en (zt0 A b) i j * z j) = sgn (el b i) * zai N (fun j => en A i j * z j):=by
  rw [← za7];exact zaj fun j hj => by rw [zwf hA hi hj];grind
 rw [e1] at e
 have s:=zDO (el b i)
 have e2:sgn (el b i) * sgn (el b i) * zai N (fun j => en A i j * z j) = sgn (el b i) * sgn (el b i) * el b i:=by grind
 rw [s] at e2;grind
theorem Own.art_zero {cols:List Nat} (h:Own m (N + m) N (zt0 A b) (zwh b) cols m) {t:Nat} (_:t < m):pt m (fun k => cols.getD k 0) (el (za5 (zt0 A b) (zwh b) cols)) (N + t) = 0:=by
 by_cases hb:Bas m (fun k => cols.getD k 0) (N + t)
 ·obtain ⟨k,hk,e⟩:=hb
  simp only at e
  rw [← e,zA7 h.basis.inj _ hk]
  exact h.zero k hk (by rw [e];omega)
 ·exact zyz _ hb
theorem Own.fits {cols:List Nat} (h:Own m (N + m) N (zt0 A b) (zwh b) cols m) (hA:Rect m N A) (hb:b.length = m) :
  (∀ j,0 ≤ pt m (fun k => cols.getD k 0) (el (za5 (zt0 A b) (zwh b) cols)) j) ∧ ∀ i,i < m → zai N (fun j => en A i j * pt m (fun k => cols.getD k 0) (el (za5 (zt0 A b) (zwh b) cols)) j) = el b i:=by
 refine ⟨fun j => ?_,zsq (h.basis.dic (zwh b)).pt_sol (fun t ht => h.art_zero ht) hA hb⟩
 by_cases hb:Bas m (fun k => cols.getD k 0) j
 ·obtain ⟨k,hk,rfl⟩:=hb
  rw [zA7 h.basis.inj _ hk];exact h.feas k hk
 ·rw [zyz _ hb];exact Rat.le_refl
end
end Am
namespace Go.Proofs.YtdbgbaiekpbaoaaGreatDoor
open Go.RowKit Am
set_option maxHeartbeats 1000000
theorem zfG {P:Program} (w:World) (t tn ty e:TypeId) (i:TypeInfo) (z:Value) (kn:IntKind) (ht:P.underlying t = some (.slice e)) (htn:P.underlying tn = some (.int kn)) (hi:P.info? e = some i) (hz:i.zero = some z)
  (g sLen sCap:Nat) (cur:Array Value) (hg:w.heap[g]? = some (.cells cur e (0,0))) (k:Nat) (hs:0 < i.size) (hzs:z.cells.size = i.size) (hroom:sLen + k ≤ sCap) (h63:((sLen + k:Nat):Int) ≤ 9223372036854775807) (h48:k * i.bytes ≤ 281474976710656)
  (hfit:sLen * i.size + (Builtin.zeroCells z.cells k).toList.length ≤ cur.size) (h1:∀ u ∈ (Builtin.zeroCells z.cells k).toList,u.oneCell' = true) :
  (Builtin.append_ #[t,tn] ty #[.slice (some ⟨g,0,none⟩) sLen sCap, .int .i64 k]).run P w =
   .ok (.slice (some ⟨g,0,none⟩) (sLen + k) sCap) (w.setRow g (cur.toList.take (sLen * i.size) ++ (Builtin.zeroCells z.cells k).toList ++ cur.toList.drop (sLen * i.size + (Builtin.zeroCells z.cells k).toList.length)).toArray):=by
 have hw:IntKind.i64.wrap (k:Int) = k:=by rw [IntKind.wrap_i64];omega
 have hneg:¬ ((k:Int) < 0):=by omega
 have h48i:¬ (281474976710656 < (k:Int) * (i.bytes:Int)):=by rw [← Int.natCast_mul];omega
 have hst:=run_storeCells_at P g (sLen * i.size) e (Builtin.zeroCells z.cells k).toList 0 cur w hg (by simpa using hfit) h1
 simp only [Nat.add_zero] at hst
 by_cases hk:k = 0
 ·subst hk
  have e0:Builtin.zeroCells z.cells 0 = #[]:=by simp [Builtin.zeroCells]
  rw [e0] at hst ⊢
  have hw0:IntKind.i64.wrap (0:Int) = 0:=by decide
  have hr0:sLen ≤ sCap:=hroom
  simp [Builtin.append_,run_underlying ht,run_underlying htn,sizeOf,typeInfo,zeroValue,hi,hz,asInt,asIntOf,hw0,hr0,Addr.add_lit] at hst ⊢
  simp [hst]
 ·have hns:¬ (k * i.size = 0):=Nat.mul_ne_zero hk (by omega)
  simp [Builtin.append_,run_underlying ht,run_underlying htn,sizeOf,typeInfo,zeroValue,hi,hz,asInt,asIntOf,hw,hneg,hns,h48i,hroom,Addr.add_lit,hst]
theorem zgk {P:Program} (w:World) (base:Nat) (t tn ty e:TypeId) (i:TypeInfo) (z:Value) (size bytes:Nat) (kn:IntKind) (ht:P.underlying t = some (.slice e)) (htn:P.underlying tn = some (.int kn)) (hi:P.info? e = some i) (hz:i.zero = some z)
  (hsize:i.size = size) (hby:i.bytes = bytes) (hzs:z.cells.size = size) (hsz:0 < size)
  (v:Value) (n:Nat) (xs:List Value) (hown:w.ownsRow base e size v n xs) (m:Nat) (h1:∀ u ∈ (Builtin.zeroCells z.cells m).toList,u.oneCell' = true)
  (h63:n + m ≤ maxLen) (hbytes:(n + m) * bytes ≤ 140737488355328) (hbase:base ≤ w.heap.size) :
  ∃ v' w',(Builtin.append_ #[t,tn] ty #[v, .int .i64 m]).run P w = .ok v' w' ∧ w'.ownsRow base e size v' (n + m) (xs ++ (Builtin.zeroCells z.cells m).toList) ∧ w.grownBy w' v.ownBlock:=by
 subst hsize
 subst hby
 have hsmall:n + m ≤ 9223372036854775807:=by simp only [maxLen] at h63;omega
 have hl:(Builtin.zeroCells z.cells m).toList.length = m * i.size:=by rw [Array.length_toList,size_zeroCells,hzs]
 have hb2:m * i.bytes ≤ 140737488355328:=Nat.le_trans (Nat.mul_le_mul_right _ (by omega)) hbytes
 have hlen:(xs ++ (Builtin.zeroCells z.cells m).toList).length = (n + m) * i.size:=by rw [List.length_append,hown.1,hl,Nat.add_mul]
 have grown:∀ (old:Nat),old < n + m → ∀ (row:Option Nat),
   (w.drew.alloc (.cells (xs.toArray ++ Builtin.zeroCells z.cells m ++ Builtin.zeroCells z.cells (grownCap w (n + m) old e - (n + m))) e)).ownsRow base e i.size
    (.slice (some ⟨w.heap.size,0,none⟩) (n + m) (grownCap w (n + m) old e)) (n + m) (xs ++ (Builtin.zeroCells z.cells m).toList) ∧
   w.grownBy (w.drew.alloc (.cells (xs.toArray ++ Builtin.zeroCells z.cells m ++ Builtin.zeroCells z.cells (grownCap w (n + m) old e - (n + m))) e)) row:=by
  intro old ho row
  have hge:=grownCap_ge w (n + m) old e
  have hcm:grownCap w (n + m) old e ≤ maxLen:=grownCap_le_maxLen w (n + m) old e h63
  refine ⟨⟨hlen, .inr ⟨w.heap.size,_,_,rfl,hbase,heap_alloc_new w.drew _,hge,hcm,?_,?_⟩⟩,⟨rfl,rfl,rfl,by simp,fun k hk _ => Below.heap_alloc w.drew _ k hk⟩⟩
  ·simp only [Array.size_append,List.size_toArray,size_zeroCells,hzs,hown.1, ← Nat.add_mul]
   congr 1
   omega
  ·simp only [Array.toList_append,List.append_assoc]
   rw [← List.append_assoc, ← hlen]
   exact List.take_left
 rcases hown.2 with ⟨rfl,rfl⟩ | ⟨g,cap,cur,rfl,hbg,hg,hnc,hcm,hcs,htake⟩
 ·have hx:xs = []:=List.eq_nil_of_length_eq_zero (by simpa using hown.1)
  subst hx
  by_cases hm:m = 0
  ·subst hm
   have e0:(Builtin.zeroCells z.cells 0).toList = []:=by simp [Builtin.zeroCells]
   rw [e0]
   refine ⟨.slice none 0 0,w,?_,World.ownsRow_nil w base e i.size,⟨rfl,rfl,rfl,Nat.le_refl _,fun _ _ _ => rfl⟩⟩
   have hw:IntKind.i64.wrap (0:Int) = 0:=by decide
   simp [Builtin.append_,run_underlying ht,run_underlying htn,sizeOf,typeInfo,hi,asInt,asIntOf,hw]
  ·have hr:=Lib.run_append_nil_zeros (P:=P) w t tn ty e i z .i64 kn ht htn hi hz m (by omega) hsz (by omega) (by omega)
   have hgr:=grown 0 (by omega) (Value.ownBlock (.slice none 0 0))
   simp only [Nat.zero_add,List.nil_append,Array.empty_append] at hgr ⊢
   exact ⟨_,_,hr,hgr.1,hgr.2⟩
 ·by_cases hroom:n + m ≤ cap
  ·have hfit:n * i.size + (Builtin.zeroCells z.cells m).toList.length ≤ cur.size:=by rw [hl,hcs, ← Nat.add_mul];exact Nat.mul_le_mul_right _ hroom
   have hr:=zfG (P:=P) w t tn ty e i z kn ht htn hi hz g n cap cur hg m hsz hzs hroom (by omega) (by omega) hfit h1
   refine ⟨_,_,hr,⟨hlen, .inr ⟨g,cap,_,rfl,hbg,setRow_heap w g cur _ e _ hg,hroom,hcm,?_,?_⟩⟩,⟨rfl,rfl,rfl,by simp,fun k _ hk => setRow_other w g k _ (fun e => hk (by simp [Value.ownBlock,e]))⟩⟩
   ·simp only [List.size_toArray,List.length_append,List.length_take,List.length_drop,Array.length_toList] at hfit ⊢
    omega
   ·rw [htake, ← hlen]
    exact List.take_left
  ·have holds:∀ j u,xs[j]? = some u → w.cell? ((⟨g,0,none⟩:Addr).add j) = some u:=hown.cells (g:=g) rfl
   have hold:(Builtin.firstCells i.size n (.slice (some ⟨g,0,none⟩) n cap)).run P w.drew = .ok xs.toArray w.drew:=by
    have h:=run_loadCells_list (P:=P) w.drew ⟨g,0,none⟩ xs holds
    rw [hown.1] at h
    simpa [Builtin.firstCells] using h
   have hr:=Lib.run_append_grow_zeros (P:=P) w t tn ty e i z .i64 kn ht htn hi hz (some ⟨g,0,none⟩) n cap xs hold m (by omega) hsz (by omega) (by omega) (by omega) (growslice_fits (by omega) (by omega))
   have hgr:=grown cap (by omega) (some g)
   exact ⟨_,_,hr,hgr.1,hgr.2⟩
end Go.Proofs.YtdbgbaiekpbaoaaGreatDoor
