/- Columns replaced one by one in a table that is taken apart: both ways to solve,and what comes of it. Conditions: as each says. One bound for all that comes up when a table is solved by. Conditions: as each says. Columns replaced one by one: the states while a solve goes through the replacements,and how long their numbers are. Conditions: as each says. A linear problem seen from a basis;the pivots that take always the least column never come back to a basis. Conditions: as each says. Runs of pivots that take always the least column do not come back: neither the dual nor the primal one. Conditions: as each says. How many bases there are;a run that never comes back is no longer. Conditions: as each says. A problem in standard form seen from a basis,as lists: what the basis' columns have,lines,columns,prices;it is a Dic,and stays one. Conditions: as each says. What lies in the row while a table that is taken apart is solved by: forward,and back. Conditions: as each says. What lies in the row while a table that is taken apart is solved by from the left: forward by its columns,back,and put in place. Conditions: as each says. Conditions: as they say. -/
import Derived.Test.YtdbgbaiekpbaoaaGreatDoorNat3Zp
set_option linter.all false
namespace Am
structure CSq (n:Nat) (C:List (List Rat)):Prop where
  len:C.length = n
  col:∀ i,i < n → (C.getD i []).length = n
def zcZ (n:Nat) (C:List (List Rat)):List (List Rat):=(List.range n).map fun r => C.map fun c => el c r
theorem zbU {α β:Type} (f:α → β) (l:List α) {i:Nat} (h:i < l.length) (d:α) (e:β):(l.map f).getD i e = f (l.getD i d):=by
 rw [List.getD_eq_getElem?_getD,List.getD_eq_getElem?_getD,List.getElem?_map,List.getElem?_eq_getElem h];rfl
theorem zcA {n i:Nat} (h:i < n) (d:Nat):(List.range n).getD i d = i:=by rw [List.getD_eq_getElem?_getD,List.getElem?_range h];rfl
theorem zfJ (n:Nat) (C:List (List Rat)):(zcZ n C).length = n:=by simp [zcZ]
theorem zfK {n:Nat} {C:List (List Rat)} (h:CSq n C):∀ i,i < n → ((zcZ n C).getD i []).length = n:=by
 intro i hi
 unfold zcZ
 rw [zbU _ _ (by simpa using hi) 0];simp [h.len]
theorem zeI {n:Nat} {C:List (List Rat)} {i j:Nat} (hi:i < n) (hj:j < C.length):en (zcZ n C) i j = en C j i:=by
 unfold en zcZ
 rw [zbU _ _ (by simpa using hi) 0,zcA hi]
 unfold el
 rw [zbU _ _ hj []]
def CReg (n:Nat) (C:List (List Rat)):Prop:=Reg n fun i j => en C j i
def Mk (n:Nat) (C:List (List Rat)) (x v:List Rat):Prop := ∀ i,i < n → zai n (fun j => en C j i * el x j) = el v i
def MkT (n:Nat) (C:List (List Rat)) (y c:List Rat):Prop := ∀ j,j < n → zai n (fun i => el y i * en C j i) = el c j
theorem zvk {n:Nat} {M N:Nat → Nat → Rat} (h:∀ i,i < n → ∀ j,j < n → M i j = N i j):Reg n M ↔ Reg n N:=by
 constructor
 ·intro r x hx;exact r x fun i hi => by rw [← hx i hi];exact zaj fun j hj => by rw [h i hi j hj]
 ·intro r x hx;exact r x fun i hi => by rw [← hx i hi];exact zaj fun j hj => by rw [h i hi j hj]
theorem zrk {n:Nat} {C:List (List Rat)} (h:CSq n C):Reg n (en (zcZ n C)) ↔ CReg n C :=
 zvk fun _ hi _ hj => zeI hi (by rw [h.len];exact hj)
theorem Mk.unique {n:Nat} {C:List (List Rat)} (h:CReg n C) {x y v:List Rat} (hx:Mk n C x v) (hy:Mk n C y v) (lx:x.length = n) (ly:y.length = n):x = y:=by
 have:=Reg.unique h (x:=el x) (y:=el y) fun i hi => by rw [hx i hi,hy i hi]
 exact zyn (by omega) fun i hi => this i (by omega)
def zes (n:Nat) (C:List (List Rat)) (v:List Rat):List Rat:=match zoN n (zcZ n C) with | some F => zaR n F v | none => []
def zlA (n:Nat) (C:List (List Rat)) (v:List Rat):List Rat:=match zoN n (zcZ n C) with | some F => zcq n F v | none => []
theorem ziH {n:Nat} {C:List (List Rat)} (h:CSq n C) (hr:CReg n C):∃ F,zoN n (zcZ n C) = some F ∧ LUinv n (en (zcZ n C)) n F:=by
 rcases zoO (zfJ n C) (zfK h) with h1 | ⟨_,h2⟩
 ·exact h1
 ·exact absurd ((zrk h).2 hr) h2
theorem zAZ {n:Nat} {C:List (List Rat)} (h:CSq n C) (hr:¬ CReg n C):zoN n (zcZ n C) = none:=by
 rcases zoO (zfJ n C) (zfK h) with ⟨G,h1,h2⟩ | ⟨h1,_⟩
 ·exact absurd ((zrk h).1 h2.reg) hr
 ·exact h1
theorem zxo {n:Nat} {C:List (List Rat)} (h:CSq n C) {F:LUv} (hF:LUinv n (en (zcZ n C)) n F) (v:List Rat):Mk n C (zaR n F v) v:=fun i hi => by
 rw [← zsl hF v hi];exact zaj fun j hj => by rw [zeI hi (by rw [h.len];exact hj)]
theorem zu3 {n:Nat} {C:List (List Rat)} (h:CSq n C) {F:LUv} (hF:LUinv n (en (zcZ n C)) n F) (v:List Rat):MkT n C (zcq n F v) v:=fun j hj => by
 rw [← zla hF v hj];exact zaj fun i hi => by rw [zeI hi (by rw [h.len];exact hj)]
theorem zci {n:Nat} {C:List (List Rat)} (h:CSq n C) (hr:CReg n C) (v:List Rat):Mk n C (zes n C v) v ∧ (zes n C v).length = n:=by
 obtain ⟨F,e,hF⟩:=ziH h hr
 unfold zes;rw [e];exact ⟨zxo h hF v,zlb _ _ _⟩
theorem ze1 {n:Nat} {C:List (List Rat)} (h:CSq n C) (hr:CReg n C) (v:List Rat):MkT n C (zlA n C v) v ∧ (zlA n C v).length = n:=by
 obtain ⟨F,e,hF⟩:=ziH h hr
 unfold zlA;rw [e];exact ⟨zu3 h hF v,zoP _ _ _⟩
theorem znS {n:Nat} {C:List (List Rat)} (h:CSq n C) (hr:CReg n C) {x v:List Rat} (hx:Mk n C x v) (lx:x.length = n):x = zes n C v :=
 Mk.unique hr hx (zci h hr v).1 lx (zci h hr v).2
theorem zBj {n:Nat} {C:List (List Rat)} (h:CSq n C) (hr:CReg n C) {y v:List Rat} (hy:MkT n C y v) (ly:y.length = n):y = zlA n C v:=by
 have s:=ze1 h hr v
 have:=zqE (n:=n) (M:=fun i j => en C j i) (fun v => by
  refine ⟨el (zes n C ((List.range n).map v)),fun i hi => ?_⟩
  rw [(zci h hr _).1 i hi]
  unfold el
  rw [zbU _ _ (by simpa using hi) 0,zcA hi]) (y:=el y) (z:=el (zlA n C v)) fun j hj => by rw [hy j hj,s.1 j hj]
 exact zyn (by omega) fun i hi => this i (by omega)
def zsC (n k:Nat) (w x:List Rat):List Rat:=(List.range n).map fun i => if i = k then el x k / el w k else el x i - el w i * (el x k / el w k)
theorem zng (n k:Nat) (w x:List Rat):(zsC n k w x).length = n:=by simp [zsC]
theorem zkK {n k:Nat} {w x:List Rat} {i:Nat} (hi:i < n):el (zsC n k w x) i = if i = k then el x k / el w k else el x i - el w i * (el x k / el w k):=by
 unfold zsC
 conv => lhs;unfold el
 rw [zbU _ _ (by simpa using hi) 0,zcA hi]
 rfl
def zp2 (n k:Nat) (w z:List Rat):List Rat:=z.set k ((el z k - zai n (fun i => if i = k then 0 else el w i * el z i)) / el w k)
theorem zjn (n k:Nat) (w z:List Rat):(zp2 n k w z).length = z.length:=by simp [zp2]
theorem zvw {n k:Nat} {C:List (List Rat)} {a:List Rat} (hk:k < C.length) (h:k < n) (x:Nat → Rat) (i:Nat):zai n (fun j => en (C.set k a) j i * x j) = el a i * x k + zai n (fun j => if j = k then 0 else en C j i * x j):=by
 rw [zdJ h]
 congr 1
 ·rw [zi2 hk,if_pos rfl]
 ·refine zaj fun j _ => ?_
  by_cases e:j = k
  ·rw [if_pos e,if_pos e]
  ·rw [if_neg e,if_neg e,zi2 hk,if_neg (Ne.symm e)]
theorem zp3 {n k:Nat} {C:List (List Rat)} {a w x v:List Rat} (h:CSq n C) (hk:k < n) (hw:Mk n C w a) (hp:el w k ≠ 0) (hx:Mk n C x v):Mk n (C.set k a) (zsC n k w x) v:=by
 intro i hi
 rw [zvw (by rw [h.len];exact hk) hk]
 have e1:zai n (fun j => if j = k then 0 else en C j i * el (zsC n k w x) j) = zai n (fun j => (if j = k then 0 else en C j i * el x j) + (-(el x k / el w k)) * (if j = k then 0 else en C j i * el w j)):=zaj fun j hj => by
  by_cases e:j = k
  ·rw [if_pos e,if_pos e,if_pos e];grind
  ·rw [if_neg e,if_neg e,if_neg e,zkK hj,if_neg e];grind
 rw [e1,zcm,za7,zkK hk,if_pos rfl, ← hw i hi, ← hx i hi,zdJ hk,zdJ (f:=fun j => en C j i * el x j) hk]
 grind
theorem zuK {n k:Nat} {C:List (List Rat)} {a w z y:List Rat} (h:CSq n C) (hk:k < n) (hw:Mk n C w a) (hp:el w k ≠ 0) (hz:z.length = n) (hy:MkT n C y (zp2 n k w z)):MkT n (C.set k a) y z:=by
 have ez:∀ j,j < n → el (zp2 n k w z) j = if k = j then (el z k - zai n (fun i => if i = k then 0 else el w i * el z i)) / el w k else el z j:=fun j hj => ziZ (by omega)
 intro j hj
 by_cases e:j = k
 ·subst e
  have e1:zai n (fun i => el y i * en (C.set j a) j i) = zai n (fun i => zai n (fun t => el y i * (en C t i * el w t))):=zaj fun i hi => by
   rw [zi2 (by rw [h.len];exact hk),if_pos rfl, ← hw i hi,za7]
  rw [e1,zbq]
  have e2:zai n (fun t => zai n (fun i => el y i * (en C t i * el w t))) = zai n (fun t => el w t * el (zp2 n j w z) t):=zaj fun t ht => by
   rw [← hy t ht, ← za7];exact zaj fun i _ => by grind
  rw [e2,zdJ hk,ez j hj,if_pos rfl]
  have e3:zai n (fun t => if t = j then 0 else el w t * el (zp2 n j w z) t) = zai n (fun t => if t = j then 0 else el w t * el z t):=zaj fun t ht => by
   by_cases e:t = j
   ·rw [if_pos e,if_pos e]
   ·rw [if_neg e,if_neg e,ez t ht,if_neg (Ne.symm e)]
  rw [e3];grind
 ·have e1:zai n (fun i => el y i * en (C.set k a) j i) = zai n (fun i => el y i * en C j i):=zaj fun i _ => by
   rw [zi2 (by rw [h.len];exact hk),if_neg (Ne.symm e)]
  rw [e1,hy j hj,ez j hj,if_neg (Ne.symm e)]
theorem CSq.set {n k:Nat} {C:List (List Rat)} {a:List Rat} (h:CSq n C) (ha:a.length = n):CSq n (C.set k a):=by
 refine ⟨by rw [List.length_set,h.len],fun i hi => ?_⟩
 rw [List.getD_eq_getElem?_getD,List.getElem?_set]
 split
 ·split
  ·exact ha
  ·rename_i h1 h2;subst h1;exact absurd (by rw [h.len];exact hi) h2
 ·have:=h.col i hi;rw [List.getD_eq_getElem?_getD] at this;exact this
theorem zjl {n k:Nat} {C:List (List Rat)} {a w:List Rat} (h:CSq n C) (hr:CReg n C) (hk:k < n) (hw:Mk n C w a) (hp:el w k ≠ 0):CReg n (C.set k a):=by
 intro x hx
 -- C (w x_k + x without k) = 0
 have key:=hr (fun j => el w j * x k + if j = k then 0 else x j) fun i hi => by
  have e1:zai n (fun j => en C j i * (el w j * x k + if j = k then 0 else x j)) = zai n (fun j => en C j i * el w j * x k + if j = k then 0 else en C j i * x j):=zaj fun j _ => by split <;> grind
  have h2:=hx i hi
  rw [zvw (by rw [h.len];exact hk) hk] at h2
  rw [e1,zcm,zb6,hw i hi];exact h2
 have k0:x k = 0:=by have:=key k hk;simp at this;grind
 intro j hj
 by_cases e:j = k
 ·rw [e];exact k0
 ·have:=key j hj;simp only [if_neg e,k0] at this;grind
inductive Etas (n:Nat) (C:List (List Rat)):List (Nat × List Rat) → List (List Rat) → Prop where
 | nil:Etas n C [] C
 | snoc {es:List (Nat × List Rat)} {D:List (List Rat)} {k:Nat} {w a:List Rat} (h:Etas n C es D) (hk:k < n) (lw:w.length = n) (la:a.length = n) (hw:Mk n D w a) (hp:el w k ≠ 0):Etas n C (es ++ [(k,w)]) (D.set k a)
theorem Etas.sq {n:Nat} {C D:List (List Rat)} {es:List (Nat × List Rat)} (h:Etas n C es D) (hC:CSq n C):CSq n D:=by
 induction h with
 | nil => exact hC
 | snoc _ _ _ la _ _ ih => exact ih.set la
theorem Etas.reg {n:Nat} {C D:List (List Rat)} {es:List (Nat × List Rat)} (h:Etas n C es D) (hC:CSq n C) (hr:CReg n C):CReg n D:=by
 induction h with
 | nil => exact hr
 | snoc h hk _ _ hw hp ih => exact zjl (h.sq hC) ih hk hw hp
def zix (n:Nat) (es:List (Nat × List Rat)) (x:List Rat):List Rat:=es.foldl (fun x e => zsC n e.1 e.2 x) x
def zep (n:Nat) (es:List (Nat × List Rat)) (z:List Rat):List Rat:=es.foldr (fun e z => zp2 n e.1 e.2 z) z
theorem zoB {n:Nat} (es:List (Nat × List Rat)):∀ (x:List Rat),x.length = n → (zix n es x).length = n:=by
 induction es with
 | nil => exact fun x h => h
 | cons e es ih => exact fun x _ => ih _ (zng _ _ _ _)
theorem Etas.solve {n:Nat} {C D:List (List Rat)} {es:List (Nat × List Rat)} (h:Etas n C es D) (hC:CSq n C) {x v:List Rat} (hx:Mk n C x v):Mk n D (zix n es x) v:=by
 induction h with
 | nil => exact hx
 | snoc h hk _ _ hw hp ih =>
  unfold zix;rw [List.foldl_append]
  exact zp3 (h.sq hC) hk hw hp ih
theorem Etas.solveT {n:Nat} {C D:List (List Rat)} {es:List (Nat × List Rat)} (h:Etas n C es D) (hC:CSq n C) {y:List Rat}:∀ z:List Rat,z.length = n → MkT n C y (zep n es z) → MkT n D y z:=by
 induction h with
 | nil => exact fun z _ hy => hy
 | snoc h hk _ _ hw hp ih =>
  intro z hz hy
  unfold zep at hy;rw [List.foldr_append] at hy
  exact zuK (h.sq hC) hk hw hp hz (ih _ (by show (zp2 _ _ _ z).length = n;rw [zjn];exact hz) hy)
theorem Etas.take {n:Nat} {C D:List (List Rat)} {es:List (Nat × List Rat)} (h:Etas n C es D):∀ t,t < es.length → ∃ (E:List (List Rat)) (k:Nat) (w a:List Rat),Etas n C (es.take t) E ∧ es[t]? = some (k,w) ∧ k < n ∧ w.length = n ∧ Mk n E w a ∧ el w k ≠ 0:=by
 induction h with
 | nil => intro t ht;simp at ht
 | @snoc es D k w a h hk lw la hw hp ih =>
  intro t ht
  rw [List.length_append] at ht
  by_cases e:t < es.length
  ·obtain ⟨E,k',w',a',h1,h2,h3⟩:=ih t e
   exact ⟨E,k',w',a',by rw [List.take_append_of_le_length (by omega)];exact h1,by rw [List.getElem?_append_left e];exact h2,h3⟩
  ·obtain rfl:t = es.length:=by simp at ht;omega
   exact ⟨D,k,w,a,by rw [List.take_append_of_le_length (Nat.le_refl _),List.take_length];exact h,by simp,hk,lw,hw,hp⟩
end Am
namespace Am
theorem pow2_pos (n:Nat):1 ≤ 2 ^ n:=Nat.pow_pos (by omega)
theorem zq0 {n u s i d:Nat} {e:Nat} (hi:i ≤ n) (hd:d ≤ n) (he:e ≤ u):2 ^ i * (s + e + (u + 1)) ≤ xB n u s ∧ ∀ y e' ,e' ≤ u → e + e' ≤ u → y ≤ 2 ^ n * (s + e + (u + 1)) → 2 ^ d * (y + e' + (u + 1)) ≤ xB n u s:=by
 have a:=pow_le hi;have b:=pow_le hd
 have p:=pow2_pos n
 unfold xB
 rw [four,Nat.mul_assoc]
 generalize hp:2 ^ n = P at *
 have one:∀ X,X ≤ P * X:=fun X => Nat.le_mul_of_pos_left _ p
 refine ⟨?_,fun y e' he' hee hy => ?_⟩
 ·have h1:2 ^ i * (s + e + (u + 1)) ≤ P * (s + 4 * u + 4):=Nat.mul_le_mul a (by omega)
  have h2:=one (P * (s + 4 * u + 4))
  omega
 ·have h1:2 ^ d * (y + e' + (u + 1)) ≤ P * (P * (s + e + (u + 1)) + P * (e' + (u + 1))):=Nat.mul_le_mul b (by have:=one (e' + (u + 1));omega)
  rw [← Nat.mul_add] at h1
  exact Nat.le_trans h1 (Nat.mul_le_mul_left _ (Nat.mul_le_mul_left _ (by omega)))
section
variable {m:Rat → Nat} (h:SzLaw m) {n u s:Nat} {F:LUv} {b:List Rat} (z:LUsz m n u F)
include h z
theorem zDC (hp:∀ i,i < n → F.perm.getD i 0 < n) (hb:∀ i,i < n → m (el b i) ≤ s) {i:Nat} (hi:i < n) :
  m (el (fwd F b n) i) ≤ xB n u s ∧ ∀ k,k ≤ i → m (el b (F.perm.getD i 0) - zai k (fun c => en F.lo i c * el (fwd F b n) c)) ≤ 2 * xB n u s:=by
 obtain ⟨a,c⟩:=zry h z hp hb i hi
 have x:=(zq0 (n:=n) (u:=u) (s:=s) (i:=i) (d:=0) (e:=0) (by omega) (Nat.zero_le _) (Nat.zero_le _)).1
 refine ⟨by omega,fun k hk => ?_⟩
 have g:=c k hk
 have x2:=(zq0 (n:=n) (u:=u) (s:=s) (i:=k) (d:=0) (e:=0) (by omega) (Nat.zero_le _) (Nat.zero_le _)).1
 have x3:=(zq0 (n:=n) (u:=u) (s:=s) (i:=0) (d:=0) (e:=0) (by omega) (Nat.zero_le _) (Nat.zero_le _)).1
 rw [Nat.pow_zero,Nat.one_mul] at x3
 omega
theorem zAU (hp:∀ i,i < n → F.perm.getD i 0 < n) (hb:∀ i,i < n → m (el b i) ≤ s) {i:Nat} (hi:i < n):m (el (fwd F b n) i) ≤ 2 ^ n * (s + 0 + (u + 1)):=by
 have a:=(zry h z hp hb i hi).1
 have:=Nat.mul_le_mul_right (s + 0 + (u + 1)) (pow_le (Nat.le_of_lt hi))
 omega
theorem zrR (hp:∀ i,i < n → F.perm.getD i 0 < n) (hb:∀ i,i < n → m (el b i) ≤ s) {i:Nat} (hi:i < n) :
  m (el (zaR n F b) i) ≤ xB n u s ∧ ∀ k,k ≤ n - (i + 1) → m (el (fwd F b n) i - zai k (fun c => en F.up i (i + 1 + c) * el (zaR n F b) (i + 1 + c))) ≤ 2 * xB n u s:=by
 obtain ⟨a,c⟩:=zwr h (b:=b) z (fun i hi => zAU h z hp hb hi) (n - (i + 1)) i hi rfl
 have x:=(zq0 (n:=n) (u:=u) (s:=s) (i:=n) (d:=n - (i + 1)) (e:=0) (Nat.le_refl _) (by omega) (Nat.zero_le _))
 have x2:=x.2 _ u (Nat.le_refl _) (by omega) (Nat.le_refl _)
 exact ⟨by omega,fun k hk => by have:=c k hk;omega⟩
theorem zxd (hb:∀ i,i < n → m (el b i) ≤ s) {i:Nat} (hi:i < n):m (el (zbX F b n) i) ≤ 2 ^ n * (s + u + (u + 1)):=by
 have a:=(zoF h z hb i hi).1
 have:=Nat.mul_le_mul_right (s + u + (u + 1)) (pow_le (Nat.le_of_lt hi))
 omega
theorem zAT (hb:∀ i,i < n → m (el b i) ≤ s) {i:Nat} (hi:i < n) :
  m (el (zbX F b n) i) ≤ xB n u s ∧ ∀ k,k ≤ i → m (el b i - zai k (fun c => en F.up c i * el (zbX F b n) c)) ≤ 2 * xB n u s:=by
 obtain ⟨a,c⟩:=zoF h z hb i hi
 have x:=(zq0 (n:=n) (u:=u) (s:=s) (i:=i) (d:=0) (e:=u) (by omega) (Nat.zero_le _) (Nat.le_refl _)).1
 refine ⟨by omega,fun k hk => ?_⟩
 have g:=c k hk
 have x2:=(zq0 (n:=n) (u:=u) (s:=s) (i:=k) (d:=0) (e:=u) (by omega) (Nat.zero_le _) (Nat.le_refl _)).1
 omega
theorem zJL (hb:∀ i,i < n → m (el b i) ≤ s) {i:Nat} (hi:i < n) :
  m (el (luW n F b) i) ≤ xB n u s ∧ ∀ k,k ≤ n - (i + 1) → m (el (zbX F b n) i - zai k (fun c => en F.lo (i + 1 + c) i * el (luW n F b) (i + 1 + c))) ≤ 2 * xB n u s:=by
 obtain ⟨a,c⟩:=zt2 h (b:=b) z (fun i hi => zxd h z hb hi) (n - (i + 1)) i hi rfl
 have x:=(zq0 (n:=n) (u:=u) (s:=s) (i:=n) (d:=n - (i + 1)) (e:=u) (Nat.le_refl _) (by omega) (Nat.le_refl _))
 have x2:=x.2 _ 0 (Nat.zero_le _) (by omega) (Nat.le_refl _)
 exact ⟨by omega,fun k hk => by have:=c k hk;omega⟩
end
def sB (n S T:Nat):Nat:=xB n (uB n S) T
theorem zo0 {m:Rat → Nat} (h:SzLaw m) {n S T:Nat} {C:List (List Rat)} {v:List Rat} (hC:CSq n C) (hr:CReg n C) (hS:∀ j,j < n → ∀ i,i < n → m (en C j i) ≤ S) (hT:∀ i,i < n → m (el v i) ≤ T):∀ i,i < n → m (el (zes n C v) i) ≤ sB n S T:=by
 obtain ⟨F,e,hF⟩:=ziH hC hr
 unfold zes;rw [e]
 intro i hi
 exact (zrR h (zk9 h (zfJ n C) (zfK hC) (fun i hi j hj => by rw [zeI hi (by rw [hC.len];exact hj)];exact hS j hj i hi) e) hF.pr hT hi).1
theorem zlj {m:Rat → Nat} (h:SzLaw m) {n S T:Nat} {C:List (List Rat)} {v:List Rat} (hC:CSq n C) (hr:CReg n C) (hS:∀ j,j < n → ∀ i,i < n → m (en C j i) ≤ S) (hT:∀ i,i < n → m (el v i) ≤ T):∀ i,i < n → m (el (zlA n C v) i) ≤ sB n S T:=by
 obtain ⟨F,e,hF⟩:=ziH hC hr
 unfold zlA;rw [e]
 intro i hi
 obtain ⟨k,hk,rfl⟩:=zh0 hF i hi
 show m (el (zcq n F v) _) ≤ _
 unfold zcq
 rw [zpA _ _ (by simp) hF.pr hF.pi n (Nat.le_refl _) k hk]
 exact (zJL h (zk9 h (zfJ n C) (zfK hC) (fun i hi j hj => by rw [zeI hi (by rw [hC.len];exact hj)];exact hS j hj i hi) e) hT hk).1
end Am
namespace Am
def zhg (m:Rat → Nat) (n S:Nat) (C:List (List Rat)):Prop := ∀ j,j < n → ∀ i,i < n → m (en C j i) ≤ S
inductive EtasZ (m:Rat → Nat) (S n:Nat) (D:List (List Rat)):List (Nat × List Rat) → List (List Rat) → Prop where
  | nil (h:CSq n D) (hr:CReg n D) (hz:zhg m n S D):EtasZ m S n D [] D
  | snoc {es:List (Nat × List Rat)} {E:List (List Rat)} {k:Nat} {a:List Rat} (h:EtasZ m S n D es E) (hk:k < n) (la:a.length = n) (za:∀ i,i < n → m (el a i) ≤ S) (hp:el (zes n E a) k ≠ 0):EtasZ m S n D (es ++ [(k,zes n E a)]) (E.set k a)
namespace EtasZ
variable {m:Rat → Nat} {S n:Nat} {D:List (List Rat)} {es:List (Nat × List Rat)} {C:List (List Rat)}
theorem good (h:EtasZ m S n D es C):CSq n C ∧ CReg n C ∧ zhg m n S C:=by
 induction h with
 | nil h hr hz => exact ⟨h,hr,hz⟩
 | @snoc es E k a h hk la za hp ih =>
  obtain ⟨h1,h2,h3⟩:=ih
  refine ⟨h1.set la,zjl h1 h2 hk (zci h1 h2 a).1 hp,fun j hj i hi => ?_⟩
  rw [zi2 (by rw [h1.len];exact hk)]
  split
  ·exact za i hi
  ·exact h3 j hj i hi
theorem base (h:EtasZ m S n D es C):CSq n D ∧ CReg n D ∧ zhg m n S D:=by
 induction h with
 | nil h hr hz => exact ⟨h,hr,hz⟩
 | snoc _ _ _ _ _ ih => exact ih
theorem etas (h:EtasZ m S n D es C):Etas n D es C:=by
 induction h with
 | nil => exact .nil
 | @snoc es E k a h hk la za hp ih => exact .snoc ih hk (zci h.good.1 h.good.2.1 a).2 la (zci h.good.1 h.good.2.1 a).1 hp
theorem take (h:EtasZ m S n D es C):∀ t,t ≤ es.length → ∃ E,EtasZ m S n D (es.take t) E ∧ ∀ (e:Nat × List Rat),es[t]? = some e → e.1 < n ∧ e.2.length = n ∧ el e.2 e.1 ≠ 0 ∧ ∃ a,e.2 = zes n E a ∧ ∀ i,i < n → m (el a i) ≤ S:=by
  induction h with
  | nil h hr hz => intro t ht;obtain rfl:t = 0:=by simpa using ht
                   exact ⟨_, .nil h hr hz,fun e he => by simp at he⟩
  | @snoc es E k a h hk la za hp ih =>
    intro t ht
    rw [List.length_append] at ht
    by_cases e:t ≤ es.length
    · obtain ⟨E',h1,h2⟩:=ih t e
      by_cases e2:t < es.length
      · exact ⟨E',by rw [List.take_append_of_le_length e];exact h1,fun x hx => h2 x (by rw [List.getElem?_append_left e2] at hx;exact hx)⟩
      · obtain rfl:t = es.length:=by omega
        refine ⟨E,by rw [List.take_append_of_le_length e,List.take_length];exact h,fun x hx => ?_⟩
        simp at hx
        subst hx
        exact ⟨hk,(zci h.good.1 h.good.2.1 a).2,hp,a,rfl,za⟩
    · obtain rfl:t = es.length + 1:=by simp at ht;omega
      refine ⟨E.set k a,?_,fun x hx => ?_⟩
      · rw [List.take_of_length_le (by simp)];exact .snoc h hk la za hp
      · rw [List.getElem?_eq_none (by simp)] at hx;cases hx
end EtasZ
theorem zsd {n:Nat} {es:List (Nat × List Rat)} {t:Nat} {e:Nat × List Rat} (h:es[t]? = some e) (x:List Rat):zix n (es.take (t + 1)) x = zsC n e.1 e.2 (zix n (es.take t) x):=by
 unfold zix;rw [List.take_add_one,h];simp
theorem zwJ {m:Rat → Nat} {S n:Nat} {D C:List (List Rat)} {es:List (Nat × List Rat)} (h:EtasZ m S n D es C) (v:List Rat) {t:Nat} (ht:t ≤ es.length):∃ E,EtasZ m S n D (es.take t) E ∧ zix n (es.take t) (zes n D v) = zes n E v:=by
 obtain ⟨E,h1,_⟩:=h.take t ht
 have hb:=h.base
 have hs:=zci hb.1 hb.2.1 v
 exact ⟨E,h1,znS h1.good.1 h1.good.2.1 (h1.etas.solve hb.1 hs.1) (zoB _ _ hs.2)⟩
theorem zvq {m:Rat → Nat} {S n:Nat} {D C:List (List Rat)} {es:List (Nat × List Rat)} (h:EtasZ m S n D es C) (v:List Rat):zix n es (zes n D v) = zes n C v:=by
 have hb:=h.base
 have hs:=zci hb.1 hb.2.1 v
 exact znS h.good.1 h.good.2.1 (h.etas.solve hb.1 hs.1) (zoB _ _ hs.2)
theorem zsc {m:Rat → Nat} (hm:SzLaw m) {S n T:Nat} {D C:List (List Rat)} {es:List (Nat × List Rat)} (h:EtasZ m S n D es C) {v:List Rat} (hv:∀ i,i < n → m (el v i) ≤ T) {t:Nat} (ht:t ≤ es.length):∀ i,i < n → m (el (zix n (es.take t) (zes n D v)) i) ≤ sB n S T:=by
 obtain ⟨E,h1,h2⟩:=zwJ h v ht
 rw [h2]
 exact zo0 hm h1.good.1 h1.good.2.1 h1.good.2.2 hv
theorem zrn {m:Rat → Nat} (hm:SzLaw m) {S n:Nat} {D C:List (List Rat)} {es:List (Nat × List Rat)} (h:EtasZ m S n D es C) {t:Nat} {e:Nat × List Rat} (he:es[t]? = some e):e.1 < n ∧ e.2.length = n ∧ el e.2 e.1 ≠ 0 ∧ ∀ i,i < n → m (el e.2 i) ≤ sB n S S:=by
 obtain ⟨E,h1,h2⟩:=h.take t (Nat.le_of_lt (List.getElem?_eq_some_iff.1 he).1)
 obtain ⟨a1,a2,a3,a,a4,a5⟩:=h2 e he
 refine ⟨a1,a2,a3,fun i hi => ?_⟩
 rw [a4]
 exact zo0 hm h1.good.1 h1.good.2.1 h1.good.2.2 a5 i hi
def zoA (n k:Nat) (w x:List Rat) (j:Nat):List Rat:=(List.range n).map fun i => if i = k then el x k / el w k else if i < j then el x i - el w i * (el x k / el w k) else el x i
theorem zjm (n k:Nat) (w x:List Rat) (j:Nat):(zoA n k w x j).length = n:=by simp [zoA]
theorem zkJ {n k:Nat} {w x:List Rat} {j i:Nat} (hi:i < n):(zoA n k w x j)[i]? = some (if i = k then el x k / el w k else if i < j then el x i - el w i * (el x k / el w k) else el x i):=by
 unfold zoA;rw [List.getElem?_map,List.getElem?_range hi];rfl
theorem zuG {n k:Nat} {w x:List Rat} (hx:x.length = n):x.set k (el x k / el w k) = zoA n k w x 0:=by
 apply List.ext_getElem?
 intro i
 by_cases hi:i < n
 ·rw [zkJ hi,List.getElem?_set]
  by_cases e:k = i
  ·subst e;rw [if_pos rfl,if_pos (by omega),if_pos rfl]
  ·rw [if_neg e,if_neg (Ne.symm e),if_neg (by omega)];exact zaH (by omega)
 ·rw [List.getElem?_eq_none (by simp;omega),List.getElem?_eq_none (by rw [zjm];omega)]
theorem zuF {n k:Nat} {w x:List Rat}:zoA n k w x k = zoA n k w x (k + 1):=by
 unfold zoA
 apply List.map_congr_left
 intro i _
 by_cases e:i = k
 ·rw [if_pos e,if_pos e]
 ·rw [if_neg e,if_neg e]
  by_cases e2:i < k
  ·rw [if_pos e2,if_pos (by omega)]
  ·rw [if_neg e2,if_neg (by omega)]
theorem zwI {n k:Nat} {w x:List Rat} {j:Nat} (h:j ≠ k) (hj:j < n):(zoA n k w x j).set j (el x j - el w j * (el x k / el w k)) = zoA n k w x (j + 1):=by
 apply List.ext_getElem?
 intro i
 by_cases hi:i < n
 ·rw [zkJ hi,List.getElem?_set,zjm]
  by_cases e:j = i
  ·subst e;rw [if_pos rfl,if_pos hj,if_neg h,if_pos (by omega)]
  ·rw [if_neg e,zkJ hi]
   by_cases e1:i = k
   ·rw [if_pos e1,if_pos e1]
   ·rw [if_neg e1,if_neg e1]
    by_cases e2:i < j
    ·rw [if_pos e2,if_pos (by omega)]
    ·rw [if_neg e2,if_neg (by omega)]
 ·rw [List.getElem?_eq_none (by rw [List.length_set,zjm];omega),List.getElem?_eq_none (by rw [zjm];omega)]
theorem zuE (n k:Nat) (w x:List Rat):zoA n k w x n = zsC n k w x:=by
 unfold zoA zsC
 apply List.map_congr_left
 intro i hi
 by_cases e:i = k
 ·rw [if_pos e,if_pos e]
 ·rw [if_neg e,if_neg e,if_pos (by simpa using hi)]
def zhB (k:Nat) (w z:List Rat) (j:Nat):Rat:=el z k - zai j (fun i => if i = k then 0 else el w i * el z i)
def zeJ (k:Nat) (w z:List Rat) (j:Nat):List Rat:=z.set k (zhB k w z j)
theorem zsa (k:Nat) (w z:List Rat):zeJ k w z 0 = z:=by
 unfold zeJ zhB
 apply List.ext_getElem?
 intro i
 rw [List.getElem?_set]
 by_cases e:k = i
 ·subst e
  rw [if_pos rfl]
  by_cases h:k < z.length
  ·rw [if_pos h,zaH h];simp only [zai];congr 1;grind
  ·rw [if_neg h,List.getElem?_eq_none (by omega)]
 ·rw [if_neg e]
theorem zr9 {k:Nat} {w z:List Rat}:zeJ k w z k = zeJ k w z (k + 1):=by
 unfold zeJ zhB
 rw [zai,if_pos rfl];congr 1;grind
theorem zuJ {k:Nat} {w z:List Rat} {j:Nat} (h:j ≠ k):(zeJ k w z j).set k (zhB k w z j - el w j * el z j) = zeJ k w z (j + 1):=by
 unfold zeJ zhB
 rw [List.set_set,zai,if_neg h];congr 1;grind
theorem zuI {k:Nat} {w z:List Rat} {j:Nat} (h:k < z.length):(zeJ k w z j)[k]? = some (zhB k w z j):=by
 unfold zeJ;rw [List.getElem?_set_self h]
theorem zuH {k:Nat} {w z:List Rat} {j i:Nat} (h:i ≠ k) (hi:i < z.length):(zeJ k w z j)[i]? = some (el z i):=by
 unfold zeJ;rw [List.getElem?_set_ne (Ne.symm h),zaH hi]
theorem zr8 {n k:Nat} {w z:List Rat} (h:z.length = n):(zeJ k w z n).set k (zhB k w z n / el w k) = zp2 n k w z:=by
 unfold zeJ zp2;rw [List.set_set];rfl
theorem zsb {n:Nat} {es:List (Nat × List Rat)} {t:Nat} {e:Nat × List Rat} (h:es[t]? = some e) (v:List Rat):zep n (es.drop t) v = zp2 n e.1 e.2 (zep n (es.drop (t + 1)) v):=by
 have ht:=(List.getElem?_eq_some_iff.1 h).1
 rw [List.drop_eq_getElem_cons ht]
 rw [List.getElem?_eq_getElem ht] at h
 injection h with h
 rw [h];rfl
theorem zuL {n:Nat} (es:List (Nat × List Rat)) (v:List Rat):zep n (es.drop es.length) v = v:=by rw [List.drop_length];rfl
theorem backs {m:Rat → Nat} {S n:Nat} {D C:List (List Rat)} {es:List (Nat × List Rat)} (h:EtasZ m S n D es C) {y:List Rat}:∀ v:List Rat,v.length = n → MkT n D y (zep n es v) → ∀ t,t ≤ es.length → ∃ E,EtasZ m S n D (es.take t) E ∧ MkT n E y (zep n (es.drop t) v):=by
  induction h with
  | nil h hr hz => intro v _ hy t ht;obtain rfl:t = 0:=by simpa using ht
                   exact ⟨_, .nil h hr hz,hy⟩
  | @snoc es E k a h hk la za hp ih =>
    intro v hv hy t ht
    have hg:=h.good
    have hs:=zci hg.1 hg.2.1 a
    have e1:∀ l:List (Nat × List Rat),zep n (l ++ [(k,zes n E a)]) v = zep n l (zp2 n k (zes n E a) v):=fun l => by unfold zep;rw [List.foldr_append];rfl
    rw [e1] at hy
    rw [List.length_append] at ht
    by_cases e:t ≤ es.length
    · obtain ⟨E',h1,h2⟩:=ih (zp2 n k (zes n E a) v) (by rw [zjn];exact hv) hy t e
      refine ⟨E',by rw [List.take_append_of_le_length e];exact h1,?_⟩
      rw [List.drop_append_of_le_length e,e1];exact h2
    · obtain rfl:t = es.length + 1:=by simp at ht;omega
      refine ⟨E.set k a,by rw [List.take_of_length_le (by simp)];exact .snoc h hk la za hp,?_⟩
      rw [List.drop_of_length_le (by simp)]
      obtain ⟨E',h1,h2⟩:=ih (zp2 n k (zes n E a) v) (by rw [zjn];exact hv) hy es.length (Nat.le_refl _)
      have hh:=h.etas.solveT h.base.1 (zp2 n k (zes n E a) v) (by rw [zjn];exact hv) hy
      exact zuK hg.1 hk hs.1 hp hv hh
theorem zo1 {m:Rat → Nat} {S n:Nat} {D C:List (List Rat)} {es:List (Nat × List Rat)} (h:EtasZ m S n D es C) {v:List Rat} (hv:v.length = n):zlA n D (zep n es v) = zlA n C v:=by
 have hb:=h.base
 have hs:=ze1 hb.1 hb.2.1 (zep n es v)
 exact zBj h.good.1 h.good.2.1 (h.etas.solveT hb.1 v hv hs.1) hs.2
theorem zxI {m:Rat → Nat} (h:SzLaw m) (f:Nat → Rat) (s k:Nat) (hs:∀ i,i < k → m (f i) ≤ s):m (zai k f) ≤ 1 + k * (s + 1):=by
 have:=h.subSum 0 f s k hs
 rw [← h.neg] at this
 rw [show -(0 - zai k f) = zai k f by grind] at this
 have:=h.zero
 omega
def tB (n S T:Nat):Nat:=1 + n * (sB n S T + S + 1)
theorem zr1 {m:Rat → Nat} (hm:SzLaw m) {S n T:Nat} {D C:List (List Rat)} {es:List (Nat × List Rat)} (h:EtasZ m S n D es C) {v:List Rat} (hv:v.length = n) (hz:∀ i,i < n → m (el v i) ≤ T) {t:Nat} (ht:t ≤ es.length):∀ i,i < n → m (el (zep n (es.drop t) v) i) ≤ tB n S T:=by
 have hb:=h.base
 have hs:=ze1 hb.1 hb.2.1 (zep n es v)
 obtain ⟨E,h1,h2⟩:=backs h v hv hs.1 t ht
 intro i hi
 rw [← h2 i hi]
 refine zxI hm _ _ n fun k hk => ?_
 have a1:=hm.mul (el (zlA n D (zep n es v)) k) (en E i k)
 have a2:=zlj hm h.good.1 h.good.2.1 h.good.2.2 hz k hk
 rw [← zo1 h hv] at a2
 have a3:=h1.good.2.2 i hi k hk
 omega
theorem zl2 {m:Rat → Nat} (hm:SzLaw m) {n k a b:Nat} {w z:List Rat} (hw:∀ i,i < n → m (el w i) ≤ a) (hz:∀ i,i < n → m (el z i) ≤ b) (hk:k < n) {j:Nat} (hj:j ≤ n):m (zhB k w z j) ≤ b + n * (a + b + 2):=by
 unfold zhB
 have h1:=hm.subSum (el z k) (fun i => if i = k then 0 else el w i * el z i) (a + b + 1) j (fun i hi => by
  show m (if i = k then 0 else el w i * el z i) ≤ _
  split
  ·have:=hm.zero;omega
  ·have:=hm.mul (el w i) (el z i);have:=hw i (by omega);have:=hz i (by omega);omega)
 have:=hz k hk
 have:=Nat.mul_le_mul_right (a + b + 1 + 1) hj
 show m (el z k - zai j (fun i => if i = k then 0 else el w i * el z i)) ≤ _
 rw [show a + b + 2 = a + b + 1 + 1 by omega]
 omega
end Am
namespace Am
structure Dic (m N:Nat) (A:Nat → Nat → Rat) (b:Nat → Rat) (β:Nat → Nat) (T:Nat → Nat → Rat) (x:Nat → Rat):Prop where
  lt:∀ k,k < m → β k < N
  inj:∀ k l,k < m → l < m → β k = β l → k = l
  uni:∀ r k,r < m → k < m → T r (β k) = if k = r then 1 else 0
  row:∀ r,r < m → ∃ Y:Nat → Rat,(∀ j,j < N → T r j = zai m fun i => Y i * A i j) ∧ x r = zai m fun i => Y i * b i
  col:∀ j,j < N → ∀ i,i < m → zai m (fun k => A i (β k) * T k j) = A i j
  sol:∀ i,i < m → zai m (fun k => A i (β k) * x k) = b i
structure Pri (m N:Nat) (A:Nat → Nat → Rat) (c:Nat → Rat) (β:Nat → Nat) (y d:Nat → Rat):Prop where
  eq:∀ j,j < N → d j = c j - zai m fun i => y i * A i j
  zero:∀ k,k < m → d (β k) = 0
def Bas (m:Nat) (β:Nat → Nat) (j:Nat):Prop := ∃ k,k < m ∧ β k = j
def pt (m:Nat) (β:Nat → Nat) (x:Nat → Rat) (j:Nat):Rat:=zai m fun k => if β k = j then x k else 0
theorem zyA {m N:Nat} {β:Nat → Nat} (h:∀ k,k < m → β k < N) (x f:Nat → Rat):zai N (fun j => f j * pt m β x j) = zai m fun k => f (β k) * x k:=by
 have e:zai N (fun j => f j * pt m β x j) = zai N fun j => zai m fun k => if β k = j then f (β k) * x k else 0:=zaj fun j _ => by
  unfold pt;rw [← za7];exact zaj fun k _ => by
   split
   ·rename_i e;rw [e]
   ·grind
 rw [e,zbq]
 refine zaj fun k hk => ?_
 rw [zbI (k:=β k) (h k hk) fun j _ hj => if_neg (Ne.symm hj),if_pos rfl]
theorem zA7 {m:Nat} {β:Nat → Nat} (h:∀ k l,k < m → l < m → β k = β l → k = l) (x:Nat → Rat) {k:Nat} (hk:k < m):pt m β x (β k) = x k:=by
 unfold pt;rw [zbI hk fun l hl hne => if_neg fun e => hne (h l k hl hk e),if_pos rfl]
theorem zyz {m:Nat} {β:Nat → Nat} (x:Nat → Rat) {j:Nat} (h:¬ Bas m β j):pt m β x j = 0 :=
 zcn fun k hk => if_neg fun e => h ⟨k,hk,e⟩
theorem zKL {n:Nat} {f:Nat → Rat} (h:zai n f < 0):∃ i,i < n ∧ f i < 0:=by
 induction n with
 | zero => simp only [zai] at h;grind
 | succ n ih =>
  rw [zai] at h
  by_cases e:f n < 0
  ·exact ⟨n,by omega,e⟩
  ·obtain ⟨i,hi,h2⟩:=ih (by grind)
   exact ⟨i,by omega,h2⟩
section
variable {m N:Nat} {A:Nat → Nat → Rat} {b c:Nat → Rat}
theorem Dic.line {β:Nat → Nat} {T:Nat → Nat → Rat} {x:Nat → Rat} (h:Dic m N A b β T x) {r:Nat} (hr:r < m) {z:Nat → Rat} (hz:∀ i,i < m → zai N (fun j => A i j * z j) = b i):zai N (fun j => T r j * z j) = x r:=by
 obtain ⟨Y,h1,h2⟩:=h.row r hr
 have e:zai N (fun j => T r j * z j) = zai N fun j => zai m fun i => Y i * (A i j * z j):=zaj fun j hj => by
  rw [h1 j hj, ← zb6];exact zaj fun i _ => by grind
 rw [e,zbq,h2]
 exact zaj fun i hi => by rw [za7,hz i hi]
theorem Dic.pt_sol {β:Nat → Nat} {T:Nat → Nat → Rat} {x:Nat → Rat} (h:Dic m N A b β T x):∀ i,i < m → zai N (fun j => A i j * pt m β x j) = b i:=fun i hi => by
 rw [zyA h.lt x fun j => A i j];exact h.sol i hi
theorem Pri.cost {β:Nat → Nat} {y d:Nat → Rat} (h:Pri m N A c β y d) {z v:Nat → Rat} (hz:∀ i,i < m → zai N (fun j => A i j * z j) = v i):zai N (fun j => c j * z j) = zai m (fun i => y i * v i) + zai N (fun j => d j * z j):=by
 have e:zai N (fun j => c j * z j) = zai N fun j => zai m (fun i => y i * (A i j * z j)) + d j * z j:=zaj fun j hj => by
  have : zai m (fun i => y i * (A i j * z j)) = zai m (fun i => y i * A i j) * z j:=by rw [← zb6];exact zaj fun i _ => by grind
  rw [this,h.eq j hj];grind
 rw [e,zcm,zbq]
 congr 1
 exact zaj fun i hi => by rw [za7,hz i hi]
theorem Pri.value {β:Nat → Nat} {T:Nat → Nat → Rat} {x y d:Nat → Rat} (h:Pri m N A c β y d) (hd:Dic m N A b β T x):zai N (fun j => c j * pt m β x j) = zai m fun i => y i * b i:=by
 rw [h.cost hd.pt_sol,zyA hd.lt x d,zcn (f:=fun k => d (β k) * x k) fun k hk => by rw [h.zero k hk];grind];grind
theorem Pri.same {β γ:Nat → Nat} {T:Nat → Nat → Rat} {x y d y' d':Nat → Rat} (h:Pri m N A c β y d) (h':Pri m N A c γ y' d') (hd:Dic m N A b β T x) (hz:∀ k,k < m → d' (β k) = 0):∀ j,j < N → d j = d' j:=by
 intro j hj
 -- d - d' is a sum of lines,0 in the basis
 have key:∀ j,j < N → d j - d' j = zai m fun k => T k j * (d (β k) - d' (β k)):=by
  intro j hj
  have e1:∀ j,j < N → d j - d' j = zai m fun i => (y' i - y i) * A i j:=fun j hj => by
   rw [h.eq j hj,h'.eq j hj]
   have : zai m (fun i => (y' i - y i) * A i j) = zai m (fun i => y' i * A i j + (-1) * (y i * A i j)):=zaj fun i _ => by grind
   rw [this,zcm,za7];grind
  rw [e1 j hj]
  have e2:zai m (fun k => T k j * (d (β k) - d' (β k))) = zai m fun k => zai m fun i => (y' i - y i) * (A i (β k) * T k j):=zaj fun k hk => by
   rw [e1 _ (hd.lt k hk),Rat.mul_comm, ← zb6];exact zaj fun i _ => by grind
  rw [e2,zbq]
  exact zaj fun i hi => by rw [za7,hd.col j hj i hi]
 have:=key j hj
 rw [zcn (f:=fun k => T k j * (d (β k) - d' (β k))) fun k hk => by rw [h.zero k hk,hz k hk];grind] at this
 grind
theorem Dic.only {β:Nat → Nat} {T:Nat → Nat → Rat} {x:Nat → Rat} (h:Dic m N A b β T x) {z:Nat → Rat} (hz:∀ i,i < m → zai N (fun j => A i j * z j) = b i) (h0:∀ j,j < N → ¬ Bas m β j → z j = 0):∀ k,k < m → z (β k) = x k:=by
 intro k hk
 have e:=h.line hk hz
 rw [zbI (k:=β k) (h.lt k hk) fun j hj hne => by
  by_cases hb:Bas m β j
  ·obtain ⟨l,hl,rfl⟩:=hb
   rw [h.uni k l hk hl,if_neg fun e => hne (by rw [e])];grind
  ·rw [h0 j hj hb];grind,h.uni k k hk hk,if_pos rfl] at e
 grind
end
end Am
namespace Am
structure Ring (m L:Nat) (β:Nat → Nat → Nat) (r t:Nat → Nat):Prop where
  inj:∀ i,i ≤ L → ∀ k l,k < m → l < m → β i k = β i l → k = l
  at_:∀ i,i < L → r i < m
  new:∀ i,i < L → ¬ Bas m (β i) (t i)
  st:∀ i,i < L → ∀ k,k < m → β (i + 1) k = if k = r i then t i else β i k
  per:∀ j,Bas m (β 0) j ↔ Bas m (β L) j
namespace Ring
variable {m L:Nat} {β:Nat → Nat → Nat} {r t:Nat → Nat} (h:Ring m L β r t)
include h
theorem bas_next {i:Nat} (hi:i < L) (u:Nat):Bas m (β (i + 1)) u ↔ u = t i ∨ (u ≠ β i (r i) ∧ Bas m (β i) u):=by
 constructor
 ·rintro ⟨k,hk,e⟩
  rw [h.st i hi k hk] at e
  split at e
  ·exact .inl e.symm
  ·rename_i hne
   exact .inr ⟨fun e2 => hne (h.inj i (by omega) k (r i) hk (h.at_ i hi) (by rw [e,e2])),k,hk,e⟩
 ·rintro (rfl | ⟨hne,k,hk,e⟩)
  ·exact ⟨r i,h.at_ i hi,by rw [h.st i hi _ (h.at_ i hi),if_pos rfl]⟩
  ·exact ⟨k,hk,by rw [h.st i hi k hk,if_neg fun e2 => hne (by rw [← e,e2])];exact e⟩
theorem enters {u a:Nat} (ha:¬ Bas m (β a) u):∀ b,a ≤ b → b ≤ L → Bas m (β b) u → ∃ e,e < L ∧ t e = u:=by
  intro b
  induction b with
  | zero => intro h1 _ h2;obtain rfl:a = 0:=by omega
            exact absurd h2 ha
  | succ b ih =>
    intro h1 h2 h3
    by_cases e:a = b + 1
    · subst e;exact absurd h3 ha
    · rcases (h.bas_next (by omega) u).1 h3 with h4 | ⟨_,h4⟩
      · exact ⟨b,by omega,h4.symm⟩
      · exact ih (by omega) (by omega) h4
theorem leaves {u a:Nat} (ha:Bas m (β a) u):∀ b,a ≤ b → b ≤ L → ¬ Bas m (β b) u → ∃ e,e < L ∧ β e (r e) = u:=by
  intro b
  induction b with
  | zero => intro h1 _ h2;obtain rfl:a = 0:=by omega
            exact absurd ha h2
  | succ b ih =>
    intro h1 h2 h3
    by_cases e:a = b + 1
    · subst e;exact absurd ha h3
    · by_cases h4:Bas m (β b) u
      · by_cases h5:u = β b (r b)
        · exact ⟨b,by omega,h5.symm⟩
        · exact absurd ((h.bas_next (by omega) u).2 (.inr ⟨h5,h4⟩)) h3
      · exact ih (by omega) (by omega) h4
theorem fickle {u i i':Nat} (hi:i ≤ L) (hi':i' ≤ L) (h1:Bas m (β i) u) (h2:¬ Bas m (β i') u):∃ e,e < L ∧ t e = u:=by
 by_cases e:i' ≤ i
 ·exact h.enters h2 i e hi h1
 ·by_cases h3:Bas m (β L) u
  ·exact h.enters h2 L hi' (Nat.le_refl _) h3
  ·exact h.enters (fun h4 => h3 ((h.per u).1 h4)) i (Nat.zero_le _) hi h1
theorem gone {i:Nat} (hi:i < L):¬ Bas m (β (i + 1)) (β i (r i)):=by
 intro h1
 rcases (h.bas_next hi _).1 h1 with h2 | h2
 ·exact h.new i hi ⟨r i,h.at_ i hi,h2⟩
 ·exact h2.1 rfl
theorem out_in {i:Nat} (hi:i < L):∃ e,e < L ∧ t e = β i (r i):=h.fickle (i:=i) (i':=i + 1) (by omega) (by omega) ⟨r i,h.at_ i hi,rfl⟩ (h.gone hi)
theorem in_out {i:Nat} (hi:i < L):∃ e,e < L ∧ β e (r e) = t i:=by
 have h1:Bas m (β (i + 1)) (t i):=(h.bas_next hi _).2 (.inl rfl)
 by_cases h3:Bas m (β L) (t i)
 ·exact h.leaves ((h.per _).2 h3) i (Nat.zero_le _) (by omega) (h.new i hi)
 ·exact h.leaves h1 L (by omega) (Nat.le_refl _) h3
omit h in
theorem top (hL:0 < L):∃ e,e < L ∧ ∀ i,i < L → t i ≤ t e:=by
 have key:∀ n,0 < n → n ≤ L → ∃ e,e < n ∧ ∀ i,i < n → t i ≤ t e:=by
  intro n
  induction n with
  | zero => intro h;omega
  | succ n ih =>
   intro _ hn
   by_cases e0:n = 0
   ·exact ⟨n,by omega,fun i hi => by obtain rfl:i = n:=(by omega);exact Nat.le_refl _⟩
   ·obtain ⟨e,he,hm⟩:=ih (by omega) (by omega)
    by_cases e1:t n ≤ t e
    ·exact ⟨e,by omega,fun i hi => by
      by_cases e2:i = n
      ·rw [e2];exact e1
      ·exact hm i (by omega)⟩
    ·exact ⟨n,by omega,fun i hi => by
      by_cases e2:i = n
      ·rw [e2];exact Nat.le_refl _
      ·have:=hm i (by omega);omega⟩
 exact key L hL (Nat.le_refl _)
end Ring
theorem zMf (a b:Rat):a ≤ b ∨ b ≤ a:=Rat.le_total
theorem zLg {f:Nat → Rat} {L:Nat} (h:∀ i,i < L → f i ≤ f (i + 1)) (e:f 0 = f L):∀ i,i < L → f i = f (i + 1):=by
 have up:∀ j,j ≤ L → f 0 ≤ f j:=by
  intro j
  induction j with
  | zero => intro _;exact Rat.le_refl
  | succ j ih => intro hj;have:=ih (by omega);have:=h j (by omega);grind
 have down:∀ d j,j + d = L → f j ≤ f L:=by
  intro d
  induction d with
  | zero => intro j hj;rw [show j = L by omega];exact Rat.le_refl
  | succ d ih => intro j hj;have:=ih (j + 1) (by omega);have:=h j (by omega);grind
 intro i hi
 have:=up i (by omega);have:=down (L - (i + 1)) (i + 1) (by omega);have:=h i hi
 grind
section
variable {m N L:Nat} {A:Nat → Nat → Rat} {b c:Nat → Rat} {β:Nat → Nat → Nat} {T:Nat → Nat → Nat → Rat} {x y d:Nat → Nat → Rat} {r t:Nat → Nat}
theorem zKS (R:Ring m L β r t) (hD:∀ i,i ≤ L → Dic m N A b (β i) (T i) (x i)) (hP:∀ i,i ≤ L → Pri m N A c (β i) (y i) (d i)) (hz:∀ i,i < L → d i (t i) = 0):∀ i,i ≤ L → ∀ j,j < N → d i j = d 0 j:=by
 intro i
 induction i with
 | zero => intro _ j _;rfl
 | succ i ih =>
  intro hi j hj
  rw [← ih (by omega) j hj]
  refine (hP (i + 1) hi).same (hP i (by omega)) (hD (i + 1) hi) (fun k hk => ?_) j hj
  rw [R.st i (by omega) k hk]
  split
  ·exact hz i (by omega)
  ·exact (hP i (by omega)).zero k hk
theorem zKG (R:Ring m L β r t) (hD:∀ i,i ≤ L → Dic m N A b (β i) (T i) (x i)) (hP:∀ i,i ≤ L → Pri m N A c (β i) (y i) (d i)) {i:Nat} (hi:i < L) :
  zai m (fun k => y (i + 1) k * b k) = zai m (fun k => y i k * b k) + d i (t i) * x (i + 1) (r i):=by
 rw [← (hP (i + 1) hi).value (hD (i + 1) hi),(hP i (by omega)).cost (hD (i + 1) hi).pt_sol,zyA (hD (i + 1) hi).lt (x (i + 1)) (d i)]
 congr 1
 rw [zbI (k:=r i) (R.at_ i hi) fun k hk hne => by rw [R.st i hi k hk,if_neg hne,(hP i (by omega)).zero k hk];grind,R.st i hi _ (R.at_ i hi),if_pos rfl]
theorem zMh (R:Ring m L β r t) (hD:∀ i,i ≤ L → Dic m N A b (β i) (T i) (x i)) {i:Nat} (hi:i < L):T i (r i) (t i) * x (i + 1) (r i) = x i (r i):=by
 rw [← (hD i (by omega)).line (R.at_ i hi) (hD (i + 1) hi).pt_sol,zyA (hD (i + 1) hi).lt (x (i + 1)) (T i (r i)),
  zbI (k:=r i) (R.at_ i hi) fun k hk hne => by rw [R.st i hi k hk,if_neg hne,(hD i (by omega)).uni _ _ (R.at_ i hi) hk,if_neg hne];grind,R.st i hi _ (R.at_ i hi),if_pos rfl]
theorem zL0 (hD:∀ i,i ≤ L → Dic m N A b (β i) (T i) (x i)) (per:∀ j,Bas m (β 0) j ↔ Bas m (β L) j):∀ j,pt m (β 0) (x 0) j = pt m (β L) (x L) j:=by
 intro j
 by_cases hb:Bas m (β 0) j
 ·obtain ⟨k,hk,rfl⟩:=hb
  rw [zA7 (hD 0 (Nat.zero_le _)).inj _ hk]
  exact ((hD 0 (Nat.zero_le _)).only (hD L (Nat.le_refl _)).pt_sol (fun j _ hj => zyz _ fun h => hj ((per j).2 h)) k hk).symm
 ·rw [zyz _ hb,zyz _ fun h => hb ((per j).2 h)]
theorem zLk (hD:∀ i,i ≤ L → Dic m N A b (β i) (T i) (x i)) (hP:∀ i,i ≤ L → Pri m N A c (β i) (y i) (d i)) (per:∀ j,Bas m (β 0) j ↔ Bas m (β L) j):zai m (fun k => y 0 k * b k) = zai m (fun k => y L k * b k):=by
 rw [← (hP 0 (Nat.zero_le _)).value (hD 0 (Nat.zero_le _)), ← (hP L (Nat.le_refl _)).value (hD L (Nat.le_refl _))]
 exact zaj fun j _ => by rw [zL0 hD per j]
theorem zKE (R:Ring m L β r t) (hL:0 < L) (hD:∀ i,i ≤ L → Dic m N A b (β i) (T i) (x i)) (hP:∀ i,i ≤ L → Pri m N A c (β i) (y i) (d i)) (hd:∀ i,i < L → ∀ j,j < N → 0 ≤ d i j)
  (ht:∀ i,i < L → t i < N) (h1:∀ i,i < L → x i (r i) < 0 ∧ ∀ k,k < m → x i k < 0 → β i (r i) ≤ β i k)
  (h2:∀ i,i < L → T i (r i) (t i) < 0 ∧ ∀ j,j < t i → T i (r i) j < 0 → d i (t i) * -T i (r i) j < d i j * -T i (r i) (t i)):False:=by
 have pos:∀ i,i < L → 0 < x (i + 1) (r i):=fun i hi => by
  have e:=zMh R hD hi;have a:=(h1 i hi).1;have g:=(h2 i hi).1
  rcases zMf (x (i + 1) (r i)) 0 with h | h
  ·have:=Rat.mul_nonneg (show 0 ≤ -T i (r i) (t i) by grind) (show 0 ≤ -x (i + 1) (r i) by grind)
   grind
  ·rcases Rat.le_iff_lt_or_eq.1 h with h | h
   ·exact h
   ·rw [← h] at e;grind
 have flat:=zLg (f:=fun i => zai m fun k => y i k * b k) (L:=L) (fun i hi => by
  show zai m (fun k => y i k * b k) ≤ zai m (fun k => y (i + 1) k * b k)
  rw [zKG R hD hP hi]
  have:=Rat.mul_nonneg (hd i hi _ (ht i hi)) (show 0 ≤ x (i + 1) (r i) by have:=pos i hi;grind)
  grind) (zLk hD hP R.per)
 have dz:∀ i,i < L → d i (t i) = 0:=fun i hi => by
  have e:zai m (fun k => y i k * b k) = zai m (fun k => y (i + 1) k * b k):=flat i hi
  rw [zKG R hD hP hi] at e
  have:=pos i hi
  have e2:d i (t i) * x (i + 1) (r i) = 0:=by grind
  rcases Rat.mul_eq_zero.1 e2 with h | h
  ·exact h
  ·grind
 have df:=zKS R hD hP dz
 obtain ⟨e,he,hm⟩:=Ring.top (t:=t) hL
 obtain ⟨s,hs,hst⟩:=R.in_out he
 have Dz:=hD e (by omega)
 have Ds:=hD s (by omega)
 -- the line by which the greatest comes in,at the point where it leaves
 have ln:=Dz.line (R.at_ e he) Ds.pt_sol
 rw [zyA Ds.lt (x s) (T e (r e))] at ln
 have neg:zai m (fun k => T e (r e) (β s k) * x s k) < 0:=by rw [ln];exact (h1 e he).1
 obtain ⟨k,hk,hkn⟩:=zKL neg
 by_cases hb:Bas m (β e) (β s k)
 ·obtain ⟨l,hl,hle⟩:=hb
  rw [← hle,Dz.uni _ _ (R.at_ e he) hl] at hkn
  split at hkn
  ·rename_i e1
   subst e1
   have a:x s k < 0:=by grind
   have g:=(h1 s hs).2 k hk a
   obtain ⟨i,hi,hie⟩:=R.out_in he
   have:=hm i hi
   rw [hst, ← hle] at g
   have e3:t e = β e (r e):=by omega
   exact R.new e he ⟨r e,R.at_ e he,e3.symm⟩
  ·grind
 ·obtain ⟨i,hi,hie⟩:=R.fickle (i:=s) (i':=e) (by omega) (by omega) ⟨k,hk,rfl⟩ hb
  have hu:=hm i hi
  rw [hie] at hu
  by_cases e1:β s k = t e
  ·have e2:k = r s:=Ds.inj k (r s) hk (R.at_ s hs) (by rw [e1,hst])
   have a:=(h1 s hs).1
   have g:=(h2 e he).1
   rw [← e2] at a
   rw [e1] at hkn
   have:=Rat.mul_pos (show 0 < -T e (r e) (t e) by grind) (show 0 < -x s k by grind)
   grind
  ·have hx:¬ x s k < 0:=fun a => by have:=(h1 s hs).2 k hk a;omega
   have hT:T e (r e) (β s k) < 0:=by
    rcases zMf 0 (T e (r e) (β s k)) with h | h
    ·have:=Rat.mul_nonneg h (show 0 ≤ x s k by grind);grind
    ·rcases Rat.le_iff_lt_or_eq.1 h with h | h
     ·exact h
     ·rw [h] at hkn;grind
   have g:=(h2 e he).2 (β s k) (by omega) hT
   have z1:d e (t e) = 0:=dz e he
   have z2:d e (β s k) = 0:=by
    rw [df e (by omega) _ (Ds.lt k hk), ← df s (by omega) _ (Ds.lt k hk)];exact (hP s (by omega)).zero k hk
   rw [z1,z2] at g;grind
def way (m:Nat) (β:Nat → Nat) (T:Nat → Nat → Rat) (s j:Nat):Rat:=(if j = s then 1 else 0) + pt m β (fun k => -T k s) j
end
end Am
namespace Am
def binom:Nat → Nat → Nat
  | _,0 => 1
  | 0,_ + 1 => 0
  | n + 1,k + 1 => binom n (k + 1) + binom n k
def marks:Nat → Nat → List (List Bool)
  | 0,0 => [[]]
  | 0,_ + 1 => []
  | n + 1,0 => (marks n 0).map (false :: ·)
  | n + 1,k + 1 => (marks n (k + 1)).map (false :: ·) ++ (marks n k).map (true :: ·)
theorem zKl:∀ n k,(marks n k).length = binom n k
 | 0,0 => rfl
 | 0,_ + 1 => rfl
 | n + 1,0 => by unfold marks;rw [List.length_map,zKl n 0];cases n <;> rfl
 | n + 1,k + 1 => by unfold marks;rw [List.length_append,List.length_map,List.length_map,zKl n (k + 1),zKl n k];rfl
theorem zKo:∀ (l:List Bool) (n k:Nat),l.length = n → l.countP id = k → l ∈ marks n k
 | [],n,k,h1,h2 => by simp at h1 h2;subst h1 h2;simp [marks]
 | false :: l,n,k,h1,h2 => by
  cases n with
  | zero => simp at h1
  | succ n =>
   have:=zKo l n k (by simpa using h1) (by simpa using h2)
   cases k with
   | zero => simp only [marks,List.mem_map];exact ⟨l,this,rfl⟩
   | succ k => simp only [marks,List.mem_append,List.mem_map];exact .inl ⟨l,this,rfl⟩
 | true :: l,n,k,h1,h2 => by
  cases n with
  | zero => simp at h1
  | succ n =>
   cases k with
   | zero => simp at h2
   | succ k =>
    have:=zKo l n k (by simpa using h1) (by simpa using h2)
    simp only [marks,List.mem_append,List.mem_map];exact .inr ⟨l,this,rfl⟩
theorem pigeon {α:Type}:∀ (l:List α) (n:Nat) (f:Nat → α),(∀ i,i < n → f i ∈ l) → (∀ i j,i < j → j < n → f i ≠ f j) → n ≤ l.length
 | [],n,f,h1,_ => by
  cases n with
  | zero => exact Nat.le_refl _
  | succ n => exact absurd (h1 0 (by omega)) (by simp)
 | a :: l,n,f,h1,h2 => by
  by_cases h:∃ i,i < n ∧ f i = a
  ·obtain ⟨i,hi,e⟩:=h
   have:=pigeon l (n - 1) (fun j => if j < i then f j else f (j + 1)) (fun j hj => by
    have mem:∀ k,k < n → k ≠ i → f k ∈ l:=fun k hk hne => by
     rcases List.mem_cons.1 (h1 k hk) with h3 | h3
     ·rcases Nat.lt_or_ge k i with h4 | h4
      ·exact absurd (h3.trans e.symm) (h2 k i h4 hi)
      ·exact absurd (e.trans h3.symm) (h2 i k (by omega) hk)
     ·exact h3
    show (if j < i then f j else f (j + 1)) ∈ l
    split
    ·exact mem j (by omega) (by omega)
    ·exact mem (j + 1) (by omega) (by omega)) (fun j k hjk hk => by
    show (if j < i then f j else f (j + 1)) ≠ (if k < i then f k else f (k + 1))
    split
    ·split
     ·exact h2 j k hjk (by omega)
     ·exact h2 j (k + 1) (by omega) (by omega)
    ·rw [if_neg (by omega)];exact h2 (j + 1) (k + 1) (by omega) (by omega))
   simp only [List.length_cons];omega
  ·have:=pigeon l n f (fun i hi => by
    rcases List.mem_cons.1 (h1 i hi) with h3 | h3
    ·exact absurd ⟨i,hi,h3⟩ h
    ·exact h3) h2
   simp only [List.length_cons];omega
noncomputable def markOf (N m:Nat) (β:Nat → Nat):List Bool:=by
 classical exact (List.range N).map fun j => decide (Bas m β j)
theorem zK4 (N m:Nat) (β:Nat → Nat):(markOf N m β).length = N:=by simp [markOf]
theorem zKD (p:Nat → Bool):∀ n:Nat,(((List.range n).map p).countP id:Rat) = zai n fun j => if p j = true then 1 else 0
 | 0 => rfl
 | n + 1 => by
  rw [List.range_succ,List.map_append,List.countP_append,zai, ← zKD p n]
  cases h:p n
  ·simp [h];grind
  ·simp [h]
theorem zKs:∀ n:Nat,zai n (fun _ => 1) = (n:Rat)
 | 0 => rfl
 | n + 1 => by rw [zai,zKs n];simp
theorem zKF {N m:Nat} {β:Nat → Nat} (h1:∀ k,k < m → β k < N) (h2:∀ k l,k < m → l < m → β k = β l → k = l):(markOf N m β).countP id = m:=by
 classical
 have e:((markOf N m β).countP id:Rat) = (m:Rat):=by
  unfold markOf
  rw [zKD, ← zKs m]
  have e1:zai N (fun j => if decide (Bas m β j) = true then (1:Rat) else 0) = zai N fun j => 1 * pt m β (fun _ => 1) j:=zaj fun j _ => by
   by_cases hb:Bas m β j
   ·rw [if_pos (decide_eq_true hb)]
    obtain ⟨k,hk,rfl⟩:=hb
    rw [zA7 h2 _ hk];grind
   ·rw [if_neg (by simpa using hb),zyz _ hb];grind
  rw [e1,zyA h1]
  exact zaj fun k _ => by grind
 exact_mod_cast e
theorem zLf {N m:Nat} {β γ:Nat → Nat} (h1:∀ k,k < m → β k < N) (h2:∀ k,k < m → γ k < N) (e:markOf N m β = markOf N m γ):∀ j,Bas m β j ↔ Bas m γ j:=by
 classical
 intro j
 by_cases hj:j < N
 ·have : (markOf N m β)[j]? = (markOf N m γ)[j]?:=by rw [e]
  unfold markOf at this
  rw [List.getElem?_map,List.getElem?_map,List.getElem?_range hj] at this
  simpa using this
 ·constructor
  ·rintro ⟨k,hk,e⟩;have:=h1 k hk;omega
  ·rintro ⟨k,hk,e⟩;have:=h2 k hk;omega
theorem zLq {N m n:Nat} {β:Nat → Nat → Nat} (h1:∀ i,i < n → ∀ k,k < m → β i k < N) (h2:∀ i,i < n → ∀ k l,k < m → l < m → β i k = β i l → k = l) (h3:∀ i j,i < j → j < n → ¬ ∀ u,Bas m (β i) u ↔ Bas m (β j) u):n ≤ binom N m:=by
 rw [← zKl]
 exact pigeon _ n (fun i => markOf N m (β i)) (fun i hi => zKo _ _ _ (zK4 _ _ _) (zKF (h1 i hi) (h2 i hi))) (fun i j hij hj e => h3 i j hij hj (zLf (h1 i (by omega)) (h1 j hj) e))
end Am
namespace Am
def zb4 (A:List (List Rat)) (j:Nat):List Rat:=A.map fun r => el r j
def bc (A:List (List Rat)) (cols:List Nat):List (List Rat):=cols.map (zb4 A)
structure Rect (m N:Nat) (A:List (List Rat)):Prop where
  len:A.length = m
  row:∀ i,i < m → (A.getD i []).length = N
theorem zbH (A:List (List Rat)) (j:Nat):(zb4 A j).length = A.length:=by simp [zb4]
theorem zhw {A:List (List Rat)} {i j:Nat} (h:i < A.length):el (zb4 A j) i = en A i j:=by
 unfold zb4 en
 conv => lhs;unfold el
 rw [zbU _ _ h []]
 rfl
theorem zx7 (A:List (List Rat)) (cols:List Nat):(bc A cols).length = cols.length:=by simp [bc]
theorem zx6 {A:List (List Rat)} {cols:List Nat} {k:Nat} (h:k < cols.length):(bc A cols).getD k [] = zb4 A (cols.getD k 0):=zbU _ _ h 0 _
theorem ztZ {A:List (List Rat)} {cols:List Nat} {k i:Nat} (h:k < cols.length) (hi:i < A.length):en (bc A cols) k i = en A i (cols.getD k 0):=by
 unfold en;rw [zx6 h];exact zhw hi
theorem zGH {m:Nat} {A:List (List Rat)} {cols:List Nat} (hA:A.length = m) (hc:cols.length = m):CSq m (bc A cols) :=
 ⟨by rw [zx7,hc],fun i hi => by rw [zx6 (by omega),zbH,hA]⟩
theorem zq6 {A:List (List Rat)} {cols:List Nat} {k j:Nat}:bc A (cols.set k j) = (bc A cols).set k (zb4 A j):=by simp [bc,List.map_set]
def zdL (m r:Nat):List Rat:=(List.replicate m 0).set r 1
theorem zfM (m r:Nat):(zdL m r).length = m:=by simp [zdL]
theorem zge {m r i:Nat} (h:r < m):el (zdL m r) i = if r = i then 1 else 0:=by unfold zdL;rw [ziZ (by simpa using h),zrm]
def byL (N:Nat) (A:List (List Rat)) (y:List Rat):List Rat:=(List.range N).map fun j => zai A.length fun i => el y i * en A i j
theorem zkb (N:Nat) (A:List (List Rat)) (y:List Rat):(byL N A y).length = N:=by simp [byL]
theorem zx9 {N:Nat} {A:List (List Rat)} {y:List Rat} {j:Nat} (h:j < N):el (byL N A y) j = zai A.length fun i => el y i * en A i j:=by
 unfold byL
 conv => lhs;unfold el
 rw [zbU _ _ (by simpa using h) 0,zcA h]
 rfl
def za5 (A:List (List Rat)) (b:List Rat) (cols:List Nat):List Rat:=zes cols.length (bc A cols) b
def zav (A:List (List Rat)) (cols:List Nat) (j:Nat):List Rat:=zes cols.length (bc A cols) (zb4 A j)
def zbf (A:List (List Rat)) (cols:List Nat) (r:Nat):List Rat:=zlA cols.length (bc A cols) (zdL cols.length r)
def zk8 (N:Nat) (A:List (List Rat)) (cols:List Nat) (r:Nat):List Rat:=byL N A (zbf A cols r)
def zcl (A:List (List Rat)) (cols:List Nat) (c:List Rat):List Rat:=zlA cols.length (bc A cols) (cols.map fun j => el c j)
def zaC (N:Nat) (A:List (List Rat)) (cols:List Nat) (c:List Rat):List Rat:=zly c (-1) (byL N A (zcl A cols c))
structure Basis (m N:Nat) (A:List (List Rat)) (cols:List Nat):Prop where
  rect:Rect m N A
  len:cols.length = m
  lt:∀ k,k < m → cols.getD k 0 < N
  inj:∀ k l,k < m → l < m → cols.getD k 0 = cols.getD l 0 → k = l
  reg:CReg m (bc A cols)
namespace Basis
variable {m N:Nat} {A:List (List Rat)} {cols:List Nat} (h:Basis m N A cols)
include h
theorem sq:CSq m (bc A cols):=zGH h.rect.len h.len
theorem vals_ok (b:List Rat):Mk m (bc A cols) (za5 A b cols) b ∧ (za5 A b cols).length = m:=by
 unfold za5;rw [h.len];exact zci h.sq h.reg b
theorem column_ok (j:Nat):Mk m (bc A cols) (zav A cols j) (zb4 A j) ∧ (zav A cols j).length = m:=by
 unfold zav;rw [h.len];exact zci h.sq h.reg _
theorem weights_ok (r:Nat):MkT m (bc A cols) (zbf A cols r) (zdL m r) ∧ (zbf A cols r).length = m:=by
 unfold zbf;rw [h.len];exact ze1 h.sq h.reg _
theorem duals_ok (c:List Rat):MkT m (bc A cols) (zcl A cols c) (cols.map fun j => el c j) ∧ (zcl A cols c).length = m:=by
 unfold zcl;rw [h.len];exact ze1 h.sq h.reg _
theorem mk_en {x v:List Rat} (hx:Mk m (bc A cols) x v) {i:Nat} (hi:i < m):zai m (fun k => en A i (cols.getD k 0) * el x k) = el v i:=by
 rw [← hx i hi];exact zaj fun k hk => by rw [ztZ (by rw [h.len];exact hk) (by rw [h.rect.len];exact hi)]
theorem mkT_en {y v:List Rat} (hy:MkT m (bc A cols) y v) {k:Nat} (hk:k < m):zai m (fun i => el y i * en A i (cols.getD k 0)) = el v k:=by
 rw [← hy k hk];exact zaj fun i hi => by rw [ztZ (by rw [h.len];exact hk) (by rw [h.rect.len];exact hi)]
theorem by_weights {r:Nat} (hr:r < m) {x v:List Rat} (hx:Mk m (bc A cols) x v):el x r = zai m fun i => el (zbf A cols r) i * el v i:=by
 have e:zai m (fun i => el (zbf A cols r) i * el v i) = zai m fun i => zai m fun k => el (zbf A cols r) i * en A i (cols.getD k 0) * el x k:=zaj fun i hi => by
  rw [← h.mk_en hx hi, ← za7];exact zaj fun k _ => by grind
 rw [e,zbq]
 have e2:zai m (fun k => zai m fun i => el (zbf A cols r) i * en A i (cols.getD k 0) * el x k) = zai m fun k => el (zdL m r) k * el x k:=zaj fun k hk => by
  rw [zb6,h.mkT_en (h.weights_ok r).1 hk]
 rw [e2,zbI (k:=r) hr fun k _ hne => by rw [zge hr,if_neg (Ne.symm hne)];grind,zge hr,if_pos rfl];grind
theorem line_el {r j:Nat} (hr:r < m) (hj:j < N):el (zk8 N A cols r) j = el (zav A cols j) r:=by
 unfold zk8
 rw [zx9 hj,h.by_weights hr (h.column_ok j).1,h.rect.len]
 exact zaj fun i hi => by rw [zhw (by rw [h.rect.len];exact hi)]
theorem dic (b:List Rat):Dic m N (en A) (el b) (fun k => cols.getD k 0) (fun r j => el (zav A cols j) r) (fun k => el (za5 A b cols) k) where
 lt:=h.lt
 inj:=h.inj
 uni:=fun r k hr hk => by
  have e:=Mk.unique h.reg (h.column_ok (cols.getD k 0)).1 (y:=zdL m k) (fun i hi => by
   rw [zbI (k:=k) hk fun l _ hne => by rw [zge hk,if_neg (Ne.symm hne)];grind,zge hk,if_pos rfl,ztZ (by rw [h.len];exact hk) (by rw [h.rect.len];exact hi),zhw (by rw [h.rect.len];exact hi)]
   grind) (h.column_ok _).2 (zfM _ _)
  show el (zav A cols (cols.getD k 0)) r = _
  rw [e,zge hk]
 row:=fun r hr => ⟨el (zbf A cols r),fun j hj => by
  show el (zav A cols j) r = _
  rw [h.by_weights hr (h.column_ok j).1]
  exact zaj fun i hi => by rw [zhw (by rw [h.rect.len];exact hi)],h.by_weights hr (h.vals_ok b).1⟩
 col:=fun j _ i hi => by
  show zai m (fun k => en A i (cols.getD k 0) * el (zav A cols j) k) = _
  rw [h.mk_en (h.column_ok j).1 hi,zhw (by rw [h.rect.len];exact hi)]
 sol:=fun i hi => h.mk_en (h.vals_ok b).1 hi
theorem prices_el {c:List Rat} (hc:c.length = N) {j:Nat} (hj:j < N):el (zaC N A cols c) j = el c j - zai m fun i => el (zcl A cols c) i * en A i j:=by
 unfold zaC
 rw [zuD _ (by rw [zkb,hc]) (by rw [hc];exact hj),zx9 hj,h.rect.len];grind
theorem pri {c:List Rat} (hc:c.length = N):Pri m N (en A) (el c) (fun k => cols.getD k 0) (el (zcl A cols c)) (el (zaC N A cols c)) where
 eq:=fun j hj => h.prices_el hc hj
 zero:=fun k hk => by
  show el (zaC N A cols c) (cols.getD k 0) = 0
  rw [h.prices_el hc (h.lt k hk),h.mkT_en (h.duals_ok c).1 hk]
  unfold el
  rw [zbU _ _ (by rw [h.len];exact hk) 0];grind
theorem swap {k j:Nat} (hk:k < m) (hj:j < N) (hp:el (zav A cols j) k ≠ 0):Basis m N A (cols.set k j):=by
 have hn:¬ Bas m (fun k => cols.getD k 0) j ∨ cols.getD k 0 = j:=by
  by_cases hb:Bas m (fun k => cols.getD k 0) j
  ·obtain ⟨l,hl,e⟩:=hb
   have u:=(h.dic []).uni k l hk hl
   simp only [e] at u
   by_cases e2:l = k
   ·exact .inr (by rw [← e2];exact e)
   ·rw [if_neg e2] at u;exact absurd u hp
  ·exact .inl hb
 have g:∀ l,l < m → (cols.set k j).getD l 0 = if k = l then j else cols.getD l 0:=fun l _ => gset (by rw [h.len];exact hk)
 refine ⟨h.rect,by rw [List.length_set,h.len],fun l hl => ?_,fun a b ha hb e => ?_,?_⟩
 ·rw [g l hl];split
  ·exact hj
  ·exact h.lt l hl
 ·rw [g a ha,g b hb] at e
  split at e <;> split at e
  ·omega
  ·rename_i h1 h2
   rcases hn with h3 | h3
   ·exact absurd ⟨b,hb,e.symm⟩ h3
   ·exact absurd (h.inj k b hk hb (by omega)) h2
  ·rename_i h1 h2
   rcases hn with h3 | h3
   ·exact absurd ⟨a,ha,e⟩ h3
   ·exact absurd (h.inj k a hk ha (by omega)) h1
  ·exact h.inj a b ha hb e
 ·rw [zq6];exact zjl h.sq h.reg hk (h.column_ok j).1 hp
end Basis
end Am
namespace Am
theorem zg6 {α:Type} (xs ys:List α) (a b:α):(xs ++ a :: ys).set xs.length b = xs ++ b :: ys:=by
 rw [List.set_append,if_neg (by omega),Nat.sub_self];rfl
theorem zk2 {α:Type} (xs ys:List α) (a:α):(xs ++ a :: ys)[xs.length]? = some a:=by
 rw [List.getElem?_append_right (Nat.le_refl _),Nat.sub_self];rfl
def fwP (F:LUv) (b:List Rat) (k c:Nat):Rat:=el b (F.perm.getD k 0) - zai c fun i => en F.lo k i * el (fwd F b k) i
def fwO (F:LUv) (b:List Rat) (n k:Nat):List Rat:=fwd F b k ++ List.replicate (n - k) 0
def fwI (F:LUv) (b:List Rat) (n k c:Nat):List Rat:=fwd F b k ++ fwP F b k c :: List.replicate (n - (k + 1)) 0
theorem zxc (F:LUv) (b:List Rat) (n:Nat):fwO F b n 0 = List.replicate n 0:=by simp [fwO,fwd]
theorem zAQ (F:LUv) (b:List Rat) (n:Nat):fwO F b n n = fwd F b n:=by simp [fwO]
theorem zrw (F:LUv) (b:List Rat) {n k:Nat} (h:k < n):fwO F b n k = fwd F b k ++ (0 :: List.replicate (n - (k + 1)) 0):=by
 unfold fwO;rw [show n - k = (n - (k + 1)) + 1 by omega,List.replicate_succ]
theorem zAR (F:LUv) (b:List Rat) {n k:Nat} (h:k < n):(fwO F b n k)[k]? = some 0:=by
 have:=zk2 (fwd F b k) (List.replicate (n - (k + 1)) 0) 0
 rw [zcx, ← zrw F b h] at this;exact this
theorem zAS (F:LUv) (b:List Rat) {n k:Nat} (h:k < n):(fwO F b n k).set k (el b (F.perm.getD k 0)) = fwI F b n k 0:=by
 have:=zg6 (fwd F b k) (List.replicate (n - (k + 1)) 0) 0 (el b (F.perm.getD k 0))
 rw [zcx, ← zrw F b h] at this
 rw [this];unfold fwI fwP;simp only [zai];rw [show ∀ a:Rat,a - 0 = a by intro a;grind]
theorem zAN (F:LUv) (b:List Rat) (n k c:Nat):(fwI F b n k c)[k]? = some (fwP F b k c):=by
 have:=zk2 (fwd F b k) (List.replicate (n - (k + 1)) 0) (fwP F b k c)
 rw [zcx] at this;exact this
theorem zAO (F:LUv) (b:List Rat) {n k c i:Nat} (h:i < k):(fwI F b n k c)[i]? = some (el (fwd F b k) i):=by
 unfold fwI;rw [List.getElem?_append_left (by rw [zcx];exact h)];exact zaH (by rw [zcx];exact h)
theorem zAP (F:LUv) (b:List Rat) (n k c:Nat):(fwI F b n k c).set k (fwP F b k c - en F.lo k c * el (fwd F b k) c) = fwI F b n k (c + 1):=by
 have:=zg6 (fwd F b k) (List.replicate (n - (k + 1)) 0) (fwP F b k c) (fwP F b k c - en F.lo k c * el (fwd F b k) c)
 rw [zcx] at this
 unfold fwI;rw [this];congr 2;unfold fwP;rw [zai];grind
theorem zxb (F:LUv) (b:List Rat) (n k:Nat):fwI F b n k k = fwO F b n (k + 1):=by
 unfold fwI fwO;simp only [fwd,List.append_assoc];rfl
def bwP (F:LUv) (z:List Rat) (n k j:Nat):Rat:=el z k - zai j fun c => en F.up k (k + 1 + c) * el (bwd F n z (n - (k + 1))) c
def bwO (F:LUv) (z:List Rat) (n k:Nat):List Rat:=z.take k ++ bwd F n z (n - k)
def bwI (F:LUv) (z:List Rat) (n k j:Nat):List Rat:=z.take k ++ bwP F z n k j :: bwd F n z (n - (k + 1))
theorem zzq (F:LUv) {z:List Rat} {n:Nat} (h:z.length = n):bwO F z n n = z:=by unfold bwO;rw [Nat.sub_self, ← h];simp [bwd]
theorem zwq (F:LUv) (z:List Rat) (n:Nat):bwO F z n 0 = bwd F n z n:=by unfold bwO;simp
theorem zwp (F:LUv) {z:List Rat} {n k:Nat} (hz:z.length = n) (h:k < n):bwI F z n k 0 = bwO F z n (k + 1):=by
 unfold bwI bwO bwP
 rw [List.take_add_one,zaH (by omega)]
 simp only [zai,Option.toList_some,List.append_assoc,List.singleton_append]
 rw [show ∀ a:Rat,a - 0 = a by intro a;grind]
theorem zdx {z:List Rat} {n k:Nat} (hz:z.length = n) (h:k < n):(z.take k).length = k:=by rw [List.length_take];omega
theorem zzo (F:LUv) {z:List Rat} {n k:Nat} (j:Nat) (hz:z.length = n) (h:k < n):(bwI F z n k j)[k]? = some (bwP F z n k j):=by
 have:=zk2 (z.take k) (bwd F n z (n - (k + 1))) (bwP F z n k j)
 rw [zdx hz h] at this;exact this
theorem zwo (F:LUv) {z:List Rat} {n k c:Nat} (j:Nat) (hz:z.length = n) (h:k + 1 + c < n):(bwI F z n k j)[k + 1 + c]? = some (el (bwd F n z (n - (k + 1))) c):=by
 unfold bwI
 rw [List.getElem?_append_right (by rw [zdx hz (by omega)];omega),zdx hz (by omega),show k + 1 + c - k = c + 1 by omega,List.getElem?_cons_succ]
 exact zaH (by rw [zpC];omega)
theorem zzp (F:LUv) {z:List Rat} {n k:Nat} (j:Nat) (hz:z.length = n) (h:k < n):(bwI F z n k j).set k (bwP F z n k j - en F.up k (k + 1 + j) * el (bwd F n z (n - (k + 1))) j) = bwI F z n k (j + 1):=by
 have:=zg6 (z.take k) (bwd F n z (n - (k + 1))) (bwP F z n k j) (bwP F z n k j - en F.up k (k + 1 + j) * el (bwd F n z (n - (k + 1))) j)
 rw [zdx hz h] at this
 unfold bwI;rw [this];congr 2;unfold bwP;rw [zai];grind
theorem zzn (F:LUv) {z:List Rat} {n k:Nat} (hz:z.length = n) (h:k < n):(bwI F z n k (n - (k + 1))).set k (bwP F z n k (n - (k + 1)) / en F.up k k) = bwO F z n k:=by
 have:=zg6 (z.take k) (bwd F n z (n - (k + 1))) (bwP F z n k (n - (k + 1))) (bwP F z n k (n - (k + 1)) / en F.up k k)
 rw [zdx hz h] at this
 unfold bwI;rw [this];unfold bwO
 congr 1
 rw [show n - k = (n - (k + 1)) + 1 by omega]
 unfold bwP
 show _ = (el z (n - (n - (k + 1) + 1)) - zai (n - (k + 1)) (fun c => en F.up (n - (n - (k + 1) + 1)) (n - (n - (k + 1)) + c) * el (bwd F n z (n - (k + 1))) c)) / en F.up (n - (n - (k + 1) + 1)) (n - (n - (k + 1) + 1)) :: bwd F n z (n - (k + 1))
 rw [show n - (n - (k + 1) + 1) = k by omega,show n - (n - (k + 1)) = k + 1 by omega]
end Am
namespace Am
def ftP (F:LUv) (c:List Rat) (k j:Nat):Rat:=el c k - zai j fun i => en F.up i k * el (zbX F c k) i
def ftO (F:LUv) (c:List Rat) (k:Nat):List Rat:=zbX F c k ++ c.drop k
def ftI (F:LUv) (c:List Rat) (k j:Nat):List Rat:=zbX F c k ++ ftP F c k j :: c.drop (k + 1)
theorem zuA {c:List Rat} {k:Nat} (h:k < c.length):c.drop k = el c k :: c.drop (k + 1):=by
 rw [List.drop_eq_getElem_cons h];congr 1
 exact (znd (List.getElem?_eq_getElem h)).symm
theorem zxa (F:LUv) (c:List Rat):ftO F c 0 = c:=by simp [ftO,zbX]
theorem zAM (F:LUv) {c:List Rat} {n:Nat} (h:c.length = n):ftO F c n = zbX F c n:=by unfold ftO;rw [← h];simp
theorem zw9 (F:LUv) {c:List Rat} {k:Nat} (h:k < c.length):ftI F c k 0 = ftO F c k:=by
 unfold ftI ftO ftP;rw [zuA h];simp only [zai];rw [show ∀ a:Rat,a - 0 = a by intro a;grind]
theorem zAJ (F:LUv) (c:List Rat) (k j:Nat):(ftI F c k j)[k]? = some (ftP F c k j):=by
 have:=zk2 (zbX F c k) (c.drop (k + 1)) (ftP F c k j)
 rw [zbT] at this;exact this
theorem zAK (F:LUv) (c:List Rat) {k j i:Nat} (h:i < k):(ftI F c k j)[i]? = some (el (zbX F c k) i):=by
 unfold ftI;rw [List.getElem?_append_left (by rw [zbT];exact h)];exact zaH (by rw [zbT];exact h)
theorem zAL (F:LUv) (c:List Rat) (k j:Nat):(ftI F c k j).set k (ftP F c k j - en F.up j k * el (zbX F c k) j) = ftI F c k (j + 1):=by
 have:=zg6 (zbX F c k) (c.drop (k + 1)) (ftP F c k j) (ftP F c k j - en F.up j k * el (zbX F c k) j)
 rw [zbT] at this
 unfold ftI;rw [this];congr 2;unfold ftP;rw [zai];grind
theorem zAI (F:LUv) (c:List Rat) (k:Nat):(ftI F c k k).set k (ftP F c k k / en F.up k k) = ftO F c (k + 1):=by
 have:=zg6 (zbX F c k) (c.drop (k + 1)) (ftP F c k k) (ftP F c k k / en F.up k k)
 rw [zbT] at this
 unfold ftI;rw [this];unfold ftO;simp only [zbX,List.append_assoc];rfl
def btP (F:LUv) (z:List Rat) (n k j:Nat):Rat:=el z k - zai j fun c => en F.lo (k + 1 + c) k * el (zlK F n z (n - (k + 1))) c
def btO (F:LUv) (z:List Rat) (n k:Nat):List Rat:=z.take k ++ zlK F n z (n - k)
def btI (F:LUv) (z:List Rat) (n k j:Nat):List Rat:=z.take k ++ btP F z n k j :: zlK F n z (n - (k + 1))
theorem zzm (F:LUv) {z:List Rat} {n:Nat} (h:z.length = n):btO F z n n = z:=by unfold btO;rw [Nat.sub_self, ← h];simp [zlK]
theorem zwn (F:LUv) (z:List Rat) (n:Nat):btO F z n 0 = zlK F n z n:=by unfold btO;simp
theorem zwm (F:LUv) {z:List Rat} {n k:Nat} (hz:z.length = n) (h:k < n):btI F z n k 0 = btO F z n (k + 1):=by
 unfold btI btO btP
 rw [List.take_add_one,zaH (by omega)]
 simp only [zai,Option.toList_some,List.append_assoc,List.singleton_append]
 rw [show ∀ a:Rat,a - 0 = a by intro a;grind]
theorem zzk (F:LUv) {z:List Rat} {n k:Nat} (j:Nat) (hz:z.length = n) (h:k < n):(btI F z n k j)[k]? = some (btP F z n k j):=by
 have:=zk2 (z.take k) (zlK F n z (n - (k + 1))) (btP F z n k j)
 rw [zdx hz h] at this;exact this
theorem zwk (F:LUv) {z:List Rat} {n k c:Nat} (j:Nat) (hz:z.length = n) (h:k + 1 + c < n):(btI F z n k j)[k + 1 + c]? = some (el (zlK F n z (n - (k + 1))) c):=by
 unfold btI
 rw [List.getElem?_append_right (by rw [zdx hz (by omega)];omega),zdx hz (by omega),show k + 1 + c - k = c + 1 by omega,List.getElem?_cons_succ]
 exact zaH (by rw [zmU];omega)
theorem zzl (F:LUv) {z:List Rat} {n k:Nat} (j:Nat) (hz:z.length = n) (h:k < n):(btI F z n k j).set k (btP F z n k j - en F.lo (k + 1 + j) k * el (zlK F n z (n - (k + 1))) j) = btI F z n k (j + 1):=by
 have:=zg6 (z.take k) (zlK F n z (n - (k + 1))) (btP F z n k j) (btP F z n k j - en F.lo (k + 1 + j) k * el (zlK F n z (n - (k + 1))) j)
 rw [zdx hz h] at this
 unfold btI;rw [this];congr 2;unfold btP;rw [zai];grind
theorem zwl (F:LUv) {z:List Rat} {n k:Nat} (hz:z.length = n) (h:k < n):btI F z n k (n - (k + 1)) = btO F z n k:=by
 unfold btI btO
 congr 1
 rw [show n - k = (n - (k + 1)) + 1 by omega]
 unfold btP
 show _ = (el z (n - (n - (k + 1) + 1)) - zai (n - (k + 1)) (fun c => en F.lo (n - (n - (k + 1)) + c) (n - (n - (k + 1) + 1)) * el (zlK F n z (n - (k + 1))) c)) :: zlK F n z (n - (k + 1))
 rw [show n - (n - (k + 1) + 1) = k by omega,show n - (n - (k + 1)) = k + 1 by omega]
end Am
