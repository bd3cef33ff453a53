/- Rows of fractions: what lies in memory,and the laws of it. Conditions: as each says. Problems: what lies in memory,and the laws of it. Conditions: as each says. vec.Below by its contract. Conditions: as it says. vec.Of by its contract. Conditions: as it says. Fractions: their size;a box with a whole number,with a fraction. Conditions: as each says. Conditions: as they say. -/
import Derived.Test.YtdbgbaiekpbaoaaGreatDoorRat1Zp
import Derived.Laws.AppendOwnNone
import Derived.Test.YtdbgbaiekpbaoaaGreatDoorRat2Zp
set_option linter.all false
namespace Go.Proofs.YtdbgbaiekpbaoaaGreatDoor
open Go.RowKit Am
open Lib (hid)
set_option maxHeartbeats 1000000
set_option maxRecDepth 100000
theorem ze0:(Tryz.prog.info? 35).map (fun i => (i.zero,i.size,i.bytes)) = some (some (.agg #[.bool false, .slice none 0 0, .slice none 0 0]),3,56):=by kernel_rfl
abbrev RV:=Bool × Value × Value
def rcells (l:List RV):List Value:=l.flatMap fun r => [.bool r.1,r.2.1,r.2.2]
theorem zcy (r:RV) (l:List RV):rcells (r :: l) = .bool r.1 :: r.2.1 :: r.2.2 :: rcells l:=by simp [rcells]
theorem zcC (l:List RV):(rcells l).length = l.length * 3:=by
 induction l with
 | nil => rfl
 | cons r l ih => rw [zcy];simp [ih];omega
theorem zh4 (a b:List RV):rcells (a ++ b) = rcells a ++ rcells b:=by simp [rcells]
theorem ziI (l:List RV):∀ (k:Nat) (r:RV),l[k]? = some r → (rcells l)[k * 3]? = some (.bool r.1) ∧ (rcells l)[k * 3 + 1]? = some r.2.1 ∧ (rcells l)[k * 3 + 2]? = some r.2.2:=by
 induction l with
 | nil => intro k r h;simp at h
 | cons a l ih =>
  intro k r h
  rw [zcy]
  cases k with
  | zero => simp at h;subst h;simp
  | succ k =>
   have:=ih k r (by simpa using h)
   rw [show (k + 1) * 3 = k * 3 + 1 + 1 + 1 by omega]
   simpa using this
theorem zss (l:List RV):∀ (k:Nat) (r:RV),(((rcells l).set (k * 3) (.bool r.1)).set (k * 3 + 1) r.2.1).set (k * 3 + 2) r.2.2 = rcells (l.set k r):=by
 induction l with
 | nil => intro k r;simp [rcells]
 | cons a l ih =>
  intro k r
  cases k with
  | zero => simp [zcy]
  | succ k =>
   rw [show (k + 1) * 3 = k * 3 + 1 + 1 + 1 by omega,List.set_cons_succ,zcy,zcy, ← ih k r]
   simp
theorem ziJ (l:List RV) (h:∀ r ∈ l,r.2.1.oneCell' = true ∧ r.2.2.oneCell' = true):∀ u ∈ rcells l,u.oneCell' = true:=by
 intro u hu
 simp only [rcells,List.mem_flatMap] at hu
 obtain ⟨p,hp,hu⟩:=hu
 simp at hu
 rcases hu with rfl | rfl | rfl
 ·rfl
 ·exact (h p hp).1
 ·exact (h p hp).2
theorem RatS.shape {w:World} {g:Bool} {s d:Value} {q:Rat} (h:RatS w g s d q):∃ (A:Option Addr) (m c:Nat) (D:Option Addr) (md cd:Nat),s = .slice A m c ∧ d = .slice D md cd:=by
 obtain ⟨A,m,c,rfl⟩:=h.num.abs.slice
 obtain ⟨D,md,cd,rfl⟩:=h.den.slice
 exact ⟨_,_,_,_,_,_,rfl,rfl⟩
theorem RatS.zero (w:World):RatS w false (.slice none 0 0) (.slice none 0 0) 0:=⟨⟨zas.zero w,rfl⟩,zas.zero w⟩
def zff (w w':World):Prop := ∀ k,k < w.heap.size → (∀ cs,w.heap[k]? ≠ some (.cells cs 35 (0,0))) → w'.heap[k]? = w.heap[k]?
theorem zas.keepT {w w':World} {s:Value} {n:Nat} (h:zas w s n) (hk:zff w w'):zas w' s n:=by
 obtain ⟨xs,h2,h3⟩:=h
 refine ⟨xs,h2.keep fun k hb => hk k (h2.block hb) fun cs e => ?_,h3⟩
 exact za6 h2.1 e (by decide) hb
theorem RatS.keepT {w w':World} {g:Bool} {s d:Value} {q:Rat} (h:RatS w g s d q) (hk:zff w w'):RatS w' g s d q:=⟨⟨h.num.abs.keepT hk,h.num.neg⟩,h.den.keepT hk⟩
structure VecS (w:World) (H:Nat) (v:Value) (qs:List Rat):Prop where
  row:∃ l:List RV,l.length = qs.length ∧ (∀ (k:Nat) (r:RV) (q:Rat),l[k]? = some r → qs[k]? = some q → RatS w r.1 r.2.1 r.2.2 q) ∧ w.ownsRow H 35 3 v qs.length (rcells l)
theorem zc9 {w w':World} {H:Nat} {e:TypeId} {size:Nat} {s:Value} {n:Nat} {ys:List Value} (h:w.ownsRow H e size s n ys) (hk:∀ k,s.ownBlock = some k → w'.heap[k]? = w.heap[k]?):w'.ownsRow H e size s n ys:=by
 refine ⟨h.1,?_⟩
 rcases h.2 with h2 | ⟨g,cap,cur,hv,hg,hh,r⟩
 ·exact .inl h2
 ·exact .inr ⟨g,cap,cur,hv,hg,by rw [hk g (by rw [hv];rfl)];exact hh,r⟩
namespace VecS
variable {w w':World} {H:Nat} {v:Value} {qs:List Rat}
theorem lt (h:VecS w H v qs) {k:Nat} (hk:v.ownBlock = some k):H ≤ k ∧ k < w.heap.size:=by
 obtain ⟨l,_,_,h⟩:=h.row;exact h.lt k hk
theorem keepAll (h:VecS w H v qs) (hk:∀ k,v.ownBlock = some k → w'.heap[k]? = w.heap[k]?) (hr:∀ g s d q,RatS w g s d q → RatS w' g s d q):VecS w' H v qs:=by
 obtain ⟨l,h1,h2,h3⟩:=h.row
 exact ⟨l,h1,fun k r q a b => hr _ _ _ _ (h2 k r q a b),zc9 h3 hk⟩
theorem below (h:VecS w H v qs) (hb:Below w.heap.size w w'):VecS w' H v qs:=h.keepAll (fun k hk => hb.block k (h.lt hk).2) fun _ _ _ _ r => r.below hb
theorem alloc (h:VecS w H v qs) (o:Obj):VecS (w.alloc o) H v qs:=h.below (zae w o)
theorem drew (h:VecS w H v qs):VecS w.drew H v qs:=h.below (zap w 1)
theorem base {H':Nat} (h:VecS w H v qs) (hb:H' ≤ H):VecS w H' v qs:=by
 obtain ⟨l,h1,h2,h3⟩:=h.row;exact ⟨l,h1,h2,zbu h3 hb⟩
theorem setCell (h:VecS w H v qs) {p:Addr} {t:TypeId} {cs:Array Value} (hne:v.ownBlock ≠ some p.block) (hg:w.heap[p.block]? = some (.cells cs t (0,0))) (ht:193 ≠ t) (u:Value):VecS (w.setCell p u) H v qs :=
 h.keepAll (fun k hk => Below.heap_setCell w p u k (fun e => hne (by rw [hk,e]))) fun _ _ _ _ r => ⟨⟨r.num.abs.setCell hg ht u,r.num.neg⟩,r.den.setCell hg ht u⟩
theorem nil (w:World) (H:Nat):VecS w H (.slice none 0 0) []:=⟨[],rfl,fun k r q h => by simp at h,World.ownsRow_nil _ _ _ _⟩
theorem form {A:Option Addr} {n c:Nat} (h:VecS w H (.slice A n c) qs):n = qs.length ∧ n ≤ c ∧ c ≤ maxLen ∧ ((A = none ∧ c = 0 ∧ qs = []) ∨ ∃ g,A = some ⟨g,0,none⟩ ∧ H ≤ g ∧ g < w.heap.size):=by
 obtain ⟨l,_,_,h3⟩:=h.row
 rcases h3.2 with ⟨hv,hn⟩ | ⟨g,cap,cur,hv,hg,hh,hn,hm,_⟩
 ·injection hv with e1 e2 e3
  subst e1 e2 e3
  exact ⟨hn.symm,Nat.le_refl _,Nat.zero_le _, .inl ⟨rfl,rfl,List.length_eq_zero_iff.1 hn⟩⟩
 ·injection hv with e1 e2 e3
  subst e1 e2 e3
  exact ⟨rfl,hn,hm, .inr ⟨g,rfl,hg,(Array.getElem?_eq_some_iff.1 hh).1⟩⟩
theorem len {A:Option Addr} {n c:Nat} (h:VecS w H (.slice A n c) qs):n = qs.length:=h.form.1
theorem has {A:Option Addr} {n c:Nat} (h:VecS w H (.slice A n c) qs) (hn:0 < n):∃ g,A = some ⟨g,0,none⟩ ∧ H ≤ g ∧ g < w.heap.size:=by
 obtain ⟨h1,h2,h3,h4 | h4⟩:=h.form
 ·omega
 ·exact h4
theorem slice (h:VecS w H v qs):∃ A n c,v = .slice A n c:=by
 obtain ⟨l,_,_,h3⟩:=h.row
 rcases h3.2 with ⟨hv,hn⟩ | ⟨g,cap,cur,hv,_⟩
 ·exact ⟨_,_,_,hv⟩
 ·exact ⟨_,_,_,hv⟩
theorem at_ {b n c:Nat} (h:VecS w H (.slice (some ⟨b,0,none⟩) n c) qs) {k:Nat} {q:Rat} (hk:qs[k]? = some q) :
  ∃ (g:Bool) (A:Option Addr) (m c:Nat) (D:Option Addr) (md cd:Nat),w.cell? ⟨b,k * 3,none⟩ = some (.bool g) ∧ w.cell? ⟨b,k * 3 + 1,none⟩ = some (.slice A m c) ∧ w.cell? ⟨b,k * 3 + 2,none⟩ = some (.slice D md cd) ∧ RatS w g (.slice A m c) (.slice D md cd) q:=by
 have hn:=h.len
 subst hn
 obtain ⟨l,h1,h2,h3⟩:=h.row
 have hk':k < qs.length:=(List.getElem?_eq_some_iff.1 hk).1
 obtain ⟨r,hr⟩:∃ r,l[k]? = some r:=⟨l[k]'(by omega),List.getElem?_eq_getElem _⟩
 have hq:=h2 k r q hr hk
 obtain ⟨A,m,c,D,md,cd,e1,e2⟩:=hq.shape
 obtain ⟨g0,g1,g2⟩:=ziI l k r hr
 refine ⟨r.1,A,m,c,D,md,cd,?_,?_,?_,?_⟩
 ·rw [h3.cellAt _ (by omega)];exact g0
 ·rw [h3.cellAt _ (by omega),g1,e1]
 ·rw [h3.cellAt _ (by omega),g2,e2]
 ·rw [e1,e2] at hq;exact hq
theorem fro {b n c:Nat} (h:VecS w H (.slice (some ⟨b,0,none⟩) n c) qs) (j:Nat):w.frozen? ⟨b,j,none⟩ = false:=by
 have hn:=h.len
 subst hn
 obtain ⟨l,_,_,h3⟩:=h.row
 exact h3.frozenAt j
theorem store {b n c:Nat} (h:VecS w H (.slice (some ⟨b,0,none⟩) n c) qs) (k:Nat) {g:Bool} {s d:Value} {q:Rat} (hq:RatS w g s d q) :
  VecS (((w.setCell ⟨b,k * 3,none⟩ (.bool g)).setCell ⟨b,k * 3 + 1,none⟩ s).setCell ⟨b,k * 3 + 2,none⟩ d) H (.slice (some ⟨b,0,none⟩) n c) (qs.set k q):=by
 have hn:=h.len
 subst hn
 obtain ⟨l,h1,h2,h3⟩:=h.row
 have hkeep:zff w (((w.setCell ⟨b,k * 3,none⟩ (.bool g)).setCell ⟨b,k * 3 + 1,none⟩ s).setCell ⟨b,k * 3 + 2,none⟩ d):=by
  intro j hj hne
  have hjb:j ≠ b:=by
   rintro rfl
   rcases h3.2 with ⟨hv,hn⟩ | ⟨g,cap,cur,hv,hg,hh,_⟩
   ·cases hv
   ·injection hv with e1;injection e1 with e1;injection e1 with e1;subst e1;exact hne _ hh
  rw [Below.heap_setCell _ _ _ _ (by exact hjb),Below.heap_setCell _ _ _ _ (by exact hjb),Below.heap_setCell _ _ _ _ (by exact hjb)]
 refine ⟨l.set k (g,s,d),by simp [h1],?_,?_⟩
 ·intro j r q' hr hq'
  by_cases hj:k = j
  ·subst hj
   have hkl:=(List.getElem?_eq_some_iff.1 hr).1
   rw [List.length_set] at hkl
   rw [List.getElem?_set_self hkl] at hr
   rw [List.getElem?_set_self (by omega)] at hq'
   injection hr with hr
   injection hq' with hq'
   subst hr hq'
   exact hq.keepT hkeep
  ·rw [List.getElem?_set_ne hj] at hr hq'
   exact (h2 j r q' hr hq').keepT hkeep
 ·rw [List.length_set, ← zss]
  exact (((h3.stored _ _).1.stored _ _).1.stored _ _).1
end VecS
theorem zh3 {w w':World} {H:Nat} {v:Value} {n:Nat} {xs:List Value} (h:w.ownsRow H 35 3 v n xs) (hg:w.grownBy w' v.ownBlock):zff w w':=by
 intro k hk hne
 refine hg.block k hk fun e => ?_
 rcases h.2 with ⟨hv,_⟩ | ⟨g,cap,cur,hv,_,hh,_⟩
 ·rw [hv] at e;cases e
 ·rw [hv] at e;injection e with e;subst e;exact hne _ hh
theorem VecS.append {w w':World} {H:Nat} {v v':Value} {qs:List Rat} {l:List RV} (hl:l.length = qs.length) (hr:∀ (k:Nat) (r:RV) (q:Rat),l[k]? = some r → qs[k]? = some q → RatS w r.1 r.2.1 r.2.2 q) (hv:w.ownsRow H 35 3 v qs.length (rcells l))
  {g:Bool} {s d:Value} {q:Rat} (hq:RatS w g s d q) (hown:w'.ownsRow H 35 3 v' (qs.length + 1) (rcells l ++ [.bool g,s,d])) (hg:w.grownBy w' v.ownBlock):VecS w' H v' (qs ++ [q]):=by
 have hk:=zh3 hv hg
 refine ⟨l ++ [(g,s,d)],by simp [hl],?_,?_⟩
 ·intro k r q' h1 h2
  rcases Nat.lt_trichotomy k l.length with h | h | h
  ·rw [List.getElem?_append_left h] at h1
   rw [List.getElem?_append_left (by omega)] at h2
   exact (hr k r q' h1 h2).keepT hk
  ·subst h
   rw [List.getElem?_append_right (Nat.le_refl _)] at h1
   rw [List.getElem?_append_right (by omega)] at h2
   simp at h1
   rw [hl] at h2
   simp at h2
   subst h1 h2
   exact hq.keepT hk
  ·rw [List.getElem?_eq_none (by simp;omega)] at h1;cases h1
 ·rw [List.length_append,zh4];exact hown
theorem zev {w:World} {ops:Array Oper} {rest:List Oper} {o:Oper} {a:Act} {Q:Exit → Act → World → Prop} (hgd:o.guard = none) (s x:Operand)
    (ho:o.op = .call { callee := .builtin .append,args := #[s,x],argTypes := #[26,26] }) {H:Nat} {v:Value} {qs:List Rat} (hs:a.eval s = v) (hv:VecS w H v qs) {b:Nat} (hx:a.eval x = .slice (some ⟨b,0,none⟩) 1 1)
    {g:Bool} {A:Option Addr} {m c:Nat} {D:Option Addr} {md cd:Nat} {q:Rat} (hb:w.heap[b]? = some (.cells #[.bool g, .slice A m c, .slice D md cd] 35 (0,0))) (hq:RatS w g (.slice A m c) (.slice D md cd) q) (hlen:qs.length + 1 ≤ 2000000) (hH:H ≤ w.heap.size)
    (hK:∀ A' n' c' w',VecS w' H (.slice A' n' c') (qs ++ [q]) → Below H w w' → n' = qs.length + 1 → wpList Tryz.prog ops Q rest (a.put o.dst (.slice A' n' c')) w'):wpList Tryz.prog ops Q (o :: rest) a w:=by
  obtain ⟨i0,hi,hz0,hz1,hz2⟩:=info_parts ze0
  obtain ⟨l,h1,h2,h3⟩:=hv.row
  have hcell:=fun i => zac hb i
  refine wpList_append_own w hgd s x 26 ho H 35 i0 _ 3 56 Tryz.underlying26 hi hz0 hz1 hz2 rfl (by decide) v qs.length (rcells l) hs h3 ⟨b,0,none⟩ 1 _ [.bool g, .slice A m c, .slice D md cd] hx rfl
    (by intro j u hu
        match j,hu with
        | 0,hu => exact (hcell 0).trans hu
        | 1,hu => exact (hcell 1).trans hu
        | 2,hu => exact (hcell 2).trans hu
        | j + 3,hu => simp at hu)
    (by intro u hu;simp at hu;rcases hu with rfl | rfl | rfl <;> rfl) (by unfold maxLen;omega) (by omega) hH ?_
  intro v' w' hown hgrow _
  have hvs:=VecS.append h1 h2 h3 hq hown hgrow
  obtain ⟨A',n',c',rfl⟩:=hvs.slice
  refine hK A' n' c' w' hvs ((Below.refl _ _).grown hgrow hH (fun k hk => (hv.lt hk).1)) (by rw [hvs.len];simp)
def zq5 (w:World) (qs:List Rat) (e:Ending) (w':World):Prop := ∃ (A:Option Addr) (n c:Nat),e = .returned (.slice A n c) ∧ VecS w' w.heap.size (.slice A n c) qs ∧ Below w.heap.size w w'
def zcd (w:World) (qs:List Rat) (b:Bool) (e:Ending) (w':World):Prop := ∃ (A:Option Addr) (n c:Nat),e = .returned (.tuple #[.slice A n c, .bool b]) ∧ VecS w' w.heap.size (.slice A n c) qs ∧ Below w.heap.size w w'
theorem zLy:(Tryz.prog.info? 110).map (fun i => (i.zero,i.size,i.bytes)) = some (some (.agg #[.slice none 0 0, .int .i64 0, .bool false, .slice none 0 0, .slice none 0 0]),5,88):=by kernel_rfl
structure PRow where
  coef:List Rat
  kind:Int
  rhs:Rat
instance:Inhabited PRow:=⟨⟨[],0,0⟩⟩
structure RR where
  c:Value
  k:Int
  g:Bool
  s:Value
  d:Value
def zcW (l:List RR):List Value:=l.flatMap fun r => [r.c, .int .i64 r.k, .bool r.g,r.s,r.d]
theorem zd4 (r:RR) (l:List RR):zcW (r :: l) = r.c :: .int .i64 r.k :: .bool r.g :: r.s :: r.d :: zcW l:=by simp [zcW]
theorem zKq (a b:List RR):zcW (a ++ b) = zcW a ++ zcW b:=by simp [zcW]
theorem zqG (l:List RR):∀ (k:Nat) (r:RR),l[k]? = some r → (zcW l)[k * 5]? = some r.c ∧ (zcW l)[k * 5 + 1]? = some (.int .i64 r.k) ∧ (zcW l)[k * 5 + 2]? = some (.bool r.g) ∧ (zcW l)[k * 5 + 3]? = some r.s ∧ (zcW l)[k * 5 + 4]? = some r.d:=by
 induction l with
 | nil => intro k r h;simp at h
 | cons a l ih =>
  intro k r h
  rw [zd4]
  cases k with
  | zero => simp at h;subst h;simp
  | succ k =>
   have:=ih k r (by simpa using h)
   rw [show (k + 1) * 5 = k * 5 + 1 + 1 + 1 + 1 + 1 by omega]
   simpa using this
theorem zpb (l:List RR):∀ (k:Nat) (c:Value),(zcW l).set (k * 5) c = zcW (l.modify k fun r => { r with c:=c }):=by
 induction l with
 | nil => intro k c;simp [zcW]
 | cons a l ih =>
  intro k c
  cases k with
  | zero => simp [zd4]
  | succ k => rw [show (k + 1) * 5 = k * 5 + 1 + 1 + 1 + 1 + 1 by omega,zd4];simp [zd4,ih]
theorem zKM (l:List RR):∀ (k:Nat) (z:Int),(zcW l).set (k * 5 + 1) (.int .i64 z) = zcW (l.modify k fun r => { r with k:=z }):=by
 induction l with
 | nil => intro k c;simp [zcW]
 | cons a l ih =>
  intro k z
  cases k with
  | zero => simp [zd4]
  | succ k => rw [show (k + 1) * 5 + 1 = (k * 5 + 1) + 1 + 1 + 1 + 1 + 1 by omega,zd4];simp [zd4,ih]
structure RowS (w:World) (r:RR) (p:PRow):Prop where
  coef:VecS w 0 r.c p.coef
  kind:r.k = p.kind
  rhs:RatS w r.g r.s r.d p.rhs
structure RowsS (w:World) (H:Nat) (v:Value) (ps:List PRow):Prop where
  row:∃ l:List RR,l.length = ps.length ∧ (∀ (k:Nat) (r:RR) (p:PRow),l[k]? = some r → ps[k]? = some p → RowS w r p) ∧ w.ownsRow H 110 5 v ps.length (zcW l)
theorem RowS.below {w w':World} {r:RR} {p:PRow} (h:RowS w r p) (hb:Below w.heap.size w w'):RowS w' r p:=⟨h.coef.below hb,h.kind,h.rhs.below hb⟩
namespace RowsS
variable {w w':World} {H:Nat} {v:Value} {ps:List PRow}
theorem lt (h:RowsS w H v ps) {k:Nat} (hk:v.ownBlock = some k):H ≤ k ∧ k < w.heap.size:=by
 obtain ⟨l,_,_,h⟩:=h.row;exact h.lt k hk
theorem keepAll (h:RowsS w H v ps) (hk:∀ k,v.ownBlock = some k → w'.heap[k]? = w.heap[k]?) (hr:∀ r p,RowS w r p → RowS w' r p):RowsS w' H v ps:=by
 obtain ⟨l,h1,h2,h3⟩:=h.row
 exact ⟨l,h1,fun k r q a b => hr _ _ (h2 k r q a b),zc9 h3 hk⟩
theorem below (h:RowsS w H v ps) (hb:Below w.heap.size w w'):RowsS w' H v ps:=h.keepAll (fun k hk => hb.block k (h.lt hk).2) fun _ _ r => r.below hb
theorem alloc (h:RowsS w H v ps) (o:Obj):RowsS (w.alloc o) H v ps:=h.below (zae w o)
theorem drew (h:RowsS w H v ps):RowsS w.drew H v ps:=h.below (zap w 1)
theorem base {H':Nat} (h:RowsS w H v ps) (hb:H' ≤ H):RowsS w H' v ps:=by
 obtain ⟨l,h1,h2,h3⟩:=h.row;exact ⟨l,h1,h2,zbu h3 hb⟩
theorem nil (w:World) (H:Nat):RowsS w H (.slice none 0 0) []:=⟨[],rfl,fun k r q h => by simp at h,World.ownsRow_nil _ _ _ _⟩
theorem form {A:Option Addr} {n c:Nat} (h:RowsS w H (.slice A n c) ps):n = ps.length ∧ n ≤ c ∧ c ≤ maxLen ∧ ((A = none ∧ c = 0 ∧ ps = []) ∨ ∃ g,A = some ⟨g,0,none⟩ ∧ H ≤ g ∧ g < w.heap.size):=by
 obtain ⟨l,_,_,h3⟩:=h.row
 rcases h3.2 with ⟨hv,hn⟩ | ⟨g,cap,cur,hv,hg,hh,hn,hm,_⟩
 ·injection hv with e1 e2 e3
  subst e1 e2 e3
  exact ⟨hn.symm,Nat.le_refl _,Nat.zero_le _, .inl ⟨rfl,rfl,List.length_eq_zero_iff.1 hn⟩⟩
 ·injection hv with e1 e2 e3
  subst e1 e2 e3
  exact ⟨rfl,hn,hm, .inr ⟨g,rfl,hg,(Array.getElem?_eq_some_iff.1 hh).1⟩⟩
theorem len {A:Option Addr} {n c:Nat} (h:RowsS w H (.slice A n c) ps):n = ps.length:=h.form.1
theorem has {A:Option Addr} {n c:Nat} (h:RowsS w H (.slice A n c) ps) (hn:0 < n):∃ g,A = some ⟨g,0,none⟩ ∧ H ≤ g ∧ g < w.heap.size:=by
 obtain ⟨h1,h2,h3,h4 | h4⟩:=h.form
 ·omega
 ·exact h4
theorem slice (h:RowsS w H v ps):∃ A n c,v = .slice A n c:=by
 obtain ⟨l,_,_,h3⟩:=h.row
 rcases h3.2 with ⟨hv,hn⟩ | ⟨g,cap,cur,hv,_⟩
 ·exact ⟨_,_,_,hv⟩
 ·exact ⟨_,_,_,hv⟩
theorem fro {b n c:Nat} (h:RowsS w H (.slice (some ⟨b,0,none⟩) n c) ps) (j:Nat):w.frozen? ⟨b,j,none⟩ = false:=by
 have hn:=h.len
 subst hn
 obtain ⟨l,_,_,h3⟩:=h.row
 exact h3.frozenAt j
theorem at_ {b n c:Nat} (h:RowsS w H (.slice (some ⟨b,0,none⟩) n c) ps) {k:Nat} {p:PRow} (hk:ps[k]? = some p) :
  ∃ (C:Option Addr) (nc cc:Nat) (g:Bool) (A:Option Addr) (m c:Nat) (D:Option Addr) (md cd:Nat),w.cell? ⟨b,k * 5,none⟩ = some (.slice C nc cc) ∧ w.cell? ⟨b,k * 5 + 1,none⟩ = some (.int .i64 p.kind) ∧ w.cell? ⟨b,k * 5 + 2,none⟩ = some (.bool g) ∧
   w.cell? ⟨b,k * 5 + 3,none⟩ = some (.slice A m c) ∧ w.cell? ⟨b,k * 5 + 4,none⟩ = some (.slice D md cd) ∧ VecS w 0 (.slice C nc cc) p.coef ∧ RatS w g (.slice A m c) (.slice D md cd) p.rhs:=by
 have hn:=h.len
 subst hn
 obtain ⟨l,h1,h2,h3⟩:=h.row
 have hk':k < ps.length:=(List.getElem?_eq_some_iff.1 hk).1
 obtain ⟨r,hr⟩:∃ r,l[k]? = some r:=⟨l[k]'(by omega),List.getElem?_eq_getElem _⟩
 have hq:=h2 k r p hr hk
 obtain ⟨C,nc,cc,e0⟩:=hq.coef.slice
 obtain ⟨A,m,c,D,md,cd,e1,e2⟩:=hq.rhs.shape
 obtain ⟨g0,g1,g2,g3,g4⟩:=zqG l k r hr
 refine ⟨C,nc,cc,r.g,A,m,c,D,md,cd,?_,?_,?_,?_,?_,?_,?_⟩
 ·rw [h3.cellAt _ (by omega),g0,e0]
 ·rw [h3.cellAt _ (by omega),g1,hq.kind]
 ·rw [h3.cellAt _ (by omega)];exact g2
 ·rw [h3.cellAt _ (by omega),g3,e1]
 ·rw [h3.cellAt _ (by omega),g4,e2]
 ·rw [← e0];exact hq.coef
 ·rw [← e1, ← e2];exact hq.rhs
end RowsS
end Go.Proofs.YtdbgbaiekpbaoaaGreatDoor
namespace Go.Proofs.YtdbgbaiekpbaoaaGreatDoor
open Go.RowKit Am
open Lib (hid)
attribute [local go_sem ↓] Go.wp_at_zero Go.wp_at_succ
set_option maxHeartbeats 2000000
set_option maxRecDepth 100000
theorem zvc (q:Rat):q.num < 0 ↔ q < 0:=by
 have h:=Rat.num_nonneg (q:=q)
 constructor
 ·intro h1;exact Rat.not_le.1 fun h2 => by have:=h.2 h2;omega
 ·intro h1;exact Int.not_le.1 fun h2 => Rat.not_lt.2 (h.1 h2) h1
theorem zwb {qs:List Rat} {k:Nat} {q:Rat} {p:Rat → Bool} (h:(qs.take k).any p = false) (hq:qs[k]? = some q) (hp:p q = false):(qs.take (k + 1)).any p = false:=by
 rw [List.take_add_one,List.any_append,h,hq];simp [hp]
theorem ztV {qs:List Rat} {k:Nat} {q:Rat} {p:Rat → Bool} (hq:qs[k]? = some q) (hp:p q = true):qs.any p = true:=List.any_eq_true.2 ⟨q,List.mem_of_getElem? hq,hp⟩
namespace Vc
theorem below (A:Option Addr) (n c:Nat) (qs:List Rat) (H:Nat) (w:World) (h:VecS w H (.slice A n c) qs) :
  Calls Tryz.prog 29 #[.slice A n c] w fun e w' => e = .returned (.bool (qs.any fun q => decide (q < 0))) ∧ Below w.heap.size w w':=by
 have hn:=h.len
 have hf:=h.form
 have HN:=hid hn
 have HV:=hid h
 have hnb:n ≤ 9223372036854775807:=by have h2:=hf.2.2.1;unfold maxLen at h2;omega
 have HNB:=hid hnb
 clear h hf hn
 go_enter Tryz.func29,Tryz.ntmps29
 go_wp2
 go_loopw [7] (fun i wr => ∃ k:Nat,i = .int .i64 k ∧ k ≤ n ∧ Below w.heap.size w wr ∧ (qs.take k).any (fun q => decide (q < 0)) = false)
  (fun i _ => n - (intOf i).toNat)
 case atStart => exact ⟨0,rfl,Nat.zero_le _,Below.refl _ _,rfl⟩
 case round =>
  obtain ⟨k,rfl,hk,hB,hT⟩:=hrel
  have HB:=hid hB
  have HT:=hid hT
  by_cases hlt:k < n
  ·have HV2:=hid (HV.out.below hB)
   obtain ⟨b,rfl,hb0,hb1⟩:=HV2.out.has (by omega)
   obtain ⟨q,hq⟩:∃ q,qs[k]? = some q:=⟨qs[k]'(by rw [← HN.out];exact hlt),List.getElem?_eq_getElem _⟩
   obtain ⟨g,A1,m1,c1,D1,md1,cd1,k0,k1,k2,hR⟩:=HV2.out.at_ hq
   have HR:=hid hR
   have HQ:=hid hq
   have hi1:(0:Int) ≤ (k:Int):=Int.natCast_nonneg _
   have hi2:(k:Int) < (n:Int):=by omega
   clear hB hT hR hq
   go_wp2_with fail
   refine (Rt.sign g A1 m1 c1 D1 md1 cd1 q _ (HR.out.alloc _)).mono ?_
   rintro e w2 ⟨rfl,hb⟩
   have HB2:=hid (HB.out.trans (((zae wr _).trans (hb.mono (by simp))).mono HB.out.size))
   clear hb
   by_cases hq0:q < 0
   ·have hs:=(zvc q).2 hq0
    have HF:=hid (ztV (p:=fun q => decide (q < 0)) HQ.out (decide_eq_true hq0))
    go_wp2
    go_ret
    exact ⟨by rw [HF.out];rfl,HB2.out⟩
   ·have hs:¬ q.num < 0:=fun h => hq0 ((zvc q).1 h)
    have HF:=hid (zwb HT.out HQ.out (decide_eq_false hq0))
    go_wp2
    go_roundw
    case rel => exact ⟨k + 1,by go_num,by omega,HB2.out,HF.out⟩
    case measure => simp [intOf];omega
  ·obtain rfl:k = n:=by omega
   have HF:=hid hT
   clear hB hT
   go_wp2
   go_ret
   refine ⟨?_,HB.out⟩
   have h:=HF.out
   rw [HN.out,List.take_length] at h
   rw [h];rfl
end Vc
def rats (xs:List Int):List Rat:=xs.map fun (x:Int) => (x:Rat)
theorem zvj {xs:List Int} {k:Nat} {x:Int} (h:xs[k]? = some x):rats (xs.take (k + 1)) = rats (xs.take k) ++ [(x:Rat)]:=by
 unfold rats;rw [List.take_add_one,h];simp
namespace Vc
theorem of (b n c:Nat) (xs:List Int) (w:World) (hn:n = xs.length) (hx:∀ j x,xs[j]? = some x → w.cell? ⟨b,j,none⟩ = some (.int .i64 x)) (hr:∀ x ∈ xs, -9223372036854775808 ≤ x ∧ x ≤ 9223372036854775807) (hl:n ≤ 1000000) (hc:n ≤ c) :
  Calls Tryz.prog 49 #[.slice (some ⟨b,0,none⟩) n c] w (zq5 w (rats xs)):=by
 have HN:=hid hn
 have HX:=hid hx
 have HR:=hid hr
 have hnb:n ≤ 9223372036854775807:=by omega
 have HL:=hid hl
 clear hn hx hr hl
 go_enter Tryz.func49,Tryz.ntmps49
 go_wp2
 go_loopw [3,8] (fun ov i wr => ∃ (k:Nat) (A':Option Addr) (n' c':Nat),i = .int .i64 k ∧ ov = .slice A' n' c' ∧ k ≤ n ∧ VecS wr w.heap.size (.slice A' n' c') (rats (xs.take k)) ∧ Below w.heap.size w wr)
  (fun _ i _ => n - (intOf i).toNat)
 case atStart => exact ⟨0,none,0,0,rfl,rfl,Nat.zero_le _,VecS.nil _ _,Below.refl _ _⟩
 case round =>
  obtain ⟨k,A',n',c',rfl,rfl,hk,hv,hB⟩:=hrel
  have HV:=hid hv
  have HB:=hid hB
  by_cases hlt:k < n
  ·obtain ⟨x,hx⟩:∃ x,xs[k]? = some x:=⟨xs[k]'(by rw [← HN.out];exact hlt),List.getElem?_eq_getElem _⟩
   have h0:wr.cell? ⟨b,k,none⟩ = some (.int .i64 x):=zab HB.out (HX.out k x hx)
   have HQ:=hid hx
   have HRX:=hid (HR.out x (List.mem_of_getElem? hx))
   have hi1:(0:Int) ≤ (k:Int):=Int.natCast_nonneg _
   have hi2:(k:Int) < (n:Int):=by omega
   clear hB hv hx
   go_wp2_with fail
   refine (Rt.int x HRX.out.1 HRX.out.2 _).mono ?_
   rintro e w2 ⟨g,A,m,c2,D,md,cd,rfl,hq,hb⟩
   have HS2:=hid (show w.heap.size ≤ w2.heap.size from Nat.le_trans HB.out.size hb.size)
   have HB2:=hid (HB.out.trans (hb.mono HB.out.size))
   have HV2:=hid (HV.out.below hb)
   have HR2:=hid hq
   clear hb hq
   go_wp2_with (at_builtin;go_loud (refine zev rfl _ _ rfl rfl (HV2.out.alloc _) rfl (zal _ _ _) (HR2.out.alloc _) (by unfold rats;rw [List.length_map,List.length_take];have:=HL.out;omega) (by have:=HS2.out;simp;omega) ?_;intro A3 n3 c3 w3 hv3 hb3 hn3;have HV3:=hid hv3;have HB3:=hid hb3;clear hv3 hb3))
   subst hn3
   exact ⟨⟨k + 1,A3,_,c3,by simp,rfl,by omega,by rw [zvj HQ.out];exact HV3.out,(HB2.out.alloc HS2.out _).trans HB3.out⟩,by simp [intOf];omega⟩
  ·obtain rfl:k = n:=by omega
   have HF:=hid hv
   clear hB hv
   go_wp2
   go_ret
   refine ⟨_,_,_,rfl,?_,HB.out⟩
   have h:=HF.out
   rw [HN.out,List.take_length] at h
   exact h
end Vc
def fr (p d:Int):Rat:=if d = 0 then (p:Rat) else Rat.divInt p d
theorem zAG {p d:Int} (h:d = 0):fr p d = (p:Rat):=by unfold fr;rw [if_pos h]
theorem zDB {p d:Int} (h:d ≠ 0):fr p d = Rat.divInt p d:=by unfold fr;rw [if_neg h]
namespace Lw
theorem zxr (p d:Int) (hd:d = 0) (hp0 : -9223372036854775808 ≤ p) (hp1:p ≤ 9223372036854775807) (w:World):Calls Tryz.prog 50 #[.agg #[.int .i64 p, .int .i64 d]] w (ze4 w (fr p d)):=by
 have HF:=hid (zAG (p:=p) hd)
 have hz:(d == 0) = true:=by rw [hd];rfl
 have HP:=hid (And.intro hp0 hp1)
 clear hp0 hp1 hd
 obtain ⟨W,hW⟩:∃ W,((w.alloc (.cells #[.int .i64 p, .int .i64 d] 121)).alloc (.cells #[.bool false, .slice none 0 0, .slice none 0 0] 35)) = W:=⟨_,rfl⟩
 have KB0:=hid (show W.heap[w.heap.size]? = some (.cells #[.int .i64 p, .int .i64 d] 121 (0,0)) by rw [← hW];exact zak (zam (by simp)))
 have KB1:=hid (show W.heap[w.heap.size + 1]? = some (.cells #[.bool false, .slice none 0 0, .slice none 0 0] 35 (0,0)) by rw [← hW];exact zam (by simp))
 have BB:=hid (show Below w.heap.size w W by rw [← hW];exact (zae w _).alloc (by simp) _)
 obtain ⟨zaK,_,zaL,_⟩:=bc2 KB0.out
 go_enter Tryz.func50,Tryz.ntmps50
 go_wp2_with fail
 clear hW
 with_reducible refine (Rt.int p HP.out.1 HP.out.2 _).mono ?_
 rintro e w1 ⟨g3,A3,m3,c3,D3,md3,cd3,rfl,hn,hb⟩
 have za0:=hid (zad hb KB1.out)
 have HI:=hid (show RatS w1 g3 (.slice A3 m3 c3) (.slice D3 md3 cd3) (p:Rat) from hn)
 have zaQ:=hid (BB.out.trans ((hb).mono BB.out.size))
 obtain ⟨zbe,zaW,zcf,_,zbs,za9,zcR,_,zb9,zbz,zdG,_⟩:=bf3 za0.out
 clear hn hb
 go_wp2
 refine bodyPost_ret (v := .agg #[.bool g3, .slice A3 m3 c3, .slice D3 md3 cd3]) (by simp [results,Tryz.results50,go_sem,zbe,zaW,zbs,za9,zb9,zbz]) rfl ?_
 rw [HF.out]
 exact ⟨g3,A3,m3,c3,D3,md3,cd3,rfl,HI.out.set3 za0.out (by decide) _ _ _,Below.setCell (Below.setCell (Below.setCell (zaQ.out) (p:=⟨w.heap.size + 1,0,none⟩) (by show w.heap.size ≤ w.heap.size + 1;omega) _) (p:=⟨w.heap.size + 1,1,none⟩) (by show w.heap.size ≤ w.heap.size + 1;omega) _) (p:=⟨w.heap.size + 1,2,none⟩) (by show w.heap.size ≤ w.heap.size + 1;omega) _⟩
end Lw
end Go.Proofs.YtdbgbaiekpbaoaaGreatDoor
namespace Go.Proofs.YtdbgbaiekpbaoaaGreatDoor
open Go.RowKit Am
open Lib (hid)
attribute [local go_sem ↓] Go.wp_at_zero Go.wp_at_succ
set_option maxHeartbeats 8000000
set_option maxRecDepth 100000
def mw (q:Rat):Nat:=max (wlen q.num.natAbs) (wlen q.den)
theorem zd2 (q:Rat):wlen q.num.natAbs ≤ mw q:=Nat.le_max_left _ _
theorem zds (q:Rat):wlen q.den ≤ mw q:=Nat.le_max_right _ _
theorem zfO (x y:Int):wlen (x * y).natAbs ≤ wlen x.natAbs + wlen y.natAbs:=by rw [Int.natAbs_mul];exact zdy _ _
theorem zvC (x y:Int):wlen (x + y).natAbs ≤ max (wlen x.natAbs) (wlen y.natAbs) + 1:=Nat.le_trans (zco (Int.natAbs_add_le x y)) (zgg _ _)
theorem zhX (x y:Int) (hy:y ≠ 0):mw (Rat.divInt x y) ≤ max (wlen x.natAbs) (wlen y.natAbs):=by
 have h1:wlen (Rat.divInt x y).num.natAbs ≤ wlen x.natAbs:=by
  rw [← Rt.div_num x y hy]
  split
  ·rw [Int.natAbs_neg,Int.natAbs_natCast];exact zco (Nat.div_le_self _ _)
  ·rw [Int.natAbs_natCast];exact zco (Nat.div_le_self _ _)
 have h2:wlen (Rat.divInt x y).den ≤ wlen y.natAbs:=by rw [← Rt.div_den x y hy];exact zco (Nat.div_le_self _ _)
 unfold mw;omega
theorem zrl (a b:Rat):((a.den * b.den:Nat):Int) ≠ 0:=by have:=Nat.mul_pos a.den_pos b.den_pos;omega
theorem ztR (a b:Rat):Rat.divInt (a.num * (b.den:Int) + b.num * (a.den:Int)) ((a.den * b.den:Nat):Int) = a + b:=by rw [Rat.add_def',Rat.divInt_ofNat]
theorem zu5 (a b:Rat):Rat.divInt (a.num * b.num) ((a.den * b.den:Nat):Int) = a * b:=by rw [Rat.mul_def',Rat.divInt_ofNat]
theorem zpc (a b:Rat):wlen (a.num * (b.den:Int) + b.num * (a.den:Int)).natAbs ≤ mw a + mw b + 1:=by
 have h1:=zvC (a.num * (b.den:Int)) (b.num * (a.den:Int))
 have h2:=zfO a.num (b.den:Int)
 have h3:=zfO b.num (a.den:Int)
 rw [Int.natAbs_natCast] at h2 h3
 have:=zd2 a;have:=zd2 b;have:=zds a;have:=zds b
 omega
theorem zic (a b:Rat):wlen (((a.den * b.den:Nat):Int)).natAbs ≤ mw a + mw b:=by
 rw [Int.natAbs_natCast]
 have:=zdy a.den b.den;have:=zds a;have:=zds b
 omega
theorem zpd (a b:Rat):wlen (a.num * b.num).natAbs ≤ mw a + mw b:=by
 have:=zfO a.num b.num;have:=zd2 a;have:=zd2 b
 omega
theorem zrI (a b:Rat):mw (a + b) ≤ mw a + mw b + 1:=by
 rw [← ztR]
 have:=zhX (a.num * (b.den:Int) + b.num * (a.den:Int)) _ (zrl a b);have:=zpc a b;have:=zic a b
 omega
theorem zdI (a b:Rat):mw (a * b) ≤ mw a + mw b:=by
 rw [← zu5]
 have:=zhX (a.num * b.num) _ (zrl a b);have:=zpd a b;have:=zic a b
 omega
theorem zhY (a:Rat):mw (-a) = mw a:=by unfold mw;rw [Rat.neg_num,Rat.neg_den,Int.natAbs_neg]
def ziR (B:World) (s:Value) (w:World) (z:Int):Prop := ∃ (nb:Nat) (g:Bool) (A:Option Addr) (m c:Nat),s = .pointer (some ⟨nb,0,none⟩) ∧ Below B.heap.size B w ∧ B.heap.size ≤ nb ∧ w.heap[nb]? = some (.cells #[.bool g, .slice A m c] 33 (0,0)) ∧ IntS w g (.slice A m c) z
theorem ziR.of {B u:World} {nb:Nat} {g:Bool} {A:Option Addr} {m c:Nat} {z:Int} {v0 v1:Value} (hb:Below B.heap.size B ((u.setCell ⟨nb,0,none⟩ (.bool g)).setCell ⟨nb,1,none⟩ (.slice A m c))) (hn:B.heap.size ≤ nb) (hk:u.heap[nb]? = some (.cells #[v0,v1] 33 (0,0))) (hi:IntS u g (.slice A m c) z) :
  ziR B (.pointer (some ⟨nb,0,none⟩)) ((u.setCell ⟨nb,0,none⟩ (.bool g)).setCell ⟨nb,1,none⟩ (.slice A m c)) z :=
 ⟨nb,g,A,m,c,rfl,hb,hn,zar _ (zar _ hk),hi.set2 hk (by decide) _ _⟩
def zcD (B:World) (s:Value) (w:World) (q:Rat):Prop := ∃ (nb:Nat) (g:Bool) (A:Option Addr) (m c:Nat) (D:Option Addr) (md cd:Nat),s = .pointer (some ⟨nb,0,none⟩) ∧ Below B.heap.size B w ∧ B.heap.size ≤ nb ∧ w.heap[nb]? = some (.cells #[.bool g, .slice A m c, .slice D md cd] 35 (0,0)) ∧ RatS w g (.slice A m c) (.slice D md cd) q
theorem zcD.of {B u:World} {nb:Nat} {g:Bool} {A:Option Addr} {m c:Nat} {D:Option Addr} {md cd:Nat} {q:Rat} {v0 v1 v2:Value} (hb:Below B.heap.size B (((u.setCell ⟨nb,0,none⟩ (.bool g)).setCell ⟨nb,1,none⟩ (.slice A m c)).setCell ⟨nb,2,none⟩ (.slice D md cd))) (hn:B.heap.size ≤ nb) (hk:u.heap[nb]? = some (.cells #[v0,v1,v2] 35 (0,0))) (hi:RatS u g (.slice A m c) (.slice D md cd) q) :
  zcD B (.pointer (some ⟨nb,0,none⟩)) (((u.setCell ⟨nb,0,none⟩ (.bool g)).setCell ⟨nb,1,none⟩ (.slice A m c)).setCell ⟨nb,2,none⟩ (.slice D md cd)) q :=
 ⟨nb,g,A,m,c,D,md,cd,rfl,hb,hn,zar _ (zar _ (zar _ hk)),hi.set3 hk (by decide) _ _ _⟩
theorem zbc {w w1:World} {b:Nat} {cs:Array Value} {t:TypeId} (hb:Below w.heap.size w w1) (h:w.heap[b]? = some (.cells cs t (0,0))):w1.heap[b]? = some (.cells cs t (0,0)):=zad hb h
theorem IntS.nat {w:World} {g:Bool} {s:Value} {n:Nat} (h:IntS w g s (n:Int)):zas w s n:=h.abs
end Go.Proofs.YtdbgbaiekpbaoaaGreatDoor
