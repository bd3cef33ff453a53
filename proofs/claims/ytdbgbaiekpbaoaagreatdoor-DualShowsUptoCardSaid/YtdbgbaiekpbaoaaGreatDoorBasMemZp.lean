/- A basis in memory: its columns,what is taken apart,the columns replaced since. Conditions: as each says. vec.Sub,Scale,Dot by their contracts. Conditions: as each says. vec.Copy,Nought,Unit,First by their contracts. Conditions: as each says. mat.New by its contract. Conditions: as each says. How large a basis' numbers may be: one bound for a solve. Conditions: as each says. mat.By,Row,Col,Rows,Cols by their contracts. Conditions: as each says. Conditions: as they say. -/
import Derived.Test.YtdbgbaiekpbaoaaGreatDoorLuMem2Zp
import Derived.Test.YtdbgbaiekpbaoaaGreatDoorEtaZp
import Derived.Test.YtdbgbaiekpbaoaaGreatDoorVec5Zp
import Derived.Test.YtdbgbaiekpbaoaaGreatDoorMat2Zp
import Derived.Test.YtdbgbaiekpbaoaaGreatDoorLp2Zp
import Derived.Test.YtdbgbaiekpbaoaaGreatDoorRat6Zp
set_option linter.all false
namespace Go.Proofs.YtdbgbaiekpbaoaaGreatDoor
open Go.RowKit Am
open Lib (hid)
set_option maxHeartbeats 1000000
set_option maxRecDepth 100000
theorem zxj:(Tryz.prog.info? 208).map (fun i => (i.zero,i.size,i.bytes)) = some (some (.agg #[.int .i64 0, .slice none 0 0]),2,32):=by kernel_rfl
structure Kept (T:List TypeId) (b:Option Nat) (w w':World):Prop where
  all:∀ (k:Nat) (cs:Array Value) (t:TypeId),w.heap[k]? = some (.cells cs t (0,0)) → t ∉ T → (t = 3 → some k ≠ b) → w'.heap[k]? = some (.cells cs t (0,0))
  size:w.heap.size ≤ w'.heap.size
def TB:List TypeId:=[26,206,208]
def TT:List TypeId:=[26,206,208,147]
namespace Kept
variable {T:List TypeId} {b:Option Nat} {w w1 w2:World}
theorem of_below (h:Below w.heap.size w w1):Kept T b w w1:=⟨fun _ _ _ h1 _ _ => zad h h1,h.size⟩
theorem refl (w:World):Kept T b w w:=of_below (Below.refl _ _)
theorem trans (h:Kept T b w w1) (h2:Kept T b w1 w2):Kept T b w w2:=⟨fun k cs t e n m => h2.all k cs t (h.all k cs t e n m) n m,Nat.le_trans h.size h2.size⟩
theorem below (h:Kept T b w w1) (hb:Below w1.heap.size w1 w2):Kept T b w w2:=h.trans (of_below hb)
theorem alloc (h:Kept T b w w1) (o:Obj):Kept T b w (w1.alloc o):=h.below (zae _ o)
theorem drew (h:Kept T b w w1):Kept T b w w1.drew:=h.below (zap _ 1)
theorem any {T':List TypeId} {b':Option Nat} (h:Kept T none w w1) (hT:∀ t ∈ T,t ∈ T'):Kept T' b' w w1:=⟨fun k cs t e n _ => h.all k cs t e (fun e2 => n (hT t e2)) (fun _ => by simp),h.size⟩
theorem set {t:TypeId} {k o:Nat} {cs:Array Value} (hb:w.heap[k]? = some (.cells cs t (0,0))) (ht:t ∈ T) (u:Value):Kept T b w (w.setCell ⟨k,o,none⟩ u) :=
 ⟨fun j cs' t' e n _ => by rw [Below.heap_setCell _ _ _ _ (by rintro rfl;rw [hb] at e;injection e with e;injection e with _ e;exact n (e ▸ ht))];exact e,by simp⟩
theorem setInt {k o:Nat} {cs:Array Value} (hb:w.heap[k]? = some (.cells cs 3 (0,0))) (u:Value):Kept T (some k) w (w.setCell ⟨k,o,none⟩ u) :=
 ⟨fun j cs' t' e _ m => by rw [Below.heap_setCell _ _ _ _ (by rintro rfl;rw [hb] at e;injection e with e;injection e with _ e;exact m e.symm rfl)];exact e,by simp⟩
theorem tk {t:TypeId} (h:TKeep t w w1) (hs:w.heap.size ≤ w1.heap.size) (ht:t ∈ T):Kept T b w w1 :=
 ⟨fun _ _ t' e n _ => h.blk e (fun e2 => n (e2 ▸ ht)),hs⟩
theorem blk (h:Kept T b w w1) {k:Nat} {cs:Array Value} {t:TypeId} (e:w.heap[k]? = some (.cells cs t (0,0))) (n:t ∉ T) (m:t ≠ 3):w1.heap[k]? = some (.cells cs t (0,0)):=h.all k cs t e n (fun e2 => absurd e2 m)
theorem nat {s:Value} {n:Nat} (h:Kept T b w w1) (h1:193 ∉ T) (hn:zas w s n):zas w1 s n:=by
 obtain ⟨xs,h2,h3⟩:=hn
 refine ⟨xs,h2.keep fun k hb => ?_,h3⟩
 rcases h2.1.2 with ⟨rfl,_⟩ | ⟨g',cap,cur,rfl,_,hh,_⟩
 ·cases hb
 ·injection hb with hb;subst hb;rw [hh];exact h.blk hh h1 (by decide)
theorem ratS {g:Bool} {s d:Value} {q:Rat} (h:Kept T b w w1) (h1:193 ∉ T) (hq:RatS w g s d q):RatS w1 g s d q:=⟨⟨h.nat h1 hq.num.abs,hq.num.neg⟩,h.nat h1 hq.den⟩
theorem vec {H:Nat} {v:Value} {qs:List Rat} (h:Kept T b w w1) (h1:193 ∉ T) (h2:35 ∉ T) (hv:VecS w H v qs):VecS w1 H v qs:=by
 refine hv.keepAll (fun k hk => ?_) fun _ _ _ _ r => h.ratS h1 r
 obtain ⟨l,_,_,h3⟩:=hv.row
 rcases h3.2 with ⟨rfl,_⟩ | ⟨g',cap,cur,rfl,_,hh,_⟩
 ·cases hk
 ·injection hk with hk;subst hk;rw [hh];exact h.blk hh h2 (by decide)
theorem ints {H:Nat} {v:Value} {xs:List Nat} (h:Kept T b w w1) (h1:3 ∉ T) (hv:IntsS w H v xs) (hne:∀ g,v.ownBlock = some g → some g ≠ b):IntsS w1 H v xs:=by
 refine hv.keep fun k hk => ?_
 rcases hv.own.2 with ⟨rfl,_⟩ | ⟨g',cap,cur,rfl,_,hh,_⟩
 ·cases hk
 ·have hk':g' = k:=by injection hk
  subst hk'
  rw [hh]
  exact h.all _ _ _ hh h1 fun _ => hne _ hk
end Kept
def ecells (l:List (Nat × Value)):List Value:=l.flatMap fun r => [.int .i64 (r.1:Int),r.2]
theorem zp1 (r:Nat × Value) (l:List (Nat × Value)):ecells (r :: l) = .int .i64 (r.1:Int) :: r.2 :: ecells l:=by simp [ecells]
theorem znc (a b:List (Nat × Value)):ecells (a ++ b) = ecells a ++ ecells b:=by simp [ecells]
theorem zr7 (l:List (Nat × Value)):∀ (k:Nat) (r:Nat × Value),l[k]? = some r → (ecells l)[k * 2]? = some (.int .i64 (r.1:Int)) ∧ (ecells l)[k * 2 + 1]? = some r.2:=by
 induction l with
 | nil => intro k r h;simp at h
 | cons a l ih =>
  intro k r h
  rw [zp1]
  cases k with
  | zero => simp at h;subst h;simp
  | succ k =>
   have:=ih k r (by simpa using h)
   rw [show (k + 1) * 2 = k * 2 + 1 + 1 by omega]
   simpa using this
structure EtasL (w:World) (H:Nat) (v:Value) (l:List (Nat × Value)) (es:List (Nat × List Rat)):Prop where
  len:l.length = es.length
  each:∀ (k:Nat) (s:Nat × Value) (e:Nat × List Rat),l[k]? = some s → es[k]? = some e → s.1 = e.1 ∧ VecS w H s.2 e.2
  own:w.ownsRow H 208 2 v es.length (ecells l)
namespace EtasL
variable {w w':World} {H:Nat} {v:Value} {l:List (Nat × Value)} {es:List (Nat × List Rat)}
theorem keepAll (h:EtasL w H v l es) (hk:∀ k,v.ownBlock = some k → w'.heap[k]? = w.heap[k]?) (hr:∀ s r,VecS w H s r → VecS w' H s r):EtasL w' H v l es :=
 ⟨h.len,fun k s e a b => ⟨(h.each k s e a b).1,hr _ _ (h.each k s e a b).2⟩,zc9 h.own hk⟩
theorem below (h:EtasL w H v l es) (hb:Below w.heap.size w w'):EtasL w' H v l es:=h.keepAll (fun k hk => hb.block k (h.own.lt k hk).2) fun _ _ r => r.below hb
theorem alloc (h:EtasL w H v l es) (o:Obj):EtasL (w.alloc o) H v l es:=h.below (zae w o)
theorem drew (h:EtasL w H v l es):EtasL w.drew H v l es:=h.below (zap w 1)
theorem nil (w:World) (H:Nat):EtasL w H (.slice none 0 0) [] []:=⟨rfl,fun k s r h => by simp at h,World.ownsRow_nil _ _ _ _⟩
theorem tk {t:TypeId} (h:EtasL w H v l es) (hk:TKeep t w w') (h1:193 ≠ t) (h2:35 ≠ t) (h3:208 ≠ t):EtasL w' H v l es :=
 h.keepAll (fun k hb => hk k (h.own.lt k hb).2 fun cs e => za6 h.own e h3 hb) fun _ _ r => r.tk hk h1 h2
theorem form {A:Option Addr} {n c:Nat} (h:EtasL w H (.slice A n c) l es):n = es.length ∧ n ≤ c ∧ c ≤ maxLen ∧ ((A = none ∧ c = 0 ∧ es = []) ∨ ∃ g,A = some ⟨g,0,none⟩ ∧ H ≤ g ∧ g < w.heap.size):=by
 rcases h.own.2 with ⟨hv,hn⟩ | ⟨g,cap,cur,hv,hg,hh,hn,hm,_⟩
 ·injection hv with e1 e2 e3
  subst e1 e2 e3
  exact ⟨hn.symm,Nat.le_refl _,Nat.zero_le _, .inl ⟨rfl,rfl,List.length_eq_zero_iff.1 hn⟩⟩
 ·injection hv with e1 e2 e3
  subst e1 e2 e3
  exact ⟨rfl,hn,hm, .inr ⟨g,rfl,hg,(Array.getElem?_eq_some_iff.1 hh).1⟩⟩
theorem nlen {A:Option Addr} {n c:Nat} (h:EtasL w H (.slice A n c) l es):n = es.length:=h.form.1
theorem has {A:Option Addr} {n c:Nat} (h:EtasL w H (.slice A n c) l es) (hn:0 < n):∃ g,A = some ⟨g,0,none⟩ ∧ H ≤ g ∧ g < w.heap.size:=by
 obtain ⟨h1,h2,h3,h4 | h4⟩:=h.form
 ·omega
 ·exact h4
theorem slice (h:EtasL w H v l es):∃ A c,v = .slice A es.length c:=by
 rcases h.own.2 with ⟨hv,hn⟩ | ⟨g,cap,cur,hv,_⟩
 ·exact ⟨_,_,by rw [hv,hn]⟩
 ·exact ⟨_,_,hv⟩
theorem at_ {b n c:Nat} (h:EtasL w H (.slice (some ⟨b,0,none⟩) n c) l es) {k:Nat} {e:Nat × List Rat} (hk:es[k]? = some e):∃ (A:Option Addr) (c:Nat),w.cell? ⟨b,k * 2,none⟩ = some (.int .i64 (e.1:Int)) ∧ w.cell? ⟨b,k * 2 + 1,none⟩ = some (.slice A e.2.length c) ∧ VecS w H (.slice A e.2.length c) e.2:=by
 have hn:=h.nlen
 subst hn
 have hk':=(List.getElem?_eq_some_iff.1 hk).1
 obtain ⟨s,hs⟩:∃ s,l[k]? = some s:=⟨l[k]'(by rw [h.len];exact hk'),List.getElem?_eq_getElem _⟩
 obtain ⟨h1,h2⟩:=h.each k s e hs hk
 obtain ⟨A,n,c,e2⟩:=h2.slice
 rw [e2] at h2
 obtain rfl:=h2.len
 obtain ⟨g0,g1⟩:=zr7 l k s hs
 refine ⟨A,c,?_,?_,h2⟩
 ·rw [h.own.cellAt _ (by omega),g0,h1]
 ·rw [h.own.cellAt _ (by omega),g1,e2]
end EtasL
theorem zC5 {w:World} {b:Nat} {c0 c1:Value} {t:TypeId} (hb:w.heap[b]? = some (.cells #[c0,c1] t (0,0))):∀ j u,[c0,c1][j]? = some u → w.cell? ((⟨b,0,none⟩:Addr).add j) = some u:=by
 intro j u hu
 match j,hu with
 | 0,hu => exact (zac hb 0).trans hu
 | 1,hu => exact (zac hb 1).trans hu
 | j + 2,hu => simp at hu
theorem zjg {ops:Array Oper} {o:Oper} {a:Act} {w:World} {K:Act → World → Prop} {Q:Exit → Act → World → Prop} {E:Prop} (hg:o.guard = none) (s x:Operand)
  (hop:o.op = .call { callee := .builtin .append,args := #[s,x],argTypes := #[204,204] }) {H:Nat} {v:Value} {l:List (Nat × Value)} {es:List (Nat × List Rat)} (hs:a.eval s = v) (hv:EtasL w H v l es) {b:Nat} (hx:a.eval x = .slice (some ⟨b,0,none⟩) 1 1)
  {at_:Nat} {sl:Value} {r:List Rat} (hb:w.heap[b]? = some (.cells #[.int .i64 (at_:Int),sl] 208 (0,0))) (hr:VecS w H sl r) {n:Nat} (hn:es.length = n) (hlen:n + 1 ≤ 1000000) (hH:H ≤ w.heap.size)
  (hK:∀ A' c' l' w',EtasL w' H (.slice A' (n + 1) c') l' (es ++ [(at_,r)]) → TKeep 208 w w' → Below H w w' → K (a.put o.dst (.slice A' (n + 1) c')) w') :
  if Region.wanted o (yielded ops a.tmps) = true then Oper.wp Tryz.prog o a w K Q else E:=by
 have hw:Region.wanted o (yielded ops a.tmps) = true:=by simp [Region.wanted,hg]
 rw [if_pos hw]
 subst hn
 obtain ⟨i0,hi,hz0,hz1,hz2⟩:=info_parts zxj
 refine wp_append_own w s x 204 hop H 208 i0 _ 2 32 Tryz.underlying204 hi hz0 hz1 hz2 rfl (by decide) v es.length (ecells l) hs hv.own ⟨b,0,none⟩ 1 1 [.int .i64 (at_:Int),sl] hx rfl (zC5 hb)
  (by intro u hu;simp at hu;rcases hu with e | e;(rw [e];rfl);(rw [e];exact hr.one)) (by unfold maxLen;omega) (by omega) hH ?_
 intro v' w' hown hgrow _
 have hk:=TKeep.grown hv.own hgrow
 have hL:EtasL w' H v' (l ++ [(at_,sl)]) (es ++ [(at_,r)]):=by
  refine ⟨by simp [hv.len],?_,by rw [List.length_append,znc];exact hown⟩
  intro k r' p' h1 h2
  rcases Nat.lt_trichotomy k l.length with h | h | h
  ·rw [List.getElem?_append_left h] at h1
   rw [List.getElem?_append_left (by rw [← hv.len];exact h)] at h2
   exact ⟨(hv.each k r' p' h1 h2).1,(hv.each k r' p' h1 h2).2.tk hk (by decide) (by decide)⟩
  ·subst h
   rw [List.getElem?_append_right (Nat.le_refl _)] at h1
   rw [List.getElem?_append_right (by rw [hv.len];exact Nat.le_refl _)] at h2
   simp at h1
   rw [hv.len] at h2
   simp at h2
   subst h1 h2
   exact ⟨rfl,hr.tk hk (by decide) (by decide)⟩
  ·rw [List.getElem?_eq_none (by simp;omega)] at h1;cases h1
 obtain ⟨A',c',e⟩:=hL.slice
 rw [List.length_append] at e
 subst e
 exact hK A' c' _ w' hL hk ((Below.refl _ _).grown hgrow hH (fun k hk => (hv.own.lt k hk).1))
theorem zd5 {w:World} {ops:Array Oper} {rest:List Oper} {o:Oper} {a:Act} {Q:Exit → Act → World → Prop} (hgd:o.guard = none) (s x:Operand)
  (hop:o.op = .call { callee := .builtin .append,args := #[s,x],argTypes := #[204,204] }) {H:Nat} {v:Value} {l:List (Nat × Value)} {es:List (Nat × List Rat)} (hs:a.eval s = v) (hv:EtasL w H v l es) {b:Nat} (hx:a.eval x = .slice (some ⟨b,0,none⟩) 1 1)
  {at_:Nat} {sl:Value} {r:List Rat} (hb:w.heap[b]? = some (.cells #[.int .i64 (at_:Int),sl] 208 (0,0))) (hr:VecS w H sl r) {n:Nat} (hn:es.length = n) (hlen:n + 1 ≤ 1000000) (hH:H ≤ w.heap.size)
  (hK:∀ A' c' l' w',EtasL w' H (.slice A' (n + 1) c') l' (es ++ [(at_,r)]) → TKeep 208 w w' → Below H w w' → wpList Tryz.prog ops Q rest (a.put o.dst (.slice A' (n + 1) c')) w') :
  wpList Tryz.prog ops Q (o :: rest) a w:=by
 refine wpList_plain hgd fun K hK' => ?_
 have h:=zjg (ops:=ops) (K:=K) (Q:=Q) (E:=True) hgd s x hop hs hv hx hb hr hn hlen hH fun A' c' l' w' h1 h2 h3 => hK' _ _ (hK A' c' l' w' h1 h2 h3)
 have hw:Region.wanted o (yielded ops a.tmps) = true:=by simp [Region.wanted,hgd]
 rw [if_pos hw] at h
 exact h
structure Hi (H:Nat) (w w':World):Prop where
  blk:∀ k,H ≤ k → k < w.heap.size → w'.heap[k]? = w.heap[k]?
  num:∀ (k:Nat) (cs:Array Value),w.heap[k]? = some (.cells cs 193 (0,0)) → w'.heap[k]? = some (.cells cs 193 (0,0))
namespace Hi
variable {H:Nat} {w w':World}
theorem nat {s:Value} {n:Nat} (h:Hi H w w') (hn:zas w s n):zas w' s n:=by
 obtain ⟨xs,h2,h3⟩:=hn
 refine ⟨xs,h2.keep fun k hb => ?_,h3⟩
 rcases h2.1.2 with ⟨rfl,_⟩ | ⟨g',cap,cur,rfl,_,hh,_⟩
 ·cases hb
 ·injection hb with hb;subst hb;rw [hh];exact h.num _ _ hh
theorem ratS {g:Bool} {s d:Value} {q:Rat} (h:Hi H w w') (hq:RatS w g s d q):RatS w' g s d q:=⟨⟨h.nat hq.num.abs,hq.num.neg⟩,h.nat hq.den⟩
theorem vec {v:Value} {qs:List Rat} (h:Hi H w w') (hv:VecS w H v qs):VecS w' H v qs:=hv.keepAll (fun k hk => h.blk k (hv.lt hk).1 (hv.lt hk).2) fun _ _ _ _ r => h.ratS r
theorem vecs {v:Value} {l:List Value} {L:List (List Rat)} (h:Hi H w w') (hv:VecsL w H v l L):VecsL w' H v l L:=hv.keepAll (fun k hk => h.blk k (hv.own.lt k hk).1 (hv.own.lt k hk).2) fun _ _ _ r => h.vec r
theorem ints {v:Value} {xs:List Nat} (h:Hi H w w') (hv:IntsS w H v xs):IntsS w' H v xs:=hv.keep fun k hk => h.blk k (hv.own.lt k hk).1 (hv.own.lt k hk).2
theorem lu {q n:Nat} {F:LUv} (h:Hi H w w') (hv:LuS w H q n F):LuS w' H q n F:=by
 obtain ⟨⟨lA,lc,ll,uA,uc,ul,pA,pc,h1,h2,h3,h4,h5,h6,h7⟩,h8,h9⟩:=hv
 exact ⟨⟨lA,lc,ll,uA,uc,ul,pA,pc,by rw [h.blk q h8 (Array.getElem?_eq_some_iff.1 h1).1];exact h1,h.vecs h2,h3,h.vecs h4,h5,h6,h.ints h7⟩,h8,h9⟩
theorem set {k o:Nat} {cs:Array Value} {t:TypeId} (hk:k < H) (hb:w.heap[k]? = some (.cells cs t (0,0))) (ht:193 ≠ t) (u:Value):Hi H w (w.setCell ⟨k,o,none⟩ u) :=
 ⟨fun j h1 _ => Below.heap_setCell _ _ _ _ (show j ≠ k by omega),fun j cs' e => by
  rw [Below.heap_setCell _ _ _ _ (show j ≠ k by rintro rfl;rw [hb] at e;injection e with e;injection e with _ e;exact ht e.symm)];exact e⟩
end Hi
theorem LuS.below {w w':World} {H q n:Nat} {F:LUv} (h:LuS w H q n F) (hb:Below w.heap.size w w'):LuS w' H q n F :=
 Hi.lu ⟨fun k _ hk => hb.block k hk,fun _ _ e => zad hb e⟩ h
theorem LuS.tk {w w':World} {H q n:Nat} {F:LUv} {t:TypeId} (h:LuS w H q n F) (hk:TKeep t w w') (h1:193 ≠ t) (h2:35 ≠ t) (h3:26 ≠ t) (h4:3 ≠ t) (h5:263 ≠ t):LuS w' H q n F:=by
 obtain ⟨⟨lA,lc,ll,uA,uc,ul,pA,pc,a1,a2,a3,a4,a5,a6,a7⟩,a8,a9⟩:=h
 exact ⟨⟨lA,lc,ll,uA,uc,ul,pA,pc,hk.blk a1 h5,a2.tk hk h1 h2 h3,a3,a4.tk hk h1 h2 h3,a5,a6,a7.tk hk h4⟩,a8,a9⟩
structure BasP (w:World) (H q n S:Nat) (cA:Option Addr) (cc:Nat) (lc:List Value) (C:List (List Rat)) (K ql:Nat) (F:LUv) (D:List (List Rat)) (eA:Option Addr) (ec:Nat) (le:List (Nat × Value)) (es:List (Nat × List Rat)):Prop where
  blk:w.heap[q]? = some (.cells #[.slice cA n cc, .pointer (some ⟨ql,0,none⟩), .slice eA es.length ec] 206 (0,0))
  cols:VecsL w H (.slice cA n cc) lc C
  low:∀ g,(Value.slice cA n cc).ownBlock = some g → g < K
  lu:LuS w K ql n F
  fac:zoN n (zcZ n D) = some F
  etas:EtasL w H (.slice eA es.length ec) le es
  right:EtasZ mw S n D es C
  few:es.length ≤ 8
  own:H ≤ q
  ownK:H ≤ K
def zjE (w:World) (H q n S:Nat) (C:List (List Rat)):Prop := ∃ cA cc lc K ql F D eA ec le es,BasP w H q n S cA cc lc C K ql F D eA ec le es
namespace BasP
variable {w w':World} {H q n S:Nat} {cA:Option Addr} {cc:Nat} {lc:List Value} {C:List (List Rat)} {K ql:Nat} {F:LUv} {D:List (List Rat)} {eA:Option Addr} {ec:Nat} {le:List (Nat × Value)} {es:List (Nat × List Rat)}
theorem below (h:BasP w H q n S cA cc lc C K ql F D eA ec le es) (hb:Below w.heap.size w w'):BasP w' H q n S cA cc lc C K ql F D eA ec le es :=
 ⟨by rw [hb.block q (Array.getElem?_eq_some_iff.1 h.blk).1];exact h.blk,h.cols.below hb,h.low,h.lu.below hb,h.fac,h.etas.below hb,h.right,h.few,h.own,h.ownK⟩
theorem alloc (h:BasP w H q n S cA cc lc C K ql F D eA ec le es) (o:Obj):BasP (w.alloc o) H q n S cA cc lc C K ql F D eA ec le es:=h.below (zae w o)
theorem drew (h:BasP w H q n S cA cc lc C K ql F D eA ec le es):BasP w.drew H q n S cA cc lc C K ql F D eA ec le es:=h.below (zap w 1)
theorem tk {t:TypeId} (h:BasP w H q n S cA cc lc C K ql F D eA ec le es) (hk:TKeep t w w') (h1:193 ≠ t) (h2:35 ≠ t) (h3:26 ≠ t) (h4:3 ≠ t) (h5:263 ≠ t) (h6:208 ≠ t) (h7:206 ≠ t):BasP w' H q n S cA cc lc C K ql F D eA ec le es :=
 ⟨hk.blk h.blk h7,h.cols.tk hk h1 h2 h3,h.low,h.lu.tk hk h1 h2 h3 h4 h5,h.fac,h.etas.tk hk h1 h2 h6,h.right,h.few,h.own,h.ownK⟩
theorem qlt (h:BasP w H q n S cA cc lc C K ql F D eA ec le es):q < w.heap.size:=(Array.getElem?_eq_some_iff.1 h.blk).1
theorem hle (h:BasP w H q n S cA cc lc C K ql F D eA ec le es):H ≤ w.heap.size:=Nat.le_trans h.own (Nat.le_of_lt h.qlt)
end BasP
namespace zjE
variable {w w':World} {H q n S:Nat} {C:List (List Rat)}
theorem below (h:zjE w H q n S C) (hb:Below w.heap.size w w'):zjE w' H q n S C:=by
 obtain ⟨cA,cc,lc,K,ql,F,D,eA,ec,le,es,h⟩:=h;exact ⟨cA,cc,lc,K,ql,F,D,eA,ec,le,es,h.below hb⟩
theorem alloc (h:zjE w H q n S C) (o:Obj):zjE (w.alloc o) H q n S C:=h.below (zae w o)
theorem drew (h:zjE w H q n S C):zjE w.drew H q n S C:=h.below (zap w 1)
theorem tk {t:TypeId} (h:zjE w H q n S C) (hk:TKeep t w w') (h1:193 ≠ t) (h2:35 ≠ t) (h3:26 ≠ t) (h4:3 ≠ t) (h5:263 ≠ t) (h6:208 ≠ t) (h7:206 ≠ t):zjE w' H q n S C:=by
 obtain ⟨cA,cc,lc,K,ql,F,D,eA,ec,le,es,h⟩:=h;exact ⟨cA,cc,lc,K,ql,F,D,eA,ec,le,es,h.tk hk h1 h2 h3 h4 h5 h6 h7⟩
theorem good (h:zjE w H q n S C):CSq n C ∧ CReg n C ∧ zhg mw n S C:=by
 obtain ⟨cA,cc,lc,K,ql,F,D,eA,ec,le,es,h⟩:=h;exact h.right.good
theorem hle (h:zjE w H q n S C):H ≤ w.heap.size:=by
 obtain ⟨cA,cc,lc,K,ql,F,D,eA,ec,le,es,h⟩:=h;exact h.hle
end zjE
def zey (w:World) (ql:Nat) (tb:Option Nat):Prop := ∀ (cs:Array Value),w.heap[ql]? = some (.cells cs 263 (0,0)) → ∀ p,cs[2]? = some p → ∀ g,p.ownBlock = some g → some g ≠ tb
def zhf (w:World) (H q n S:Nat) (C:List (List Rat)) (tb:Option Nat):Prop := ∃ cA cc lc K ql F D eA ec le es,BasP w H q n S cA cc lc C K ql F D eA ec le es ∧ zey w ql tb
theorem LuS.perm {w:World} {K ql n:Nat} {F:LUv} (h:LuS w K ql n F) {cs:Array Value} (hc:w.heap[ql]? = some (.cells cs 263 (0,0))) {p:Value} (hp:cs[2]? = some p):IntsS w K p F.perm:=by
 obtain ⟨⟨lA,lc,ll,uA,uc,ul,pA,pc,a1,a2,a3,a4,a5,a6,a7⟩,a8,a9⟩:=h
 rw [a1] at hc
 injection hc with hc
 injection hc with hc
 subst hc
 have : p = .slice pA n pc:=by simpa using hp.symm
 rw [this];exact a7
theorem LuS.qlt {w:World} {K ql n:Nat} {F:LUv} (h:LuS w K ql n F):ql < w.heap.size:=by
 obtain ⟨⟨lA,lc,ll,uA,uc,ul,pA,pc,a1,_⟩,_,_⟩:=h
 exact (Array.getElem?_eq_some_iff.1 a1).1
theorem LuS.setI {w:World} {K ql n:Nat} {F:LUv} {b o:Nat} {cs:Array Value} (h:LuS w K ql n F) (ho:zey w ql (some b)) (hb:w.heap[b]? = some (.cells cs 3 (0,0))) (u:Value):LuS (w.setCell ⟨b,o,none⟩ u) K ql n F:=by
 have k1:TKeep 3 w (w.setCell ⟨b,o,none⟩ u):=TKeep.set hb u
 obtain ⟨⟨lA,lc,ll,uA,uc,ul,pA,pc,a1,a2,a3,a4,a5,a6,a7⟩,a8,a9⟩:=h
 refine ⟨⟨lA,lc,ll,uA,uc,ul,pA,pc,k1.blk a1 (by decide),a2.tk k1 (by decide) (by decide) (by decide),a3,a4.tk k1 (by decide) (by decide) (by decide),a5,a6,a7.keep fun k hk => Below.heap_setCell _ _ _ _ ?_⟩,a8,a9⟩
 intro e
 exact ho _ a1 (.slice pA n pc) rfl k hk (by rw [e])
theorem zey.same {w w':World} {ql:Nat} {tb:Option Nat} (h:zey w ql tb) (e:w'.heap[ql]? = w.heap[ql]?):zey w' ql tb:=fun cs hc p hp g hg => h cs (e ▸ hc) p hp g hg
namespace zhf
variable {w w':World} {H q n S:Nat} {C:List (List Rat)} {tb:Option Nat}
theorem toS (h:zhf w H q n S C tb):zjE w H q n S C:=by
 obtain ⟨cA,cc,lc,K,ql,F,D,eA,ec,le,es,h,_⟩:=h;exact ⟨cA,cc,lc,K,ql,F,D,eA,ec,le,es,h⟩
theorem below (h:zhf w H q n S C tb) (hb:Below w.heap.size w w'):zhf w' H q n S C tb:=by
 obtain ⟨cA,cc,lc,K,ql,F,D,eA,ec,le,es,h,ho⟩:=h
 exact ⟨cA,cc,lc,K,ql,F,D,eA,ec,le,es,h.below hb,ho.same (hb.block ql h.lu.qlt)⟩
theorem alloc (h:zhf w H q n S C tb) (o:Obj):zhf (w.alloc o) H q n S C tb:=h.below (zae w o)
theorem drew (h:zhf w H q n S C tb):zhf w.drew H q n S C tb:=h.below (zap w 1)
theorem tk {t:TypeId} (h:zhf w H q n S C tb) (hk:TKeep t w w') (h1:193 ≠ t) (h2:35 ≠ t) (h3:26 ≠ t) (h4:3 ≠ t) (h5:263 ≠ t) (h6:208 ≠ t) (h7:206 ≠ t):zhf w' H q n S C tb:=by
 obtain ⟨cA,cc,lc,K,ql,F,D,eA,ec,le,es,h,ho⟩:=h
 refine ⟨cA,cc,lc,K,ql,F,D,eA,ec,le,es,h.tk hk h1 h2 h3 h4 h5 h6 h7,ho.same ?_⟩
 obtain ⟨⟨lA,lc,ll,uA,uc,ul,pA,pc,a1,_⟩,_,_⟩:=h.lu
 rw [hk.blk a1 h5,a1]
theorem setI {b o:Nat} {cs:Array Value} (h:zhf w H q n S C (some b)) (hb:w.heap[b]? = some (.cells cs 3 (0,0))) (u:Value):zhf (w.setCell ⟨b,o,none⟩ u) H q n S C (some b):=by
 have k1:TKeep 3 w (w.setCell ⟨b,o,none⟩ u):=TKeep.set hb u
 obtain ⟨cA,cc,lc,K,ql,F,D,eA,ec,le,es,h,ho⟩:=h
 refine ⟨cA,cc,lc,K,ql,F,D,eA,ec,le,es,⟨k1.blk h.blk (by decide),h.cols.tk k1 (by decide) (by decide) (by decide),h.low,h.lu.setI ho hb u,h.fac,h.etas.tk k1 (by decide) (by decide) (by decide),h.right,h.few,h.own,h.ownK⟩,ho.same ?_⟩
 obtain ⟨⟨lA,lc,ll,uA,uc,ul,pA,pc,a1,_⟩,_,_⟩:=h.lu
 rw [k1.blk a1 (by decide),a1]
theorem good (h:zhf w H q n S C tb):CSq n C ∧ CReg n C ∧ zhg mw n S C:=h.toS.good
theorem hle (h:zhf w H q n S C tb):H ≤ w.heap.size:=h.toS.hle
end zhf
theorem zjE.later {w:World} {H q n S:Nat} {C:List (List Rat)} (h:zjE w H q n S C) {tb:Option Nat} (ht:∀ g,tb = some g → w.heap.size ≤ g):zhf w H q n S C tb:=by
 obtain ⟨cA,cc,lc,K,ql,F,D,eA,ec,le,es,h⟩:=h
 refine ⟨cA,cc,lc,K,ql,F,D,eA,ec,le,es,h,fun cs hc p hp g hg e => ?_⟩
 have h1:=((h.lu.perm hc hp).own.lt g hg).2
 have h2:=ht g e.symm
 omega
theorem BasP.ahead {w:World} {H q n S:Nat} {cA:Option Addr} {cc:Nat} {lc:List Value} {C:List (List Rat)} {K ql:Nat} {F:LUv} {D:List (List Rat)} {eA:Option Addr} {ec:Nat} {le:List (Nat × Value)} {es:List (Nat × List Rat)}
  (h:BasP w H q n S cA cc lc C K ql F D eA ec le es) {tb:Option Nat} (ht:∀ g,tb = some g → g < K):zey w ql tb:=fun cs hc p hp g hg e => by
 have h1:=((h.lu.perm hc hp).own.lt g hg).1
 have h2:=ht g e.symm
 omega
end Go.Proofs.YtdbgbaiekpbaoaaGreatDoor
namespace Go.Proofs.YtdbgbaiekpbaoaaGreatDoor
open Go.RowKit Am
open Lib (hid)
attribute [local go_sem ↓] Go.wp_at_zero Go.wp_at_succ
set_option maxHeartbeats 4000000
set_option maxRecDepth 100000
theorem zu9 (x:Int) (h:I64 x):mw (x:Rat) ≤ 1:=by
 unfold mw
 rw [Rat.num_intCast,Rat.den_intCast]
 have h1:=zdl (n:=x.natAbs) (by unfold B64;omega)
 have h2:=zdl (n:=1) (by decide)
 omega
theorem zvb:mw 0 ≤ 1:=zu9 0 (by constructor <;> decide)
theorem zDJ {xs:List Rat} {M:Nat} (hM:1 ≤ M) (h:∀ q ∈ xs,mw q ≤ M) (i:Nat):mw (el xs i) ≤ M:=by
 unfold el
 rw [List.getD_eq_getElem?_getD]
 cases e:xs[i]? with
 | none => exact Nat.le_trans zvb hM
 | some a => exact h a (List.mem_of_getElem? e)
theorem zrK {f:Nat → Rat} {M:Nat} (h:∀ i,mw (f i) ≤ M):∀ n,mw (zai n f) ≤ n * (M + 1) + 1
 | 0 => by simpa [zai] using zvb
 | n + 1 => by
  have h1:=zrK h n
  have h2:=h n
  have h3:=zrI (zai n f) (f n)
  rw [Nat.succ_mul]
  show mw (zai n f + f n) ≤ _
  omega
def ziw (xs ys:List Rat) (k:Nat):Rat:=zai k fun i => el xs i * el ys i
def dot (xs ys:List Rat):Rat:=ziw xs ys xs.length
theorem zlZ (xs ys:List Rat) (k:Nat) {a b:Rat} (ha:xs[k]? = some a) (hb:ys[k]? = some b):ziw xs ys (k + 1) = ziw xs ys k + a * b:=by
 unfold ziw;rw [zai,znd ha,znd hb]
theorem zlY (xs ys:List Rat) (k:Nat) {a b:Rat} (ha:xs[k]? = some a) (hb:ys[k]? = some b) (h:a = 0 ∨ b = 0):ziw xs ys (k + 1) = ziw xs ys k:=by
 rw [zlZ xs ys k ha hb]
 rcases h with rfl | rfl
 ·rw [Rat.zero_mul,Rat.add_zero]
 ·rw [Rat.mul_zero,Rat.add_zero]
theorem zrJ {xs ys:List Rat} (zx:∀ q ∈ xs,mw q ≤ 1000000) (zy:∀ q ∈ ys,mw q ≤ 1000000) (k:Nat):mw (ziw xs ys k) ≤ k * 2000001 + 1 :=
 zrK (fun i => Nat.le_trans (zdI _ _) (by have:=zDJ (by omega) zx i;have:=zDJ (by omega) zy i;omega)) k
def scale (r:Rat) (xs:List Rat):List Rat:=xs.map fun a => r * a
theorem zvn {r:Rat} {xs:List Rat} {k:Nat} {a:Rat} (h:xs[k]? = some a):(scale r xs)[k]? = some (r * a):=by simp [scale,h]
theorem zfH (r:Rat) (xs:List Rat):(scale r xs).length = xs.length:=by simp [scale]
namespace Vc
theorem subS (S:Nat) (hS:12 * S + 8 ≤ LIM) (h1:1 ≤ S) (A:Option Addr) (n c:Nat) (xs:List Rat) (B:Option Addr) (n' c':Nat) (ys:List Rat) (H H':Nat) (w:World) (hx:VecS w H (.slice A n c) xs) (hy:VecS w H' (.slice B n' c') ys)
  (hl:xs.length = ys.length) (hb:n ≤ 1048576) (zx:∀ q ∈ xs,mw q ≤ S) (zy:∀ q ∈ ys,mw q ≤ S) :
  Calls Tryz.prog 44 #[.slice A n c, .slice B n' c'] w (zcd w (zly xs ((-1:Int):Rat) ys) true):=by
 have HA:=hid hx
 have HB:=hid hy
 have HL:=hid hl
 have HBN:=hid hb
 have ZX:=hid zx
 have ZY:=hid zy
 have HS0:=hid hS
 have HS1:=hid h1
 clear hx hy hl hb zx zy hS h1
 go_enter Tryz.func44,Tryz.ntmps44
 go_wp2_with fail
 refine (Rt.int (-1) (by decide) (by decide) _).mono ?_
 rintro e w1 ⟨g,R,m,cr,D,md,cd,rfl,hr,hb⟩
 have HA1:=hid (HA.out.below hb)
 have HB1:=hid (HB.out.below hb)
 have HR:=hid hr
 have HBB:=hid hb
 clear hr hb
 go_wp2_with fail
 refine (addTimesS S HS0.out A n c xs g R m cr D md cd ((-1:Int):Rat) B n' c' ys H H' _ HA1.out HR.out HB1.out HL.out HBN.out ZX.out (Nat.le_trans (zu9 _ (by constructor <;> decide)) HS1.out) ZY.out).mono ?_
 rintro e w2 ⟨A2,n2,c2,rfl,hv,hb⟩
 have HV:=hid (hv.base HBB.out.size)
 have HB2:=hid (HBB.out.trans (hb.mono HBB.out.size))
 clear hv hb
 go_wp2
 refine bodyPost_ret (v := .tuple #[.slice A2 n2 c2, .bool true]) (by simp [results,Tryz.results44,go_sem]) rfl ?_
 exact ⟨_,_,_,rfl,HV.out,HB2.out⟩
theorem sub (A:Option Addr) (n c:Nat) (xs:List Rat) (B:Option Addr) (n' c':Nat) (ys:List Rat) (H H':Nat) (w:World) (hx:VecS w H (.slice A n c) xs) (hy:VecS w H' (.slice B n' c') ys)
  (hl:xs.length = ys.length) (hb:n ≤ 1048576) (zx:∀ q ∈ xs,mw q ≤ 10000000) (zy:∀ q ∈ ys,mw q ≤ 10000000) :
  Calls Tryz.prog 44 #[.slice A n c, .slice B n' c'] w (zcd w (zly xs ((-1:Int):Rat) ys) true) :=
 subS 10000000 (by rw [zaP];decide) (by decide) A n c xs B n' c' ys H H' w hx hy hl hb zx zy
theorem scaleS (S:Nat) (hS:8 * S + 8 ≤ LIM) (g:Bool) (R:Option Addr) (m cr:Nat) (D:Option Addr) (md cd:Nat) (r:Rat) (A:Option Addr) (n c:Nat) (xs:List Rat) (H:Nat) (w:World) (hx:VecS w H (.slice A n c) xs) (hr:RatS w g (.slice R m cr) (.slice D md cd) r)
  (hb:n ≤ 1048576) (zx:∀ q ∈ xs,mw q ≤ S) (zr:mw r ≤ S) :
  Calls Tryz.prog 42 #[.agg #[.bool g, .slice R m cr, .slice D md cd], .slice A n c] w (zq5 w (scale r xs)):=by
 have hn:=hx.len
 have HN:=hid hn
 have HBN:=hid hb
 have ZX:=hid zx
 have ZR:=hid zr
 have hnb:n ≤ 9223372036854775807:=by omega
 have HS0:=hid hS
 clear hn hb zx zr hS
 obtain ⟨W,hW⟩:∃ W,(w.alloc (.cells #[.bool g, .slice R m cr, .slice D md cd] 35)) = W:=⟨_,rfl⟩
 have KB0:=hid (show W.heap[w.heap.size]? = some (.cells #[.bool g, .slice R m cr, .slice D md cd] 35 (0,0)) by rw [← hW];exact zam (by simp))
 have BB:=hid (show Below w.heap.size w W by rw [← hW];exact zae w _)
 have HZ:=hid (show w.heap.size + 1 ≤ W.heap.size by rw [← hW];simp)
 have HA:=hid (show VecS W H (.slice A n c) xs by rw [← hW];exact (hx).alloc _)
 have HR:=hid (show RatS W g (.slice R m cr) (.slice D md cd) r by rw [← hW];exact (hr).alloc _)
 clear hx hr
 go_enter Tryz.func42,Tryz.ntmps42
 go_wp2_with (at_make;go_must (refine zdv rfl _ _ rfl n _ rfl rfl rfl HBN.out W.heap.size rfl ?_;intro w1 ho hb1))
 clear hW
 have HO:=hid ho
 have HB1:=hid hb1
 clear ho hb1
 go_wp2
 go_loopw [12] (fun i wr => ∃ k:Nat,i = .int .i64 k ∧ k ≤ n ∧ VecS wr W.heap.size (.slice (some ⟨W.heap.size,0,none⟩) n n) (mix (Go.Proofs.YtdbgbaiekpbaoaaGreatDoor.scale r xs) k) ∧ Below W.heap.size W wr)
  (fun i _ => n - (intOf i).toNat)
 case atStart => exact ⟨0,rfl,Nat.zero_le _,by rw [zhW,zfH, ← HN.out];exact HO.out,HB1.out⟩
 case round =>
  obtain ⟨k,rfl,hk,hv,hB⟩:=hrel
  by_cases hlt:k < n
  ·obtain ⟨a,ha⟩:∃ a,xs[k]? = some a:=⟨xs[k]'(by rw [← HN.out];exact hlt),List.getElem?_eq_getElem _⟩
   obtain ⟨bx,rfl,hbx0,hbx1⟩:=HA.out.has (by omega)
   obtain ⟨ga,Aa,ma,ca,Da,mda,cda,k0,k1,k2,hRa⟩:=(HA.out.below hB).at_ ha
   have zaq:=hid (zad hB KB0.out)
   have zn6:=hid (HR.out.below hB)
   have HRa:=hid (show RatS wr ga (.slice Aa ma ca) (.slice Da mda cda) a from hRa)
   have HV:=hid (show VecS wr W.heap.size (.slice (some ⟨W.heap.size,0,none⟩) n n) (mix (Go.Proofs.YtdbgbaiekpbaoaaGreatDoor.scale r xs) k) from hv)
   have HW:=hid (show Bel W wr from Bel.mk hB)
   obtain ⟨zaI,_,zaJ,_,zbC,_⟩:=bc3 zaq.out
   have zbJ:wr.cell? ⟨bx,k * 3,none⟩ = some (.bool ga):=k0
   have x0_1d:=zaa zbJ
   have zbY:wr.cell? ⟨bx,k * 3 + 1,none⟩ = some (.slice Aa ma ca):=k1
   have x1_1d:=zaa zbY
   have zcb:wr.cell? ⟨bx,k * 3 + 2,none⟩ = some (.slice Da mda cda):=k2
   have x2_1d:=zaa zcb
   have HGET:=hid (zvn (r:=r) ha)
   have ZA:=hid (ZX.out a (List.mem_of_getElem? ha))
   have hi1:(0:Int) ≤ (k:Int):=Int.natCast_nonneg _
   have hi2:(k:Int) < (n:Int):=by omega
   have L1:=hid (show 4 * (mw r + mw a) + 8 ≤ LIM by have:=ZR.out;have:=ZA.out;have:=HS0.out;omega)
   have HMIX:=hid (zld (k:=k) (rs:=Go.Proofs.YtdbgbaiekpbaoaaGreatDoor.scale r xs) (by rw [zfH, ← HN.out];exact hlt))
   clear hv hB ha k0 k1 k2 hRa
   have hz0:=HZ.out
   go_wp2_with fail
   go_region_held3 (fun w' => w'.cell? ⟨w.heap.size,0,none⟩ = some (.bool g) ∧ w'.cell? ⟨w.heap.size,1,none⟩ = some (.slice R m cr) ∧ w'.cell? ⟨w.heap.size,2,none⟩ = some (.slice D md cd) ∧ w'.cell? ⟨bx,k * 3,none⟩ = some (.bool ga) ∧ w'.cell? ⟨bx,k * 3 + 1,none⟩ = some (.slice Aa ma ca) ∧ w'.cell? ⟨bx,k * 3 + 2,none⟩ = some (.slice Da mda cda))
    (((try go_split_ands);(try simp only [World.cell?_drew]);(repeat' apply And.intro) <;> (repeat (first | with_reducible assumption | with_reducible refine cell_set (by omega) ?_ | with_reducible refine cell_al ?_))))
    (first
     | (go_at_call 14;(with_reducible refine (Rt.mul g R m cr D md cd r ga Aa ma ca Da mda cda a _ zn6.out.drew HRa.out.drew L1.out).mono ?_);rintro e u1 ⟨g1,A1,m1,c1,D1,md1,cd1,rfl,hn,hb⟩;have zaD:=hid (zad hb zaq.out);have zrY:=hid (HV.out.drew.below hb);have zn7:=hid (HW.out.drew.below hb);have HM:=hid (show RatS u1 g1 (.slice A1 m1 c1) (.slice D1 md1 cd1) (r * a) from hn);obtain ⟨zaU,_,zaV,_,zdr,_⟩:=bc3 zaD.out;have zcX:=zab hb x0_1d;have zdq:=zab hb x1_1d;have zej:=zab hb x2_1d;have pp:=zrY.out.at_ HMIX.out;obtain ⟨go,Ao,mo,co,Do,mdo,cdo,o0,o1,o2,_⟩:=pp;have of0:=zrY.out.fro (k * 3);have of1:=zrY.out.fro (k * 3 + 1);have of2:=zrY.out.fro (k * 3 + 2);clear hn hb)
     | fail)
   go_wp2
   go_roundw
   case rel => exact ⟨k + 1,by go_num,by omega,by rw [← zhV HGET.out];exact VecS.store zrY.out k HM.out,(Bel.set3 zn7.out (Nat.le_refl _) _ _ _).b⟩
   case measure => simp [intOf];omega
  ·obtain rfl:k = n:=by omega
   have HV:=hid hv
   have HF:=hid hB
   clear hv hB
   go_wp2
   go_ret
   refine ⟨_,_,_,rfl,?_,BB.out.trans (HF.out.mono BB.out.size)⟩
   have h:=HV.out
   rw [show k = (Go.Proofs.YtdbgbaiekpbaoaaGreatDoor.scale r xs).length by rw [zfH, ← HN.out],zlc] at h
   rw [← show k = (Go.Proofs.YtdbgbaiekpbaoaaGreatDoor.scale r xs).length by rw [zfH, ← HN.out]] at h
   exact h.base BB.out.size
theorem scale (g:Bool) (R:Option Addr) (m cr:Nat) (D:Option Addr) (md cd:Nat) (r:Rat) (A:Option Addr) (n c:Nat) (xs:List Rat) (H:Nat) (w:World) (hx:VecS w H (.slice A n c) xs) (hr:RatS w g (.slice R m cr) (.slice D md cd) r)
  (hb:n ≤ 1048576) (zx:∀ q ∈ xs,mw q ≤ 10000000) (zr:mw r ≤ 10000000) :
  Calls Tryz.prog 42 #[.agg #[.bool g, .slice R m cr, .slice D md cd], .slice A n c] w (zq5 w (scale r xs)) :=
 scaleS 10000000 (by rw [zaP];decide) g R m cr D md cd r A n c xs H w hx hr hb zx zr
end Vc
theorem zqJ {o:Oper} {a:Act} {w:World} {K:Act → World → Prop} {Q:Exit → Act → World → Prop} (s x:Operand)
  (hop:o.op = .call { callee := .builtin .append,args := #[s,x],argTypes := #[26,26] }) (hs:a.eval s = .slice none 0 0) {H:Nat} {A:Option Addr} {n c:Nat} {qs:List Rat} (hx:a.eval x = .slice A n c) (hv:VecS w H (.slice A n c) qs) (hlen:qs.length ≤ 1000000)
  (hK:∀ A' c' w',VecS w' w.heap.size (.slice A' n c') qs → Below w.heap.size w w' → K (a.put o.dst (.slice A' n c')) w'):Oper.wp Tryz.prog o a w K Q:=by
 obtain ⟨i0,hi,hz0,hz1,hz2⟩:=info_parts ze0
 obtain rfl:=hv.len
 rcases hv.form.2.2.2 with ⟨rfl,rfl,rfl⟩ | ⟨g,rfl,hg1,hg2⟩
 ·have hrun:=run_append_owned_none (P:=Tryz.prog) (w:=w) w.heap.size 26 o.type 35 i0 3 Tryz.underlying26 hi (.slice none 0 0) 0 [] (World.ownsRow_nil _ _ _ _)
  unfold Oper.wp
  simp [execOp,hop,resolve,invoke,builtin,hs,hx,hrun,Result.andThen]
  exact hK none 0 w (VecS.nil _ _) (Below.refl _ _)
 ·obtain ⟨l,e1,e2,e3⟩:=hv.row
  have hone:∀ u ∈ rcells l,u.oneCell' = true:=ziJ l fun r hr => by
   obtain ⟨k,hk,hkr⟩:=List.getElem_of_mem hr
   have hk2:l[k]? = some r:=by rw [List.getElem?_eq_getElem hk,hkr]
   obtain ⟨q,hq⟩:∃ q,qs[k]? = some q:=⟨qs[k]'(by omega),List.getElem?_eq_getElem _⟩
   obtain ⟨A,m,c,D,md,cd,h1,h2⟩:=(e2 k r q hk2 hq).shape
   rw [h1,h2];exact ⟨rfl,rfl⟩
  refine wp_append_own w s x 26 hop w.heap.size 35 i0 _ 3 56 Tryz.underlying26 hi hz0 hz1 hz2 rfl (by decide) (.slice none 0 0) 0 [] hs (World.ownsRow_nil _ _ _ _) ⟨g,0,none⟩ qs.length c (rcells l) hx (by rw [zcC,e1])
   (fun j u hu => by
    have hj:=(List.getElem?_eq_some_iff.1 hu).1
    rw [zcC,e1] at hj
    show w.cell? (Addr.add _ _) = _
    rw [show (⟨g,0,none⟩:Addr).add j = ⟨g,j,none⟩ by unfold Addr.add;split <;> simp_all]
    rw [e3.cellAt j hj];exact hu) hone (by unfold maxLen;omega) (by omega) (Nat.le_refl _) ?_
  intro v' w' hown hgrow _
  have hb:Below w.heap.size w w':=(Below.refl _ _).grown hgrow (Nat.le_refl _) (fun k hk => by cases hk)
  have hS:VecS w' w.heap.size v' qs:=⟨l,e1,fun k r q h1 h2 => (e2 k r q h1 h2).below hb,by simpa using hown⟩
  obtain ⟨A',n',c',rfl⟩:=hS.slice
  obtain rfl:=hS.len
  exact hK A' c' w' hS hb
namespace Vc
theorem copy (A:Option Addr) (n c:Nat) (qs:List Rat) (H:Nat) (w:World) (h:VecS w H (.slice A n c) qs) (hl:n ≤ 1000000) :
  Calls Tryz.prog 70 #[.slice A n c] w fun e w' => ∃ (A':Option Addr) (c':Nat),e = .returned (.slice A' n c') ∧ VecS w' w.heap.size (.slice A' n c') qs ∧ Below w.heap.size w w':=by
 have HV:=hid h
 have HL:=hid hl
 have HN:=hid h.len
 clear h hl
 go_enter Tryz.func70,Tryz.ntmps70
 go_wp2_with (at_builtin;go_loud (refine wpList_plain rfl fun K hK => zqJ _ _ rfl rfl rfl HV.out (by have:=HN.out;have:=HL.out;omega) ?_;intro A' c' w' hv hb;refine hK _ _ ?_;have HV2:=hid hv;have HB:=hid hb;clear hv hb hK))
 go_ret
 exact ⟨A',c',rfl,HV2.out,HB.out⟩
end Vc
def zsR (w:World) (n:Nat) (L:List (List Rat)) (c:Nat) (e:Ending) (w':World):Prop := ∃ (A:Option Addr) (cR:Nat) (l:List Value),e = .returned (.tuple #[.agg #[.slice A n cR, .int .i64 (c:Int)], .bool true]) ∧ VecsL w' w.heap.size (.slice A n cR) l L ∧ zbG l ∧ Below w.heap.size w w'
def zx4 (w:World) (n:Nat) (L:List (List Rat)) (c:Nat) (e:Ending) (w':World):Prop := ∃ (A:Option Addr) (cR:Nat) (l:List Value),e = .returned (.agg #[.slice A n cR, .int .i64 (c:Int)]) ∧ VecsL w' w.heap.size (.slice A n cR) l L ∧ zbG l ∧ Below w.heap.size w w'
def noughts (n c:Nat):List (List Rat):=List.replicate n (List.replicate c 0)
namespace Mt
theorem new (n c:Nat) (hn:n ≤ 64) (hc:c ≤ 64) (w:World):Calls Tryz.prog 127 #[.int .i64 (n:Int), .int .i64 (c:Int)] w (zsR w n (noughts n c) c):=by
 have h1:decide ((n:Int) < 0) = false:=by simp
 have h2:decide ((64:Int) < (n:Int)) = false:=by simp;omega
 have h3:decide ((c:Int) < 0) = false:=by simp
 have h4:decide ((64:Int) < (c:Int)) = false:=by simp;omega
 have HN:=hid hn
 have HC:=hid hc
 have hnb:n ≤ 9223372036854775807:=by omega
 clear hn hc
 obtain ⟨W,hW⟩:∃ W,(w.alloc (.cells #[.slice none 0 0, .int .i64 0] 64)) = W:=⟨_,rfl⟩
 have KB0:=hid (show W.heap[w.heap.size]? = some (.cells #[.slice none 0 0, .int .i64 0] 64 (0,0)) by rw [← hW];exact zam (by simp))
 have BB:=hid (show Below w.heap.size w W by rw [← hW];exact zae w _)
 have HZ:=hid (show w.heap.size + 1 ≤ W.heap.size by rw [← hW];simp)
 go_enter Tryz.func127,Tryz.ntmps127
 go_wp2
 clear hW
 go_loopw [25] (fun i wr => ∃ (k:Nat) (A:Option Addr) (cR:Nat) (l:List Value),i = .int .i64 k ∧ k ≤ n ∧ wr.heap[W.heap.size]? = some (.cells #[.slice A k cR, .int .i64 (c:Int)] 64 (0,0)) ∧ VecsL wr W.heap.size (.slice A k cR) l (noughts k c) ∧ zbG l ∧ Below W.heap.size W wr)
  (fun i _ => n - (intOf i).toNat)
 case atStart => exact ⟨0,none,0,[],rfl,Nat.zero_le _,zal _ _ _,VecsL.nil _ _,zbG.nil,zae W _⟩
 case round =>
  obtain ⟨k,A,cR,l,rfl,hk,hbox,hL,hA,hB⟩:=hrel
  have HA:=hid hA
  clear hA
  have hz0:=HZ.out
  have hzr:=hB.size
  by_cases hlt:k < n
  ·skip
   have zaq:=hid (zad hB KB0.out)
   have HL:=hid (show VecsL wr W.heap.size (.slice A k cR) l (noughts k c) from hL)
   have HW:=hid (show Bel W wr from Bel.mk hB)
   have zaQ:=hid (BB.out.trans ((hB).mono BB.out.size))
   obtain ⟨zaI,zat,zbM,_,zaJ,zau,zbN,_⟩:=bf2 zaq.out
   have KBO:=hid hbox
   obtain ⟨zaI,zat,zbM,_,zaJ,zau,zbN,_⟩:=bf2 zaq.out
   obtain ⟨zbe,_,_,_,zbs,_⟩:=bf2 KBO.out
   clear hbox hL hB
   have hi2:(k:Int) < (n:Int):=by omega
   have HLEN:=hid (show (noughts k c).length = k by simp [noughts])
   go_wp2_with fail
   refine za2 (S:=fun w' => w'.cell? ⟨W.heap.size,0,none⟩ = some (.slice A k cR) ∧ w'.cell? ⟨W.heap.size,1,none⟩ = some (.int .i64 (c:Int))) 7 (h:=fun hHeld => ?_)
   refine zaw [0,1,2] ?_
   repeat refine tkE (hS:=hHeld) (h:=?_)
   refine zao ?_
   refine zaN 3 (h:=fun K hK => ?_)
   (refine zh5 rfl _ _ rfl c _ rfl rfl rfl (by have:=HC.out;omega) ?_;intro w3 hv3 hb3;have zbb:=hid (zad hb3 KBO.out);have zJR:=hid (HL.out.drew.below hb3);have zn7:=hid (HW.out.drew.below hb3);have HR:=hid (show VecS w3 W.heap.size (.slice (some ⟨wr.heap.size,0,none⟩) c c) (List.replicate c 0) from (hv3.base hzr));obtain ⟨zbi,_,_,_,zbp,_⟩:=bf2 zbb.out;have hz3:wr.heap.size < w3.heap.size:=(hv3.lt rfl).2;clear hv3)
   refine hK.out _ _ kp fun hHeld => ?_
   clear hK K
   try simp only [Act.put,pu1,pu2,pu3,pu4,pu5,pu6]
   refine zaN 4 (h:=fun K hK => ?_)
   go_simp
   refine hK.out _ _ kp fun hHeld => ?_
   clear hK K
   try simp only [Act.put,pu1,pu2,pu3,pu4,pu5,pu6]
   refine zaN 5 (h:=fun K hK => ?_)
   (refine zjh rfl _ _ rfl rfl (zJR.out.alloc _) rfl (zal _ _ _) (HR.out.alloc _) HLEN.out (by have:=HN.out;omega) (by simp;omega) ?_;intro A5 c5 w5 hL5 hk5 hb5;have HL5:=hid hL5;have KB5:=hid (hk5.blk (zak zbb.out) (by decide));have HW5:=hid ((zn7.out.alloc _).b.trans hb5);have p0:w5.cell? ⟨W.heap.size,0,none⟩ = some (.slice A k cR):=zac KB5.out 0;have p1:w5.cell? ⟨W.heap.size,1,none⟩ = some (.int .i64 (c:Int)):=zac KB5.out 1;have pf0:=zag KB5.out 0;clear hL5 hk5 hb5)
   refine hK.out _ _ kp fun hHeld => ?_
   clear hK K
   try simp only [Act.put,pu1,pu2,pu3,pu4,pu5,pu6]
   refine zaw [6] ?_
   repeat refine tkE (hS:=hHeld) (h:=?_)
   refine zao ?_
   refine zba (h:=fun K hK => ?_)
   go_simp
   refine hK.out _ _ ?_
   clear hK K
   try simp only [Act.put,pu1,pu2,pu3,pu4,pu5,pu6]
   refine za1 (h:=?_)
   go_wp2
   go_roundw
   case rel => exact ⟨k + 1,A5,c5,_,by go_num,by omega,zar _ KB5.out,by rw [show noughts (k + 1) c = noughts k c ++ [List.replicate c 0] from List.replicate_succ'];exact HL5.out.tk (TKeep.set KB5.out _) (by decide) (by decide) (by decide),HA.out.push fun g b hg hb e => (by have hg2:some wr.heap.size = some g:=hg;injection hg2 with hg2;have:=(HL.out.lt hb e).2;omega),Below.setCell HW5.out (p:=⟨W.heap.size,0,none⟩) (Nat.le_refl _) _⟩
   case measure => simp [intOf];omega
  ·obtain rfl:k = n:=by omega
   have zaq:=hid (zad hB KB0.out)
   have HL:=hid (show VecsL wr W.heap.size (.slice A k cR) l (noughts k c) from hL)
   have zaQ:=hid (BB.out.trans ((hB).mono BB.out.size))
   obtain ⟨zaI,zat,zbM,_,zaJ,zau,zbN,_⟩:=bf2 zaq.out
   have KBO:=hid hbox
   obtain ⟨zaI,zat,zbM,_,zaJ,zau,zbN,_⟩:=bf2 zaq.out
   obtain ⟨zbe,_,zbs,_⟩:=bc2 KBO.out
   clear hbox hL hB
   go_wp2
   refine bodyPost_ret (v := .tuple #[.agg #[.slice A k cR, .int .i64 (c:Int)], .bool true]) (by simp [results,Tryz.results127,go_sem,zaI,zat,zaJ,zau]) rfl ?_
   have h1:=((HL.out.base (show w.heap.size ≤ W.heap.size by omega)).tk (TKeep.set (o:=0) zaq.out (.slice A k cR)) (by decide) (by decide) (by decide)).tk (TKeep.set (o:=1) (zar _ zaq.out) (.int .i64 (c:Int))) (by decide) (by decide) (by decide)
   exact ⟨A,cR,l,rfl,h1,HA.out,Below.setCell (Below.setCell (zaQ.out) (p:=⟨w.heap.size,0,none⟩) (by show w.heap.size ≤ w.heap.size;omega) _) (p:=⟨w.heap.size,1,none⟩) (by show w.heap.size ≤ w.heap.size;omega) _⟩
end Mt
end Go.Proofs.YtdbgbaiekpbaoaaGreatDoor
namespace Go.Proofs.YtdbgbaiekpbaoaaGreatDoor
open Go.RowKit Am
open Lib (hid)
def zpS (n S T:Nat):Nat:=64 * (tB n S T + sB n S T + sB n S S + uB n S + n * (sB n S S + tB n S T + 2) + xB n (uB n S) (tB n S T) + S + T + 2) + 64
theorem zyh {n S T:Nat} (h:zpS n S T ≤ LIM):64 * (sB n S T + sB n S S + S + T + 1) + 8 ≤ LIM:=by unfold zpS at h;omega
theorem zC3 {n S T:Nat} (h:zpS n S T ≤ LIM):24 * uB n S + 8 ≤ LIM:=by unfold zpS at h;omega
theorem zHx {n S T:Nat} (h:zpS n S T ≤ LIM):4 * (4 * xB n (uB n S) T + uB n S + 1) + 8 ≤ LIM:=by
 have : sB n S T = xB n (uB n S) T:=rfl
 unfold zpS at h;omega
theorem zC2 {n S T:Nat} (h:zpS n S T ≤ LIM):4 * (tB n S T + sB n S S + tB n S T + n * (sB n S S + tB n S T + 2) + sB n S S) + 8 ≤ LIM:=by unfold zpS at h;omega
theorem zC4 {n S T:Nat} (h:zpS n S T ≤ LIM):4 * (4 * xB n (uB n S) (tB n S T) + uB n S + 1) + 8 ≤ LIM:=by unfold zpS at h;omega
theorem zoC {n S:Nat} {D:List (List Rat)} {F:LUv} (hD:CSq n D) (hr:CReg n D) (hz:zhg mw n S D) (hf:zoN n (zcZ n D) = some F) :
  LUinv n (en (zcZ n D)) n F ∧ LUsz mw n (uB n S) F:=by
 obtain ⟨G,hG,hI⟩:=ziH hD hr
 rw [hf] at hG
 injection hG with hG
 subst hG
 refine ⟨hI,zk9 zo5 (zfJ n D) (zfK hD) (fun i hi j hj => ?_) hf⟩
 rw [zeI hi (by rw [hD.len];exact hj)]
 exact hz j hj i hi
theorem zxE {n:Nat} {D:List (List Rat)} {F:LUv} (hf:zoN n (zcZ n D) = some F) (v:List Rat):zes n D v = zaR n F v:=by unfold zes;rw [hf]
theorem zxF {n:Nat} {D:List (List Rat)} {F:LUv} (hf:zoN n (zcZ n D) = some F) (v:List Rat):zlA n D v = zcq n F v:=by unfold zlA;rw [hf]
theorem zrz {T:Nat} {v:List Rat} (h:∀ x ∈ v,mw x ≤ T) {i:Nat} (hi:i < v.length):mw (el v i) ≤ T:=h _ (List.mem_of_getElem? (zaH hi))
theorem zrD {n T:Nat} {v:List Rat} (hl:v.length = n) (h:∀ i,i < n → mw (el v i) ≤ T):∀ x ∈ v,mw x ≤ T:=fun x hx => by
 obtain ⟨i,hi⟩:=List.mem_iff_getElem?.1 hx
 rw [← znd hi]
 exact h i (by rw [← hl];exact (List.getElem?_eq_some_iff.1 hi).1)
end Go.Proofs.YtdbgbaiekpbaoaaGreatDoor
namespace Go.Proofs.YtdbgbaiekpbaoaaGreatDoor
open Go.RowKit Am
open Lib (hid)
attribute [local go_sem ↓] Go.wp_at_zero Go.wp_at_succ
set_option maxHeartbeats 4000000
set_option maxRecDepth 100000
def zph (N:Nat) (A:List (List Rat)) (y:List Rat) (k:Nat):List Rat:=(List.range N).map fun j => zai k fun i => el y i * en A i j
theorem zhm (N:Nat) (A:List (List Rat)) (y:List Rat) (k:Nat):(zph N A y k).length = N:=by simp [zph]
theorem zt5 (N:Nat) (A:List (List Rat)) (y:List Rat):zph N A y 0 = List.replicate N 0:=by
 unfold zph;simp only [zai];apply List.ext_getElem?;intro i;simp [List.getElem?_replicate];by_cases h:i < N <;> simp [h]
theorem zq8 (N:Nat) (A:List (List Rat)) (y:List Rat):zph N A y A.length = byL N A y:=rfl
theorem zq9 {N:Nat} {A:List (List Rat)} {y:List Rat} {k j:Nat} (h:j < N):(zph N A y k)[j]? = some (zai k fun i => el y i * en A i j):=by
 unfold zph;rw [List.getElem?_map,List.getElem?_range h];rfl
theorem zt4 {N:Nat} {A:List (List Rat)} {y:List Rat} {k:Nat} {r:List Rat} {q:Rat} (hr:A[k]? = some r) (hq:y[k]? = some q) (hl:r.length = N):zly (zph N A y k) q r = zph N A y (k + 1):=by
 apply List.ext_getElem?
 intro j
 by_cases h:j < N
 ·obtain ⟨b,hb⟩:∃ b,r[j]? = some b:=⟨r[j]'(by omega),List.getElem?_eq_getElem _⟩
  rw [zmR (zq9 h) hb,zq9 h,zai,znd hq]
  unfold en;rw [getD_some hr,znd hb]
 ·rw [List.getElem?_eq_none (by rw [zdt (by rw [zhm,hl]),zhm];omega),List.getElem?_eq_none (by rw [zhm];omega)]
theorem zu8 {N:Nat} {A:List (List Rat)} {y:List Rat} {S T:Nat} (hy:∀ q ∈ y,mw q ≤ S) (hA:∀ r ∈ A, ∀ q ∈ r,mw q ≤ T) (h1:1 ≤ S) (h2:1 ≤ T) (k:Nat):∀ q ∈ zph N A y k,mw q ≤ k * (S + T + 1) + 1:=by
 intro q hq
 obtain ⟨j,hj,rfl⟩:=List.mem_map.1 hq
 have mel:∀ {xs:List Rat} {S:Nat},(∀ q ∈ xs,mw q ≤ S) → 1 ≤ S → ∀ i,mw (el xs i) ≤ S:=fun {xs S} h h1 i => by
  by_cases hi:i < xs.length
  ·exact h _ (List.mem_of_getElem? (zaH hi))
  ·rw [zDb (by omega)];exact Nat.le_trans mw0 h1
 induction k with
 | zero => rw [zai];have:=mw0;omega
 | succ k ih =>
  rw [zai]
  have e1:=zrI (zai k fun i => el y i * en A i j) (el y k * en A k j)
  have e2:=zdI (el y k) (en A k j)
  have e3:=mel hy h1 k
  have e4:mw (en A k j) ≤ T:=by
   unfold en
   by_cases hi:k < A.length
   ·exact mel (hA _ (List.mem_of_getElem? (zaO hi))) h2 j
   ·rw [List.getD_eq_getElem?_getD,List.getElem?_eq_none (by omega)];exact Nat.le_trans mw0 h2
  have ih:=ih (List.mem_map.2 ⟨j,hj,rfl⟩)
  rw [Nat.add_mul];omega
end Go.Proofs.YtdbgbaiekpbaoaaGreatDoor
