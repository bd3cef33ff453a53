/- Rows that grow: append of a fraction (in place,or anew) and of a row of a problem;the lines that are handed in. Conditions: as each says. Tables of fractions: what lies in memory,and the laws of it. Conditions: as each says. Conditions: as they say. -/
import Derived.Test.YtdbgbaiekpbaoaaGreatDoorVec1Zp
import Derived.Test.YtdbgbaiekpbaoaaGreatDoorVec4Zp
import Derived.Laws.OwnMore
set_option linter.all false
namespace Go.Proofs.YtdbgbaiekpbaoaaGreatDoor
open Go.RowKit Am
set_option maxHeartbeats 1000000
set_option maxRecDepth 100000
theorem zC6 {w:World} {b:Nat} {c0 c1 c2:Value} {t:TypeId} (hb:w.heap[b]? = some (.cells #[c0,c1,c2] t (0,0))):∀ j u,[c0,c1,c2][j]? = some u → w.cell? ((⟨b,0,none⟩:Addr).add j) = some u:=by
 intro j u hu
 match j,hu with
 | 0,hu => exact (zac hb 0).trans hu
 | 1,hu => exact (zac hb 1).trans hu
 | 2,hu => exact (zac hb 2).trans hu
 | j + 3,hu => simp at hu
theorem zMe {w:World} {b:Nat} {c0 c1 c2 c3 c4:Value} {t:TypeId} (hb:w.heap[b]? = some (.cells #[c0,c1,c2,c3,c4] t (0,0))):∀ j u,[c0,c1,c2,c3,c4][j]? = some u → w.cell? ((⟨b,0,none⟩:Addr).add j) = some u:=by
 intro j u hu
 match j,hu with
 | 0,hu => exact (zac hb 0).trans hu
 | 1,hu => exact (zac hb 1).trans hu
 | 2,hu => exact (zac hb 2).trans hu
 | 3,hu => exact (zac hb 3).trans hu
 | 4,hu => exact (zac hb 4).trans hu
 | j + 5,hu => simp at hu
theorem zK2 {w:World} {H:Nat} {v:Value} {qs:List Rat} (hv:VecS w H v qs) {b:Nat} {g:Bool} {A:Option Addr} {m c:Nat} {D:Option Addr} {md cd:Nat} {q:Rat}
  (hb:w.heap[b]? = some (.cells #[.bool g, .slice A m c, .slice D md cd] 35 (0,0))) (hq:RatS w g (.slice A m c) (.slice D md cd) q) (hlen:qs.length + 1 ≤ 2000000) (hH:H ≤ w.heap.size) (ty:TypeId) :
  ∃ v' w',(Builtin.append_ #[26,26] ty #[v, .slice (some ⟨b,0,none⟩) 1 1]).run Tryz.prog w = .ok v' w' ∧ VecS w' H v' (qs ++ [q]) ∧ w.grownBy w' v.ownBlock ∧ (v'.ownBlock = v.ownBlock ∨ ∃ k,v'.ownBlock = some k ∧ w.heap.size ≤ k):=by
 obtain ⟨i0,hi,hz0,hz1,hz2⟩:=info_parts ze0
 obtain ⟨l,h1,h2,h3⟩:=hv.row
 have hnew:∀ u ∈ [Value.bool g, .slice A m c, .slice D md cd],u.oneCell' = true:=by intro u hu;simp at hu;rcases hu with rfl | rfl | rfl <;> rfl
 obtain ⟨v',w',hr,hown,hgrow,_⟩:=run_append_own (P:=Tryz.prog) w H 26 ty 35 i0 _ 3 56 Tryz.underlying26 hi hz0 hz1 hz2 rfl (by decide) v qs.length (rcells l) h3 ⟨b,0,none⟩ 1 1 [.bool g, .slice A m c, .slice D md cd] rfl (zC6 hb) hnew (by unfold maxLen;omega) (by omega) hH
 refine ⟨v',w',hr,VecS.append h1 h2 h3 hq hown hgrow,hgrow,?_⟩
 rcases h3.2 with ⟨hv0,hn⟩ | ⟨g0,cap,cur,hv0,hg,hh,hn,hm,hcs,htake⟩
 ·subst hv0
  have hr2:=run_append_nil (P:=Tryz.prog) w 26 ty 35 i0 _ Tryz.underlying26 hi hz0 ⟨b,0,none⟩ 1 1 [.bool g, .slice A m c, .slice D md cd] (by rw [hz1];rfl) (zC6 hb) (by decide) (by decide) (by rw [hz2];decide)
  rw [hr2] at hr
  injection hr with hr _
  exact .inr ⟨_,by rw [← hr];rfl,Nat.le_refl _⟩
 ·subst hv0
  by_cases hroom:qs.length + 1 ≤ cap
  ·obtain ⟨w2,hr2,_⟩:=run_append_fits (P:=Tryz.prog) w H 26 ty 35 i0 3 Tryz.underlying26 hi hz1 g0 qs.length cap (rcells l) h3 ⟨b,0,none⟩ 1 1 [.bool g, .slice A m c, .slice D md cd] rfl (zC6 hb) hnew hroom
   rw [hr2] at hr
   injection hr with hr _
   exact .inl (by rw [← hr];rfl)
  ·have hr2:=run_append_grow (P:=Tryz.prog) w 26 ty 35 i0 _ Tryz.underlying26 hi hz0 ⟨g0,0,none⟩ qs.length cap (rcells l) (by rw [h3.1,hz1]) (h3.cells (g:=g0) rfl) ⟨b,0,none⟩ 1 1 [.bool g, .slice A m c, .slice D md cd] (by rw [hz1];rfl) (zC6 hb) (by omega) (by omega) (growslice_fits (by omega) (by rw [hz2];omega))
   rw [hr2] at hr
   injection hr with hr _
   exact .inr ⟨_,by rw [← hr];rfl,Nat.le_refl _⟩
theorem zKm {w:World} {ops:Array Oper} {rest:List Oper} {o:Oper} {a:Act} {Q:Exit → Act → World → Prop} (hgd:o.guard = none) (s x:Operand)
  (ho:o.op = .call { callee := .builtin .append,args := #[s,x],argTypes := #[26,26] }) {H:Nat} {v:Value} {qs:List Rat} (hs:a.eval s = v) (hv:VecS w H v qs) {b:Nat} (hx:a.eval x = .slice (some ⟨b,0,none⟩) 1 1)
  {g:Bool} {A:Option Addr} {m c:Nat} {D:Option Addr} {md cd:Nat} {q:Rat} (hb:w.heap[b]? = some (.cells #[.bool g, .slice A m c, .slice D md cd] 35 (0,0))) (hq:RatS w g (.slice A m c) (.slice D md cd) q) (hlen:qs.length + 1 ≤ 2000000) (hH:H ≤ w.heap.size)
  (hK:∀ A' n' c' w',VecS w' H (.slice A' n' c') (qs ++ [q]) → zff w w' → w.grownBy w' v.ownBlock → ((Value.slice A' n' c').ownBlock = v.ownBlock ∨ ∃ k,(Value.slice A' n' c').ownBlock = some k ∧ w.heap.size ≤ k) → n' = qs.length + 1 → wpList Tryz.prog ops Q rest (a.put o.dst (.slice A' n' c')) w'):wpList Tryz.prog ops Q (o :: rest) a w:=by
 refine wpList_plain hgd fun K hK' => ?_
 obtain ⟨v',w',hr,h1,h2,h3⟩:=zK2 hv hb hq hlen hH o.type
 obtain ⟨l,e1,e2,e3⟩:=hv.row
 obtain ⟨A',n',c',rfl⟩:=h1.slice
 unfold Oper.wp execOp
 simp only [ho,resolve,invoke,builtin,Sem.run_bind,Sem.run_pure,Result.andThen_ok,List.map_toArray,List.map_cons,List.map_nil,hs,hx,hr]
 exact hK' _ _ (hK A' n' c' w' h1 (zh3 e3 h2) h2 h3 (by rw [h1.len];simp))
structure RowsL (w:World) (H:Nat) (v:Value) (l:List RR) (ps:List PRow):Prop where
  len:l.length = ps.length
  each:∀ (k:Nat) (r:RR) (p:PRow),l[k]? = some r → ps[k]? = some p → RowS w r p
  own:w.ownsRow H 110 5 v ps.length (zcW l)
theorem RowsL.toS {w:World} {H:Nat} {v:Value} {l:List RR} {ps:List PRow} (h:RowsL w H v l ps):RowsS w H v ps:=⟨l,h.len,h.each,h.own⟩
theorem RowsL.below {w w':World} {H:Nat} {v:Value} {l:List RR} {ps:List PRow} (h:RowsL w H v l ps) (hb:Below w.heap.size w w'):RowsL w' H v l ps :=
 ⟨h.len,fun k r p h1 h2 => (h.each k r p h1 h2).below hb,zc9 h.own fun k hk => hb.block k (h.own.lt k hk).2⟩
theorem RowsL.alloc {w:World} {H:Nat} {v:Value} {l:List RR} {ps:List PRow} (h:RowsL w H v l ps) (o:Obj):RowsL (w.alloc o) H v l ps:=h.below (zae w o)
theorem RowsL.drew {w:World} {H:Nat} {v:Value} {l:List RR} {ps:List PRow} (h:RowsL w H v l ps):RowsL w.drew H v l ps:=h.below (zap w 1)
def zij (w w':World):Prop := ∀ k,k < w.heap.size → (∀ cs,w.heap[k]? ≠ some (.cells cs 110 (0,0))) → w'.heap[k]? = w.heap[k]?
theorem zas.keepR {w w':World} {s:Value} {n:Nat} (h:zas w s n) (hk:zij w w'):zas w' s n:=by
 obtain ⟨xs,h2,h3⟩:=h
 refine ⟨xs,h2.keep fun k hb => hk k (h2.block hb) fun cs e => ?_,h3⟩
 exact za6 h2.1 e (by decide) hb
theorem RatS.keepR {w w':World} {g:Bool} {s d:Value} {q:Rat} (h:RatS w g s d q) (hk:zij w w'):RatS w' g s d q:=⟨⟨h.num.abs.keepR hk,h.num.neg⟩,h.den.keepR hk⟩
theorem VecS.keepR {w w':World} {H:Nat} {v:Value} {qs:List Rat} (h:VecS w H v qs) (hk:zij w w'):VecS w' H v qs:=by
 obtain ⟨l,_,_,h3⟩:=h.row
 exact h.keepAll (fun k hb => hk k (h.lt hb).2 fun cs e => za6 h3 e (by decide) hb) fun _ _ _ _ r => r.keepR hk
theorem RowS.keepR {w w':World} {r:RR} {p:PRow} (h:RowS w r p) (hk:zij w w'):RowS w' r p:=⟨h.coef.keepR hk,h.kind,h.rhs.keepR hk⟩
theorem zKw {w w':World} {H:Nat} {v:Value} {n:Nat} {xs:List Value} (h:w.ownsRow H 110 5 v n xs) (hg:w.grownBy w' v.ownBlock):zij w w':=by
 intro k hk hne
 refine hg.block k hk fun e => ?_
 rcases h.2 with ⟨hv,_⟩ | ⟨g,cap,cur,hv,_,hh,_⟩
 ·rw [hv] at e;cases e
 ·rw [hv] at e;injection e with e;subst e;exact hne _ hh
theorem RowsL.coefLt {w:World} {H:Nat} {v:Value} {l:List RR} {ps:List PRow} (h:RowsL w H v l ps) (i:Nat) (ri:RR) (b:Nat) (hi:l[i]? = some ri) (hb:ri.c.ownBlock = some b):b < w.heap.size:=by
 have hl:=(List.getElem?_eq_some_iff.1 hi).1
 obtain ⟨p,hp⟩:∃ p,ps[i]? = some p:=⟨ps[i]'(by rw [← h.len];exact hl),List.getElem?_eq_getElem _⟩
 exact ((h.each i ri p hi hp).coef.lt hb).2
theorem RowsL.nil (w:World) (H:Nat):RowsL w H (.slice none 0 0) [] []:=⟨rfl,fun k r p h => by simp at h,World.ownsRow_nil _ _ _ _⟩
theorem RowsL.slice {w:World} {H:Nat} {v:Value} {l:List RR} {ps:List PRow} (h:RowsL w H v l ps):∃ A c,v = .slice A ps.length c:=by
 rcases h.own.2 with ⟨hv,hn⟩ | ⟨g,cap,cur,hv,_⟩
 ·exact ⟨_,_,by rw [hv,hn]⟩
 ·exact ⟨_,_,hv⟩
theorem zKn {ops:Array Oper} {o:Oper} {a:Act} {w:World} {K:Act → World → Prop} {Q:Exit → Act → World → Prop} {E:Prop} (hg:o.guard = none) (s x:Operand)
  (hop:o.op = .call { callee := .builtin .append,args := #[s,x],argTypes := #[45,45] }) {H:Nat} {v:Value} {l:List RR} {ps:List PRow} (hs:a.eval s = v) (hv:RowsL w H v l ps) {b:Nat} (hx:a.eval x = .slice (some ⟨b,0,none⟩) 1 1)
  {C:Option Addr} {nc cc:Nat} {kd:Int} {g:Bool} {A:Option Addr} {m c:Nat} {D:Option Addr} {md cd:Nat} {p:PRow} (hb:w.heap[b]? = some (.cells #[.slice C nc cc, .int .i64 kd, .bool g, .slice A m c, .slice D md cd] 110 (0,0)))
  (hr:RowS w ⟨.slice C nc cc,kd,g, .slice A m c, .slice D md cd⟩ p) {n:Nat} (hn:ps.length = n) (hlen:n + 1 ≤ 1000000) (hH:H ≤ w.heap.size)
  (hK:∀ A' c' w',RowsL w' H (.slice A' (n + 1) c') (l ++ [⟨.slice C nc cc,kd,g, .slice A m c, .slice D md cd⟩]) (ps ++ [p]) → zij w w' → Below H w w' → K (a.put o.dst (.slice A' (n + 1) c')) w') :
  if Region.wanted o (yielded ops a.tmps) = true then Oper.wp Tryz.prog o a w K Q else E:=by
 have hw:Region.wanted o (yielded ops a.tmps) = true:=by simp [Region.wanted,hg]
 rw [if_pos hw]
 subst hn
 obtain ⟨i0,hi,hz0,hz1,hz2⟩:=info_parts zLy
 refine wp_append_own w s x 45 hop H 110 i0 _ 5 88 Tryz.underlying45 hi hz0 hz1 hz2 rfl (by decide) v ps.length (zcW l) hs hv.own ⟨b,0,none⟩ 1 1 [.slice C nc cc, .int .i64 kd, .bool g, .slice A m c, .slice D md cd] hx rfl (zMe hb)
  (by intro u hu;simp at hu;rcases hu with rfl | rfl | rfl | rfl | rfl <;> rfl) (by unfold maxLen;omega) (by omega) hH ?_
 intro v' w' hown hgrow _
 have hk:=zKw hv.own hgrow
 have hL:RowsL w' H v' (l ++ [⟨.slice C nc cc,kd,g, .slice A m c, .slice D md cd⟩]) (ps ++ [p]):=by
  refine ⟨by simp [hv.len],?_,by rw [List.length_append,zKq];exact hown⟩
  intro k r p' h1 h2
  rcases Nat.lt_trichotomy k l.length with h | h | h
  ·rw [List.getElem?_append_left h] at h1
   rw [List.getElem?_append_left (by rw [← hv.len];exact h)] at h2
   exact (hv.each k r p' h1 h2).keepR hk
  ·subst h
   rw [List.getElem?_append_right (Nat.le_refl _)] at h1
   rw [List.getElem?_append_right (by rw [hv.len];exact Nat.le_refl _)] at h2
   simp at h1
   rw [hv.len] at h2
   simp at h2
   subst h1 h2
   exact hr.keepR hk
  ·rw [List.getElem?_eq_none (by simp;omega)] at h1;cases h1
 obtain ⟨A',c',e⟩:=hL.slice
 rw [List.length_append] at e
 subst e
 exact hK A' c' w' hL hk ((Below.refl _ _).grown hgrow hH (fun k hk => (hv.own.lt k hk).1))
structure LineV where
  coef:List (Int × Int)
  kind:Int
  rhs:Int × Int
def zex (w:World) (A:Option Addr) (ls:List LineV):Prop := ∀ (k:Nat) (x:LineV),ls[k]? = some x → x.coef.length ≤ 1048576 ∧ I64 x.rhs.1 ∧ I64 x.rhs.2 ∧ ∃ b o C cc,A = some ⟨b,o,none⟩ ∧ zcs w C x.coef ∧
  w.cell? ⟨b,o + k * 4,none⟩ = some (.slice C x.coef.length cc) ∧ w.cell? ⟨b,o + k * 4 + 1,none⟩ = some (.int .i64 x.kind) ∧ w.cell? ⟨b,o + k * 4 + 2,none⟩ = some (.int .i64 x.rhs.1) ∧ w.cell? ⟨b,o + k * 4 + 3,none⟩ = some (.int .i64 x.rhs.2)
theorem zex.below {w w':World} {A:Option Addr} {ls:List LineV} (h:zex w A ls) (hb:Below w.heap.size w w'):zex w' A ls:=by
 intro k x hx
 obtain ⟨h1,h2,h3,b,o,C,cc,h4,h5,h6,h7,h8,h9⟩:=h k x hx
 exact ⟨h1,h2,h3,b,o,C,cc,h4,h5.below hb,zab hb h6,zab hb h7,zab hb h8,zab hb h9⟩
theorem zex.alloc {w:World} {A:Option Addr} {ls:List LineV} (h:zex w A ls) (o:Obj):zex (w.alloc o) A ls:=h.below (zae w o)
theorem zex.drew {w:World} {A:Option Addr} {ls:List LineV} (h:zex w A ls):zex w.drew A ls:=h.below (zap w 1)
theorem zcs.alloc {w:World} {A:Option Addr} {ps:List (Int × Int)} (h:zcs w A ps) (o:Obj):zcs (w.alloc o) A ps:=h.below (zae w o)
theorem zcs.drew {w:World} {A:Option Addr} {ps:List (Int × Int)} (h:zcs w A ps):zcs w.drew A ps:=h.below (zap w 1)
def zH6 (x:LineV):PRow:=⟨frs x.coef,x.kind,fr x.rhs.1 x.rhs.2⟩
def Apart (C:Value) (l:List RR):Prop:=(∀ (i j:Nat) (ri rj:RR) (b:Nat),l[i]? = some ri → l[j]? = some rj → ri.c.ownBlock = some b → rj.c.ownBlock = some b → i = j) ∧ ∀ (i:Nat) (ri:RR) (b:Nat),l[i]? = some ri → ri.c.ownBlock = some b → C.ownBlock ≠ some b
theorem zLa (C:Value):Apart C []:=⟨fun i j ri rj b h => by simp at h,fun i ri b h => by simp at h⟩
theorem zKz {C:Value} {l:List RR} {r:RR} {N:Nat} (h:Apart C l) (hl:∀ (i:Nat) (ri:RR) (b:Nat),l[i]? = some ri → ri.c.ownBlock = some b → b < N) (hC:∀ b,C.ownBlock = some b → b < N) (hr:∀ b,r.c.ownBlock = some b → N ≤ b):Apart C (l ++ [r]):=by
 have key:∀ (i:Nat) (ri:RR),(l ++ [r])[i]? = some ri → (i < l.length ∧ l[i]? = some ri) ∨ (i = l.length ∧ ri = r):=by
  intro i ri hi
  rcases Nat.lt_trichotomy i l.length with h | h | h
  ·rw [List.getElem?_append_left h] at hi;exact .inl ⟨h,hi⟩
  ·subst h;rw [List.getElem?_append_right (Nat.le_refl _)] at hi;simp at hi;exact .inr ⟨rfl,hi.symm⟩
  ·rw [List.getElem?_eq_none (by simp;omega)] at hi;cases hi
 refine ⟨fun i j ri rj b hi hj bi bj => ?_,fun i ri b hi bi hc => ?_⟩
 ·rcases key i ri hi with ⟨h1,h2⟩ | ⟨h1,rfl⟩ <;> rcases key j rj hj with ⟨h3,h4⟩ | ⟨h3,rfl⟩
  ·exact h.1 i j ri rj b h2 h4 bi bj
  ·have:=hl i ri b h2 bi;have:=hr b bj;omega
  ·have:=hl j rj b h4 bj;have:=hr b bi;omega
  ·omega
 ·rcases key i ri hi with ⟨h1,h2⟩ | ⟨h1,rfl⟩
  ·exact h.2 i ri b h2 bi hc
  ·have:=hr b bi;have:=hC b hc;omega
theorem zrA:(Tryz.prog.info? 26).map (fun i => (i.zero,i.size,i.bytes)) = some (some (.slice none 0 0),1,24):=by kernel_rfl
def TKeep (t:TypeId) (w w':World):Prop := ∀ k,k < w.heap.size → (∀ cs,w.heap[k]? ≠ some (.cells cs t (0,0))) → w'.heap[k]? = w.heap[k]?
theorem TKeep.set {w:World} {b o:Nat} {cs:Array Value} {t:TypeId} (hb:w.heap[b]? = some (.cells cs t (0,0))) (u:Value):TKeep t w (w.setCell ⟨b,o,none⟩ u):=fun k _ hne =>
 Below.heap_setCell _ _ _ _ (by rintro rfl;exact hne _ hb)
theorem TKeep.grown {w w':World} {H:Nat} {t:TypeId} {size:Nat} {v:Value} {n:Nat} {xs:List Value} (h:w.ownsRow H t size v n xs) (hg:w.grownBy w' v.ownBlock):TKeep t w w':=by
 intro k hk hne
 refine hg.block k hk fun e => ?_
 rcases h.2 with ⟨hv,_⟩ | ⟨g,cap,cur,hv,_,hh,_⟩
 ·rw [hv] at e;cases e
 ·rw [hv] at e;injection e with e;subst e;exact hne _ hh
theorem TKeep.blk {w w':World} {t t2:TypeId} (h:TKeep t w w') {b:Nat} {cs:Array Value} (hb:w.heap[b]? = some (.cells cs t2 (0,0))) (hne:t2 ≠ t):w'.heap[b]? = some (.cells cs t2 (0,0)):=by
 rw [h b (Array.getElem?_eq_some_iff.1 hb).1 fun cs' e => hne (by rw [hb] at e;injection e with e;injection e)];exact hb
section
variable {w w':World} {t:TypeId}
theorem zas.tk {s:Value} {n:Nat} (h:zas w s n) (hk:TKeep t w w') (h1:193 ≠ t):zas w' s n:=by
 obtain ⟨xs,h2,h3⟩:=h
 refine ⟨xs,h2.keep fun k hb => hk k (h2.block hb) fun cs e => ?_,h3⟩
 exact za6 h2.1 e h1 hb
theorem RatS.tk {g:Bool} {s d:Value} {q:Rat} (h:RatS w g s d q) (hk:TKeep t w w') (h1:193 ≠ t):RatS w' g s d q:=⟨⟨h.num.abs.tk hk h1,h.num.neg⟩,h.den.tk hk h1⟩
theorem VecS.tk {H:Nat} {v:Value} {qs:List Rat} (h:VecS w H v qs) (hk:TKeep t w w') (h1:193 ≠ t) (h2:35 ≠ t):VecS w' H v qs:=by
 obtain ⟨l,_,_,e3⟩:=h.row
 exact h.keepAll (fun k hb => hk k (h.lt hb).2 fun cs e => za6 e3 e h2 hb) fun _ _ _ _ r => r.tk hk h1
end
theorem VecS.ratBlk {w:World} {H b n c:Nat} {qs:List Rat} (h:VecS w H (.slice (some ⟨b,0,none⟩) n c) qs):∃ cs,w.heap[b]? = some (.cells cs 35 (0,0)):=by
 obtain ⟨_,_,_,h3⟩:=h.row
 rcases h3.2 with ⟨hv,_⟩ | ⟨g,cap,cur,hv,_,hh,_⟩
 ·cases hv
 ·injection hv with e1;injection e1 with e1;injection e1 with e1;subst e1;exact ⟨_,hh⟩
structure VecsL (w:World) (H:Nat) (v:Value) (l:List Value) (L:List (List Rat)):Prop where
  len:l.length = L.length
  each:∀ (k:Nat) (s:Value) (r:List Rat),l[k]? = some s → L[k]? = some r → VecS w H s r
  own:w.ownsRow H 26 1 v L.length l
def zbG (l:List Value):Prop := ∀ (i j:Nat) (a b:Value) (g:Nat),l[i]? = some a → l[j]? = some b → a.ownBlock = some g → b.ownBlock = some g → i = j
namespace VecsL
variable {w w':World} {H:Nat} {v:Value} {l:List Value} {L:List (List Rat)}
theorem keepAll (h:VecsL w H v l L) (hk:∀ k,v.ownBlock = some k → w'.heap[k]? = w.heap[k]?) (hr:∀ s r,s ∈ l → VecS w H s r → VecS w' H s r):VecsL w' H v l L :=
 ⟨h.len,fun k s r a b => hr s r (List.mem_of_getElem? a) (h.each k s r a b),zc9 h.own hk⟩
theorem below (h:VecsL w H v l L) (hb:Below w.heap.size w w'):VecsL w' H v l L:=h.keepAll (fun k hk => hb.block k (h.own.lt k hk).2) fun _ _ _ r => r.below hb
theorem alloc (h:VecsL w H v l L) (o:Obj):VecsL (w.alloc o) H v l L:=h.below (zae w o)
theorem drew (h:VecsL w H v l L):VecsL w.drew H v l L:=h.below (zap w 1)
theorem base {H':Nat} (h:VecsL w H v l L) (hb:H' ≤ H):VecsL w H' v l L:=⟨h.len,fun k s r a b => (h.each k s r a b).base hb,zbu h.own hb⟩
theorem nil (w:World) (H:Nat):VecsL w H (.slice none 0 0) [] []:=⟨rfl,fun k s r h => by simp at h,World.ownsRow_nil _ _ _ _⟩
theorem tk {t:TypeId} (h:VecsL w H v l L) (hk:TKeep t w w') (h1:193 ≠ t) (h2:35 ≠ t) (h3:26 ≠ t):VecsL w' H v l L :=
 h.keepAll (fun k hb => hk k (h.own.lt k hb).2 fun cs e => za6 h.own e h3 hb) fun _ _ _ r => r.tk hk h1 h2
theorem form {A:Option Addr} {n c:Nat} (h:VecsL w H (.slice A n c) l L):n = L.length ∧ n ≤ c ∧ c ≤ maxLen ∧ ((A = none ∧ c = 0 ∧ L = []) ∨ ∃ g,A = some ⟨g,0,none⟩ ∧ H ≤ g ∧ g < w.heap.size):=by
 rcases h.own.2 with ⟨hv,hn⟩ | ⟨g,cap,cur,hv,hg,hh,hn,hm,_⟩
 ·injection hv with e1 e2 e3
  subst e1 e2 e3
  exact ⟨hn.symm,Nat.le_refl _,Nat.zero_le _, .inl ⟨rfl,rfl,List.length_eq_zero_iff.1 hn⟩⟩
 ·injection hv with e1 e2 e3
  subst e1 e2 e3
  exact ⟨rfl,hn,hm, .inr ⟨g,rfl,hg,(Array.getElem?_eq_some_iff.1 hh).1⟩⟩
theorem nlen {A:Option Addr} {n c:Nat} (h:VecsL w H (.slice A n c) l L):n = L.length:=h.form.1
theorem has {A:Option Addr} {n c:Nat} (h:VecsL w H (.slice A n c) l L) (hn:0 < n):∃ g,A = some ⟨g,0,none⟩ ∧ H ≤ g ∧ g < w.heap.size:=by
 obtain ⟨h1,h2,h3,h4 | h4⟩:=h.form
 ·omega
 ·exact h4
theorem slice (h:VecsL w H v l L):∃ A c,v = .slice A L.length c:=by
 rcases h.own.2 with ⟨hv,hn⟩ | ⟨g,cap,cur,hv,_⟩
 ·exact ⟨_,_,by rw [hv,hn]⟩
 ·exact ⟨_,_,hv⟩
theorem fro {b n c:Nat} (h:VecsL w H (.slice (some ⟨b,0,none⟩) n c) l L) (j:Nat):w.frozen? ⟨b,j,none⟩ = false:=by
 have hn:=h.nlen
 subst hn
 exact h.own.frozenAt j
theorem get (h:VecsL w H v l L) {k:Nat} {r:List Rat} (hk:L[k]? = some r):∃ (A:Option Addr) (c:Nat),l[k]? = some (.slice A r.length c) ∧ VecS w H (.slice A r.length c) r:=by
 have hk':=(List.getElem?_eq_some_iff.1 hk).1
 obtain ⟨s,hs⟩:∃ s,l[k]? = some s:=⟨l[k]'(by rw [h.len];exact hk'),List.getElem?_eq_getElem _⟩
 have hq:=h.each k s r hs hk
 obtain ⟨A,n,c,rfl⟩:=hq.slice
 obtain rfl:=hq.len
 exact ⟨A,c,hs,hq⟩
theorem at_ {b n c:Nat} (h:VecsL w H (.slice (some ⟨b,0,none⟩) n c) l L) {k:Nat} {r:List Rat} (hk:L[k]? = some r):∃ (A:Option Addr) (c:Nat),l[k]? = some (.slice A r.length c) ∧ w.cell? ⟨b,k,none⟩ = some (.slice A r.length c) ∧ VecS w H (.slice A r.length c) r:=by
 have hn:=h.nlen
 subst hn
 obtain ⟨A,c',hs,hq⟩:=h.get hk
 have hk':=(List.getElem?_eq_some_iff.1 hk).1
 exact ⟨A,c',hs,by rw [h.own.cellAt _ (by omega)];exact hs,hq⟩
theorem blk {b n c:Nat} (h:VecsL w H (.slice (some ⟨b,0,none⟩) n c) l L):∃ cs,w.heap[b]? = some (.cells cs 26 (0,0)):=by
 rcases h.own.2 with ⟨hv,_⟩ | ⟨g,cap,cur,hv,_,hh,_⟩
 ·cases hv
 ·injection hv with e1;injection e1 with e1;injection e1 with e1;subst e1;exact ⟨_,hh⟩
theorem store {b n c:Nat} (h:VecsL w H (.slice (some ⟨b,0,none⟩) n c) l L) {k:Nat} (hk:k < L.length) {s:Value} {r:List Rat} (hs:VecS w H s r):VecsL (w.setCell ⟨b,k,none⟩ s) H (.slice (some ⟨b,0,none⟩) n c) (l.set k s) (L.set k r):=by
 have hn:=h.nlen
 subst hn
 obtain ⟨cs,hb⟩:∃ cs,w.heap[b]? = some (.cells cs 26 (0,0)):=by
  rcases h.own.2 with ⟨hv,_⟩ | ⟨g,cap,cur,hv,_,hh,_⟩
  ·cases hv
  ·injection hv with e1;injection e1 with e1;injection e1 with e1;subst e1;exact ⟨_,hh⟩
 have kp:TKeep 26 w (w.setCell ⟨b,k,none⟩ s):=TKeep.set hb s
 refine ⟨by rw [List.length_set,List.length_set];exact h.len,fun i s' r' h1 h2 => ?_,?_⟩
 ·by_cases e:k = i
  ·subst e
   rw [List.getElem?_set_self (by rw [h.len];exact hk)] at h1
   rw [List.getElem?_set_self hk] at h2
   injection h1 with h1;injection h2 with h2;subst h1 h2
   exact hs.tk kp (by decide) (by decide)
  ·rw [List.getElem?_set_ne e] at h1 h2
   exact (h.each i s' r' h1 h2).tk kp (by decide) (by decide)
 ·rw [List.length_set];exact (h.own.stored _ _).1
theorem put (h:VecsL w H v l L) (ha:zbG l) {k:Nat} {b n c:Nat} {r:List Rat} (hl:l[k]? = some (.slice (some ⟨b,0,none⟩) n c)) (hL:L[k]? = some r) (i:Nat) {g:Bool} {s d:Value} {q:Rat} (hq:RatS w g s d q) :
  VecsL (((w.setCell ⟨b,i * 3,none⟩ (.bool g)).setCell ⟨b,i * 3 + 1,none⟩ s).setCell ⟨b,i * 3 + 2,none⟩ d) H v l (L.set k (r.set i q)):=by
 have hv:=h.each k _ _ hl hL
 have hs:=hv.store i hq
 obtain ⟨cs,hb⟩:∃ cs,w.heap[b]? = some (.cells cs 35 (0,0)):=by
  obtain ⟨_,_,_,h3⟩:=hv.row
  rcases h3.2 with ⟨hv,_⟩ | ⟨g,cap,cur,hv,_,hh,_⟩
  ·cases hv
  ·injection hv with e1;injection e1 with e1;injection e1 with e1;subst e1;exact ⟨_,hh⟩
 have far:∀ j,j ≠ b → (((w.setCell ⟨b,i * 3,none⟩ (.bool g)).setCell ⟨b,i * 3 + 1,none⟩ s).setCell ⟨b,i * 3 + 2,none⟩ d).heap[j]? = w.heap[j]?:=fun j hj => by
  rw [Below.heap_setCell _ _ _ _ (by exact hj),Below.heap_setCell _ _ _ _ (by exact hj),Below.heap_setCell _ _ _ _ (by exact hj)]
 refine ⟨by rw [List.length_set];exact h.len,fun j s' r' h1 h2 => ?_,by rw [List.length_set];exact zc9 h.own fun j hj => far j fun e => za6 h.own (e ▸ hb) (by decide) (e ▸ hj)⟩
 by_cases e:k = j
 ·subst e
  rw [List.getElem?_set_self (List.getElem?_eq_some_iff.1 hL).1] at h2
  injection h2 with h2;subst h2
  rw [hl] at h1;injection h1 with h1;subst h1
  exact hs
 ·rw [List.getElem?_set_ne e] at h2
  exact (h.each j s' r' h1 h2).keepAll (fun g hg => far g fun e2 => e (ha k j _ _ b hl h1 rfl (by rw [hg,e2]))) fun _ _ _ _ r => r.keepT fun j hj hne => far j fun e => hne _ (e ▸ hb)
end VecsL
theorem zbG.set {l:List Value} (h:zbG l) {k:Nat} {s:Value} (hs:∀ (g:Nat) (j:Nat) (b:Value),s.ownBlock = some g → j ≠ k → l[j]? = some b → b.ownBlock ≠ some g):zbG (l.set k s):=by
 intro i j a b g h1 h2 h3 h4
 rw [List.getElem?_set] at h1 h2
 split at h1 <;> split at h2
 ·omega
 ·rename_i e1 e2
  split at h1
  ·injection h1 with h1;subst h1;exact absurd h4 (hs g j b h3 (Ne.symm e2) h2)
  ·cases h1
 ·rename_i e1 e2
  split at h2
  ·injection h2 with h2;subst h2;exact absurd h3 (hs g i a h4 (Ne.symm e1) h1)
  ·cases h2
 ·exact h i j a b g h1 h2 h3 h4
theorem zbG.push {l:List Value} (h:zbG l) {s:Value} (hs:∀ (g:Nat) (b:Value),s.ownBlock = some g → b ∈ l → b.ownBlock ≠ some g):zbG (l ++ [s]):=by
 intro i j a b g h1 h2 h3 h4
 rw [List.getElem?_append] at h1 h2
 split at h1 <;> split at h2
 ·exact h i j a b g h1 h2 h3 h4
 ·rename_i e1 e2
  rw [List.getElem?_singleton] at h2
  split at h2
  ·injection h2 with h2;subst h2;exact absurd h3 (hs g a h4 (List.mem_of_getElem? h1))
  ·cases h2
 ·rename_i e1 e2
  rw [List.getElem?_singleton] at h1
  split at h1
  ·injection h1 with h1;subst h1;exact absurd h4 (hs g b h3 (List.mem_of_getElem? h2))
  ·cases h1
 ·rw [List.getElem?_singleton] at h1 h2
  split at h1 <;> split at h2 <;> first | omega | (cases h2;done) | (cases h1;done)
theorem VecsL.lt {w:World} {H:Nat} {v:Value} {l:List Value} {L:List (List Rat)} (h:VecsL w H v l L) {s:Value} (hs:s ∈ l) {g:Nat} (hg:s.ownBlock = some g):H ≤ g ∧ g < w.heap.size:=by
 obtain ⟨k,hk,rfl⟩:=List.getElem_of_mem hs
 exact (h.each k _ (L[k]'(by rw [← h.len];exact hk)) (List.getElem?_eq_getElem hk) (List.getElem?_eq_getElem _)).lt hg
theorem zbG.nil:zbG []:=fun i j a b g h => by simp at h
end Go.Proofs.YtdbgbaiekpbaoaaGreatDoor
