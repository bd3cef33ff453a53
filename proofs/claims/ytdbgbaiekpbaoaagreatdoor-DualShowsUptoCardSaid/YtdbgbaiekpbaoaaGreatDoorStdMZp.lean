/- Steps of walks that lay a problem out: whole numbers put behind,noughts put behind a row. Conditions: as each says. certify.signed by its contract. Conditions: as it says. prob.Standard by its contract,where nothing is wrong. Conditions: as it says. Conditions: as they say. -/
import Derived.Test.YtdbgbaiekpbaoaaGreatDoorMat5Zp
import Derived.Test.YtdbgbaiekpbaoaaGreatDoorStdZp
import Derived.Test.YtdbgbaiekpbaoaaGreatDoorVec7Zp
set_option linter.all false
namespace Go.Proofs.YtdbgbaiekpbaoaaGreatDoor
open Go.RowKit Am
open Lib (hid)
set_option maxHeartbeats 1000000
set_option maxRecDepth 100000
theorem IntsZ.push {w':World} {H:Nat} {v':Value} {xs:List Int} {x:Int} (hown:w'.ownsRow H 3 1 v' (xs.length + 1) (zcells xs ++ [.int .i64 x])):IntsZ w' H v' (xs ++ [x]):=by
 refine ⟨?_⟩
 rw [List.length_append]
 simpa [zcells] using hown
theorem zfS {w:World} {ops:Array Oper} {rest:List Oper} {o:Oper} {a:Act} {Q:Exit → Act → World → Prop} (hgd:o.guard = none) (s x:Operand)
  (hop:o.op = .call { callee := .builtin .append,args := #[s,x],argTypes := #[48,48] }) {H:Nat} {v:Value} {xs:List Int} (hs:a.eval s = v) (hv:IntsZ w H v xs) {b:Nat} (hx:a.eval x = .slice (some ⟨b,0,none⟩) 1 1)
  {z:Int} (hb:w.heap[b]? = some (.cells #[.int .i64 z] 3 (0,0))) {n:Nat} (hn:xs.length = n) (hlen:n + 1 ≤ 1000000) (hH:H ≤ w.heap.size)
  (hK:∀ A' c' w',IntsZ w' H (.slice A' (n + 1) c') (xs ++ [z]) → TKeep 3 w w' → Below H w w' → wpList Tryz.prog ops Q rest (a.put o.dst (.slice A' (n + 1) c')) w'):wpList Tryz.prog ops Q (o :: rest) a w:=by
 subst hn
 obtain ⟨i0,hi,hz0,hz1,hz2⟩:=info_parts znF
 refine wpList_plain hgd fun K hK' => ?_
 refine wp_append_own w s x 48 hop H 3 i0 _ 1 8 Tryz.underlying48 hi hz0 hz1 hz2 rfl (by decide) v xs.length (zcells xs) hs hv.own ⟨b,0,none⟩ 1 1 [.int .i64 z] hx rfl (zrj hb)
  (by intro u hu;simp at hu;subst hu;rfl) (by unfold maxLen;omega) (by omega) hH ?_
 intro v' w' hown hgrow _
 have hL:=IntsZ.push hown
 obtain ⟨A',c',rfl⟩:=hL.slice
 rw [List.length_append] at hL
 have hh:=hK A' c' w' hL (TKeep.grown hv.own hgrow) ((Below.refl _ _).grown hgrow hH (fun k hk => (hv.own.lt k hk).1))
 simp only [List.length_append,List.length_cons,List.length_nil,Nat.zero_add]
 exact hK' _ _ hh
theorem zfR {w:World} {ops:Array Oper} {rest:List Oper} {o:Oper} {a:Act} {Q:Exit → Act → World → Prop} (hgd:o.guard = none) (s x:Operand)
  (hop:o.op = .call { callee := .builtin .append,args := #[s,x],argTypes := #[26,26] }) {H:Nat} {v:Value} {qs:List Rat} (hs:a.eval s = v) (hv:VecS w H v qs) {b:Nat} (hx:a.eval x = .slice (some ⟨b,0,none⟩) 1 1)
  {g:Bool} {A:Option Addr} {m c:Nat} {D:Option Addr} {md cd:Nat} {q:Rat} (hb:w.heap[b]? = some (.cells #[.bool g, .slice A m c, .slice D md cd] 35 (0,0))) (hq:RatS w g (.slice A m c) (.slice D md cd) q) {N:Nat} (hN:qs.length = N) (hlen:N + 1 ≤ 1000000) (hH:H ≤ w.heap.size)
  (hK:∀ A' c' w',VecS w' H (.slice A' (N + 1) c') (qs ++ [q]) → TKeep 35 w w' → Below H w w' → wpList Tryz.prog ops Q rest (a.put o.dst (.slice A' (N + 1) c')) w'):wpList Tryz.prog ops Q (o :: rest) a w:=by
 subst hN
 obtain ⟨i0,hi,hz0,hz1,hz2⟩:=info_parts ze0
 obtain ⟨l,h1,h2,h3⟩:=hv.row
 refine wpList_plain hgd fun K hK' => ?_
 refine wp_append_own w s x 26 hop H 35 i0 _ 3 56 Tryz.underlying26 hi hz0 hz1 hz2 rfl (by decide) v qs.length (rcells l) hs h3 ⟨b,0,none⟩ 1 1 [.bool g, .slice A m c, .slice D md cd] hx rfl (zC6 hb)
  (by intro u hu;simp at hu;rcases hu with rfl | rfl | rfl <;> rfl) (by unfold maxLen;omega) (by omega) hH ?_
 intro v' w' hown hgrow _
 have hL:=VecS.append h1 h2 h3 hq hown hgrow
 obtain ⟨A',n',c',rfl⟩:=hL.slice
 have hl:=hL.len
 rw [List.length_append] at hl
 simp only [List.length_cons,List.length_nil,Nat.zero_add] at hl
 subst hl
 exact hK' _ _ (hK A' c' w' hL (TKeep.grown h3 hgrow) ((Below.refl _ _).grown hgrow hH (fun k hk => (h3.lt k hk).1)))
theorem zmp (n:Nat):(Builtin.zeroCells (Value.agg #[.bool false, .slice none 0 0, .slice none 0 0]).cells n).toList = rcells (List.replicate n (false, .slice none 0 0, .slice none 0 0)):=by
 apply List.ext_getElem?
 intro j
 have hz:(Value.agg #[.bool false, .slice none 0 0, .slice none 0 0]).cells = #[.bool false, .slice none 0 0, .slice none 0 0]:=rfl
 rw [hz]
 by_cases hj:j < n * 3
 ·have h1:(Builtin.zeroCells #[.bool false, .slice none 0 0, .slice none 0 0] n).toList[j]? = some (#[Value.bool false, .slice none 0 0, .slice none 0 0][j % 3]!):=by
   simp [Builtin.zeroCells,hj]
  have hk:(List.replicate n ((false, .slice none 0 0, .slice none 0 0):RV))[j / 3]? = some (false, .slice none 0 0, .slice none 0 0):=by
   rw [List.getElem?_replicate,if_pos (by omega)]
  obtain ⟨g0,g1,g2⟩:=ziI _ _ _ hk
  rw [h1]
  rcases (by omega:j % 3 = 0 ∨ j % 3 = 1 ∨ j % 3 = 2) with e | e | e
  ·rw [e];rw [show j / 3 * 3 = j by omega] at g0;rw [g0];rfl
  ·rw [e];rw [show j / 3 * 3 + 1 = j by omega] at g1;rw [g1];rfl
  ·rw [e];rw [show j / 3 * 3 + 2 = j by omega] at g2;rw [g2];rfl
 ·rw [List.getElem?_eq_none (by simp [Builtin.zeroCells];omega),List.getElem?_eq_none (by rw [zcC];simp;omega)]
theorem zb3 {w:World} {ops:Array Oper} {rest:List Oper} {o:Oper} {a:Act} {Q:Exit → Act → World → Prop} (hgd:o.guard = none) (s x:Operand)
  (hop:o.op = .call { callee := .builtin .append,args := #[s,x],argTypes := #[26,3] }) {H:Nat} {v:Value} {qs:List Rat} (hs:a.eval s = v) (hv:VecS w H v qs) {n:Nat} {M:Int} (hx:a.eval x = .int .i64 M) (hM:M = (n:Int))
  {N:Nat} (hN:qs.length + n = N) (hlen:N ≤ 1000000) (hH:H ≤ w.heap.size)
  (hK:∀ A' c' w',VecS w' H (.slice A' N c') (qs ++ List.replicate n 0) → TKeep 35 w w' → Below H w w' → wpList Tryz.prog ops Q rest (a.put o.dst (.slice A' N c')) w'):wpList Tryz.prog ops Q (o :: rest) a w:=by
 subst hN
 subst hM
 obtain ⟨i0,hi,hz0,hz1,hz2⟩:=info_parts ze0
 obtain ⟨l,h1,h2,h3⟩:=hv.row
 refine wpList_plain hgd fun K hK' => ?_
 obtain ⟨v',w',hrun,hown,hgrow⟩:=zgk (P:=Tryz.prog) w H 26 3 o.type 35 i0 _ 3 56 .i64 Tryz.underlying26 Tryz.underlying3 hi hz0 hz1 hz2 rfl (by decide) v qs.length (rcells l) h3 n
  (by rw [zmp];exact ziJ _ fun r hr => by obtain ⟨_,rfl⟩:=List.mem_replicate.1 hr;exact ⟨rfl,rfl⟩) (by unfold maxLen;omega) (by omega) hH
 rw [zmp] at hown
 have hk:=zh3 h3 hgrow
 have hL:VecS w' H v' (qs ++ List.replicate n 0):=by
  refine ⟨l ++ List.replicate n (false, .slice none 0 0, .slice none 0 0),by simp [h1],fun k r q e1 e2 => ?_,by rw [List.length_append,zh4,List.length_replicate];exact hown⟩
  by_cases hkl:k < l.length
  ·rw [List.getElem?_append_left hkl] at e1
   rw [List.getElem?_append_left (by omega)] at e2
   exact (h2 k r q e1 e2).keepT hk
  ·rw [List.getElem?_append_right (by omega),List.getElem?_replicate] at e1
   rw [List.getElem?_append_right (by omega),List.getElem?_replicate] at e2
   split at e1
   ·injection e1 with e1
    rw [if_pos (by omega)] at e2
    injection e2 with e2
    subst e1 e2
    exact RatS.zero _
   ·cases e1
 obtain ⟨A',n',c',rfl⟩:=hL.slice
 have hl:=hL.len
 rw [List.length_append,List.length_replicate] at hl
 subst hl
 exact Lib.wp_append_run w s x 26 3 hop v _ hs hx _ w' hrun (hK' _ _ (hK A' c' w' hL (TKeep.grown h3 hgrow) ((Below.refl _ _).grown hgrow hH (fun k hk => (h3.lt k hk).1))))
end Go.Proofs.YtdbgbaiekpbaoaaGreatDoor
namespace Go.Proofs.YtdbgbaiekpbaoaaGreatDoor
open Go.RowKit Am
open Lib (hid)
attribute [local go_sem ↓] Go.wp_at_zero Go.wp_at_succ
set_option maxHeartbeats 4000000
set_option maxRecDepth 100000
def zIc (p:PRow) (q:Rat):Bool := !(decide (p.kind = 1) && decide (0 < q) || decide (p.kind = 2) && decide (q < 0))
def zxD (rows:List PRow) (ys:List Rat) (k:Nat):Bool:=(List.range k).all fun i => zIc (rows.getD i default) (el ys i)
def zId (rows:List PRow) (ys:List Rat):Bool:=zxD rows ys rows.length
theorem zfC {rows:List PRow} {k:Nat} {p:PRow} (h:rows[k]? = some p):rows.getD k default = p:=by rw [List.getD_eq_getElem?_getD,h];rfl
theorem zPs (q:Rat):0 < q.num ↔ 0 < q:=by
 have h:=zsp q
 constructor
 ·intro h1;exact Rat.not_le.1 fun h2 => by have:=h.2 h2;omega
 ·intro h1;exact Int.not_le.1 fun h2 => Rat.not_lt.2 (h.1 h2) h1
theorem zPt (q:Rat):0 < q.num.sign ↔ 0 < q:=by
 rw [← zPs]
 rcases Int.lt_trichotomy q.num 0 with h | h | h
 ·rw [Int.sign_eq_neg_one_of_neg h];constructor <;> intro h1 <;> omega
 ·rw [h];decide
 ·rw [Int.sign_eq_one_of_pos h];constructor <;> intro h1 <;> omega
theorem zQE (q:Rat):q.num.sign < 0 ↔ q < 0:=by
 rw [← zvc]
 rcases Int.lt_trichotomy q.num 0 with h | h | h
 ·rw [Int.sign_eq_neg_one_of_neg h];constructor <;> intro h1 <;> omega
 ·rw [h];decide
 ·rw [Int.sign_eq_one_of_pos h];constructor <;> intro h1 <;> omega
namespace Ct
end Ct
def zca (n:Nat) (rows:List PRow) (k:Nat):List Int:=(List.range k).map fun i => if (rows.getD i default).kind = 3 then -1 else ((n + cnt rows i:Nat):Int)
theorem zsk (n:Nat) (rows:List PRow) (k:Nat):(zca n rows k).length = k:=by simp [zca]
theorem zqm (n:Nat) (rows:List PRow) (k:Nat):zca n rows (k + 1) = zca n rows k ++ [if (rows.getD k default).kind = 3 then -1 else ((n + cnt rows k:Nat):Int)]:=by unfold zca;rw [List.range_succ,List.map_append];rfl
theorem zsj {n:Nat} {rows:List PRow} {k m:Nat} (h:k < m):(zca n rows m)[k]? = some (if (rows.getD k default).kind = 3 then -1 else ((n + cnt rows k:Nat):Int)):=by unfold zca;rw [List.getElem?_map,List.getElem?_range h];rfl
theorem zo3 {rows:List PRow} {k:Nat} {p:PRow} (h:rows[k]? = some p):zg8 (rows.take (k + 1)) = zg8 (rows.take k) ++ [p.rhs]:=by unfold zg8;rw [List.take_add_one,h];simp
theorem zxG (rows:List PRow):(zg8 rows).length = rows.length:=by simp [zg8]
theorem zux {rows:List PRow} {k:Nat} {p:PRow} (h:rows[k]? = some p) (h3:p.kind = 3):cnt rows (k + 1) = cnt rows k:=by rw [cnt,zfC h,if_pos h3];rfl
theorem zkE {rows:List PRow} {k:Nat} {p:PRow} (h:rows[k]? = some p) (h3:p.kind ≠ 3):cnt rows (k + 1) = cnt rows k + 1:=by rw [cnt,zfC h,if_neg h3]
theorem zgO (rows:List PRow):∀ k,cnt rows k ≤ k
 | 0 => Nat.le_refl _
 | k + 1 => by have:=zgO rows k;rw [cnt];split <;> omega
theorem znK {rows:List PRow} {k:Nat} {p:PRow} (h:rows[k]? = some p) (h3:p.kind = 3):List.replicate (cnt rows rows.length) 0 = zch rows k:=by
 apply List.ext_getElem?
 intro t
 unfold zch
 rw [List.getElem?_replicate,List.getElem?_map]
 by_cases ht:t < cnt rows rows.length
 ·rw [if_pos ht,List.getElem?_range ht];simp only [List.getD_eq_getElem?_getD,h,Option.getD_some,h3,ne_eq,not_true_eq_false,false_and,if_false,Option.map_some]
 ·rw [if_neg ht,List.getElem?_eq_none (by simpa using ht)];rfl
theorem znJ {rows:List PRow} {k:Nat} {p:PRow} (h:rows[k]? = some p) (h3:p.kind ≠ 3) {n:Nat} (hn:p.coef.length = n):(p.coef ++ List.replicate (cnt rows rows.length) 0).set (n + cnt rows k) ((zfI p.kind:Int):Rat) = p.coef ++ zch rows k:=by
 have hk:=(List.getElem?_eq_some_iff.1 h).1
 have hlt:cnt rows k < cnt rows rows.length:=by
  have h1:=zkE h h3
  have h2:=zyi rows (j:=k + 1) (k:=rows.length) (by omega)
  omega
 rw [List.set_append,if_neg (by omega),hn,show n + cnt rows k - n = cnt rows k by omega]
 congr 1
 apply List.ext_getElem?
 intro t
 unfold zch
 rw [List.getElem?_set,List.getElem?_map,List.length_replicate,List.getElem?_replicate,zfC h]
 by_cases ht:t < cnt rows rows.length
 ·rw [List.getElem?_range ht]
  by_cases e:cnt rows k = t
  ·rw [if_pos e,if_pos (by omega)];simp [h3,e]
  ·rw [if_neg e,if_pos ht];simp only [Option.map_some,h3,ne_eq,not_false_eq_true,true_and,if_neg (fun h:t = cnt rows k => e h.symm)]
 ·rw [if_neg (by omega),if_neg ht,List.getElem?_eq_none (by simpa using ht)];rfl
theorem zo2 {rows:List PRow} {k:Nat} {p:PRow} (h:rows[k]? = some p):(zc3 rows).take (k + 1) = (zc3 rows).take k ++ [p.coef ++ zch rows k]:=by
 have hk:=(List.getElem?_eq_some_iff.1 h).1
 have e:(zc3 rows)[k]? = some (p.coef ++ zch rows k):=by unfold zc3;rw [List.getElem?_map,List.getElem?_range hk];simp only [Option.map_some,zfC h]
 rw [List.take_add_one,e];rfl
theorem zjC (rows:List PRow):(zc3 rows).length = rows.length:=by simp [zc3]
theorem zsi (rows:List PRow) (k:Nat):∀ q ∈ zch rows k,mw q ≤ 1:=fun q hq => by
 unfold zch at hq
 obtain ⟨t,_,rfl⟩:=List.mem_map.1 hq
 split
 ·unfold zfI;split
  ·exact mw1
  ·show mw ((-1:Int):Rat) ≤ 1
   decide
 ·exact mw0
theorem zBb {w:World} {b:Nat} {cs:Array Value} {t:TypeId} (hb:w.heap[b]? = some (.cells cs t (0,0))) (v0 v1 v2 v3 v4 v5:Value):TKeep t w ((((((w.setCell ⟨b,0,none⟩ v0).setCell ⟨b,1,none⟩ v1).setCell ⟨b,2,none⟩ v2).setCell ⟨b,3,none⟩ v3).setCell ⟨b,4,none⟩ v4).setCell ⟨b,5,none⟩ v5):=fun k _ hne => by
 have hkb:k ≠ b:=fun e => hne cs (by rw [e];exact hb)
 rw [Below.heap_setCell _ _ _ _ (by exact hkb),Below.heap_setCell _ _ _ _ (by exact hkb),Below.heap_setCell _ _ _ _ (by exact hkb),Below.heap_setCell _ _ _ _ (by exact hkb),Below.heap_setCell _ _ _ _ (by exact hkb),Below.heap_setCell _ _ _ _ (by exact hkb)]
theorem zBa {w:World} {b:Nat} {cs:Array Value} {t:TypeId} (hb:w.heap[b]? = some (.cells cs t (0,0))) (v0 v1:Value):TKeep t w ((w.setCell ⟨b,0,none⟩ v0).setCell ⟨b,1,none⟩ v1):=fun k _ hne => by
 have hkb:k ≠ b:=fun e => hne cs (by rw [e];exact hb)
 rw [Below.heap_setCell _ _ _ _ (by exact hkb),Below.heap_setCell _ _ _ _ (by exact hkb)]
def zCt (w:World) (n m S:Nat) (cost:List Rat) (rows:List PRow) (e:Ending) (w':World):Prop :=
  ∃ (rA:Option Addr) (rc:Nat) (lA:List Value) (bA:Option Addr) (bc_:Nat) (kA:Option Addr) (kc:Nat) (eA:Option Addr) (ec:Nat),
    e = .returned (.tuple #[.agg #[.slice rA m rc, .int .i64 ((n + cnt rows m:Nat):Int), .slice bA m bc_, .slice kA (n + cnt rows m) kc, .int .i64 (n:Int), .slice eA m ec], .nilIface]) ∧
    StdP w' rA rc lA bA bc_ kA kc eA ec m (n + cnt rows m) S (zc3 rows) (zg8 rows) (zjD cost rows) (zca n rows m) ∧ Below w.heap.size w w'
namespace Pb
theorem sign (k:Int) (w:World):Calls Tryz.prog 71 #[.int .i64 k] w fun e w' => e = .returned (.int .i64 (zfI k)) ∧ Below w.heap.size w w':=by
 by_cases h:k = 1
 ·have hd:(k == 1) = true:=by simp [h]
  have hs:zfI k = 1:=by unfold zfI;rw [if_pos h]
  rw [hs]
  go_enter Tryz.func71,Tryz.ntmps71
  go_wp2
  go_ret
  exact ⟨rfl,Below.refl _ _⟩
 ·have hd:(k == 1) = false:=by simp [h]
  have hs:zfI k = -1:=by unfold zfI;rw [if_neg h]
  rw [hs]
  go_enter Tryz.func71,Tryz.ntmps71
  go_wp2
  go_ret
  exact ⟨rfl,Below.refl _ _⟩
theorem standard (S:Nat) (hS:1 ≤ S) (C:Option Addr) (nc cc:Nat) (R:Option Addr) (nr cr:Nat) (cost:List Rat) (rows:List PRow) (w:World) (hc:VecS w 0 (.slice C nc cc) cost) (hr:RowsS w 0 (.slice R nr cr) rows) (hb:nc ≤ 24) (hnr:nr ≤ 20) (hrr:Rows nc rows) (hkk:Kinds rows) (zc:∀ q ∈ cost,mw q ≤ S) (zr:∀ p ∈ rows,(∀ q ∈ p.coef,mw q ≤ S) ∧ mw p.rhs ≤ S) :
  Calls Tryz.prog 21 #[.agg #[.slice C nc cc, .slice R nr cr]] w (zCt w nc nr S cost rows):=by
 have HNC:=hid hc.len
 have HN:=hid hr.len
 have HRR:=hid hrr
 have HKK:=hid hkk
 have HSS:=hid hS
 have HZC:=hid zc
 have HZR:=hid zr
 clear hrr hkk hS zc zr
 obtain ⟨W,hW⟩:∃ W,((w.alloc (.cells #[.slice C nc cc, .slice R nr cr] 47)).alloc (.cells #[.slice none 0 0, .int .i64 0, .slice none 0 0, .slice none 0 0, .int .i64 0, .slice none 0 0] 66)) = W:=⟨_,rfl⟩
 have KB0:=hid (show W.heap[w.heap.size]? = some (.cells #[.slice C nc cc, .slice R nr cr] 47 (0,0)) by rw [← hW];exact zak (zam (by simp)))
 have KB1:=hid (show W.heap[w.heap.size + 1]? = some (.cells #[.slice none 0 0, .int .i64 0, .slice none 0 0, .slice none 0 0, .int .i64 0, .slice none 0 0] 66 (0,0)) by rw [← hW];exact zam (by simp))
 have BB:=hid (show Below w.heap.size w W by rw [← hW];exact (zae w _).alloc (by simp) _)
 have HC:=hid (show VecS W 0 (.slice C nc cc) cost by rw [← hW];exact ((hc).alloc _).alloc _)
 have HR:=hid (show RowsS W 0 (.slice R nr cr) rows by rw [← hW];exact ((hr).alloc _).alloc _)
 obtain ⟨zaK,_,_,_,zaL,zaA,_⟩:=bf2 KB0.out
 clear hc hr
 go_enter Tryz.func21,Tryz.ntmps21
 go_wp2_with fail
 clear hW
 with_reducible refine (may C nc cc R nr cr cost rows _ HC.out HR.out hb hnr HRR.out HKK.out).mono ?_
 rintro e w1 ⟨rfl,hb_⟩
 have zaq:=hid (zad hb_ KB0.out)
 obtain ⟨zaI,_,_,_,zaJ,zau,_⟩:=bf2 zaq.out
 have HBW:=hid hb_
 have HZ1:=hid (show W.heap.size ≤ w1.heap.size from hb_.size)
 clear hb_
 have hb2z:=zae w1 (.cells #[.slice none 0 0, .int .i64 0, .slice none 0 0, .slice none 0 0, .int .i64 (nc:Int), .slice none 0 0] 66)
 have zaD:=hid (zad hb2z zaq.out)
 obtain ⟨_,_,_,_,zaV,zaF,_⟩:=bf2 zaD.out
 go_wp2
 go_loopw [7,31] (fun cv i wr => ∃ (k:Nat) (bA:Option Addr) (bc_:Nat) (eA:Option Addr) (ec:Nat),i = .int .i64 k ∧ cv = .int .i64 ((nc + cnt rows k:Nat):Int) ∧ k ≤ nr ∧ wr.heap[w1.heap.size]? = some (.cells #[.slice none 0 0, .int .i64 0, .slice bA k bc_, .slice none 0 0, .int .i64 (nc:Int), .slice eA k ec] 66 (0,0)) ∧ VecS wr W.heap.size (.slice bA k bc_) (zg8 (rows.take k)) ∧ IntsZ wr W.heap.size (.slice eA k ec) (zca nc rows k) ∧ Below W.heap.size W wr)
  (fun _ i _ => nr - (intOf i).toNat)
 case atStart => exact ⟨0,none,0,none,0,rfl,by simp [cnt],Nat.zero_le _,zal _ _ _,VecS.nil _ _,IntsZ.nil _ _,HBW.out.alloc HZ1.out _⟩
 case round =>
  obtain ⟨k,bA,bc_,eA,ec,rfl,rfl,hk,hbox,hvB,hvL,hB⟩:=hrel
  by_cases hlt:k < nr
  ·obtain ⟨p,hp⟩:∃ p,rows[k]? = some p:=⟨rows[k]'(by rw [← HN.out];exact hlt),List.getElem?_eq_getElem _⟩
   obtain ⟨b,rfl,hb0,hb1_⟩:=HR.out.has (by omega)
   obtain ⟨Q,nq,cq,g,A,m,c,D,md,cd,k0,k1,k2,k3,k4,hvq,hrh⟩:=(HR.out.below hB).at_ hp
   have zbn:=hid (zad hB KB0.out)
   have zek:=hid (zad hB KB1.out)
   have zEw:=hid (HC.out.below hB)
   have zB7:=hid (HR.out.below hB)
   have HQ:=hid (show RatS wr g (.slice A m c) (.slice D md cd) p.rhs from hrh)
   have HVB:=hid (show VecS wr W.heap.size (.slice bA k bc_) (zg8 (rows.take k)) from hvB)
   have HVL:=hid (show IntsZ wr W.heap.size (.slice eA k ec) (zca nc rows k) from hvL)
   have HW:=hid (show Bel W wr from Bel.mk hB)
   have zcc:=hid (BB.out.trans ((hB).mono BB.out.size))
   obtain ⟨zdg,_,_,_,zdh,zb1,_⟩:=bf2 zbn.out
   have zdO:wr.cell? ⟨b,k * 5,none⟩ = some (.slice Q nq cq):=k0
   have zfd:wr.cell? ⟨b,k * 5 + 1,none⟩ = some (.int .i64 p.kind):=k1
   have zgl:wr.cell? ⟨b,k * 5 + 2,none⟩ = some (.bool g):=k2
   have zg9:wr.cell? ⟨b,k * 5 + 3,none⟩ = some (.slice A m c):=k3
   have zhb:wr.cell? ⟨b,k * 5 + 4,none⟩ = some (.slice D md cd):=k4
   have KBO:=hid hbox
   have HP:=hid hp
   have HLN:=hid (show (zca nc rows k).length = k from zsk _ _ _)
   have HBN:=hid (show (zg8 (rows.take k)).length = k by rw [zxG,List.length_take, ← HN.out];omega)
   have hcm:=zgO rows k
   have HLS:=hid (zqm nc rows k)
   clear hB hbox hvB hvL hvq hrh hp k0 k1 k2 k3 k4
   have hi1:(0:Int) ≤ (k:Int):=Int.natCast_nonneg _
   have hi2:(k:Int) < (nr:Int):=by omega
   have hz9:=HW.out.b.size
   have hb4z:=zae wr (.cells #[.slice Q nq cq, .int .i64 p.kind, .bool g, .slice A m c, .slice D md cd] 110)
   have zbo:=hid (zad hb4z zbn.out)
   have zcE:=hid (zad hb4z zek.out)
   have zgh:=hid (zad hb4z KBO.out)
   have zI0:=hid (zEw.out.below hb4z)
   have zxZ:=hid (zB7.out.below hb4z)
   have zI3:=hid (HQ.out.below hb4z)
   have zy4:=hid (HVB.out.below hb4z)
   have zy5:=hid (HVL.out.below hb4z)
   have zhh:=hid (HW.out.below hb4z)
   have zdf:=hid (zcc.out.trans ((hb4z).mono zcc.out.size))
   obtain ⟨_,_,_,_,zck,zbw,_⟩:=bf2 zbo.out
   obtain ⟨_,_,_,_,_,_,_,_,_,_,_,_,_,_,_,_,_,_,_,_,zkB,zgM,_⟩:=bf6 zgh.out
   have KBR:=hid (zal wr #[.slice Q nq cq, .int .i64 p.kind, .bool g, .slice A m c, .slice D md cd] 110)
   obtain ⟨_,_,_,_,zck,zbw,_⟩:=bf2 zbo.out
   obtain ⟨_,_,_,_,_,_,_,_,_,_,_,_,_,_,_,_,_,_,_,_,zkB,zgM,_⟩:=bf6 zgh.out
   obtain ⟨_,_,zJy,_⟩:=bc5 KBR.out
   by_cases h3:p.kind = 3
   ·have hd:(p.kind != 3) = false:=by simp [h3]
    have HZV:=hid (show (if (rows.getD k default).kind = 3 then -1 else ((nc + cnt rows k:Nat):Int)) = -1 by rw [zfC HP.out];exact if_pos h3)
    have HCN:=hid (zux HP.out h3)
    clear h3
    go_upto_region 14 with fail
    go_cut [] (fun wy => ∃ (A5:Option Addr) (c5:Nat),wy.heap[w1.heap.size]? = some (.cells #[.slice none 0 0, .int .i64 0, .slice bA k bc_, .slice none 0 0, .int .i64 (nc:Int), .slice A5 (k + 1) c5] 66 (0,0)) ∧ wy.heap[wr.heap.size]? = some (.cells #[.slice Q nq cq, .int .i64 p.kind, .bool g, .slice A m c, .slice D md cd] 110 (0,0)) ∧ RatS wy g (.slice A m c) (.slice D md cd) p.rhs ∧ VecS wy W.heap.size (.slice bA k bc_) (zg8 (rows.take k)) ∧ IntsZ wy W.heap.size (.slice A5 (k + 1) c5) (zca nc rows (k + 1)) ∧ Below W.heap.size W wy)
    case first => as_aux_lemma =>
     go_wp2_with (at_builtin;refine zfS rfl _ _ rfl rfl (zy5.out.alloc (.cells #[.int .i64 (-1)] 3)) rfl (zbD _ _ _ _) (n:=k) HLN.out (by omega) (by simp;omega) ?_;intro A5 c5 w5 hI5 hk5 hb5;have HI5:=hid hI5;have HK5:=hid hk5;have HB5:=hid ((zhh.out.alloc (.cells #[.int .i64 (-1)] 3)).b.trans hb5);have KS:=hid (hk5.blk (zak zgh.out) (by decide));have KR:=hid (hk5.blk (zak KBR.out) (by decide));have kf5:=zag KS.out 5;have ks5:=zac KS.out 5;clear hI5 hk5 hb5)
     go_meet
     have k1:TKeep 66 w5 (w5.setCell ⟨w1.heap.size,5,none⟩ (.slice A5 (k + 1) c5)):=TKeep.set KS.out _
     case rel => exact ⟨A5,c5,zar _ KS.out,k1.blk KR.out (by decide),((zI3.out.alloc _).tk HK5.out (by decide)).tk k1 (by decide),((zy4.out.alloc _).tk HK5.out (by decide) (by decide)).tk k1 (by decide) (by decide),by rw [HLS.out,HZV.out];exact HI5.out.tk k1 (by decide),HB5.out.setCell (p:=⟨w1.heap.size,5,none⟩) HZ1.out _⟩
    case rest =>
     rename World => wy
     obtain ⟨A5,c5,hks,hkr,hq5,hv5,hl5,hb5⟩:=hcut
     have KS:=hid hks
     have KR:=hid hkr
     have HQ5:=hid hq5
     have HV5:=hid hv5
     have HL5:=hid hl5
     have HW5:=hid (Bel.mk hb5)
     have hz5:=hb5.size
     obtain ⟨s0,_,_,_,s1,_,_,_,s2,_,_,_,s3,_,_,_,s4,_,_,_,s5,_⟩:=bf6 hks
     obtain ⟨_,_,_,_,r2,_,r3,_,r4,_⟩:=bc5 hkr
     clear hks hkr hq5 hv5 hl5 hb5
     go_wp2_with (at_builtin;refine zfR rfl _ _ rfl rfl (HV5.out.alloc (.cells #[.bool g, .slice A m c, .slice D md cd] 35)) rfl (zal _ _ _) (HQ5.out.alloc _) (N:=k) HBN.out (by omega) (by simp;omega) ?_;intro A6 c6 w6 hv6 hk6 hb6;have HV6:=hid hv6;have HK6:=hid hk6;have HB6:=hid ((HW5.out.alloc (.cells #[.bool g, .slice A m c, .slice D md cd] 35)).b.trans hb6);have KS6:=hid (hk6.blk (zak KS.out) (by decide));have kf2:=zag KS6.out 2;have ks2:=zac KS6.out 2;clear hv6 hk6 hb6)
     go_roundw
     have k1:TKeep 66 w6 (w6.setCell ⟨w1.heap.size,2,none⟩ (.slice A6 (k + 1) c6)):=TKeep.set KS6.out _
     case rel => exact ⟨k + 1,A6,c6,A5,c5,by go_num,by rw [HCN.out];simp,by omega,zar _ KS6.out,by rw [zo3 HP.out];exact HV6.out.tk k1 (by decide) (by decide),((HL5.out.alloc _).tk HK6.out (by decide)).tk k1 (by decide),HB6.out.setCell (p:=⟨w1.heap.size,2,none⟩) HZ1.out _⟩
     case measure => simp [intOf];omega
   ·have hd:(p.kind != 3) = true:=by simp [h3]
    have HZV:=hid (show (if (rows.getD k default).kind = 3 then -1 else ((nc + cnt rows k:Nat):Int)) = ((nc + cnt rows k:Nat):Int) by rw [zfC HP.out];exact if_neg h3)
    have HCN:=hid (zkE HP.out h3)
    clear h3
    go_upto_region 14 with fail
    go_cut [] (fun wy => ∃ (A5:Option Addr) (c5:Nat),wy.heap[w1.heap.size]? = some (.cells #[.slice none 0 0, .int .i64 0, .slice bA k bc_, .slice none 0 0, .int .i64 (nc:Int), .slice A5 (k + 1) c5] 66 (0,0)) ∧ wy.heap[wr.heap.size]? = some (.cells #[.slice Q nq cq, .int .i64 p.kind, .bool g, .slice A m c, .slice D md cd] 110 (0,0)) ∧ RatS wy g (.slice A m c) (.slice D md cd) p.rhs ∧ VecS wy W.heap.size (.slice bA k bc_) (zg8 (rows.take k)) ∧ IntsZ wy W.heap.size (.slice A5 (k + 1) c5) (zca nc rows (k + 1)) ∧ Below W.heap.size W wy)
    case first => as_aux_lemma =>
     go_wp2_with (at_builtin;refine zfS rfl _ _ rfl rfl (zy5.out.alloc (.cells #[.int .i64 (((nc + cnt rows k:Nat):Int))] 3)) rfl (zbD _ _ _ _) (n:=k) HLN.out (by omega) (by simp;omega) ?_;intro A5 c5 w5 hI5 hk5 hb5;have HI5:=hid hI5;have HK5:=hid hk5;have HB5:=hid ((zhh.out.alloc (.cells #[.int .i64 (((nc + cnt rows k:Nat):Int))] 3)).b.trans hb5);have KS:=hid (hk5.blk (zak zgh.out) (by decide));have KR:=hid (hk5.blk (zak KBR.out) (by decide));have kf5:=zag KS.out 5;have ks5:=zac KS.out 5;clear hI5 hk5 hb5)
     go_meet
     have k1:TKeep 66 w5 (w5.setCell ⟨w1.heap.size,5,none⟩ (.slice A5 (k + 1) c5)):=TKeep.set KS.out _
     case rel => exact ⟨A5,c5,zar _ KS.out,k1.blk KR.out (by decide),((zI3.out.alloc _).tk HK5.out (by decide)).tk k1 (by decide),((zy4.out.alloc _).tk HK5.out (by decide) (by decide)).tk k1 (by decide) (by decide),by rw [HLS.out,HZV.out];exact HI5.out.tk k1 (by decide),HB5.out.setCell (p:=⟨w1.heap.size,5,none⟩) HZ1.out _⟩
    case rest =>
     rename World => wy
     obtain ⟨A5,c5,hks,hkr,hq5,hv5,hl5,hb5⟩:=hcut
     have KS:=hid hks
     have KR:=hid hkr
     have HQ5:=hid hq5
     have HV5:=hid hv5
     have HL5:=hid hl5
     have HW5:=hid (Bel.mk hb5)
     have hz5:=hb5.size
     obtain ⟨s0,_,_,_,s1,_,_,_,s2,_,_,_,s3,_,_,_,s4,_,_,_,s5,_⟩:=bf6 hks
     obtain ⟨_,_,_,_,r2,_,r3,_,r4,_⟩:=bc5 hkr
     clear hks hkr hq5 hv5 hl5 hb5
     go_wp2_with (at_builtin;refine zfR rfl _ _ rfl rfl (HV5.out.alloc (.cells #[.bool g, .slice A m c, .slice D md cd] 35)) rfl (zal _ _ _) (HQ5.out.alloc _) (N:=k) HBN.out (by omega) (by simp;omega) ?_;intro A6 c6 w6 hv6 hk6 hb6;have HV6:=hid hv6;have HK6:=hid hk6;have HB6:=hid ((HW5.out.alloc (.cells #[.bool g, .slice A m c, .slice D md cd] 35)).b.trans hb6);have KS6:=hid (hk6.blk (zak KS.out) (by decide));have kf2:=zag KS6.out 2;have ks2:=zac KS6.out 2;clear hv6 hk6 hb6)
     go_roundw
     have k1:TKeep 66 w6 (w6.setCell ⟨w1.heap.size,2,none⟩ (.slice A6 (k + 1) c6)):=TKeep.set KS6.out _
     case rel => exact ⟨k + 1,A6,c6,A5,c5,by go_num,by rw [HCN.out];simp;omega,by omega,zar _ KS6.out,by rw [zo3 HP.out];exact HV6.out.tk k1 (by decide) (by decide),((HL5.out.alloc _).tk HK6.out (by decide)).tk k1 (by decide),HB6.out.setCell (p:=⟨w1.heap.size,2,none⟩) HZ1.out _⟩
     case measure => simp [intOf];omega
  ·obtain rfl:nr = k:=by omega
   have zbn:=hid (zad hB KB0.out)
   have zek:=hid (zad hB KB1.out)
   have zEw:=hid (HC.out.below hB)
   have zB7:=hid (HR.out.below hB)
   have HVB:=hid (show VecS wr W.heap.size (.slice bA nr bc_) (zg8 (rows.take nr)) from hvB)
   have HVL:=hid (show IntsZ wr W.heap.size (.slice eA nr ec) (zca nc rows nr) from hvL)
   have HW:=hid (show Bel W wr from Bel.mk hB)
   have zcc:=hid (BB.out.trans ((hB).mono BB.out.size))
   obtain ⟨zdg,_,_,_,zdh,zb1,_⟩:=bf2 zbn.out
   have KBO:=hid hbox
   have HTK:=hid (show rows.take nr = rows by rw [HN.out,List.take_length])
   clear hB hbox hvB hvL
   have hcm:=zgO rows nr
   have hz9:=HW.out.b.size
   obtain ⟨zdg,_,_,_,zdh,zb1,_⟩:=bf2 zbn.out
   go_upto_region 17 with fail
   go_cut [] (fun wy => ∃ (A8:Option Addr) (c8:Nat),wy.heap[w1.heap.size]? = some (.cells #[.slice none 0 0, .int .i64 0, .slice bA nr bc_, .slice A8 (nc + cnt rows nr) c8, .int .i64 (nc:Int), .slice eA nr ec] 66 (0,0)) ∧ VecS wy W.heap.size (.slice A8 (nc + cnt rows nr) c8) (zjD cost rows) ∧ VecS wy W.heap.size (.slice bA nr bc_) (zg8 (rows.take nr)) ∧ IntsZ wy W.heap.size (.slice eA nr ec) (zca nc rows nr) ∧ Below W.heap.size W wy)
   case first => as_aux_lemma =>
    go_wp2_with fail
    with_reducible refine (Vc.copy C nc cc cost 0 _ zEw.out (by omega)).mono ?_
    rintro e w5 ⟨A7,c7,rfl,hv7,hb⟩
    have zbo:=hid (zad hb zbn.out)
    have zcE:=hid (zad hb zek.out)
    have zgh:=hid (zad hb KBO.out)
    have zI0:=hid (zEw.out.below hb)
    have zxZ:=hid (zB7.out.below hb)
    have zy4:=hid (HVB.out.below hb)
    have zy5:=hid (HVL.out.below hb)
    have zhh:=hid (HW.out.below hb)
    have HC7:=hid (show VecS w5 wr.heap.size (.slice A7 nc c7) cost from hv7)
    have zdf:=hid (zcc.out.trans ((hb).mono zcc.out.size))
    obtain ⟨_,_,_,_,zck,zbw,_⟩:=bf2 zbo.out
    obtain ⟨_,_,_,_,_,_,_,_,_,_,_,_,_,_,_,_,_,_,_,_,zkB,zgM,_⟩:=bf6 zgh.out
    have HB7:=hid hb
    clear hv7 hb
    go_wp2_with (at_builtin;refine zb3 rfl _ _ rfl rfl HC7.out rfl (n:=cnt rows nr) (by omega) (N:=nc + cnt rows nr) (by rw [← HNC.out]) (by omega) (by have:=HB7.out.size;omega) ?_;intro A8 c8 w8 hv8 hk8 hb8;have HV8:=hid hv8;have HBX:=hid (HB7.out.trans hb8);have HB8:=hid (HW.out.b.trans (HBX.out.mono hz9));have KS:=hid (hk8.blk zgh.out (by decide));have kf3:=zag KS.out 3;have ks3:=zac KS.out 3;clear hv8 hk8 hb8)
    go_meet
    have k1:TKeep 66 w8 (w8.setCell ⟨w1.heap.size,3,none⟩ (.slice A8 (nc + cnt rows nr) c8)):=TKeep.set KS.out _
    case rel => exact ⟨A8,c8,zar _ KS.out,by unfold zjD;rw [← HN.out];exact (HV8.out.base hz9).tk k1 (by decide) (by decide),(HVB.out.below HBX.out).tk k1 (by decide) (by decide),(HVL.out.below HBX.out).tk k1 (by decide),HB8.out.setCell (p:=⟨w1.heap.size,3,none⟩) HZ1.out _⟩
   case rest =>
    rename World => wb
    obtain ⟨A8,c8,hks,hvC,hvB,hvL,hB⟩:=hcut
    have zbo:=hid (zad hB KB0.out)
    have zcE:=hid (zad hB KB1.out)
    have zI0:=hid (HC.out.below hB)
    have zxZ:=hid (HR.out.below hB)
    have HVC:=hid (show VecS wb W.heap.size (.slice A8 (nc + cnt rows nr) c8) (zjD cost rows) from hvC)
    have HVB2:=hid (show VecS wb W.heap.size (.slice bA nr bc_) (zg8 (rows.take nr)) from hvB)
    have HVL2:=hid (show IntsZ wb W.heap.size (.slice eA nr ec) (zca nc rows nr) from hvL)
    have zdf:=hid (BB.out.trans ((hB).mono BB.out.size))
    obtain ⟨_,_,_,_,zck,zbw,_⟩:=bf2 zbo.out
    have KSO:=hid hks
    obtain ⟨_,_,_,_,zck,zbw,_⟩:=bf2 zbo.out
    obtain ⟨_,_,_,_,_,_,_,_,_,_,_,_,_,_,_,_,_,_,_,_,zkB,zgM,_⟩:=bf6 KSO.out
    clear zaK zaL zaA zaI zaJ zau zaV zaF zdg zdh zb1
    have HZB:=hid hB.size
    have HBB:=hid hB
    clear hks hvC hvB hvL hB
    go_wp2
    simp only [Int.natCast_add]
    go_loopw [11,66] (fun rv i wz => ∃ (k:Nat) (rA:Option Addr) (rc:Nat) (l:List Value),i = .int .i64 k ∧ rv = .slice rA k rc ∧ k ≤ nr ∧ VecsL wz wb.heap.size (.slice rA k rc) l ((zc3 rows).take k) ∧ Below wb.heap.size wb wz)
     (fun _ i _ => nr - (intOf i).toNat)
    case atStart => exact ⟨0,none,0,[],rfl,rfl,Nat.zero_le _,VecsL.nil _ _,Below.refl _ _⟩
    case round =>
     rename World => wz
     obtain ⟨k,rA,rc,l,rfl,rfl,hk,hvA,hB⟩:=hrel
     by_cases hlt:k < nr
     ·obtain ⟨p,hp⟩:∃ p,rows[k]? = some p:=⟨rows[k]'(by rw [← HN.out];exact hlt),List.getElem?_eq_getElem _⟩
      obtain ⟨b,rfl,hb0,hb1_⟩:=HR.out.has (by omega)
      obtain ⟨bl,rfl,hl0,hl1_⟩:=HVL2.out.has (by omega)
      obtain ⟨Q,nq,cq,g,A,m,c,D,md,cd,k0,k1,k2,k3,k4,hvq,hrh⟩:=(zxZ.out.below hB).at_ hp
      obtain rfl:nc = nq:=by rw [hvq.len,(HRR.out p (List.mem_of_getElem? hp)).1]
      have l0:=(HVL2.out.below hB).at_ (zsj (n:=nc) (rows:=rows) hlt)
      by_cases h3:p.kind = 3
      ·skip
       rw [zfC hp,if_pos h3] at l0
       have zct:=hid (zad hB zbo.out)
       have zd9:=hid (zad hB zcE.out)
       have zgi:=hid (zad hB KSO.out)
       have zB8:=hid (zxZ.out.below hB)
       have zn9:=hid (HVL2.out.below hB)
       have HQ:=hid (show VecS wz 0 (.slice Q nc cq) p.coef from hvq)
       have HVA:=hid (show VecsL wz wb.heap.size (.slice rA k rc) l ((zc3 rows).take k) from hvA)
       have HWz:=hid (show Bel wb wz from Bel.mk hB)
       have ze3:=hid (zdf.out.trans ((hB).mono zdf.out.size))
       have zid:wz.cell? ⟨b,k * 5,none⟩ = some (.slice Q nc cq):=k0
       have zlu:wz.cell? ⟨b,k * 5 + 1,none⟩ = some (.int .i64 p.kind):=k1
       have zmh:wz.cell? ⟨b,k * 5 + 2,none⟩ = some (.bool g):=k2
       have zmi:wz.cell? ⟨b,k * 5 + 3,none⟩ = some (.slice A m c):=k3
       have zmj:wz.cell? ⟨b,k * 5 + 4,none⟩ = some (.slice D md cd):=k4
       have zmk:wz.cell? ⟨bl,k,none⟩ = some (.int .i64 (-1)):=l0
       have HP:=hid hp
       have HH3:=hid h3
       have HNA:=hid (show ((zc3 rows).take k).length = k by rw [List.length_take,zjC, ← HN.out];omega)
       have HCO:=hid (HRR.out p (List.mem_of_getElem? hp)).1
       have hzw:=HWz.out.b.size
       clear hB hvA hvq hrh hp h3 k0 k1 k2 k3 k4 l0
       have hi1:(0:Int) ≤ (k:Int):=Int.natCast_nonneg _
       have hi2:(k:Int) < (nr:Int):=by omega
       have hb6z:=zae wz (.cells #[.slice Q nc cq, .int .i64 p.kind, .bool g, .slice A m c, .slice D md cd] 110)
       have zd8:=hid (zad hb6z zct.out)
       have zig:=hid (zad hb6z zd9.out)
       have zgv:=hid (zad hb6z zgi.out)
       have zEy:=hid (zB8.out.below hb6z)
       have zoa:=hid (zn9.out.below hb6z)
       have zB6:=hid (HQ.out.below hb6z)
       have zsM:=hid (HVA.out.below hb6z)
       have zr0:=hid (HWz.out.below hb6z)
       have zlw:=hid (ze3.out.trans ((hb6z).mono ze3.out.size))
       obtain ⟨zlQ,_,zns,_,zlR,_,znu,_⟩:=bf6 zgv.out
       have zqL:=zab hb6z zid
       have zvH:=zab hb6z zlu
       have zxR:=zab hb6z zmh
       have zxS:=zab hb6z zmi
       have zxT:=zab hb6z zmj
       have zxU:=zab hb6z zmk
       have zxV:(wz.alloc (.cells #[.slice Q nc cq, .int .i64 p.kind, .bool g, .slice A m c, .slice D md cd] 110)).cell? ⟨wz.heap.size,0,none⟩ = some (.slice Q nc cq):=zax rfl rfl
       have zBI:(wz.alloc (.cells #[.slice Q nc cq, .int .i64 p.kind, .bool g, .slice A m c, .slice D md cd] 110)).cell? ⟨wz.heap.size,1,none⟩ = some (.int .i64 p.kind):=zax rfl rfl
       have zBN:(wz.alloc (.cells #[.slice Q nc cq, .int .i64 p.kind, .bool g, .slice A m c, .slice D md cd] 110)).cell? ⟨wz.heap.size,2,none⟩ = some (.bool g):=zax rfl rfl
       have zBS:(wz.alloc (.cells #[.slice Q nc cq, .int .i64 p.kind, .bool g, .slice A m c, .slice D md cd] 110)).cell? ⟨wz.heap.size,3,none⟩ = some (.slice A m c):=zax rfl rfl
       have zqN:(wz.alloc (.cells #[.slice Q nc cq, .int .i64 p.kind, .bool g, .slice A m c, .slice D md cd] 110)).cell? ⟨wz.heap.size,4,none⟩ = some (.slice D md cd):=zax rfl rfl
       go_upto_region 22 with fail
       clear zck zbw zkB zgM zid zlu zmh zmi zmj zmk
       have HZX:=hid (show wb.heap.size ≤ (wz.alloc (.cells #[.slice Q nc cq, .int .i64 p.kind, .bool g, .slice A m c, .slice D md cd] 110)).heap.size by simp;omega)
       go_cut [14] (fun xv wy => ∃ (A9:Option Addr) (c9:Nat),xv = .slice A9 (nc + cnt rows nr) c9 ∧ VecS wy (wz.alloc (.cells #[.slice Q nc cq, .int .i64 p.kind, .bool g, .slice A m c, .slice D md cd] 110)).heap.size (.slice A9 (nc + cnt rows nr) c9) (p.coef ++ List.replicate (cnt rows nr) 0) ∧ Below (wz.alloc (.cells #[.slice Q nc cq, .int .i64 p.kind, .bool g, .slice A m c, .slice D md cd] 110)).heap.size (wz.alloc (.cells #[.slice Q nc cq, .int .i64 p.kind, .bool g, .slice A m c, .slice D md cd] 110)) wy)
       case first => as_aux_lemma =>
        go_wp2_with fail
        refine (Vc.copy Q nc cq p.coef 0 _ zB6.out (by omega)).mono ?_
        rintro e u1 ⟨A7,c7,rfl,hv7,hb7⟩
        have HC7:=hid hv7
        have HB7:=hid hb7
        clear hv7 hb7
        go_wp2_with (at_builtin;refine zb3 rfl _ _ rfl rfl HC7.out rfl (n:=cnt rows nr) (by omega) (N:=nc + cnt rows nr) (by rw [HCO.out]) (by omega) (by exact HB7.out.size) ?_;intro A9 c9 w8 hv8 hk8 hb8;have HV8:=hid hv8;have HB9:=hid (HB7.out.trans hb8);clear hv8 hk8 hb8)
        go_meet
        case rel => exact ⟨A9,c9,rfl,HV8.out,HB9.out⟩
       case rest =>
        rename World => w8
        obtain ⟨A9,c9,rfl,hv8,hb9⟩:=hcut
        have HV8:=hid hv8
        have HB9:=hid hb9
        have zew:=hid (zad hb9 zd8.out)
        have zv1:=hid (zad hb9 zig.out)
        have zv2:=hid (zad hb9 zgv.out)
        have zJZ:=hid (zEy.out.below hb9)
        have zCg:=hid (zoa.out.below hb9)
        have zJY:=hid (zB6.out.below hb9)
        have zCd:=hid (zsM.out.below hb9)
        have zy9:=hid (zr0.out.below hb9)
        have zxW:=hid (zlw.out.trans ((hb9).mono zlw.out.size))
        obtain ⟨zkc,zgw,zp5,znh,zkd,zgx,zp6,zni⟩:=bf2 zew.out
        obtain ⟨zCI,zzG,zAn,zwL,zCK,zzJ,zAo,zwM,zCM,zzM,zAp,zwN,zCO,zzP,zAq,zwO,zCQ,zzS,zAr,zwP,zCV,zzY,zAv,zwT⟩:=bf6 zv1.out
        obtain ⟨zCW,zzZ,zAw,zwU,zCX,zz0,zAx,zwV,zCY,zz1,zAy,zwW,zCZ,zz2,zAA,zwY,zC0,zz3,zAC,zw0,zC1,zz4,zAE,zw2⟩:=bf6 zv2.out
        have zsG:=zab hb9 zqL
        have x0_7d:=zaa zsG
        have zBv:=zab hb9 zvH
        have x1_7d:=zaa zBv
        have zBx:=zab hb9 zxR
        have x2_7d:=zaa zBx
        have zBz:=zab hb9 zxS
        have x3_7d:=zaa zBz
        have zBB:=zab hb9 zxT
        have x4_7d:=zaa zBB
        have zBD:=zab hb9 zxU
        have x5_7d:=zaa zBD
        have zBF:=zab hb9 zxV
        have x6_7d:=zaa zBF
        have zBJ:=zab hb9 zBI
        have x7_7d:=zaa zBJ
        have zBO:=zab hb9 zBN
        have x8_7d:=zaa zBO
        have zBT:=zab hb9 zBS
        have x9_7d:=zaa zBT
        have zqO:=zab hb9 zqN
        have x10_7d:=zaa zqO
        clear hv8 hb9
        clear zlQ zns zlR znu zqL zvH zxR zxS zxT zxU zxV zBI zBN zBS zqN
        go_upto_region 24 with fail
        go_cut [84] (fun c wx => c = .bool false ∧ wx = w8)
        case first =>
         go_wp2
         go_meet
         exact ⟨by first | rfl | (simp;done) | (simp;omega),rfl⟩
        obtain ⟨rfl,rfl⟩:=hcut
        rename World => w8
        go_upto_region 26 with fail
        have HVX:=hid (show VecS w8 wb.heap.size (.slice A9 (nc + cnt rows nr) c9) (p.coef ++ zch rows k) by have h:=HV8.out;rw [← znK HP.out HH3.out, ← HN.out];exact h.base HZX.out)
        have HVX2:=hid (HVX.out.alloc (.cells #[.slice A9 (nc + cnt rows nr) c9] 26))
        have HVA2:=hid (zCd.out.alloc (.cells #[.slice A9 (nc + cnt rows nr) c9] 26))
        have HBA2:=hid ((zy9.out.alloc (.cells #[.slice A9 (nc + cnt rows nr) c9] 26)).b)
        go_wp2_with (at_builtin;go_loud (refine zbW rfl _ _ rfl rfl HVA2.out rfl (zal _ _ _) HVX2.out (n:=k) HNA.out (by omega) (by exact HBA2.out.size) ?_;intro A5 c5 w5 hL5 hk5 hb5 hf5;have HL5:=hid hL5;have HB5:=hid (HBA2.out.trans hb5);clear hL5 hk5 hb5 hf5))
        go_roundw
        case rel => exact ⟨k + 1,A5,c5,_,by go_num,rfl,by omega,by rw [zo2 HP.out];exact HL5.out,HB5.out⟩
        case measure => simp [intOf];omega
      ·skip
       rw [zfC hp,if_neg h3] at l0
       have zct:=hid (zad hB zbo.out)
       have zd9:=hid (zad hB zcE.out)
       have zgi:=hid (zad hB KSO.out)
       have zB8:=hid (zxZ.out.below hB)
       have zn9:=hid (HVL2.out.below hB)
       have HQ:=hid (show VecS wz 0 (.slice Q nc cq) p.coef from hvq)
       have HVA:=hid (show VecsL wz wb.heap.size (.slice rA k rc) l ((zc3 rows).take k) from hvA)
       have HWz:=hid (show Bel wb wz from Bel.mk hB)
       have ze3:=hid (zdf.out.trans ((hB).mono zdf.out.size))
       have zid:wz.cell? ⟨b,k * 5,none⟩ = some (.slice Q nc cq):=k0
       have zlu:wz.cell? ⟨b,k * 5 + 1,none⟩ = some (.int .i64 p.kind):=k1
       have zmh:wz.cell? ⟨b,k * 5 + 2,none⟩ = some (.bool g):=k2
       have zmi:wz.cell? ⟨b,k * 5 + 3,none⟩ = some (.slice A m c):=k3
       have zmj:wz.cell? ⟨b,k * 5 + 4,none⟩ = some (.slice D md cd):=k4
       have zmk:wz.cell? ⟨bl,k,none⟩ = some (.int .i64 (((nc + cnt rows k:Nat):Int))):=l0
       have HP:=hid hp
       have HH3:=hid h3
       have HNA:=hid (show ((zc3 rows).take k).length = k by rw [List.length_take,zjC, ← HN.out];omega)
       have HCO:=hid (HRR.out p (List.mem_of_getElem? hp)).1
       have hcl:cnt rows k < cnt rows nr:=by have h1:=zkE hp h3;have h2:=zyi rows (j:=k + 1) (k:=nr) (by omega);omega
       have hzw:=HWz.out.b.size
       clear hB hvA hvq hrh hp h3 k0 k1 k2 k3 k4 l0
       have hi1:(0:Int) ≤ (k:Int):=Int.natCast_nonneg _
       have hi2:(k:Int) < (nr:Int):=by omega
       have hb6z:=zae wz (.cells #[.slice Q nc cq, .int .i64 p.kind, .bool g, .slice A m c, .slice D md cd] 110)
       have zd8:=hid (zad hb6z zct.out)
       have zig:=hid (zad hb6z zd9.out)
       have zgv:=hid (zad hb6z zgi.out)
       have zEy:=hid (zB8.out.below hb6z)
       have zoa:=hid (zn9.out.below hb6z)
       have zB6:=hid (HQ.out.below hb6z)
       have zsM:=hid (HVA.out.below hb6z)
       have zr0:=hid (HWz.out.below hb6z)
       have zlw:=hid (ze3.out.trans ((hb6z).mono ze3.out.size))
       obtain ⟨zlQ,_,zns,_,zlR,_,znu,_⟩:=bf6 zgv.out
       have zqL:=zab hb6z zid
       have zvH:=zab hb6z zlu
       have zxR:=zab hb6z zmh
       have zxS:=zab hb6z zmi
       have zxT:=zab hb6z zmj
       have zxU:=zab hb6z zmk
       have zxV:(wz.alloc (.cells #[.slice Q nc cq, .int .i64 p.kind, .bool g, .slice A m c, .slice D md cd] 110)).cell? ⟨wz.heap.size,0,none⟩ = some (.slice Q nc cq):=zax rfl rfl
       have zBI:(wz.alloc (.cells #[.slice Q nc cq, .int .i64 p.kind, .bool g, .slice A m c, .slice D md cd] 110)).cell? ⟨wz.heap.size,1,none⟩ = some (.int .i64 p.kind):=zax rfl rfl
       have zBN:(wz.alloc (.cells #[.slice Q nc cq, .int .i64 p.kind, .bool g, .slice A m c, .slice D md cd] 110)).cell? ⟨wz.heap.size,2,none⟩ = some (.bool g):=zax rfl rfl
       have zBS:(wz.alloc (.cells #[.slice Q nc cq, .int .i64 p.kind, .bool g, .slice A m c, .slice D md cd] 110)).cell? ⟨wz.heap.size,3,none⟩ = some (.slice A m c):=zax rfl rfl
       have zqN:(wz.alloc (.cells #[.slice Q nc cq, .int .i64 p.kind, .bool g, .slice A m c, .slice D md cd] 110)).cell? ⟨wz.heap.size,4,none⟩ = some (.slice D md cd):=zax rfl rfl
       go_upto_region 22 with fail
       clear zck zbw zkB zgM zid zlu zmh zmi zmj zmk
       have HZX:=hid (show wb.heap.size ≤ (wz.alloc (.cells #[.slice Q nc cq, .int .i64 p.kind, .bool g, .slice A m c, .slice D md cd] 110)).heap.size by simp;omega)
       go_cut [14] (fun xv wy => ∃ (A9:Option Addr) (c9:Nat),xv = .slice A9 (nc + cnt rows nr) c9 ∧ VecS wy (wz.alloc (.cells #[.slice Q nc cq, .int .i64 p.kind, .bool g, .slice A m c, .slice D md cd] 110)).heap.size (.slice A9 (nc + cnt rows nr) c9) (p.coef ++ List.replicate (cnt rows nr) 0) ∧ Below (wz.alloc (.cells #[.slice Q nc cq, .int .i64 p.kind, .bool g, .slice A m c, .slice D md cd] 110)).heap.size (wz.alloc (.cells #[.slice Q nc cq, .int .i64 p.kind, .bool g, .slice A m c, .slice D md cd] 110)) wy)
       case first => as_aux_lemma =>
        go_wp2_with fail
        refine (Vc.copy Q nc cq p.coef 0 _ zB6.out (by omega)).mono ?_
        rintro e u1 ⟨A7,c7,rfl,hv7,hb7⟩
        have HC7:=hid hv7
        have HB7:=hid hb7
        clear hv7 hb7
        go_wp2_with (at_builtin;refine zb3 rfl _ _ rfl rfl HC7.out rfl (n:=cnt rows nr) (by omega) (N:=nc + cnt rows nr) (by rw [HCO.out]) (by omega) (by exact HB7.out.size) ?_;intro A9 c9 w8 hv8 hk8 hb8;have HV8:=hid hv8;have HB9:=hid (HB7.out.trans hb8);clear hv8 hk8 hb8)
        go_meet
        case rel => exact ⟨A9,c9,rfl,HV8.out,HB9.out⟩
       case rest =>
        rename World => w8
        obtain ⟨A9,c9,rfl,hv8,hb9⟩:=hcut
        have HV8:=hid hv8
        have HB9:=hid hb9
        have zew:=hid (zad hb9 zd8.out)
        have zv1:=hid (zad hb9 zig.out)
        have zv2:=hid (zad hb9 zgv.out)
        have zJZ:=hid (zEy.out.below hb9)
        have zCg:=hid (zoa.out.below hb9)
        have zJY:=hid (zB6.out.below hb9)
        have zCd:=hid (zsM.out.below hb9)
        have zy9:=hid (zr0.out.below hb9)
        have zxW:=hid (zlw.out.trans ((hb9).mono zlw.out.size))
        obtain ⟨zkc,zgw,zp5,znh,zkd,zgx,zp6,zni⟩:=bf2 zew.out
        obtain ⟨zCI,zzG,zAn,zwL,zCK,zzJ,zAo,zwM,zCM,zzM,zAp,zwN,zCO,zzP,zAq,zwO,zCQ,zzS,zAr,zwP,zCV,zzY,zAv,zwT⟩:=bf6 zv1.out
        obtain ⟨zCW,zzZ,zAw,zwU,zCX,zz0,zAx,zwV,zCY,zz1,zAy,zwW,zCZ,zz2,zAA,zwY,zC0,zz3,zAC,zw0,zC1,zz4,zAE,zw2⟩:=bf6 zv2.out
        have zsG:=zab hb9 zqL
        have x0_7d:=zaa zsG
        have zBv:=zab hb9 zvH
        have x1_7d:=zaa zBv
        have zBx:=zab hb9 zxR
        have x2_7d:=zaa zBx
        have zBz:=zab hb9 zxS
        have x3_7d:=zaa zBz
        have zBB:=zab hb9 zxT
        have x4_7d:=zaa zBB
        have zBD:=zab hb9 zxU
        have x5_7d:=zaa zBD
        have zBF:=zab hb9 zxV
        have x6_7d:=zaa zBF
        have zBJ:=zab hb9 zBI
        have x7_7d:=zaa zBJ
        have zBO:=zab hb9 zBN
        have x8_7d:=zaa zBO
        have zBT:=zab hb9 zBS
        have x9_7d:=zaa zBT
        have zqO:=zab hb9 zqN
        have x10_7d:=zaa zqO
        clear hv8 hb9
        go_upto_region 24 with fail
        go_cut [84] (fun c wx => c = .bool true ∧ wx = w8)
        case first =>
         go_wp2
         go_meet
         exact ⟨by first | rfl | (simp;done) | (simp;omega),rfl⟩
        obtain ⟨rfl,rfl⟩:=hcut
        rename World => w8
        go_upto_region 25 with fail
        obtain ⟨bx,rfl,hbx0,hbx1⟩:=HV8.out.has (by omega)
        have HX0:=hid hbx0
        go_cut [] (fun wy => VecS wy (wz.alloc (.cells #[.slice Q nc cq, .int .i64 p.kind, .bool g, .slice A m c, .slice D md cd] 110)).heap.size (.slice (some ⟨bx,0,none⟩) (nc + cnt rows nr) c9) (p.coef ++ zch rows k) ∧ Below (wz.alloc (.cells #[.slice Q nc cq, .int .i64 p.kind, .bool g, .slice A m c, .slice D md cd] 110)).heap.size (wz.alloc (.cells #[.slice Q nc cq, .int .i64 p.kind, .bool g, .slice A m c, .slice D md cd] 110)) wy)
        case first => as_aux_lemma =>
         have HS1:=hid (show -9223372036854775808 ≤ zfI p.kind ∧ zfI p.kind ≤ 9223372036854775807 by unfold zfI;split <;> decide)
         go_wp2_with fail
         with_reducible refine (sign p.kind _).mono ?_
         rintro e v1 ⟨rfl,hb⟩
         have zGs:=hid (HV8.out.below hb)
         have HBa:=hid hb
         clear hb
         go_wp2_with fail
         with_reducible refine (Rt.int (zfI p.kind) HS1.out.1 HS1.out.2 _).mono ?_
         rintro e v2 ⟨g9,A6,m9,c6,D9,md9,cd9,rfl,hn9,hb⟩
         have zsL:=hid (zGs.out.below hb)
         have HRQ:=hid (show RatS v2 g9 (.slice A6 m9 c6) (.slice D9 md9 cd9) ((zfI p.kind:Int):Rat) from hn9)
         have HBc:=hid (HB9.out.trans ((HBa.out.trans (hb.mono HBa.out.size)).mono HB9.out.size))
         clear hb hn9
         obtain ⟨go,Ao,mo,co,Do,mdo,cdo,o0,o1,o2,_⟩:=zsL.out.at_ (zaH (xs:=p.coef ++ List.replicate (cnt rows nr) 0) (j:=nc + cnt rows k) (by rw [List.length_append,List.length_replicate,HCO.out];omega))
         have of0:=zsL.out.fro ((nc + cnt rows k) * 3)
         have of1:=zsL.out.fro ((nc + cnt rows k) * 3 + 1)
         have of2:=zsL.out.fro ((nc + cnt rows k) * 3 + 2)
         have hi3:(0:Int) ≤ ((nc + cnt rows k:Nat):Int):=Int.natCast_nonneg _
         go_wp2
         go_meet
         case rel => exact ⟨by rw [← znJ HP.out HH3.out HCO.out, ← HN.out];exact zsL.out.store (nc + cnt rows k) HRQ.out,((HBc.out.setCell (p:=⟨bx,_,none⟩) HX0.out _).setCell (p:=⟨bx,_,none⟩) HX0.out _).setCell (p:=⟨bx,_,none⟩) HX0.out _⟩
        case rest =>
         rename World => wy
         obtain ⟨hvy,hby⟩:=hcut
         have zCc:=hid (zsM.out.below hby)
         have zx1:=hid (zr0.out.below hby)
         have HVY:=hid (show VecS wy (wz.alloc (.cells #[.slice Q nc cq, .int .i64 p.kind, .bool g, .slice A m c, .slice D md cd] 110)).heap.size (.slice (some ⟨bx,0,none⟩) (nc + cnt rows nr) c9) (p.coef ++ zch rows k) from hvy)
         clear hvy hby
         have HVX:=hid (HVY.out.base HZX.out)
         have HVX2:=hid (HVX.out.alloc (.cells #[.slice (some ⟨bx,0,none⟩) (nc + cnt rows nr) c9] 26))
         have HVA2:=hid (zCc.out.alloc (.cells #[.slice (some ⟨bx,0,none⟩) (nc + cnt rows nr) c9] 26))
         have HBA2:=hid ((zx1.out.alloc (.cells #[.slice (some ⟨bx,0,none⟩) (nc + cnt rows nr) c9] 26)).b)
         go_wp2_with (at_builtin;go_loud (refine zbW rfl _ _ rfl rfl HVA2.out rfl (zal _ _ _) HVX2.out (n:=k) HNA.out (by omega) (by exact HBA2.out.size) ?_;intro A5 c5 w5 hL5 hk5 hb5 hf5;have HL5:=hid hL5;have HB5:=hid (HBA2.out.trans hb5);clear hL5 hk5 hb5 hf5))
         go_roundw
         case rel => exact ⟨k + 1,A5,c5,_,by go_num,rfl,by omega,by rw [zo2 HP.out];exact HL5.out,HB5.out⟩
         case measure => simp [intOf];omega
     ·obtain rfl:nr = k:=by omega
      have zct:=hid (zad hB zbo.out)
      have zd9:=hid (zad hB zcE.out)
      have zgi:=hid (zad hB KSO.out)
      have zB8:=hid (zxZ.out.below hB)
      have zGt:=hid (HVC.out.below hB)
      have zCe:=hid (HVB2.out.below hB)
      have zn9:=hid (HVL2.out.below hB)
      have HVA:=hid (show VecsL wz wb.heap.size (.slice rA nr rc) l ((zc3 rows).take nr) from hvA)
      have HWz:=hid (show Bel wb wz from Bel.mk hB)
      have ze3:=hid (zdf.out.trans ((hB).mono zdf.out.size))
      have HAT:=hid (show (zc3 rows).take nr = zc3 rows by rw [HN.out, ← zjC,List.take_length])
      have HAL:=hid (show ∀ r ∈ (zc3 rows).take nr,r.length = nc + cnt rows nr from fun r hr => by rw [HAT.out] at hr;obtain ⟨i,hi,rfl⟩:=List.getElem_of_mem hr;have h:=(zlk (n:=nc) (rows:=rows) fun k hk => (HRR.out _ (List.mem_of_getElem? (zaO hk))).1).row i (by rw [← zjC];exact hi);rw [← HN.out,List.getD_eq_getElem?_getD,List.getElem?_eq_getElem hi] at h;exact h)
      clear hvA hB
      go_upto_region 28 with fail
      go_cut [] (fun wy => ∃ (A4:Option Addr) (c4:Nat) (l4:List Value),wy.heap[w1.heap.size]? = some (.cells #[.slice A4 nr c4, .int .i64 ((nc + cnt rows nr:Nat):Int), .slice bA nr bc_, .slice A8 (nc + cnt rows nr) c8, .int .i64 (nc:Int), .slice eA nr ec] 66 (0,0)) ∧ VecsL wy 0 (.slice A4 nr c4) l4 (zc3 rows) ∧ VecS wy 0 (.slice A8 (nc + cnt rows nr) c8) (zjD cost rows) ∧ VecS wy 0 (.slice bA nr bc_) (zg8 rows) ∧ IntsZ wy 0 (.slice eA nr ec) (zca nc rows nr) ∧ Below W.heap.size W wy)
      case first => as_aux_lemma =>
       go_wp2_with fail
       rw [show ((nc:Int) + (cnt rows nr:Int)) = ((nc + cnt rows nr:Nat):Int) by simp]
       with_reducible refine (Mt.of nr (nc + cnt rows nr) (by omega) (by omega) rA rc l ((zc3 rows).take nr) wb.heap.size _ HVA.out HAL.out).mono ?_
       rintro e v5 ⟨A4,c4,l4,rfl,hv4,ha4,hb⟩
       have zd8:=hid (zad hb zct.out)
       have zig:=hid (zad hb zd9.out)
       have zgv:=hid (zad hb zgi.out)
       have zEy:=hid (zB8.out.below hb)
       have zGu:=hid (zGt.out.below hb)
       have zCf:=hid (zCe.out.below hb)
       have zoa:=hid (zn9.out.below hb)
       have zsM:=hid (HVA.out.below hb)
       have zr0:=hid (HWz.out.below hb)
       have HV4:=hid (show VecsL v5 wz.heap.size (.slice A4 nr c4) l4 ((zc3 rows).take nr) from hv4)
       have zlw:=hid (ze3.out.trans ((hb).mono ze3.out.size))
       obtain ⟨zlQ,_,zns,_,zlR,_,znu,_⟩:=bf6 zgv.out
       have hbW:Below W.heap.size W v5:=HBB.out.trans ((zr0.out.b).mono HZB.out)
       have HBW5:=hid hbW
       clear hb hbW hv4 ha4
       go_wp2
       go_meet
       have k1:=zBa zgv.out (.slice A4 nr c4) (.int .i64 ((nc + cnt rows nr:Nat):Int))
       case rel => exact ⟨A4,c4,l4,zar _ (zar _ zgv.out),by have h:=(HV4.out.base (Nat.zero_le _)).tk k1 (by decide) (by decide) (by decide);rw [HAT.out] at h;exact h,(zGu.out.base (Nat.zero_le _)).tk k1 (by decide) (by decide),by have h:=(zCf.out.base (Nat.zero_le _)).tk k1 (by decide) (by decide);rw [HTK.out] at h;exact h,(zoa.out.base (Nat.zero_le _)).tk k1 (by decide),(HBW5.out.setCell (p:=⟨w1.heap.size,0,none⟩) HZ1.out _).setCell (p:=⟨w1.heap.size,1,none⟩) HZ1.out _⟩
      case rest =>
       rename World => wf
       obtain ⟨A4,c4,l4,hks,hvA,hvC,hvB,hvL,hB⟩:=hcut
       have zx3:=hid (zad hB KB1.out)
       have zFP:=hid (BB.out.trans ((hB).mono BB.out.size))
       obtain ⟨zzF,zws,zE0,_,zzI,zwt,zE4,_,zzL,zwu,zE8,_,zzO,zwv,zFc,_,zzR,zww,zFg,_,zzV,zwx,zFk,_⟩:=bf6 zx3.out
       have HVA4:=hid hvA
       have HVC4:=hid hvC
       have HVB4:=hid hvB
       have HVL4:=hid hvL
       obtain ⟨s0,_,s1,_,s2,_,s3,_,s4,_,s5,_⟩:=bc6 hks
       clear hks hvA hvC hvB hvL hB
       go_wp2
       refine bodyPost_ret (v := .tuple #[.agg #[.slice A4 nr c4, .int .i64 ((nc + cnt rows nr:Nat):Int), .slice bA nr bc_, .slice A8 (nc + cnt rows nr) c8, .int .i64 (nc:Int), .slice eA nr ec], .nilIface]) (by simp [results,Tryz.results21,go_sem,zzF,zws,zzI,zwt,zzL,zwu,zzO,zwv,zzR,zww,zzV,zwx]) rfl ?_
       have k1:=zBb zx3.out (.slice A4 nr c4) (.int .i64 ((nc + cnt rows nr:Nat):Int)) (.slice bA nr bc_) (.slice A8 (nc + cnt rows nr) c8) (.int .i64 (nc:Int)) (.slice eA nr ec)
       have hrl:∀ r ∈ zc3 rows,r.length = nc + cnt rows nr:=by have h:=HAL.out;rw [HAT.out] at h;exact h
       refine ⟨A4,c4,l4,bA,bc_,A8,c8,eA,ec,rfl,⟨HVA4.out.tk k1 (by decide) (by decide) (by decide),hrl,HVB4.out.tk k1 (by decide) (by decide),HVC4.out.tk k1 (by decide) (by decide),HVL4.out.tk k1 (by decide),by omega,by omega,?_,?_,?_,HSS.out⟩,Below.setCell (Below.setCell (Below.setCell (Below.setCell (Below.setCell (Below.setCell (zFP.out) (p:=⟨w.heap.size + 1,0,none⟩) (by show w.heap.size ≤ w.heap.size + 1;omega) _) (p:=⟨w.heap.size + 1,1,none⟩) (by show w.heap.size ≤ w.heap.size + 1;omega) _) (p:=⟨w.heap.size + 1,2,none⟩) (by show w.heap.size ≤ w.heap.size + 1;omega) _) (p:=⟨w.heap.size + 1,3,none⟩) (by show w.heap.size ≤ w.heap.size + 1;omega) _) (p:=⟨w.heap.size + 1,4,none⟩) (by show w.heap.size ≤ w.heap.size + 1;omega) _) (p:=⟨w.heap.size + 1,5,none⟩) (by show w.heap.size ≤ w.heap.size + 1;omega) _⟩
       ·intro r hr q hq
        unfold zc3 at hr
        obtain ⟨i,hi,rfl⟩:=List.mem_map.1 hr
        have hi2:=List.mem_range.1 hi
        rcases List.mem_append.1 hq with h | h
        ·exact (HZR.out _ (List.mem_of_getElem? (zaO hi2))).1 q h
        ·exact Nat.le_trans (zsi rows i q h) HSS.out
       ·intro q hq
        unfold zg8 at hq
        obtain ⟨p,hp,rfl⟩:=List.mem_map.1 hq
        exact (HZR.out p hp).2
       ·intro q hq
        unfold zjD at hq
        rcases List.mem_append.1 hq with h | h
        ·exact HZC.out q h
        ·rw [List.eq_of_mem_replicate h];exact Nat.le_trans mw0 HSS.out
end Pb
end Go.Proofs.YtdbgbaiekpbaoaaGreatDoor
