/- prob.May by its contract,where nothing is wrong. Conditions: as it says. Steps of walks that lay a problem out: whole numbers put behind,noughts put behind a row. Conditions: as each says. certify.signed by its contract. Conditions: as it says. Conditions: as they say. -/
import Derived.Test.YtdbgbaiekpbaoaaGreatDoorVec7Zp
import Derived.Test.YtdbgbaiekpbaoaaGreatDoorMat5Zp
import Derived.Test.YtdbgbaiekpbaoaaGreatDoorStdZp
import Derived.Test.YtdbgbaiekpbaoaaGreatDoorLp2Zp
set_option linter.all false
namespace Go.Proofs.YtdbgbaiekpbaoaaGreatDoor
open Go.RowKit Am
open Lib (hid)
attribute [local go_sem ↓] Go.wp_at_zero Go.wp_at_succ
set_option maxHeartbeats 4000000
set_option maxRecDepth 100000
abbrev Kinds (rows:List PRow):Prop := ∀ p ∈ rows,1 ≤ p.kind ∧ p.kind ≤ 3
namespace Pb
theorem may (C:Option Addr) (nc cc:Nat) (R:Option Addr) (nr cr:Nat) (cost:List Rat) (rows:List PRow) (w:World) (hc:VecS w 0 (.slice C nc cc) cost) (hr:RowsS w 0 (.slice R nr cr) rows) (hb:nc ≤ 24) (hnr:nr ≤ 20) (hrr:Rows nc rows) (hkk:Kinds rows) :
  Calls Tryz.prog 69 #[.agg #[.slice C nc cc, .slice R nr cr]] w fun e w' => e = .returned .nilIface ∧ Below w.heap.size w w':=by
 have hn3:=hr.len
 have HN:=hid hn3
 have HRR:=hid hrr
 have HKK:=hid hkk
 have hb1:(nc:Int) ≤ 24:=by omega
 have hb2:¬ (24:Int) < (nc:Int):=by omega
 have hnr2:¬ (20:Int) < (nr:Int):=by omega
 clear hrr hkk hn3
 obtain ⟨W,hW⟩:∃ W,(w.alloc (.cells #[.slice C nc cc, .slice R nr cr] 47)) = W:=⟨_,rfl⟩
 have KB0:=hid (show W.heap[w.heap.size]? = some (.cells #[.slice C nc cc, .slice R nr cr] 47 (0,0)) by rw [← hW];exact zam (by simp))
 have BB:=hid (show Below w.heap.size w W by rw [← hW];exact zae w _)
 have HC:=hid (show VecS W 0 (.slice C nc cc) cost by rw [← hW];exact (hc).alloc _)
 have HR:=hid (show RowsS W 0 (.slice R nr cr) rows by rw [← hW];exact (hr).alloc _)
 obtain ⟨zaK,_,zaL,zaA⟩:=bc2 KB0.out
 clear hc hr
 go_enter Tryz.func69,Tryz.ntmps69
 go_wp2
 clear hW
 go_loopw [19] (fun i wr => ∃ k:Nat,i = .int .i64 k ∧ k ≤ nr ∧ Below W.heap.size W wr)
  (fun i _ => nr - (intOf i).toNat)
 case atStart => exact ⟨0,rfl,Nat.zero_le _,Below.refl _ _⟩
 case round =>
  obtain ⟨k,rfl,hk,hB⟩:=hrel
  by_cases hlt:k < nr
  ·obtain ⟨p,hp⟩:∃ p,rows[k]? = some p:=⟨rows[k]'(by rw [← HN.out];exact hlt),List.getElem?_eq_getElem _⟩
   obtain ⟨b,rfl,hb0,hb1⟩:=HR.out.has (by omega)
   obtain ⟨Q,nq,cq,g,A,m,c,D,md,cd,k0,k1,k2,k3,k4,hvq,_⟩:=(HR.out.below hB).at_ hp
   obtain rfl:nc = nq:=by rw [hvq.len,(HRR.out p (List.mem_of_getElem? hp)).1]
   have hkd1:=(HKK.out p (List.mem_of_getElem? hp)).1
   have hkd2:=(HKK.out p (List.mem_of_getElem? hp)).2
   have hkd3:¬ p.kind < 1:=by omega
   have hkd4:¬ 3 < p.kind:=by omega
   have zaq:=hid (zad hB KB0.out)
   have zxY:=hid (HC.out.below hB)
   have zn6:=hid (HR.out.below hB)
   have HW:=hid (show Bel W wr from Bel.mk hB)
   have zaQ:=hid (BB.out.trans ((hB).mono BB.out.size))
   clear hB hp hvq
   have hi1:(0:Int) ≤ (k:Int):=Int.natCast_nonneg _
   have hi2:(k:Int) < (nr:Int):=by omega
   have hb2z:=zae wr (.cells #[.slice Q nc cq, .int .i64 p.kind, .bool g, .slice A m c, .slice D md cd] 110)
   have zaD:=hid (zad hb2z zaq.out)
   have zn7:=hid (HW.out.below hb2z)
   obtain ⟨zaU,_⟩:=bc2 zaD.out
   have zcX:(wr.alloc (.cells #[.slice Q nc cq, .int .i64 p.kind, .bool g, .slice A m c, .slice D md cd] 110)).cell? ⟨wr.heap.size,0,none⟩ = some (.slice Q nc cq):=zax rfl rfl
   have zdq:(wr.alloc (.cells #[.slice Q nc cq, .int .i64 p.kind, .bool g, .slice A m c, .slice D md cd] 110)).cell? ⟨wr.heap.size,1,none⟩ = some (.int .i64 p.kind):=zax rfl rfl
   go_wp2
   go_roundw
   case rel => exact ⟨k + 1,by go_num,by omega,zn7.out.b⟩
   case measure => simp [intOf];omega
  ·have hkn:k = nr:=by omega
   have zaq:=hid (zad hB KB0.out)
   have zxY:=hid (HC.out.below hB)
   have zn6:=hid (HR.out.below hB)
   have zaQ:=hid (BB.out.trans ((hB).mono BB.out.size))
   clear hB
   go_wp2
   go_ret
   exact ⟨rfl,zaQ.out⟩
end Pb
end Go.Proofs.YtdbgbaiekpbaoaaGreatDoor
namespace Go.Proofs.YtdbgbaiekpbaoaaGreatDoor
open Go.RowKit Am
open Lib (hid)
set_option maxHeartbeats 1000000
set_option maxRecDepth 100000
theorem IntsZ.push {w':World} {H:Nat} {v':Value} {xs:List Int} {x:Int} (hown:w'.ownsRow H 3 1 v' (xs.length + 1) (zcells xs ++ [.int .i64 x])):IntsZ w' H v' (xs ++ [x]):=by
 refine ⟨?_⟩
 rw [List.length_append]
 simpa [zcells] using hown
theorem zfS {w:World} {ops:Array Oper} {rest:List Oper} {o:Oper} {a:Act} {Q:Exit → Act → World → Prop} (hgd:o.guard = none) (s x:Operand)
  (hop:o.op = .call { callee := .builtin .append,args := #[s,x],argTypes := #[48,48] }) {H:Nat} {v:Value} {xs:List Int} (hs:a.eval s = v) (hv:IntsZ w H v xs) {b:Nat} (hx:a.eval x = .slice (some ⟨b,0,none⟩) 1 1)
  {z:Int} (hb:w.heap[b]? = some (.cells #[.int .i64 z] 3 (0,0))) {n:Nat} (hn:xs.length = n) (hlen:n + 1 ≤ 1000000) (hH:H ≤ w.heap.size)
  (hK:∀ A' c' w',IntsZ w' H (.slice A' (n + 1) c') (xs ++ [z]) → TKeep 3 w w' → Below H w w' → wpList Tryz.prog ops Q rest (a.put o.dst (.slice A' (n + 1) c')) w'):wpList Tryz.prog ops Q (o :: rest) a w:=by
 subst hn
 obtain ⟨i0,hi,hz0,hz1,hz2⟩:=info_parts znF
 refine wpList_plain hgd fun K hK' => ?_
 refine wp_append_own w s x 48 hop H 3 i0 _ 1 8 Tryz.underlying48 hi hz0 hz1 hz2 rfl (by decide) v xs.length (zcells xs) hs hv.own ⟨b,0,none⟩ 1 1 [.int .i64 z] hx rfl (zrj hb)
  (by intro u hu;simp at hu;subst hu;rfl) (by unfold maxLen;omega) (by omega) hH ?_
 intro v' w' hown hgrow _
 have hL:=IntsZ.push hown
 obtain ⟨A',c',rfl⟩:=hL.slice
 rw [List.length_append] at hL
 have hh:=hK A' c' w' hL (TKeep.grown hv.own hgrow) ((Below.refl _ _).grown hgrow hH (fun k hk => (hv.own.lt k hk).1))
 simp only [List.length_append,List.length_cons,List.length_nil,Nat.zero_add]
 exact hK' _ _ hh
theorem zfR {w:World} {ops:Array Oper} {rest:List Oper} {o:Oper} {a:Act} {Q:Exit → Act → World → Prop} (hgd:o.guard = none) (s x:Operand)
  (hop:o.op = .call { callee := .builtin .append,args := #[s,x],argTypes := #[26,26] }) {H:Nat} {v:Value} {qs:List Rat} (hs:a.eval s = v) (hv:VecS w H v qs) {b:Nat} (hx:a.eval x = .slice (some ⟨b,0,none⟩) 1 1)
  {g:Bool} {A:Option Addr} {m c:Nat} {D:Option Addr} {md cd:Nat} {q:Rat} (hb:w.heap[b]? = some (.cells #[.bool g, .slice A m c, .slice D md cd] 35 (0,0))) (hq:RatS w g (.slice A m c) (.slice D md cd) q) {N:Nat} (hN:qs.length = N) (hlen:N + 1 ≤ 1000000) (hH:H ≤ w.heap.size)
  (hK:∀ A' c' w',VecS w' H (.slice A' (N + 1) c') (qs ++ [q]) → TKeep 35 w w' → Below H w w' → wpList Tryz.prog ops Q rest (a.put o.dst (.slice A' (N + 1) c')) w'):wpList Tryz.prog ops Q (o :: rest) a w:=by
 subst hN
 obtain ⟨i0,hi,hz0,hz1,hz2⟩:=info_parts ze0
 obtain ⟨l,h1,h2,h3⟩:=hv.row
 refine wpList_plain hgd fun K hK' => ?_
 refine wp_append_own w s x 26 hop H 35 i0 _ 3 56 Tryz.underlying26 hi hz0 hz1 hz2 rfl (by decide) v qs.length (rcells l) hs h3 ⟨b,0,none⟩ 1 1 [.bool g, .slice A m c, .slice D md cd] hx rfl (zC6 hb)
  (by intro u hu;simp at hu;rcases hu with rfl | rfl | rfl <;> rfl) (by unfold maxLen;omega) (by omega) hH ?_
 intro v' w' hown hgrow _
 have hL:=VecS.append h1 h2 h3 hq hown hgrow
 obtain ⟨A',n',c',rfl⟩:=hL.slice
 have hl:=hL.len
 rw [List.length_append] at hl
 simp only [List.length_cons,List.length_nil,Nat.zero_add] at hl
 subst hl
 exact hK' _ _ (hK A' c' w' hL (TKeep.grown h3 hgrow) ((Below.refl _ _).grown hgrow hH (fun k hk => (h3.lt k hk).1)))
theorem zmp (n:Nat):(Builtin.zeroCells (Value.agg #[.bool false, .slice none 0 0, .slice none 0 0]).cells n).toList = rcells (List.replicate n (false, .slice none 0 0, .slice none 0 0)):=by
 apply List.ext_getElem?
 intro j
 have hz:(Value.agg #[.bool false, .slice none 0 0, .slice none 0 0]).cells = #[.bool false, .slice none 0 0, .slice none 0 0]:=rfl
 rw [hz]
 by_cases hj:j < n * 3
 ·have h1:(Builtin.zeroCells #[.bool false, .slice none 0 0, .slice none 0 0] n).toList[j]? = some (#[Value.bool false, .slice none 0 0, .slice none 0 0][j % 3]!):=by
   simp [Builtin.zeroCells,hj]
  have hk:(List.replicate n ((false, .slice none 0 0, .slice none 0 0):RV))[j / 3]? = some (false, .slice none 0 0, .slice none 0 0):=by
   rw [List.getElem?_replicate,if_pos (by omega)]
  obtain ⟨g0,g1,g2⟩:=ziI _ _ _ hk
  rw [h1]
  rcases (by omega:j % 3 = 0 ∨ j % 3 = 1 ∨ j % 3 = 2) with e | e | e
  ·rw [e];rw [show j / 3 * 3 = j by omega] at g0;rw [g0];rfl
  ·rw [e];rw [show j / 3 * 3 + 1 = j by omega] at g1;rw [g1];rfl
  ·rw [e];rw [show j / 3 * 3 + 2 = j by omega] at g2;rw [g2];rfl
 ·rw [List.getElem?_eq_none (by simp [Builtin.zeroCells];omega),List.getElem?_eq_none (by rw [zcC];simp;omega)]
theorem zb3 {w:World} {ops:Array Oper} {rest:List Oper} {o:Oper} {a:Act} {Q:Exit → Act → World → Prop} (hgd:o.guard = none) (s x:Operand)
  (hop:o.op = .call { callee := .builtin .append,args := #[s,x],argTypes := #[26,3] }) {H:Nat} {v:Value} {qs:List Rat} (hs:a.eval s = v) (hv:VecS w H v qs) {n:Nat} {M:Int} (hx:a.eval x = .int .i64 M) (hM:M = (n:Int))
  {N:Nat} (hN:qs.length + n = N) (hlen:N ≤ 1000000) (hH:H ≤ w.heap.size)
  (hK:∀ A' c' w',VecS w' H (.slice A' N c') (qs ++ List.replicate n 0) → TKeep 35 w w' → Below H w w' → wpList Tryz.prog ops Q rest (a.put o.dst (.slice A' N c')) w'):wpList Tryz.prog ops Q (o :: rest) a w:=by
 subst hN
 subst hM
 obtain ⟨i0,hi,hz0,hz1,hz2⟩:=info_parts ze0
 obtain ⟨l,h1,h2,h3⟩:=hv.row
 refine wpList_plain hgd fun K hK' => ?_
 obtain ⟨v',w',hrun,hown,hgrow⟩:=zgk (P:=Tryz.prog) w H 26 3 o.type 35 i0 _ 3 56 .i64 Tryz.underlying26 Tryz.underlying3 hi hz0 hz1 hz2 rfl (by decide) v qs.length (rcells l) h3 n
  (by rw [zmp];exact ziJ _ fun r hr => by obtain ⟨_,rfl⟩:=List.mem_replicate.1 hr;exact ⟨rfl,rfl⟩) (by unfold maxLen;omega) (by omega) hH
 rw [zmp] at hown
 have hk:=zh3 h3 hgrow
 have hL:VecS w' H v' (qs ++ List.replicate n 0):=by
  refine ⟨l ++ List.replicate n (false, .slice none 0 0, .slice none 0 0),by simp [h1],fun k r q e1 e2 => ?_,by rw [List.length_append,zh4,List.length_replicate];exact hown⟩
  by_cases hkl:k < l.length
  ·rw [List.getElem?_append_left hkl] at e1
   rw [List.getElem?_append_left (by omega)] at e2
   exact (h2 k r q e1 e2).keepT hk
  ·rw [List.getElem?_append_right (by omega),List.getElem?_replicate] at e1
   rw [List.getElem?_append_right (by omega),List.getElem?_replicate] at e2
   split at e1
   ·injection e1 with e1
    rw [if_pos (by omega)] at e2
    injection e2 with e2
    subst e1 e2
    exact RatS.zero _
   ·cases e1
 obtain ⟨A',n',c',rfl⟩:=hL.slice
 have hl:=hL.len
 rw [List.length_append,List.length_replicate] at hl
 subst hl
 exact Lib.wp_append_run w s x 26 3 hop v _ hs hx _ w' hrun (hK' _ _ (hK A' c' w' hL (TKeep.grown h3 hgrow) ((Below.refl _ _).grown hgrow hH (fun k hk => (h3.lt k hk).1))))
end Go.Proofs.YtdbgbaiekpbaoaaGreatDoor
namespace Go.Proofs.YtdbgbaiekpbaoaaGreatDoor
open Go.RowKit Am
open Lib (hid)
attribute [local go_sem ↓] Go.wp_at_zero Go.wp_at_succ
set_option maxHeartbeats 4000000
set_option maxRecDepth 100000
def zIc (p:PRow) (q:Rat):Bool := !(decide (p.kind = 1) && decide (0 < q) || decide (p.kind = 2) && decide (q < 0))
def zxD (rows:List PRow) (ys:List Rat) (k:Nat):Bool:=(List.range k).all fun i => zIc (rows.getD i default) (el ys i)
def zId (rows:List PRow) (ys:List Rat):Bool:=zxD rows ys rows.length
theorem zfC {rows:List PRow} {k:Nat} {p:PRow} (h:rows[k]? = some p):rows.getD k default = p:=by rw [List.getD_eq_getElem?_getD,h];rfl
namespace Ct
end Ct
end Go.Proofs.YtdbgbaiekpbaoaaGreatDoor
