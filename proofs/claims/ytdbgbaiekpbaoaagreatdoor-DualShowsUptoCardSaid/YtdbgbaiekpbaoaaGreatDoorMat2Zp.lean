/- Steps of walks over tables: a row that is made,a row that is put behind,rows that are copied. Conditions: as each says. Rows of whole numbers,and what is taken apart: what lies in memory. Conditions: as each says. Conditions: as they say. -/
import Derived.Test.YtdbgbaiekpbaoaaGreatDoorLaw1Zp
import Derived.Test.YtdbgbaiekpbaoaaGreatDoorVec5Zp
import Derived.Laws.CopyRow
import Derived.Laws.CopyOwn
import Derived.Test.YtdbgbaiekpbaoaaGreatDoorNat3Zp
set_option linter.all false
namespace Go.Proofs.YtdbgbaiekpbaoaaGreatDoor
open Go.RowKit Am
set_option maxHeartbeats 1000000
set_option maxRecDepth 100000
theorem zxP {w1:World} {H n:Nat} (hown:w1.ownsRow H 35 3 (.slice (some ⟨H,0,none⟩) n n) n (madeCells (Value.agg #[.bool false, .slice none 0 0, .slice none 0 0]).cells (n * 3)).toList):VecS w1 H (.slice (some ⟨H,0,none⟩) n n) (List.replicate n 0):=by
 rw [zl9] at hown
 refine ⟨List.replicate n (false, .slice none 0 0, .slice none 0 0),by simp,?_,by rw [List.length_replicate];exact hown⟩
 intro k r q h1 h2
 rw [List.getElem?_replicate] at h1 h2
 split at h1
 ·injection h1 with h1
  rw [if_pos ‹_›] at h2
  injection h2 with h2
  subst h1 h2
  exact RatS.zero _
 ·cases h1
theorem zh5 {ops:Array Oper} {o:Oper} {a:Act} {w:World} {K:Act → World → Prop} {Q:Exit → Act → World → Prop} {E:Prop} (hg:o.guard = none) (l c:Operand) (hop:o.op = Op.makeSlice 26 l c) (n:Nat) (L:Int) (hl:a.eval l = .int .i64 L) (hc:a.eval c = .int .i64 L) (hL:L = (n:Int)) (hb:n ≤ 1048576)
  (hK:∀ w1,VecS w1 w.heap.size (.slice (some ⟨w.heap.size,0,none⟩) n n) (List.replicate n 0) → Below w.heap.size w w1 → K (a.put o.dst (.slice (some ⟨w.heap.size,0,none⟩) n n)) w1) :
  if Region.wanted o (yielded ops a.tmps) = true then Oper.wp Tryz.prog o a w K Q else E:=by
 have hw:Region.wanted o (yielded ops a.tmps) = true:=by simp [Region.wanted,hg]
 rw [if_pos hw]
 obtain ⟨i0,hi,hz0,hz1,hz2⟩:=info_parts ze0
 subst hL
 obtain ⟨w',hrun,r1,r2⟩:=run_make_full (P:=Tryz.prog) w w.heap.size 26 35 i0 _ 3 Tryz.underlying26 hi hz0 hz1 .i64 .i64 n (by rw [hz2];omega) (by unfold maxLen;omega) (Nat.le_refl _)
 unfold Oper.wp
 simp [execOp,hop,hl,hc,hrun,Result.andThen]
 exact hK _ (zxP r1) ((Below.refl _ _).grown r2 (Nat.le_refl _) (fun k hk => by cases hk))
theorem VecsL.append {w w':World} {H:Nat} {v v':Value} {l:List Value} {L:List (List Rat)} (hv:VecsL w H v l L) {s:Value} {r:List Rat} (hs:VecS w H s r) (hown:w'.ownsRow H 26 1 v' (L.length + 1) (l ++ [s])) (hg:w.grownBy w' v.ownBlock):VecsL w' H v' (l ++ [s]) (L ++ [r]):=by
 have hk:=TKeep.grown hv.own hg
 refine ⟨by simp [hv.len],fun k r' p' h1 h2 => ?_,by rw [List.length_append];exact hown⟩
 rcases Nat.lt_trichotomy k l.length with h | h | h
 ·rw [List.getElem?_append_left h] at h1
  rw [List.getElem?_append_left (by rw [← hv.len];exact h)] at h2
  exact (hv.each k r' p' h1 h2).tk hk (by decide) (by decide)
 ·subst h
  rw [List.getElem?_append_right (Nat.le_refl _)] at h1
  rw [List.getElem?_append_right (by rw [hv.len];exact Nat.le_refl _)] at h2
  simp at h1
  rw [hv.len] at h2
  simp at h2
  subst h1 h2
  exact hs.tk hk (by decide) (by decide)
 ·rw [List.getElem?_eq_none (by simp;omega)] at h1;cases h1
theorem zrj {w:World} {b:Nat} {c0:Value} {t:TypeId} (hb:w.heap[b]? = some (.cells #[c0] t (0,0))):∀ j u,[c0][j]? = some u → w.cell? ((⟨b,0,none⟩:Addr).add j) = some u:=by
 intro j u hu
 match j,hu with
 | 0,hu => exact (zac hb 0).trans hu
 | j + 1,hu => simp at hu
theorem VecS.one {w:World} {H:Nat} {s:Value} {r:List Rat} (h:VecS w H s r):s.oneCell' = true:=by
 obtain ⟨A,n,c,rfl⟩:=h.slice;rfl
theorem zjh {ops:Array Oper} {o:Oper} {a:Act} {w:World} {K:Act → World → Prop} {Q:Exit → Act → World → Prop} {E:Prop} (hg:o.guard = none) (s x:Operand)
  (hop:o.op = .call { callee := .builtin .append,args := #[s,x],argTypes := #[62,62] }) {H:Nat} {v:Value} {l:List Value} {L:List (List Rat)} (hs:a.eval s = v) (hv:VecsL w H v l L) {b:Nat} (hx:a.eval x = .slice (some ⟨b,0,none⟩) 1 1)
  {sl:Value} {r:List Rat} (hb:w.heap[b]? = some (.cells #[sl] 26 (0,0))) (hr:VecS w H sl r) {n:Nat} (hn:L.length = n) (hlen:n + 1 ≤ 1000000) (hH:H ≤ w.heap.size)
  (hK:∀ A' c' w',VecsL w' H (.slice A' (n + 1) c') (l ++ [sl]) (L ++ [r]) → TKeep 26 w w' → Below H w w' → K (a.put o.dst (.slice A' (n + 1) c')) w') :
  if Region.wanted o (yielded ops a.tmps) = true then Oper.wp Tryz.prog o a w K Q else E:=by
 have hw:Region.wanted o (yielded ops a.tmps) = true:=by simp [Region.wanted,hg]
 rw [if_pos hw]
 subst hn
 obtain ⟨i0,hi,hz0,hz1,hz2⟩:=info_parts zrA
 refine wp_append_own w s x 62 hop H 26 i0 _ 1 24 Tryz.underlying62 hi hz0 hz1 hz2 rfl (by decide) v L.length l hs hv.own ⟨b,0,none⟩ 1 1 [sl] hx rfl (zrj hb)
  (by intro u hu;simp at hu;subst hu;exact hr.one) (by unfold maxLen;omega) (by omega) hH ?_
 intro v' w' hown hgrow _
 have hL:=hv.append hr hown hgrow
 obtain ⟨A',c',rfl⟩:=hL.slice
 rw [List.length_append] at hL
 have hh:=hK A' c' w' hL (TKeep.grown hv.own hgrow) ((Below.refl _ _).grown hgrow hH (fun k hk => (hv.own.lt k hk).1))
 simpa using hh
theorem zqx (P:Program) (w:World) (dT sT ty elem:TypeId) (sz:Nat) (g o dLen dCap:Nat) (a:Addr) (zKx sCap:Nat) (cur:Array Value) (t:TypeId) (cs:List Value)
  (hu:P.underlying dT = some (.slice elem)) (hs:(P.info? elem).map (·.size) = some sz)
  (hg:w.heap[g]? = some (.cells cur t (0,0))) (hn:cs.length = Nat.min zKx dLen * sz)
  (hsrc:∀ j v,cs[j]? = some v → w.cell? (a.add j) = some v) (hfit:o + cs.length ≤ cur.size) (h1:∀ v ∈ cs,v.oneCell' = true) :
  (Builtin.copy_ #[dT,sT] ty #[.slice (some ⟨g,o,none⟩) dLen dCap, .slice (some a) zKx sCap]).run P w =
   .ok (goInt (Nat.min zKx dLen)) (w.setRow g (cur.toList.take o ++ cs ++ cur.toList.drop (o + cs.length)).toArray):=by
 have hl:=run_loadCells_list (P:=P) w a cs hsrc
 have hst:=run_storeCells_at P g o t cs 0 cur w hg (by simpa using hfit) h1
 cases hq:P.info? elem with
 | none => simp [hq] at hs
 | some i =>
  have hi:i.size = sz:=by simpa [hq] using hs
  rw [hn] at hl
  simp [Builtin.copy_,run_underlying hu,Builtin.lenOf,Builtin.firstCells,sizeOf,typeInfo,hq,hi,hl,hst]
theorem znF:(Tryz.prog.info? 3).map (fun i => (i.zero,i.size,i.bytes)) = some (some (.int .i64 0),1,8):=by kernel_rfl
def icells (xs:List Nat):List Value:=xs.map fun x => .int .i64 ((x:Nat):Int)
structure IntsS (w:World) (H:Nat) (v:Value) (xs:List Nat):Prop where
  own:w.ownsRow H 3 1 v xs.length (icells xs)
namespace IntsS
variable {w w':World} {H:Nat} {v:Value} {xs:List Nat}
theorem keep (h:IntsS w H v xs) (hk:∀ k,v.ownBlock = some k → w'.heap[k]? = w.heap[k]?):IntsS w' H v xs:=⟨zc9 h.own hk⟩
theorem below (h:IntsS w H v xs) (hb:Below w.heap.size w w'):IntsS w' H v xs:=h.keep fun k hk => hb.block k (h.own.lt k hk).2
theorem alloc (h:IntsS w H v xs) (o:Obj):IntsS (w.alloc o) H v xs:=h.below (zae w o)
theorem drew (h:IntsS w H v xs):IntsS w.drew H v xs:=h.below (zap w 1)
theorem base {H':Nat} (h:IntsS w H v xs) (hb:H' ≤ H):IntsS w H' v xs:=⟨zbu h.own hb⟩
theorem nil (w:World) (H:Nat):IntsS w H (.slice none 0 0) []:=⟨World.ownsRow_nil _ _ _ _⟩
theorem tk {t:TypeId} (h:IntsS w H v xs) (hk:TKeep t w w') (h1:3 ≠ t):IntsS w' H v xs :=
 h.keep fun k hb => hk k (h.own.lt k hb).2 fun cs e => za6 h.own e h1 hb
theorem form {A:Option Addr} {n c:Nat} (h:IntsS w H (.slice A n c) xs):n = xs.length ∧ n ≤ c ∧ c ≤ maxLen ∧ ((A = none ∧ c = 0 ∧ xs = []) ∨ ∃ g,A = some ⟨g,0,none⟩ ∧ H ≤ g ∧ g < w.heap.size):=by
 rcases h.own.2 with ⟨hv,hn⟩ | ⟨g,cap,cur,hv,hg,hh,hn,hm,_⟩
 ·injection hv with e1 e2 e3
  subst e1 e2 e3
  exact ⟨hn.symm,Nat.le_refl _,Nat.zero_le _, .inl ⟨rfl,rfl,List.length_eq_zero_iff.1 hn⟩⟩
 ·injection hv with e1 e2 e3
  subst e1 e2 e3
  exact ⟨rfl,hn,hm, .inr ⟨g,rfl,hg,(Array.getElem?_eq_some_iff.1 hh).1⟩⟩
theorem len {A:Option Addr} {n c:Nat} (h:IntsS w H (.slice A n c) xs):n = xs.length:=h.form.1
theorem has {A:Option Addr} {n c:Nat} (h:IntsS w H (.slice A n c) xs) (hn:0 < n):∃ g,A = some ⟨g,0,none⟩ ∧ H ≤ g ∧ g < w.heap.size:=by
 obtain ⟨h1,h2,h3,h4 | h4⟩:=h.form
 ·omega
 ·exact h4
theorem slice (h:IntsS w H v xs):∃ A c,v = .slice A xs.length c:=by
 rcases h.own.2 with ⟨hv,hn⟩ | ⟨g,cap,cur,hv,_⟩
 ·exact ⟨_,_,by rw [hv,hn]⟩
 ·exact ⟨_,_,hv⟩
theorem fro {b n c:Nat} (h:IntsS w H (.slice (some ⟨b,0,none⟩) n c) xs) (j:Nat):w.frozen? ⟨b,j,none⟩ = false:=by
 have hn:=h.len
 subst hn
 exact h.own.frozenAt j
theorem at_ {b n c:Nat} (h:IntsS w H (.slice (some ⟨b,0,none⟩) n c) xs) {k x:Nat} (hk:xs[k]? = some x):w.cell? ⟨b,k,none⟩ = some (.int .i64 (x:Int)):=by
 have hn:=h.len
 subst hn
 have hk':=(List.getElem?_eq_some_iff.1 hk).1
 rw [h.own.cellAt _ (by omega)]
 simp [icells,hk]
theorem store {b n c:Nat} (h:IntsS w H (.slice (some ⟨b,0,none⟩) n c) xs) (k x:Nat):IntsS (w.setCell ⟨b,k,none⟩ (.int .i64 (x:Int))) H (.slice (some ⟨b,0,none⟩) n c) (xs.set k x):=by
 have hn:=h.len
 subst hn
 refine ⟨?_⟩
 have:=(h.own.stored k (.int .i64 (x:Int))).1
 rw [List.length_set]
 simpa [icells,List.map_set] using this
theorem push {w':World} {v':Value} (hv:IntsS w H v xs) {x:Nat} (hown:w'.ownsRow H 3 1 v' (xs.length + 1) (icells xs ++ [.int .i64 (x:Int)])):IntsS w' H v' (xs ++ [x]):=by
 refine ⟨?_⟩
 rw [List.length_append]
 simpa [icells] using hown
end IntsS
theorem zll {ops:Array Oper} {o:Oper} {a:Act} {w:World} {K:Act → World → Prop} {Q:Exit → Act → World → Prop} {E:Prop} (hg:o.guard = none) (s x:Operand)
  (hop:o.op = .call { callee := .builtin .append,args := #[s,x],argTypes := #[48,48] }) {H:Nat} {v:Value} {xs:List Nat} (hs:a.eval s = v) (hv:IntsS w H v xs) {b:Nat} (hx:a.eval x = .slice (some ⟨b,0,none⟩) 1 1)
  {z:Nat} (hb:w.heap[b]? = some (.cells #[.int .i64 (z:Int)] 3 (0,0))) {n:Nat} (hn:xs.length = n) (hlen:n + 1 ≤ 1000000) (hH:H ≤ w.heap.size)
  (hK:∀ A' c' w',IntsS w' H (.slice A' (n + 1) c') (xs ++ [z]) → TKeep 3 w w' → Below H w w' → K (a.put o.dst (.slice A' (n + 1) c')) w') :
  if Region.wanted o (yielded ops a.tmps) = true then Oper.wp Tryz.prog o a w K Q else E:=by
 have hw:Region.wanted o (yielded ops a.tmps) = true:=by simp [Region.wanted,hg]
 rw [if_pos hw]
 subst hn
 obtain ⟨i0,hi,hz0,hz1,hz2⟩:=info_parts znF
 refine wp_append_own w s x 48 hop H 3 i0 _ 1 8 Tryz.underlying48 hi hz0 hz1 hz2 rfl (by decide) v xs.length (icells xs) hs hv.own ⟨b,0,none⟩ 1 1 [.int .i64 (z:Int)] hx rfl (zrj hb)
  (by intro u hu;simp at hu;subst hu;rfl) (by unfold maxLen;omega) (by omega) hH ?_
 intro v' w' hown hgrow _
 have hL:=hv.push hown
 obtain ⟨A',c',rfl⟩:=hL.slice
 rw [List.length_append] at hL
 have hh:=hK A' c' w' hL (TKeep.grown hv.own hgrow) ((Below.refl _ _).grown hgrow hH (fun k hk => (hv.own.lt k hk).1))
 simpa using hh
structure LuS (w:World) (H q n:Nat) (F:LUv):Prop where
  ex:∃ (lA:Option Addr) (lc:Nat) (ll:List Value) (uA:Option Addr) (uc:Nat) (ul:List Value) (pA:Option Addr) (pc:Nat),
    w.heap[q]? = some (.cells #[.slice lA n lc, .slice uA n uc, .slice pA n pc, .bool F.odd] 263 (0,0)) ∧ VecsL w H (.slice lA n lc) ll F.lo ∧ zbG ll ∧ VecsL w H (.slice uA n uc) ul F.up ∧ zbG ul ∧
    (∀ a ∈ ll, ∀ b ∈ ul, ∀ g,a.ownBlock = some g → b.ownBlock ≠ some g) ∧ IntsS w H (.slice pA n pc) F.perm
  own:H ≤ q
  sq:Sq n F
end Go.Proofs.YtdbgbaiekpbaoaaGreatDoor
