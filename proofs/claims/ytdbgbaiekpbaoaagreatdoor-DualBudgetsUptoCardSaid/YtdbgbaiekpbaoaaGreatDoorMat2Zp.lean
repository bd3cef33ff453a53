/- Steps of walks over tables: a row that is made,a row that is put behind,rows that are copied. Conditions: as each says. Rows of whole numbers,and what is taken apart: what lies in memory. Conditions: as each says. What is taken apart,as it lies in memory while it is changed. Conditions: as each says. Conditions: as they say. -/
import Derived.Test.YtdbgbaiekpbaoaaGreatDoorLaw1Zp
import Derived.Test.YtdbgbaiekpbaoaaGreatDoorVec5Zp
import Derived.Laws.CopyRow
import Derived.Laws.CopyOwn
import Derived.Test.YtdbgbaiekpbaoaaGreatDoorNat3Zp
set_option linter.all false
namespace Go.Proofs.YtdbgbaiekpbaoaaGreatDoor
open Go.RowKit Am
set_option maxHeartbeats 1000000
set_option maxRecDepth 100000
theorem zxP {w1:World} {H n:Nat} (hown:w1.ownsRow H 35 3 (.slice (some ⟨H,0,none⟩) n n) n (madeCells (Value.agg #[.bool false, .slice none 0 0, .slice none 0 0]).cells (n * 3)).toList):VecS w1 H (.slice (some ⟨H,0,none⟩) n n) (List.replicate n 0):=by
 rw [zl9] at hown
 refine ⟨List.replicate n (false, .slice none 0 0, .slice none 0 0),by simp,?_,by rw [List.length_replicate];exact hown⟩
 intro k r q h1 h2
 rw [List.getElem?_replicate] at h1 h2
 split at h1
 ·injection h1 with h1
  rw [if_pos ‹_›] at h2
  injection h2 with h2
  subst h1 h2
  exact RatS.zero _
 ·cases h1
theorem zh5 {ops:Array Oper} {o:Oper} {a:Act} {w:World} {K:Act → World → Prop} {Q:Exit → Act → World → Prop} {E:Prop} (hg:o.guard = none) (l c:Operand) (hop:o.op = Op.makeSlice 26 l c) (n:Nat) (L:Int) (hl:a.eval l = .int .i64 L) (hc:a.eval c = .int .i64 L) (hL:L = (n:Int)) (hb:n ≤ 1048576)
  (hK:∀ w1,VecS w1 w.heap.size (.slice (some ⟨w.heap.size,0,none⟩) n n) (List.replicate n 0) → Below w.heap.size w w1 → K (a.put o.dst (.slice (some ⟨w.heap.size,0,none⟩) n n)) w1) :
  if Region.wanted o (yielded ops a.tmps) = true then Oper.wp Tryz.prog o a w K Q else E:=by
 have hw:Region.wanted o (yielded ops a.tmps) = true:=by simp [Region.wanted,hg]
 rw [if_pos hw]
 obtain ⟨i0,hi,hz0,hz1,hz2⟩:=info_parts ze0
 subst hL
 obtain ⟨w',hrun,r1,r2⟩:=run_make_full (P:=Tryz.prog) w w.heap.size 26 35 i0 _ 3 Tryz.underlying26 hi hz0 hz1 .i64 .i64 n (by rw [hz2];omega) (by unfold maxLen;omega) (Nat.le_refl _)
 unfold Oper.wp
 simp [execOp,hop,hl,hc,hrun,Result.andThen]
 exact hK _ (zxP r1) ((Below.refl _ _).grown r2 (Nat.le_refl _) (fun k hk => by cases hk))
theorem VecsL.append {w w':World} {H:Nat} {v v':Value} {l:List Value} {L:List (List Rat)} (hv:VecsL w H v l L) {s:Value} {r:List Rat} (hs:VecS w H s r) (hown:w'.ownsRow H 26 1 v' (L.length + 1) (l ++ [s])) (hg:w.grownBy w' v.ownBlock):VecsL w' H v' (l ++ [s]) (L ++ [r]):=by
 have hk:=TKeep.grown hv.own hg
 refine ⟨by simp [hv.len],fun k r' p' h1 h2 => ?_,by rw [List.length_append];exact hown⟩
 rcases Nat.lt_trichotomy k l.length with h | h | h
 ·rw [List.getElem?_append_left h] at h1
  rw [List.getElem?_append_left (by rw [← hv.len];exact h)] at h2
  exact (hv.each k r' p' h1 h2).tk hk (by decide) (by decide)
 ·subst h
  rw [List.getElem?_append_right (Nat.le_refl _)] at h1
  rw [List.getElem?_append_right (by rw [hv.len];exact Nat.le_refl _)] at h2
  simp at h1
  rw [hv.len] at h2
  simp at h2
  subst h1 h2
  exact hs.tk hk (by decide) (by decide)
 ·rw [List.getElem?_eq_none (by simp;omega)] at h1;cases h1
theorem zrj {w:World} {b:Nat} {c0:Value} {t:TypeId} (hb:w.heap[b]? = some (.cells #[c0] t (0,0))):∀ j u,[c0][j]? = some u → w.cell? ((⟨b,0,none⟩:Addr).add j) = some u:=by
 intro j u hu
 match j,hu with
 | 0,hu => exact (zac hb 0).trans hu
 | j + 1,hu => simp at hu
theorem VecS.one {w:World} {H:Nat} {s:Value} {r:List Rat} (h:VecS w H s r):s.oneCell' = true:=by
 obtain ⟨A,n,c,rfl⟩:=h.slice;rfl
theorem zjh {ops:Array Oper} {o:Oper} {a:Act} {w:World} {K:Act → World → Prop} {Q:Exit → Act → World → Prop} {E:Prop} (hg:o.guard = none) (s x:Operand)
  (hop:o.op = .call { callee := .builtin .append,args := #[s,x],argTypes := #[62,62] }) {H:Nat} {v:Value} {l:List Value} {L:List (List Rat)} (hs:a.eval s = v) (hv:VecsL w H v l L) {b:Nat} (hx:a.eval x = .slice (some ⟨b,0,none⟩) 1 1)
  {sl:Value} {r:List Rat} (hb:w.heap[b]? = some (.cells #[sl] 26 (0,0))) (hr:VecS w H sl r) {n:Nat} (hn:L.length = n) (hlen:n + 1 ≤ 1000000) (hH:H ≤ w.heap.size)
  (hK:∀ A' c' w',VecsL w' H (.slice A' (n + 1) c') (l ++ [sl]) (L ++ [r]) → TKeep 26 w w' → Below H w w' → K (a.put o.dst (.slice A' (n + 1) c')) w') :
  if Region.wanted o (yielded ops a.tmps) = true then Oper.wp Tryz.prog o a w K Q else E:=by
 have hw:Region.wanted o (yielded ops a.tmps) = true:=by simp [Region.wanted,hg]
 rw [if_pos hw]
 subst hn
 obtain ⟨i0,hi,hz0,hz1,hz2⟩:=info_parts zrA
 refine wp_append_own w s x 62 hop H 26 i0 _ 1 24 Tryz.underlying62 hi hz0 hz1 hz2 rfl (by decide) v L.length l hs hv.own ⟨b,0,none⟩ 1 1 [sl] hx rfl (zrj hb)
  (by intro u hu;simp at hu;subst hu;exact hr.one) (by unfold maxLen;omega) (by omega) hH ?_
 intro v' w' hown hgrow _
 have hL:=hv.append hr hown hgrow
 obtain ⟨A',c',rfl⟩:=hL.slice
 rw [List.length_append] at hL
 have hh:=hK A' c' w' hL (TKeep.grown hv.own hgrow) ((Below.refl _ _).grown hgrow hH (fun k hk => (hv.own.lt k hk).1))
 simpa using hh
theorem zqx (P:Program) (w:World) (dT sT ty elem:TypeId) (sz:Nat) (g o dLen dCap:Nat) (a:Addr) (zKx sCap:Nat) (cur:Array Value) (t:TypeId) (cs:List Value)
  (hu:P.underlying dT = some (.slice elem)) (hs:(P.info? elem).map (·.size) = some sz)
  (hg:w.heap[g]? = some (.cells cur t (0,0))) (hn:cs.length = Nat.min zKx dLen * sz)
  (hsrc:∀ j v,cs[j]? = some v → w.cell? (a.add j) = some v) (hfit:o + cs.length ≤ cur.size) (h1:∀ v ∈ cs,v.oneCell' = true) :
  (Builtin.copy_ #[dT,sT] ty #[.slice (some ⟨g,o,none⟩) dLen dCap, .slice (some a) zKx sCap]).run P w =
   .ok (goInt (Nat.min zKx dLen)) (w.setRow g (cur.toList.take o ++ cs ++ cur.toList.drop (o + cs.length)).toArray):=by
 have hl:=run_loadCells_list (P:=P) w a cs hsrc
 have hst:=run_storeCells_at P g o t cs 0 cur w hg (by simpa using hfit) h1
 cases hq:P.info? elem with
 | none => simp [hq] at hs
 | some i =>
  have hi:i.size = sz:=by simpa [hq] using hs
  rw [hn] at hl
  simp [Builtin.copy_,run_underlying hu,Builtin.lenOf,Builtin.firstCells,sizeOf,typeInfo,hq,hi,hl,hst]
theorem znF:(Tryz.prog.info? 3).map (fun i => (i.zero,i.size,i.bytes)) = some (some (.int .i64 0),1,8):=by kernel_rfl
def icells (xs:List Nat):List Value:=xs.map fun x => .int .i64 ((x:Nat):Int)
structure IntsS (w:World) (H:Nat) (v:Value) (xs:List Nat):Prop where
  own:w.ownsRow H 3 1 v xs.length (icells xs)
namespace IntsS
variable {w w':World} {H:Nat} {v:Value} {xs:List Nat}
theorem keep (h:IntsS w H v xs) (hk:∀ k,v.ownBlock = some k → w'.heap[k]? = w.heap[k]?):IntsS w' H v xs:=⟨zc9 h.own hk⟩
theorem below (h:IntsS w H v xs) (hb:Below w.heap.size w w'):IntsS w' H v xs:=h.keep fun k hk => hb.block k (h.own.lt k hk).2
theorem alloc (h:IntsS w H v xs) (o:Obj):IntsS (w.alloc o) H v xs:=h.below (zae w o)
theorem drew (h:IntsS w H v xs):IntsS w.drew H v xs:=h.below (zap w 1)
theorem base {H':Nat} (h:IntsS w H v xs) (hb:H' ≤ H):IntsS w H' v xs:=⟨zbu h.own hb⟩
theorem nil (w:World) (H:Nat):IntsS w H (.slice none 0 0) []:=⟨World.ownsRow_nil _ _ _ _⟩
theorem tk {t:TypeId} (h:IntsS w H v xs) (hk:TKeep t w w') (h1:3 ≠ t):IntsS w' H v xs :=
 h.keep fun k hb => hk k (h.own.lt k hb).2 fun cs e => za6 h.own e h1 hb
theorem form {A:Option Addr} {n c:Nat} (h:IntsS w H (.slice A n c) xs):n = xs.length ∧ n ≤ c ∧ c ≤ maxLen ∧ ((A = none ∧ c = 0 ∧ xs = []) ∨ ∃ g,A = some ⟨g,0,none⟩ ∧ H ≤ g ∧ g < w.heap.size):=by
 rcases h.own.2 with ⟨hv,hn⟩ | ⟨g,cap,cur,hv,hg,hh,hn,hm,_⟩
 ·injection hv with e1 e2 e3
  subst e1 e2 e3
  exact ⟨hn.symm,Nat.le_refl _,Nat.zero_le _, .inl ⟨rfl,rfl,List.length_eq_zero_iff.1 hn⟩⟩
 ·injection hv with e1 e2 e3
  subst e1 e2 e3
  exact ⟨rfl,hn,hm, .inr ⟨g,rfl,hg,(Array.getElem?_eq_some_iff.1 hh).1⟩⟩
theorem len {A:Option Addr} {n c:Nat} (h:IntsS w H (.slice A n c) xs):n = xs.length:=h.form.1
theorem has {A:Option Addr} {n c:Nat} (h:IntsS w H (.slice A n c) xs) (hn:0 < n):∃ g,A = some ⟨g,0,none⟩ ∧ H ≤ g ∧ g < w.heap.size:=by
 obtain ⟨h1,h2,h3,h4 | h4⟩:=h.form
 ·omega
 ·exact h4
theorem slice (h:IntsS w H v xs):∃ A c,v = .slice A xs.length c:=by
 rcases h.own.2 with ⟨hv,hn⟩ | ⟨g,cap,cur,hv,_⟩
 ·exact ⟨_,_,by rw [hv,hn]⟩
 ·exact ⟨_,_,hv⟩
theorem fro {b n c:Nat} (h:IntsS w H (.slice (some ⟨b,0,none⟩) n c) xs) (j:Nat):w.frozen? ⟨b,j,none⟩ = false:=by
 have hn:=h.len
 subst hn
 exact h.own.frozenAt j
theorem at_ {b n c:Nat} (h:IntsS w H (.slice (some ⟨b,0,none⟩) n c) xs) {k x:Nat} (hk:xs[k]? = some x):w.cell? ⟨b,k,none⟩ = some (.int .i64 (x:Int)):=by
 have hn:=h.len
 subst hn
 have hk':=(List.getElem?_eq_some_iff.1 hk).1
 rw [h.own.cellAt _ (by omega)]
 simp [icells,hk]
theorem store {b n c:Nat} (h:IntsS w H (.slice (some ⟨b,0,none⟩) n c) xs) (k x:Nat):IntsS (w.setCell ⟨b,k,none⟩ (.int .i64 (x:Int))) H (.slice (some ⟨b,0,none⟩) n c) (xs.set k x):=by
 have hn:=h.len
 subst hn
 refine ⟨?_⟩
 have:=(h.own.stored k (.int .i64 (x:Int))).1
 rw [List.length_set]
 simpa [icells,List.map_set] using this
theorem push {w':World} {v':Value} (hv:IntsS w H v xs) {x:Nat} (hown:w'.ownsRow H 3 1 v' (xs.length + 1) (icells xs ++ [.int .i64 (x:Int)])):IntsS w' H v' (xs ++ [x]):=by
 refine ⟨?_⟩
 rw [List.length_append]
 simpa [icells] using hown
end IntsS
theorem zll {ops:Array Oper} {o:Oper} {a:Act} {w:World} {K:Act → World → Prop} {Q:Exit → Act → World → Prop} {E:Prop} (hg:o.guard = none) (s x:Operand)
  (hop:o.op = .call { callee := .builtin .append,args := #[s,x],argTypes := #[48,48] }) {H:Nat} {v:Value} {xs:List Nat} (hs:a.eval s = v) (hv:IntsS w H v xs) {b:Nat} (hx:a.eval x = .slice (some ⟨b,0,none⟩) 1 1)
  {z:Nat} (hb:w.heap[b]? = some (.cells #[.int .i64 (z:Int)] 3 (0,0))) {n:Nat} (hn:xs.length = n) (hlen:n + 1 ≤ 1000000) (hH:H ≤ w.heap.size)
  (hK:∀ A' c' w',IntsS w' H (.slice A' (n + 1) c') (xs ++ [z]) → TKeep 3 w w' → Below H w w' → K (a.put o.dst (.slice A' (n + 1) c')) w') :
  if Region.wanted o (yielded ops a.tmps) = true then Oper.wp Tryz.prog o a w K Q else E:=by
 have hw:Region.wanted o (yielded ops a.tmps) = true:=by simp [Region.wanted,hg]
 rw [if_pos hw]
 subst hn
 obtain ⟨i0,hi,hz0,hz1,hz2⟩:=info_parts znF
 refine wp_append_own w s x 48 hop H 3 i0 _ 1 8 Tryz.underlying48 hi hz0 hz1 hz2 rfl (by decide) v xs.length (icells xs) hs hv.own ⟨b,0,none⟩ 1 1 [.int .i64 (z:Int)] hx rfl (zrj hb)
  (by intro u hu;simp at hu;subst hu;rfl) (by unfold maxLen;omega) (by omega) hH ?_
 intro v' w' hown hgrow _
 have hL:=hv.push hown
 obtain ⟨A',c',rfl⟩:=hL.slice
 rw [List.length_append] at hL
 have hh:=hK A' c' w' hL (TKeep.grown hv.own hgrow) ((Below.refl _ _).grown hgrow hH (fun k hk => (hv.own.lt k hk).1))
 simpa using hh
structure LuS (w:World) (H q n:Nat) (F:LUv):Prop where
  ex:∃ (lA:Option Addr) (lc:Nat) (ll:List Value) (uA:Option Addr) (uc:Nat) (ul:List Value) (pA:Option Addr) (pc:Nat),
    w.heap[q]? = some (.cells #[.slice lA n lc, .slice uA n uc, .slice pA n pc, .bool F.odd] 263 (0,0)) ∧ VecsL w H (.slice lA n lc) ll F.lo ∧ zbG ll ∧ VecsL w H (.slice uA n uc) ul F.up ∧ zbG ul ∧
    (∀ a ∈ ll, ∀ b ∈ ul, ∀ g,a.ownBlock = some g → b.ownBlock ≠ some g) ∧ IntsS w H (.slice pA n pc) F.perm
  own:H ≤ q
  sq:Sq n F
namespace VecsL
variable {w w':World} {H:Nat} {v:Value} {l:List Value} {L:List (List Rat)}
theorem off (h:VecsL w H v l L) {b o:Nat} {cs:Array Value} (hb:w.heap[b]? = some (.cells cs 26 (0,0))) (hne:v.ownBlock ≠ some b) (u:Value):VecsL (w.setCell ⟨b,o,none⟩ u) H v l L :=
 h.keepAll (fun k hk => Below.heap_setCell _ _ _ _ (by rintro rfl;exact hne hk)) fun _ _ _ r => r.tk (TKeep.set hb u) (by decide) (by decide)
theorem offRat (h:VecsL w H v l L) {b:Nat} {cs:Array Value} (hb:w.heap[b]? = some (.cells cs 35 (0,0))) (hne:∀ s ∈ l,s.ownBlock ≠ some b) (i:Nat) (x y z:Value) :
  VecsL (((w.setCell ⟨b,i * 3,none⟩ x).setCell ⟨b,i * 3 + 1,none⟩ y).setCell ⟨b,i * 3 + 2,none⟩ z) H v l L:=by
 have far:∀ j,j ≠ b → (((w.setCell ⟨b,i * 3,none⟩ x).setCell ⟨b,i * 3 + 1,none⟩ y).setCell ⟨b,i * 3 + 2,none⟩ z).heap[j]? = w.heap[j]?:=fun j hj => by
  rw [Below.heap_setCell _ _ _ _ (by exact hj),Below.heap_setCell _ _ _ _ (by exact hj),Below.heap_setCell _ _ _ _ (by exact hj)]
 exact h.keepAll (fun k hk => far k fun e => za6 h.own (e ▸ hb) (by decide) (e ▸ hk)) fun s r hs hv => hv.keepAll (fun g hg => far g fun e => hne s hs (e ▸ hg)) fun _ _ _ _ q => q.keepT fun j hj hn => far j fun e => hn _ (e ▸ hb)
theorem swap {b n c:Nat} (h:VecsL w H (.slice (some ⟨b,0,none⟩) n c) l L) {i j:Nat} {x y:Value} {r s:List Rat} (hi:l[i]? = some x) (hj:l[j]? = some y) (hr:L[i]? = some r) (hs:L[j]? = some s) :
  VecsL ((w.setCell ⟨b,i,none⟩ y).setCell ⟨b,j,none⟩ x) H (.slice (some ⟨b,0,none⟩) n c) ((l.set i y).set j x) (sw L i j []):=by
 obtain ⟨cs,hb⟩:=h.blk
 have h1:=h.store (List.getElem?_eq_some_iff.1 hr).1 (h.each _ _ _ hj hs)
 have h2:=h1.store (k:=j) (by rw [List.length_set];exact (List.getElem?_eq_some_iff.1 hs).1) ((h.each _ _ _ hi hr).tk (TKeep.set (o:=i) hb y) (by decide) (by decide))
 unfold sw
 rw [List.getD_eq_getElem?_getD,List.getD_eq_getElem?_getD,hr,hs]
 exact h2
end VecsL
theorem zrV {α:Type} {l:List α} {i j:Nat} {x y:α} (hi:l[i]? = some x) (hj:l[j]? = some y) (k:Nat):((l.set i y).set j x)[k]? = l[tw i j k]?:=by
 have h1:=(List.getElem?_eq_some_iff.1 hi).1
 have h2:=(List.getElem?_eq_some_iff.1 hj).1
 unfold tw
 rw [List.getElem?_set,List.length_set,List.getElem?_set]
 by_cases e:j = k
 ·subst e;simp [h2,hi]
 ·rw [if_neg e,if_neg (Ne.symm e)]
  by_cases e2:i = k
  ·subst e2;simp [h1,hj]
  ·rw [if_neg e2,if_neg (Ne.symm e2)]
theorem zyB {α:Type} {l:List α} {i j:Nat} {x y:α} (hi:l[i]? = some x) (hj:l[j]? = some y) {a:α} (h:a ∈ (l.set i y).set j x):a ∈ l:=by
 obtain ⟨k,hk⟩:=List.mem_iff_getElem?.1 h
 rw [zrV hi hj] at hk
 exact List.mem_of_getElem? hk
theorem zbG.sw {l:List Value} (h:zbG l) {i j:Nat} {x y:Value} (hi:l[i]? = some x) (hj:l[j]? = some y):zbG ((l.set i y).set j x):=by
 intro a b u v g h1 h2 h3 h4
 rw [zrV hi hj] at h1 h2
 have:=h _ _ _ _ _ h1 h2 h3 h4
 rw [← zxO i j a,this,zxO]
theorem IntsS.swap {w:World} {H b n c:Nat} {xs:List Nat} (h:IntsS w H (.slice (some ⟨b,0,none⟩) n c) xs) {i j x y:Nat} (hi:xs[i]? = some x) (hj:xs[j]? = some y) :
  IntsS ((w.setCell ⟨b,i,none⟩ (.int .i64 (y:Int))).setCell ⟨b,j,none⟩ (.int .i64 (x:Int))) H (.slice (some ⟨b,0,none⟩) n c) (Am.sw xs i j 0):=by
 have:=(h.store i y).store j x
 unfold Am.sw
 rw [List.getD_eq_getElem?_getD,List.getD_eq_getElem?_getD,hi,hj]
 exact this
theorem IntsS.blk {w:World} {H b n c:Nat} {xs:List Nat} (h:IntsS w H (.slice (some ⟨b,0,none⟩) n c) xs):∃ cs,w.heap[b]? = some (.cells cs 3 (0,0)):=by
 rcases h.own.2 with ⟨hv,_⟩ | ⟨g,cap,cur,hv,_,hh,_⟩
 ·cases hv
 ·injection hv with e1;injection e1 with e1;injection e1 with e1;subst e1;exact ⟨_,hh⟩
structure LuP (w:World) (H q n lb lc:Nat) (ll:List Value) (ub uc:Nat) (ul:List Value) (pb pc:Nat) (F:LUv):Prop where
  blk:w.heap[q]? = some (.cells #[.slice (some ⟨lb,0,none⟩) n lc, .slice (some ⟨ub,0,none⟩) n uc, .slice (some ⟨pb,0,none⟩) n pc, .bool F.odd] 263 (0,0))
  lo:VecsL w H (.slice (some ⟨lb,0,none⟩) n lc) ll F.lo
  la:zbG ll
  up:VecsL w H (.slice (some ⟨ub,0,none⟩) n uc) ul F.up
  ua:zbG ul
  rows:∀ a ∈ ll, ∀ b ∈ ul, ∀ g,a.ownBlock = some g → b.ownBlock ≠ some g
  sep:lb ≠ ub
  perm:IntsS w H (.slice (some ⟨pb,0,none⟩) n pc) F.perm
  own:H ≤ q
namespace LuP
variable {w w':World} {H q n lb lc:Nat} {ll:List Value} {ub uc:Nat} {ul:List Value} {pb pc:Nat} {F:LUv}
theorem below (h:LuP w H q n lb lc ll ub uc ul pb pc F) (hb:Below w.heap.size w w'):LuP w' H q n lb lc ll ub uc ul pb pc F :=
 ⟨by rw [hb.block q (Array.getElem?_eq_some_iff.1 h.blk).1];exact h.blk,h.lo.below hb,h.la,h.up.below hb,h.ua,h.rows,h.sep,h.perm.below hb,h.own⟩
theorem alloc (h:LuP w H q n lb lc ll ub uc ul pb pc F) (o:Obj):LuP (w.alloc o) H q n lb lc ll ub uc ul pb pc F:=h.below (zae w o)
theorem drew (h:LuP w H q n lb lc ll ub uc ul pb pc F):LuP w.drew H q n lb lc ll ub uc ul pb pc F:=h.below (zap w 1)
theorem qlt (h:LuP w H q n lb lc ll ub uc ul pb pc F):q < w.heap.size:=(Array.getElem?_eq_some_iff.1 h.blk).1
theorem lbge (h:LuP w H q n lb lc ll ub uc ul pb pc F) (hn:0 < n):H ≤ lb ∧ lb < w.heap.size:=by obtain ⟨g,e,h1,h2⟩:=h.lo.has hn;injection e with e;injection e with e;subst e;exact ⟨h1,h2⟩
theorem ubge (h:LuP w H q n lb lc ll ub uc ul pb pc F) (hn:0 < n):H ≤ ub ∧ ub < w.heap.size:=by obtain ⟨g,e,h1,h2⟩:=h.up.has hn;injection e with e;injection e with e;subst e;exact ⟨h1,h2⟩
theorem pbge (h:LuP w H q n lb lc ll ub uc ul pb pc F) (hn:0 < n):H ≤ pb ∧ pb < w.heap.size:=by obtain ⟨g,e,h1,h2⟩:=h.perm.has hn;injection e with e;injection e with e;subst e;exact ⟨h1,h2⟩
theorem swU (h:LuP w H q n lb lc ll ub uc ul pb pc F) {i j:Nat} {x y:Value} {r s:List Rat} (hi:ul[i]? = some x) (hj:ul[j]? = some y) (hr:F.up[i]? = some r) (hs:F.up[j]? = some s) :
  LuP ((w.setCell ⟨ub,i,none⟩ y).setCell ⟨ub,j,none⟩ x) H q n lb lc ll ub uc ((ul.set i y).set j x) pb pc { F with up:=sw F.up i j [] }:=by
 obtain ⟨cs,hb⟩:=h.up.blk
 have k1:TKeep 26 w (w.setCell ⟨ub,i,none⟩ y):=TKeep.set hb y
 have hb2:=zar (o:=i) y hb
 have k2:TKeep 26 (w.setCell ⟨ub,i,none⟩ y) ((w.setCell ⟨ub,i,none⟩ y).setCell ⟨ub,j,none⟩ x):=TKeep.set hb2 x
 have hne:(Value.slice (some ⟨lb,0,none⟩) n lc).ownBlock ≠ some ub:=by intro e;exact h.sep (by injection e)
 exact ⟨k2.blk (k1.blk h.blk (by decide)) (by decide),(h.lo.off hb hne y).off hb2 hne x,h.la,h.up.swap hi hj hr hs,h.ua.sw hi hj,fun a ha b hb3 => h.rows a ha b (zyB hi hj hb3),h.sep,(h.perm.tk k1 (by decide)).tk k2 (by decide),h.own⟩
theorem swL (h:LuP w H q n lb lc ll ub uc ul pb pc F) {i j:Nat} {x y:Value} {r s:List Rat} (hi:ll[i]? = some x) (hj:ll[j]? = some y) (hr:F.lo[i]? = some r) (hs:F.lo[j]? = some s) :
  LuP ((w.setCell ⟨lb,i,none⟩ y).setCell ⟨lb,j,none⟩ x) H q n lb lc ((ll.set i y).set j x) ub uc ul pb pc { F with lo:=sw F.lo i j [] }:=by
 obtain ⟨cs,hb⟩:=h.lo.blk
 have k1:TKeep 26 w (w.setCell ⟨lb,i,none⟩ y):=TKeep.set hb y
 have hb2:=zar (o:=i) y hb
 have k2:TKeep 26 (w.setCell ⟨lb,i,none⟩ y) ((w.setCell ⟨lb,i,none⟩ y).setCell ⟨lb,j,none⟩ x):=TKeep.set hb2 x
 have hne:(Value.slice (some ⟨ub,0,none⟩) n uc).ownBlock ≠ some lb:=by intro e;exact h.sep (by injection e with e;exact e.symm)
 exact ⟨k2.blk (k1.blk h.blk (by decide)) (by decide),h.lo.swap hi hj hr hs,h.la.sw hi hj,(h.up.off hb hne y).off hb2 hne x,h.ua,fun a ha b hb3 => h.rows a (zyB hi hj ha) b hb3,h.sep,(h.perm.tk k1 (by decide)).tk k2 (by decide),h.own⟩
theorem swP (h:LuP w H q n lb lc ll ub uc ul pb pc F) {i j x y:Nat} (hi:F.perm[i]? = some x) (hj:F.perm[j]? = some y) :
  LuP ((w.setCell ⟨pb,i,none⟩ (.int .i64 (y:Int))).setCell ⟨pb,j,none⟩ (.int .i64 (x:Int))) H q n lb lc ll ub uc ul pb pc { F with perm:=sw F.perm i j 0 }:=by
 obtain ⟨cs,hb⟩:=h.perm.blk
 have k1:TKeep 3 w (w.setCell ⟨pb,i,none⟩ (.int .i64 (y:Int))):=TKeep.set hb _
 have hb2:=zar (o:=i) (.int .i64 (y:Int)) hb
 have k2:TKeep 3 (w.setCell ⟨pb,i,none⟩ (.int .i64 (y:Int))) ((w.setCell ⟨pb,i,none⟩ (.int .i64 (y:Int))).setCell ⟨pb,j,none⟩ (.int .i64 (x:Int))):=TKeep.set hb2 _
 exact ⟨k2.blk (k1.blk h.blk (by decide)) (by decide),(h.lo.tk k1 (by decide) (by decide) (by decide)).tk k2 (by decide) (by decide) (by decide),h.la,(h.up.tk k1 (by decide) (by decide) (by decide)).tk k2 (by decide) (by decide) (by decide),h.ua,h.rows,h.sep,h.perm.swap hi hj,h.own⟩
theorem setO (h:LuP w H q n lb lc ll ub uc ul pb pc F) (o:Bool):LuP (w.setCell ⟨q,3,none⟩ (.bool o)) H q n lb lc ll ub uc ul pb pc { F with odd:=o }:=by
 have k1:TKeep 263 w (w.setCell ⟨q,3,none⟩ (.bool o)):=TKeep.set h.blk _
 refine ⟨?_,h.lo.tk k1 (by decide) (by decide) (by decide),h.la,h.up.tk k1 (by decide) (by decide) (by decide),h.ua,h.rows,h.sep,h.perm.tk k1 (by decide),h.own⟩
 have:=zar (o:=3) (.bool o) h.blk
 simpa using this
theorem putL (h:LuP w H q n lb lc ll ub uc ul pb pc F) {k b m c:Nat} {r:List Rat} (hl:ll[k]? = some (.slice (some ⟨b,0,none⟩) m c)) (hL:F.lo[k]? = some r) (i:Nat) {g:Bool} {s d:Value} {x:Rat} (hq:RatS w g s d x) :
  LuP (((w.setCell ⟨b,i * 3,none⟩ (.bool g)).setCell ⟨b,i * 3 + 1,none⟩ s).setCell ⟨b,i * 3 + 2,none⟩ d) H q n lb lc ll ub uc ul pb pc { F with lo:=F.lo.set k (r.set i x) }:=by
 obtain ⟨cs,hb⟩:=(h.lo.each k _ _ hl hL).ratBlk
 have k1:TKeep 35 w (w.setCell ⟨b,i * 3,none⟩ (.bool g)):=TKeep.set hb _
 have hb2:=zar (o:=i * 3) (.bool g) hb
 have k2:TKeep 35 (w.setCell ⟨b,i * 3,none⟩ (.bool g)) ((w.setCell ⟨b,i * 3,none⟩ (.bool g)).setCell ⟨b,i * 3 + 1,none⟩ s):=TKeep.set hb2 _
 have hb3:=zar (o:=i * 3 + 1) s hb2
 have k3:TKeep 35 ((w.setCell ⟨b,i * 3,none⟩ (.bool g)).setCell ⟨b,i * 3 + 1,none⟩ s) (((w.setCell ⟨b,i * 3,none⟩ (.bool g)).setCell ⟨b,i * 3 + 1,none⟩ s).setCell ⟨b,i * 3 + 2,none⟩ d):=TKeep.set hb3 _
 exact ⟨k3.blk (k2.blk (k1.blk h.blk (by decide)) (by decide)) (by decide),h.lo.put h.la hl hL i hq,h.la,h.up.offRat hb (fun t ht => h.rows _ (List.mem_of_getElem? hl) t ht b rfl) i _ _ _,h.ua,h.rows,h.sep,((h.perm.tk k1 (by decide)).tk k2 (by decide)).tk k3 (by decide),h.own⟩
theorem putU (h:LuP w H q n lb lc ll ub uc ul pb pc F) {k:Nat} (hk:k < F.up.length) {A:Option Addr} {m c:Nat} {r:List Rat} {B:Nat} (hs:VecS w H (.slice A m c) r) (hf:∀ g,(Value.slice A m c).ownBlock = some g → B ≤ g) (hl:∀ a ∈ ll, ∀ g,a.ownBlock = some g → g < B) (hu:∀ a ∈ ul, ∀ g,a.ownBlock = some g → g < B) :
  LuP (w.setCell ⟨ub,k,none⟩ (.slice A m c)) H q n lb lc ll ub uc (ul.set k (.slice A m c)) pb pc { F with up:=F.up.set k r }:=by
 obtain ⟨cs,hb⟩:=h.up.blk
 have k1:TKeep 26 w (w.setCell ⟨ub,k,none⟩ (.slice A m c)):=TKeep.set hb _
 have hne:(Value.slice (some ⟨lb,0,none⟩) n lc).ownBlock ≠ some ub:=by intro e;exact h.sep (by injection e)
 refine ⟨k1.blk h.blk (by decide),h.lo.off hb hne _,h.la,h.up.store hk hs,h.ua.set fun g j b h1 h2 h3 h4 => ?_,fun a ha b hb2 g h1 h2 => ?_,h.sep,h.perm.tk k1 (by decide),h.own⟩
 ·have:=hf g h1;have:=hu b (List.mem_of_getElem? h3) g h4;omega
 ·rcases List.mem_or_eq_of_mem_set hb2 with h3 | h3
  ·exact h.rows a ha b h3 g h1 h2
  ·subst h3;have:=hf g h2;have:=hl a ha g h1;omega
theorem ltL (h:LuP w H q n lb lc ll ub uc ul pb pc F):∀ a ∈ ll, ∀ g,a.ownBlock = some g → g < w.heap.size:=fun a ha g hg => (h.lo.lt ha hg).2
theorem ltU (h:LuP w H q n lb lc ll ub uc ul pb pc F):∀ a ∈ ul, ∀ g,a.ownBlock = some g → g < w.heap.size:=fun a ha g hg => (h.up.lt ha hg).2
end LuP
def LuQ (w:World) (H q n:Nat) (F:LUv):Prop := ∃ lb lc ll ub uc ul pb pc,LuP w H q n lb lc ll ub uc ul pb pc F
theorem LuQ.toS {w:World} {H q n:Nat} {F:LUv} (h:LuQ w H q n F) (hs:Sq n F):LuS w H q n F:=by
 obtain ⟨lb,lc,ll,ub,uc,ul,pb,pc,h⟩:=h
 exact ⟨⟨_,lc,ll,_,uc,ul,_,pc,h.blk,h.lo,h.la,h.up,h.ua,h.rows,h.perm⟩,h.own,hs⟩
def clr (F:LUv) (c t:Nat):LUv:={ F with lo:=(zaT c F.lo F.up t).1,up:=(zaT c F.lo F.up t).2 }
theorem zwC (F:LUv) (c t:Nat):clr F c (t + 1) = ({ clr F c t with lo:=(clr F c t).lo.set (c + 1 + t) (((clr F c t).lo.getD (c + 1 + t) []).set c (en (clr F c t).up (c + 1 + t) c / en (clr F c t).up c c)),up:=(clr F c t).up.set (c + 1 + t) (zly ((clr F c t).up.getD (c + 1 + t) []) (-(en (clr F c t).up (c + 1 + t) c / en (clr F c t).up c c)) ((clr F c t).up.getD c [])) }:LUv):=rfl
theorem zxH {n:Nat} {F:LUv} (s:Sq n F) (c k:Nat):F.step c k = clr (F.turn c k) c (n - (c + 1)):=by
 unfold LUv.step clr;rw [s.ul]
theorem zC8 {n:Nat} {F:LUv} (s:Sq n F) {c:Nat} (hc:c < n) (t:Nat) (ht:c + 1 + t ≤ n):Sq n (clr F c t):=by
 obtain ⟨⟨h1,h2,h3,h4⟩,_⟩:=zfU c n F.lo F.up s.ll s.lr s.ul s.ur hc t ht
 exact ⟨h1,h2,h3,h4,s.pl⟩
theorem zz5 {n:Nat} {F:LUv} (s:Sq n F) {c:Nat} (hc:c < n) (t:Nat) (ht:c + 1 + t < n):(∀ j,j < n → en (clr F c t).up (c + 1 + t) j = en F.up (c + 1 + t) j) ∧ ∀ j,j < n → en (clr F c t).up c j = en F.up c j:=by
 obtain ⟨_,h,_⟩:=zfU c n F.lo F.up s.ll s.lr s.ul s.ur hc t (by omega)
 exact ⟨fun j hj => by show en (zaT c F.lo F.up t).2 _ _ = _;rw [h _ ht _ hj,if_neg (by omega)],fun j hj => by show en (zaT c F.lo F.up t).2 _ _ = _;rw [h _ hc _ hj,if_neg (by omega)]⟩
end Go.Proofs.YtdbgbaiekpbaoaaGreatDoor
