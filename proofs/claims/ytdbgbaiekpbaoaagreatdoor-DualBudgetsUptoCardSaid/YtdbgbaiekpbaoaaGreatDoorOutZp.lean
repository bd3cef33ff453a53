/- A row of words that a function makes and fills: what a walk knows of it. Conditions: none. -/
import Derived.Test.YtdbgbaiekpbaoaaGreatDoorWordZp
import Derived.Deep.DeepMust
namespace Go.Proofs.YtdbgbaiekpbaoaaGreatDoor
open Go.RowKit Am

theorem SW.drew {w:World} {s:Value} {xs:List Nat} (h:SW w s xs):SW w.drew s xs:=h.drewN 1

theorem cell_al {W:World} {b o:Nat} {v:Value} {ob:Obj} (h:W.cell? ⟨b,o,none⟩ = some v):(W.alloc ob).cell? ⟨b,o,none⟩ = some v :=
 (World.cell?_alloc_lt W ob ⟨b,o,none⟩ (World.block_lt_of_cell? W ⟨b,o,none⟩ h)).trans h
theorem zax {W:World} {b o:Nat} {cs:Array Value} {t:TypeId} {v:Value} (hb:W.heap.size = b) (h:cs[o]? = some v):(W.alloc (.cells cs t)).cell? ⟨b,o,none⟩ = some v:=by
 subst hb;exact (zac (zal W cs t) o).trans h
theorem zam {W:World} {b:Nat} {cs:Array Value} {t:TypeId} (hb:W.heap.size = b):(W.alloc (.cells cs t)).heap[b]? = some (.cells cs t (0,0)):=by
 subst hb;exact zal W cs t
theorem zak {W:World} {b:Nat} {o ob:Obj} (h:W.heap[b]? = some o):(W.alloc ob).heap[b]? = some o :=
 (Below.heap_alloc W ob b (Array.getElem?_eq_some_iff.1 h).1).trans h
theorem cell_set {W:World} {b o b' o':Nat} {v u:Value} (hne:b ≠ b') (h:W.cell? ⟨b,o,none⟩ = some v):(W.setCell ⟨b',o',none⟩ u).cell? ⟨b,o,none⟩ = some v :=
 (World.cell?_setCell_other W ⟨b',o',none⟩ ⟨b,o,none⟩ u (fun e => hne (congrArg Addr.block e).symm)).trans h
theorem zd1 {W:World} {b o:Nat} {ob:Obj} (hl:b < W.heap.size) (h:W.frozen? ⟨b,o,none⟩ = false):(W.alloc ob).frozen? ⟨b,o,none⟩ = false :=
 (World.frozen?_alloc_old W ob ⟨b,o,none⟩ (Nat.ne_of_lt hl)).trans h
theorem zxk {W:World} {b:Nat} {ob:Obj} (hl:b < W.heap.size):b < (W.alloc ob).heap.size:=by simp;omega

structure OutAt (w w1:World) (H n:Nat) (os:List Nat):Prop where
  own:w1.ownsRow H 193 1 (.slice (some ⟨H,0,none⟩) n n) n (wcells os)
  bel:Below H w w1
  len:os.length = n
namespace OutAt
variable {w w1 w2:World} {H n:Nat} {os:List Nat}
theorem lt (h:OutAt w w1 H n os):H < w1.heap.size:=(h.own.lt H rfl).2
theorem step (h:OutAt w w1 H n os) (hb:Below w1.heap.size w1 w2):OutAt w w2 H n os :=
 ⟨⟨h.own.1,by
   rcases h.own.2 with h2 | ⟨g,cap,cur,hv,hg,hh,r⟩
   ·exact .inl h2
   ·exact .inr ⟨g,cap,cur,hv,hg,by rw [hb.block g (Array.getElem?_eq_some_iff.1 hh).1];exact hh,r⟩⟩,h.bel.trans (hb.mono (Nat.le_of_lt h.lt)),h.len⟩
theorem alloc (h:OutAt w w1 H n os) (o:Obj):OutAt w (w1.alloc o) H n os:=h.step (zae w1 o)
theorem drewN (h:OutAt w w1 H n os) (k:Nat):OutAt w (w1.drewN k) H n os:=h.step (zap w1 k)
theorem drew (h:OutAt w w1 H n os):OutAt w w1.drew H n os:=h.drewN 1
theorem store (h:OutAt w w1 H n os) (k v:Nat):OutAt w (w1.setCell ⟨H,k,none⟩ (.int .u64 (v:Int))) H n (os.set k v) :=
 ⟨by rw [ziN];exact (h.own.stored k _).1,h.bel.setCell (Nat.le_refl _) _,by rw [List.length_set];exact h.len⟩
theorem cell (h:OutAt w w1 H n os) {k:Nat} (hk:k < n):w1.cell? ⟨H,k,none⟩ = some (.int .u64 ((wd os k:Nat):Int)):=by
 rw [h.own.cellAt k (by omega),zeu (by rw [h.len];exact hk)]
theorem fro (h:OutAt w w1 H n os) (k:Nat):w1.frozen? ⟨H,k,none⟩ = false:=h.own.frozenAt k
theorem old (h:OutAt w w1 H n os) {b o:Nat} {v:Value} (hb:b < H) (hc:w.cell? ⟨b,o,none⟩ = some v):w1.cell? ⟨b,o,none⟩ = some v :=
 (h.bel.cell (p:=⟨b,o,none⟩) hb).trans hc
theorem keep (h:OutAt w w1 H n os) {s:Value} {xs:List Nat} (hs:SW w s xs) (hH:w.heap.size ≤ H):SW w1 s xs:=hs.below (h.bel.mono hH)
theorem sw (h:OutAt w w1 H n os) (hw:Wds os):SW w1 (.slice (some ⟨H,0,none⟩) n n) os:=by
 have:=h.own;have hl:=h.len;subst hl;exact SW.of_own this hw
end OutAt

theorem zdz {w:World} {ops:Array Oper} {rest:List Oper} {o:Oper} {a:Act} {Q:Exit → Act → World → Prop}
  (hg:o.guard = none) (l c:Operand) (hop:o.op = Op.makeSlice 29 l c) (n:Nat) (L:Int) (hl:a.eval l = .int .i64 L) (hc:a.eval c = .int .i64 L) (hL:L = (n:Int)) (hb:n ≤ 16 * LIM) (H:Nat) (hH:w.heap.size = H)
  (hK:∀ w1,OutAt w w1 H n (List.replicate n 0) → wpList Tryz.prog ops Q rest (a.put o.dst (.slice (some ⟨H,0,none⟩) n n)) w1):wpList Tryz.prog ops Q (o :: rest) a w:=by
 obtain ⟨i0,hi,hz0,hz1,hz2⟩:=info_parts zf7
 have hlim:=zaP
 subst hH
 subst hL
 refine wpList_make_full w hg l c 29 hop w.heap.size 193 i0 (.int .u64 0) 1 Tryz.underlying29 hi hz0 hz1 .i64 .i64 n n n hl hc rfl rfl (by rw [hz2];omega) (by unfold maxLen;omega) (Nat.le_refl _) ?_
 intro w1 hown hgrow
 have e0:(madeCells (Value.int IntKind.u64 0).cells (n * 1)).toList = wcells (List.replicate n 0):=by
  rw [zlr,Nat.mul_one];exact toList_madeCells_one _ n
 rw [e0] at hown
 exact hK w1 ⟨hown,(Below.refl _ _).grown hgrow (Nat.le_refl _) (fun k hk => by cases hk),by simp⟩

def zrow (n:Nat):Array Value:=(wcells (List.replicate n 0)).toArray
theorem zyv (n:Nat) (hb:n ≤ 16 * LIM) (w:World):(Instr.makeSlice 29 (.int .i64 (n:Int)) (.int .i64 (n:Int))).run Tryz.prog w = .ok (.slice (some ⟨w.heap.size,0,none⟩) n n) (w.alloc (.cells (zrow n) 193)):=by
 obtain ⟨i0,hi,hz0,hz1,hz2⟩:=info_parts zf7
 have hlim:=zaP
 have h63':(n:Int) ≤ 9223372036854775807:=by omega
 have hb':(i0.bytes:Int) * (n:Int) ≤ 281474976710656:=by rw [hz2];omega
 have hr:=run_make (P:=Tryz.prog) w 29 193 i0 (.int .u64 0) Tryz.underlying29 hi hz0 .i64 .i64 n n (by omega) (Int.le_refl _) hb' h63'
 simp only [Int.toNat_natCast] at hr
 rw [hr,hz1]
 have e0:madeCells (Value.int IntKind.u64 0).cells (n * 1) = zrow n:=by
  apply Array.ext'
  rw [zrow,zlr,Nat.mul_one];exact toList_madeCells_one _ n
 rw [e0]
theorem zn5 (w:World) (n:Nat) (hb:n ≤ 16 * LIM):OutAt w (w.alloc (.cells (zrow n) 193)) w.heap.size n (List.replicate n 0):=by
 have hlim:=zaP
 have h:=World.ownsRow_lit (e:=193) (size:=1) w (zrow n) n (Nat.le_refl w.heap.size) (by unfold maxLen;omega) (by simp [zrow,wcells])
 exact ⟨by simpa [zrow] using h,(Below.refl _ _).alloc (Nat.le_refl _) _,by simp⟩
end Go.Proofs.YtdbgbaiekpbaoaaGreatDoor
