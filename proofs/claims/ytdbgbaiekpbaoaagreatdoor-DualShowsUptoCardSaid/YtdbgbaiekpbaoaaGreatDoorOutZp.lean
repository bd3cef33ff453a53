/- A row of words that a function makes and fills: what a walk knows of it. cmp.Compare,nat.Cmp by their contracts. Conditions: as each says. nat.Sub by its contract. Conditions: as each says. nat.Shl by fewer than 64 bits,by its contract. Conditions: as each says. nat.Shr by fewer than 64 bits,by its contract. Conditions: as each says. Conditions: as they say. -/
import Derived.Test.YtdbgbaiekpbaoaaGreatDoorWordZp
import Derived.Deep.DeepMust
namespace Go.Proofs.YtdbgbaiekpbaoaaGreatDoor
open Go.RowKit Am
open Lib (hid)

theorem SW.drew {w:World} {s:Value} {xs:List Nat} (h:SW w s xs):SW w.drew s xs:=h.drewN 1

theorem cell_al {W:World} {b o:Nat} {v:Value} {ob:Obj} (h:W.cell? ⟨b,o,none⟩ = some v):(W.alloc ob).cell? ⟨b,o,none⟩ = some v :=
 (World.cell?_alloc_lt W ob ⟨b,o,none⟩ (World.block_lt_of_cell? W ⟨b,o,none⟩ h)).trans h
theorem zax {W:World} {b o:Nat} {cs:Array Value} {t:TypeId} {v:Value} (hb:W.heap.size = b) (h:cs[o]? = some v):(W.alloc (.cells cs t)).cell? ⟨b,o,none⟩ = some v:=by
 subst hb;exact (zac (zal W cs t) o).trans h
theorem zam {W:World} {b:Nat} {cs:Array Value} {t:TypeId} (hb:W.heap.size = b):(W.alloc (.cells cs t)).heap[b]? = some (.cells cs t (0,0)):=by
 subst hb;exact zal W cs t
theorem zak {W:World} {b:Nat} {o ob:Obj} (h:W.heap[b]? = some o):(W.alloc ob).heap[b]? = some o :=
 (Below.heap_alloc W ob b (Array.getElem?_eq_some_iff.1 h).1).trans h
theorem cell_set {W:World} {b o b' o':Nat} {v u:Value} (hne:b ≠ b') (h:W.cell? ⟨b,o,none⟩ = some v):(W.setCell ⟨b',o',none⟩ u).cell? ⟨b,o,none⟩ = some v :=
 (World.cell?_setCell_other W ⟨b',o',none⟩ ⟨b,o,none⟩ u (fun e => hne (congrArg Addr.block e).symm)).trans h
theorem zd1 {W:World} {b o:Nat} {ob:Obj} (hl:b < W.heap.size) (h:W.frozen? ⟨b,o,none⟩ = false):(W.alloc ob).frozen? ⟨b,o,none⟩ = false :=
 (World.frozen?_alloc_old W ob ⟨b,o,none⟩ (Nat.ne_of_lt hl)).trans h
theorem zxk {W:World} {b:Nat} {ob:Obj} (hl:b < W.heap.size):b < (W.alloc ob).heap.size:=by simp;omega

structure OutAt (w w1:World) (H n:Nat) (os:List Nat):Prop where
  own:w1.ownsRow H 193 1 (.slice (some ⟨H,0,none⟩) n n) n (wcells os)
  bel:Below H w w1
  len:os.length = n
namespace OutAt
variable {w w1 w2:World} {H n:Nat} {os:List Nat}
theorem lt (h:OutAt w w1 H n os):H < w1.heap.size:=(h.own.lt H rfl).2
theorem step (h:OutAt w w1 H n os) (hb:Below w1.heap.size w1 w2):OutAt w w2 H n os :=
 ⟨⟨h.own.1,by
   rcases h.own.2 with h2 | ⟨g,cap,cur,hv,hg,hh,r⟩
   ·exact .inl h2
   ·exact .inr ⟨g,cap,cur,hv,hg,by rw [hb.block g (Array.getElem?_eq_some_iff.1 hh).1];exact hh,r⟩⟩,h.bel.trans (hb.mono (Nat.le_of_lt h.lt)),h.len⟩
theorem alloc (h:OutAt w w1 H n os) (o:Obj):OutAt w (w1.alloc o) H n os:=h.step (zae w1 o)
theorem drewN (h:OutAt w w1 H n os) (k:Nat):OutAt w (w1.drewN k) H n os:=h.step (zap w1 k)
theorem drew (h:OutAt w w1 H n os):OutAt w w1.drew H n os:=h.drewN 1
theorem store (h:OutAt w w1 H n os) (k v:Nat):OutAt w (w1.setCell ⟨H,k,none⟩ (.int .u64 (v:Int))) H n (os.set k v) :=
 ⟨by rw [ziN];exact (h.own.stored k _).1,h.bel.setCell (Nat.le_refl _) _,by rw [List.length_set];exact h.len⟩
theorem cell (h:OutAt w w1 H n os) {k:Nat} (hk:k < n):w1.cell? ⟨H,k,none⟩ = some (.int .u64 ((wd os k:Nat):Int)):=by
 rw [h.own.cellAt k (by omega),zeu (by rw [h.len];exact hk)]
theorem fro (h:OutAt w w1 H n os) (k:Nat):w1.frozen? ⟨H,k,none⟩ = false:=h.own.frozenAt k
theorem old (h:OutAt w w1 H n os) {b o:Nat} {v:Value} (hb:b < H) (hc:w.cell? ⟨b,o,none⟩ = some v):w1.cell? ⟨b,o,none⟩ = some v :=
 (h.bel.cell (p:=⟨b,o,none⟩) hb).trans hc
theorem keep (h:OutAt w w1 H n os) {s:Value} {xs:List Nat} (hs:SW w s xs) (hH:w.heap.size ≤ H):SW w1 s xs:=hs.below (h.bel.mono hH)
theorem sw (h:OutAt w w1 H n os) (hw:Wds os):SW w1 (.slice (some ⟨H,0,none⟩) n n) os:=by
 have:=h.own;have hl:=h.len;subst hl;exact SW.of_own this hw
end OutAt

theorem zdz {w:World} {ops:Array Oper} {rest:List Oper} {o:Oper} {a:Act} {Q:Exit → Act → World → Prop}
  (hg:o.guard = none) (l c:Operand) (hop:o.op = Op.makeSlice 29 l c) (n:Nat) (L:Int) (hl:a.eval l = .int .i64 L) (hc:a.eval c = .int .i64 L) (hL:L = (n:Int)) (hb:n ≤ 16 * LIM) (H:Nat) (hH:w.heap.size = H)
  (hK:∀ w1,OutAt w w1 H n (List.replicate n 0) → wpList Tryz.prog ops Q rest (a.put o.dst (.slice (some ⟨H,0,none⟩) n n)) w1):wpList Tryz.prog ops Q (o :: rest) a w:=by
 obtain ⟨i0,hi,hz0,hz1,hz2⟩:=info_parts zf7
 have hlim:=zaP
 subst hH
 subst hL
 refine wpList_make_full w hg l c 29 hop w.heap.size 193 i0 (.int .u64 0) 1 Tryz.underlying29 hi hz0 hz1 .i64 .i64 n n n hl hc rfl rfl (by rw [hz2];omega) (by unfold maxLen;omega) (Nat.le_refl _) ?_
 intro w1 hown hgrow
 have e0:(madeCells (Value.int IntKind.u64 0).cells (n * 1)).toList = wcells (List.replicate n 0):=by
  rw [zlr,Nat.mul_one];exact toList_madeCells_one _ n
 rw [e0] at hown
 exact hK w1 ⟨hown,(Below.refl _ _).grown hgrow (Nat.le_refl _) (fun k hk => by cases hk),by simp⟩

def zrow (n:Nat):Array Value:=(wcells (List.replicate n 0)).toArray
theorem zyv (n:Nat) (hb:n ≤ 16 * LIM) (w:World):(Instr.makeSlice 29 (.int .i64 (n:Int)) (.int .i64 (n:Int))).run Tryz.prog w = .ok (.slice (some ⟨w.heap.size,0,none⟩) n n) (w.alloc (.cells (zrow n) 193)):=by
 obtain ⟨i0,hi,hz0,hz1,hz2⟩:=info_parts zf7
 have hlim:=zaP
 have h63':(n:Int) ≤ 9223372036854775807:=by omega
 have hb':(i0.bytes:Int) * (n:Int) ≤ 281474976710656:=by rw [hz2];omega
 have hr:=run_make (P:=Tryz.prog) w 29 193 i0 (.int .u64 0) Tryz.underlying29 hi hz0 .i64 .i64 n n (by omega) (Int.le_refl _) hb' h63'
 simp only [Int.toNat_natCast] at hr
 rw [hr,hz1]
 have e0:madeCells (Value.int IntKind.u64 0).cells (n * 1) = zrow n:=by
  apply Array.ext'
  rw [zrow,zlr,Nat.mul_one];exact toList_madeCells_one _ n
 rw [e0]
theorem zn5 (w:World) (n:Nat) (hb:n ≤ 16 * LIM):OutAt w (w.alloc (.cells (zrow n) 193)) w.heap.size n (List.replicate n 0):=by
 have hlim:=zaP
 have h:=World.ownsRow_lit (e:=193) (size:=1) w (zrow n) n (Nat.le_refl w.heap.size) (by unfold maxLen;omega) (by simp [zrow,wcells])
 exact ⟨by simpa [zrow] using h,(Below.refl _ _).alloc (Nat.le_refl _) _,by simp⟩
end Go.Proofs.YtdbgbaiekpbaoaaGreatDoor
namespace Go.Proofs.YtdbgbaiekpbaoaaGreatDoor
open Go.RowKit Am
open Lib (hid)
attribute [local go_sem ↓] Go.wp_at_zero Go.wp_at_succ
set_option maxHeartbeats 400000
set_option maxRecDepth 100000
def ze9 (a b:Int):Int:=if a < b then -1 else if b < a then 1 else 0
theorem zeb {a b:Int} (h:a < b):ze9 a b = -1:=by unfold ze9;rw [if_pos h]
theorem zea {a b:Int} (h:b < a):ze9 a b = 1:=by unfold ze9;rw [if_neg (by omega),if_pos h]
theorem zgN {a b:Int} (h:a = b):ze9 a b = 0:=by unfold ze9;rw [if_neg (by omega),if_neg (by omega)]
namespace Nt
theorem zut (a b:Int) (w:World):Calls Tryz.prog 151 #[.int .i64 a, .int .i64 b] w fun e w' => e = .returned (.int .i64 (ze9 a b)) ∧ w = w':=by
 rcases Int.lt_trichotomy a b with h | h | h
 ·have E:=hid (zeb h)
  go_enter Tryz.func151,Tryz.ntmps151
  go_wp2
  go_ret
  exact ⟨zst (by rw [E.out]),rfl⟩
 ·subst h
  have E:=hid (zgN (a:=a) rfl)
  go_enter Tryz.func151,Tryz.ntmps151
  go_wp2
  go_ret
  exact ⟨zst (by rw [E.out]),rfl⟩
 ·have E:=hid (zea h)
  go_enter Tryz.func151,Tryz.ntmps151
  go_wp2
  go_ret
  exact ⟨zst (by rw [E.out]),rfl⟩
theorem zJ7 (a b:Int) (w:World):Calls Tryz.prog 152 #[.int .u64 a, .int .u64 b] w fun e w' => e = .returned (.int .i64 (ze9 a b)) ∧ w = w':=by
 rcases Int.lt_trichotomy a b with h | h | h
 ·have E:=hid (zeb h)
  go_enter Tryz.func152,Tryz.ntmps152
  go_wp2
  go_ret
  exact ⟨zst (by rw [E.out]),rfl⟩
 ·subst h
  have E:=hid (zgN (a:=a) rfl)
  go_enter Tryz.func152,Tryz.ntmps152
  go_wp2
  go_ret
  exact ⟨zst (by rw [E.out]),rfl⟩
 ·have E:=hid (zea h)
  go_enter Tryz.func152,Tryz.ntmps152
  go_wp2
  go_ret
  exact ⟨zst (by rw [E.out]),rfl⟩

theorem zuw (A B:Option Addr) (c c':Nat) (xs ys:List Nat) (w:World) (hne:xs.length ≠ ys.length) (v:Int) (hv:v = ze9 xs.length ys.length) :
  Calls Tryz.prog 112 #[.agg #[.slice A xs.length c], .agg #[.slice B ys.length c']] w fun e w' => e = .returned (.int .i64 v) ∧ Below w.heap.size w w':=by
 rcases Nat.lt_or_ge xs.length ys.length with h | h
 ·have e:ze9 xs.length ys.length = -1:=zeb (by omega)
  rw [e] at hv
  subst hv
  clear hne h
  go_enter Tryz.func112,Tryz.ntmps112
  go_wp2_with fail
  refine (zut _ _ _).mono ?_
  rw [e]
  rintro e' w' ⟨rfl,rfl⟩
  clear e
  go_wp2
  go_ret
  exact ⟨rfl,(zae w _).alloc (by simp) _⟩
 ·have e:ze9 xs.length ys.length = 1:=zea (by omega)
  rw [e] at hv
  subst hv
  clear hne h
  go_enter Tryz.func112,Tryz.ntmps112
  go_wp2_with fail
  refine (zut _ _ _).mono ?_
  rw [e]
  rintro e' w' ⟨rfl,rfl⟩
  clear e
  go_wp2
  go_ret
  exact ⟨rfl,(zae w _).alloc (by simp) _⟩

theorem zuv (A B:Option Addr) (c c':Nat) (xs ys:List Nat) (w:World) (hx:SW w (.slice A xs.length c) xs) (hy:SW w (.slice B ys.length c') ys) (hl:xs.length = ys.length) :
  Calls Tryz.prog 112 #[.agg #[.slice A xs.length c], .agg #[.slice B ys.length c']] w fun e w' => e = .returned (.int .i64 (ze9 (nval xs) (nval ys))) ∧ Below w.heap.size w w':=by
 have hlen:=hx.len_le
 have e0:ze9 xs.length ys.length = 0:=zgN (by omega)
 have E0:=hid e0
 have HL:=hid hl
 clear e0
 have HX:=hid hx
 have HY:=hid hy
 have hbel:Below w.heap.size w ((w.alloc (.cells #[.slice A xs.length c] 31)).alloc (.cells #[.slice B ys.length c'] 31)):=(zae w _).alloc (by simp) _
 have HB:=hid hbel
 clear hx hy hl hbel
 go_enter Tryz.func112,Tryz.ntmps112
 go_wp2_with fail
 refine (zut _ _ _).mono ?_
 rw [E0.out]
 rintro e' w' ⟨rfl,rfl⟩
 go_wp2
 go_loopw [6] (fun i wr => ∃ (j q:Nat),i = .int .i64 ((j:Int) - 1) ∧ j ≤ xs.length ∧ xs.drop j = ys.drop j ∧ wr = (((w.alloc (.cells #[.slice A xs.length c] 31)).alloc (.cells #[.slice B ys.length c'] 31))).drewN q)
  (fun i _ => (intOf i + 1).toNat)
 case atStart =>
  exact ⟨xs.length,0,rfl,Nat.le_refl _,by rw [List.drop_eq_nil_of_le (Nat.le_refl _),List.drop_eq_nil_of_le (by rw [HL.out];exact Nat.le_refl _)],rfl⟩
 case round =>
  obtain ⟨j,q,rfl,hj,hd,rfl⟩:=hrel
  have HD:=hid hd
  clear hd
  rcases Nat.eq_zero_or_pos j with rfl | hpos
  ·have hres:ze9 (nval xs) (nval ys) = 0:=zgN (by have:=HD.out;simp at this;rw [this])
   have HR:=hid hres
   clear hres
   go_wp2
   go_ret
   exact ⟨zst (by rw [HR.out]),zhk HB.out q⟩
  ·have hjx:j - 1 < xs.length:=by omega
   have hjy:j - 1 < ys.length:=by have:=HL.out;omega
   rcases HX.out.form with ⟨h1,h2⟩ | ⟨g,cap,h1,hg,hcap,hm,hcx⟩
   ·exfalso;rw [h2] at hjx;simp at hjx
   rcases HY.out.form with ⟨h3,h4⟩ | ⟨g',cap',h3,hg',hcap',hm',hcy⟩
   ·exfalso;rw [h4] at hjy;simp at hjy
   injection h1 with hA _ hc1
   injection h3 with hB _ hc2
   subst hA hB hc1 hc2
   have cx:=cell_al (ob := .cells #[.slice (some ⟨g',0,none⟩) ys.length c'] 31) (cell_al (ob := .cells #[.slice (some ⟨g,0,none⟩) xs.length c] 31) (hcx (j - 1) hjx))
   have cy:=cell_al (ob := .cells #[.slice (some ⟨g',0,none⟩) ys.length c'] 31) (cell_al (ob := .cells #[.slice (some ⟨g,0,none⟩) xs.length c] 31) (hcy (j - 1) hjy))
   have b0:=cell_al (ob := .cells #[.slice (some ⟨g',0,none⟩) ys.length c'] 31) (zax (W:=w) (o:=0) (t:=31) (cs := #[.slice (some ⟨g,0,none⟩) xs.length c]) rfl rfl)
   have b1:=zax (W:=w.alloc (.cells #[.slice (some ⟨g,0,none⟩) xs.length c] 31)) (b:=w.heap.size + 1) (o:=0) (t:=31) (cs := #[.slice (some ⟨g',0,none⟩) ys.length c']) (by simp) rfl
   clear hcx hcy
   have hjx':(j:Int) - 1 < (xs.length:Int):=by omega
   have hjy':(j:Int) - 1 < (ys.length:Int):=by omega
   go_wp2_with fail
   go_region_held3 (fun w' => w'.cell? ⟨w.heap.size,0,none⟩ = some (.slice (some ⟨g,0,none⟩) xs.length c) ∧ w'.cell? ⟨w.heap.size + 1,0,none⟩ = some (.slice (some ⟨g',0,none⟩) ys.length c') ∧
     w'.cell? ⟨g,j - 1,none⟩ = some (.int .u64 ((wd xs (j - 1):Nat):Int)) ∧ w'.cell? ⟨g',j - 1,none⟩ = some (.int .u64 ((wd ys (j - 1):Nat):Int)))
    (first | ((try go_split_ands);(try simp only [World.cell?_drew,World.cell?_drewN]);(repeat' apply And.intro) <;> assumption) | go_keep)
    (first | (go_at_call 152;(with_reducible refine (zJ7 _ _ _).mono ?_);rintro e w' ⟨rfl,rfl⟩))
   have hd1:xs.drop (j - 1 + 1) = ys.drop (j - 1 + 1):=by rw [show j - 1 + 1 = j by omega];exact HD.out
   have HD1:=hid hd1
   clear hd1 cx cy b0 b1 hjx' hjy'
   rcases Nat.lt_trichotomy (wd xs (j - 1)) (wd ys (j - 1)) with h | h | h
   ·have hres:ze9 (nval xs) (nval ys) = -1:=zeb (by have:=zi7 HX.out.2 (j - 1) hjx hjy HD1.out h;omega)
    have HR:=hid hres
    have hr:ze9 ((wd xs (j - 1):Nat):Int) ((wd ys (j - 1):Nat):Int) = -1:=zeb (by omega)
    clear hres h
    rw [hr]
    clear hr
    go_wp2
    go_ret
    exact ⟨zst (by rw [HR.out]),zhk HB.out _⟩
   ·have hr:ze9 ((wd xs (j - 1):Nat):Int) ((wd ys (j - 1):Nat):Int) = 0:=zgN (by omega)
    have hd2:=hid (zoy (j - 1) hjx hjy HD1.out h)
    clear h
    rw [hr]
    clear hr
    go_wp2
    go_roundw
    case rel => exact ⟨j - 1,_,by congr 1;omega,by omega,hd2.out,rfl⟩
    case measure => simp [intOf];omega
   ·have hres:ze9 (nval xs) (nval ys) = 1:=zea (by have:=zi7 HY.out.2 (j - 1) hjy hjx HD1.out.symm h;omega)
    have HR:=hid hres
    have hr:ze9 ((wd xs (j - 1):Nat):Int) ((wd ys (j - 1):Nat):Int) = 1:=zea (by omega)
    clear hres h
    rw [hr]
    clear hr
    go_wp2
    go_ret
    exact ⟨zst (by rw [HR.out]),zhk HB.out _⟩

theorem cmp (A B:Option Addr) (m c m' c' a b:Nat) (w:World) (ha:zas w (.slice A m c) a) (hb:zas w (.slice B m' c') b) :
  Calls Tryz.prog 112 #[.agg #[.slice A m c], .agg #[.slice B m' c']] w fun e w' => e = .returned (.int .i64 (ze9 a b)) ∧ Below w.heap.size w w':=by
 obtain ⟨xs,hx,hcx,rfl,hlx,rfl⟩:=ha.words
 obtain ⟨ys,hy,hcy,rfl,hly,rfl⟩:=hb.words
 rcases Nat.lt_trichotomy xs.length ys.length with h | h | h
 ·have:=zgo hx.2 hcy h
  exact zuw A B c c' xs ys w (by omega) _ (by rw [zeb (by omega),zeb (by omega)])
 ·exact zuv A B c c' xs ys w hx hy h
 ·have:=zgo hy.2 hcx h
  exact zuw A B c c' xs ys w (by omega) _ (by rw [zea (by omega),zea (by omega)])
end Nt
namespace Nt
theorem sub_no (A B:Option Addr) (m c m' c' a b:Nat) (w:World) (ha:zas w (.slice A m c) a) (hb:zas w (.slice B m' c') b) (hlt:a < b) :
  Calls Tryz.prog 121 #[.agg #[.slice A m c], .agg #[.slice B m' c']] w (zjL w 0 false):=by
 have e:ze9 a b = -1:=zeb (by omega)
 have hA:=hid (((ha.alloc (.cells #[.slice A m c] 31)).alloc (.cells #[.slice B m' c'] 31)).alloc (.cells #[.slice none 0 0] 31))
 have hB:=hid (((hb.alloc (.cells #[.slice A m c] 31)).alloc (.cells #[.slice B m' c'] 31)).alloc (.cells #[.slice none 0 0] 31))
 have E:=hid e
 clear ha hb hlt e
 go_enter Tryz.func121,Tryz.ntmps121
 go_wp2_with fail
 refine (cmp A B m c m' c' a b _ hA.out hB.out).mono ?_
 rw [E.out]
 rintro e' w1 ⟨rfl,hb1⟩
 have hk:=zad hb1 (zam (W:=((w.alloc (.cells #[.slice A m c] 31)).alloc (.cells #[.slice B m' c'] 31))) (b:=w.heap.size + 1 + 1) (cs := #[.slice none 0 0]) (t:=31) (by simp))
 have hc:w1.cell? ⟨w.heap.size + 1 + 1,0,none⟩ = some (.slice none 0 0):=zac hk 0
 have hf:=zag hk 0
 clear hk
 go_wp2
 refine bodyPost_ret (v := .tuple #[.agg #[.slice none 0 0], .bool false]) (by simp [results,Tryz.results121,go_sem,hc]) rfl ?_
 refine ⟨_,_,_,rfl,zas.zero _,Below.setCell ?_ (by simp;omega) _⟩
 exact bstep (((zae w _).alloc (by simp) _).alloc (by simp;omega) _) hb1 (by simp;omega)

theorem sub_ok (A B:Option Addr) (m c m' c' a b:Nat) (w:World) (ha:zas w (.slice A m c) a) (hb:zas w (.slice B m' c') b) (hle:b ≤ a) (hla:wlen a ≤ LIM) :
  Calls Tryz.prog 121 #[.agg #[.slice A m c], .agg #[.slice B m' c']] w (zjL w (a - b) true):=by
 have hcn:ze9 a b = 0 ∨ ze9 a b = 1:=by
  rcases Nat.lt_or_ge b a with h | h
  ·exact .inr (zea (by omega))
  ·exact .inl (zgN (by omega))
 have hA:=hid (((ha.alloc (.cells #[.slice A m c] 31)).alloc (.cells #[.slice B m' c'] 31)).alloc (.cells #[.slice none 0 0] 31))
 have hB:=hid (((hb.alloc (.cells #[.slice A m c] 31)).alloc (.cells #[.slice B m' c'] 31)).alloc (.cells #[.slice none 0 0] 31))
 obtain ⟨xs,hx,hcx,rfl,hlx,rfl⟩:=ha.words
 obtain ⟨ys,hy,hcy,rfl,hly,rfl⟩:=hb.words
 have hlyx:ys.length ≤ xs.length:=by rw [hlx,hly];exact zco hle
 rw [← hlx] at hla
 clear hlx hly ha hb
 have HLE:=hid hle
 have HLYX:=hid hlyx
 have HX:=hid hx
 have HY:=hid hy
 have HLA:=hid hla
 have g1:=hid (show xs.length ≤ 16 * LIM by omega)
 clear hx hy hcx hcy hle hlyx hla
 generalize hcv:ze9 (nval xs) (nval ys) = cv at hcn
 have HCV:=hid hcv
 clear hcv
 go_enter Tryz.func121,Tryz.ntmps121
 go_wp2_with fail
 refine (cmp A B _ c _ c' _ _ _ hA.out hB.out).mono ?_
 rw [HCV.out]
 rintro e' w1 ⟨rfl,hb1⟩
 have hz1:=hb1.size
 simp at hz1
 have hk:=zad hb1 (zam (W:=((w.alloc (.cells #[.slice A xs.length c] 31)).alloc (.cells #[.slice B ys.length c'] 31))) (b:=w.heap.size + 1 + 1) (cs := #[.slice none 0 0]) (t:=31) (by simp))
 have k0:=zad hb1 (zak (ob := .cells #[.slice none 0 0] 31) (zak (ob := .cells #[.slice B ys.length c'] 31) (zam (W:=w) (b:=w.heap.size) (cs := #[.slice A xs.length c]) (t:=31) rfl)))
 have k1:=zad hb1 (zak (ob := .cells #[.slice none 0 0] 31) (zam (W:=w.alloc (.cells #[.slice A xs.length c] 31)) (b:=w.heap.size + 1) (cs := #[.slice B ys.length c']) (t:=31) (by simp)))
 have hbel:Below w.heap.size w w1:=bstep (((zae w _).alloc (by simp) _).alloc (by simp;omega) _) hb1 (by simp;omega)
 have c0:w1.cell? ⟨w.heap.size,0,none⟩ = some (.slice A xs.length c):=zac k0 0
 have c1:w1.cell? ⟨w.heap.size + 1,0,none⟩ = some (.slice B ys.length c'):=zac k1 0
 have HK:=hid hk
 have HB1:=hid hbel
 have HX1:=hid (HX.out.below hbel)
 have HY1:=hid (HY.out.below hbel)
 clear hk k0 k1 hbel hb1
 have hcv0:¬ cv < 0:=by omega
 clear hcn
 go_wp2_with (at_make;go_must (refine zdz rfl _ _ rfl xs.length _ rfl rfl rfl g1.out w1.heap.size rfl ?_))
 intro w2 ho
 have HO:=hid ho
 clear ho
 go_wp2
 go_loopw [7,20] (fun cy i wr => ∃ (j C:Nat) (os:List Nat),i = .int .i64 j ∧ cy = .int .u64 C ∧ j ≤ xs.length ∧ SubInv xs ys os j C ∧ OutAt w1 wr w1.heap.size xs.length os)
  (fun _ i _ => xs.length - (intOf i).toNat)
 case atStart => exact ⟨0,0,List.replicate xs.length 0,rfl,rfl,Nat.zero_le _,SubInv.start xs ys _,HO.out⟩
 case round =>
  obtain ⟨j,C,os,rfl,rfl,hj,hI,hO⟩:=hrel
  have HI:=hid hI
  have HO2:=hid hO
  have hC:=hI.one
  have hXr:=hid (hO.keep HX1.out (Nat.le_refl _))
  have hYr:=hid (hO.keep HY1.out (Nat.le_refl _))
  have hc0:=hO.old (by omega) c0
  have hc1:=hO.old (by omega) c1
  have hx1:=zdM HX.out.2 j
  have hy1:=zdM HY.out.2 j
  clear hI
  by_cases hlt:j < xs.length
  ·rcases hXr.out.form with ⟨h1,h2⟩ | ⟨g,cap,h1,hg,hcap,hm,hcx⟩
   ·exfalso;rw [h2] at hlt;simp at hlt
   injection h1 with hA' _ hc1'
   subst hA' hc1'
   have hxc:=hcx j hlt
   have hcell:=hO.cell hlt
   have hfro:=hO.fro j
   have hsz:=hO.lt
   have hnb:xs.length ≤ 9223372036854775807:=by have:=HLA.out;have:=zaP;omega
   have hi1:(0:Int) ≤ (j:Int):=Int.natCast_nonneg _
   have hi2:(j:Int) < (xs.length:Int):=by omega
   have q1:=cell_al (ob := .cells #[.slice B ys.length c'] 31) hcell
   have q2:=zd1 (ob := .cells #[.slice B ys.length c'] 31) hsz hfro
   have hgne:g ≠ w1.heap.size:=by
    have:=HX1.out.block (k:=g) rfl
    omega
   clear hO hcx hcell hfro
   go_wp2_with fail
   go_region_held3 (fun w' => w'.cell? ⟨w.heap.size,0,none⟩ = some (.slice (some ⟨g,0,none⟩) xs.length c) ∧ w'.cell? ⟨w.heap.size + 1,0,none⟩ = some (.slice B ys.length c') ∧
     w'.cell? ⟨g,j,none⟩ = some (.int .u64 ((wd xs j:Nat):Int)))
    (first | ((try go_split_ands);(try simp only [World.cell?_drew]);(repeat' apply And.intro) <;> (first | assumption | exact cell_al (by assumption) | exact cell_set (by first | omega | assumption) (by assumption) | exact cell_al (cell_set (by first | omega | assumption) (by assumption)))) | go_keep)
    (first
     | (go_at_call 157;(with_reducible refine (word (.slice B ys.length c') ys _ (by omega) _ ?_).mono ?_);(exact hYr.out.drew);rintro e w' ⟨rfl,rfl⟩)
     | (go_at_call 161;(with_reducible refine (Word.sub (wd xs j) (wd ys j) C (by assumption) (by assumption) (by assumption) _).mono ?_);rintro e w' ⟨rfl,rfl⟩))
   go_wp2
   go_roundw
   case rel => exact ⟨j + 1,_,_,by go_num,rfl,by omega,HI.out.next (by rw [HO2.out.len];exact hlt) HX.out.2 HY.out.2,((HO2.out.store j _).alloc _).drew⟩
   case measure => simp [intOf];omega
  ·obtain rfl:j = xs.length:=by omega
   have hv:=HI.out.done (Nat.le_refl _) HLYX.out HLE.out (by rw [HO2.out.len];exact Nat.le_refl _)
   have hs:=hO.sw HI.out.wds
   have hb0:=hO.bel
   have HV:=hid hv
   have HS:=hid hs
   have HB:=hid hb0
   have hsz:=hO.lt
   clear hv hs hb0 hO
   go_wp2_with fail
   refine (trim _ os _ HS.out).mono ?_
   rintro e w3 ⟨A2,m2,c2,rfl,hs2,hb2⟩
   have hk:=zad hb2 ((HB.out.block (w.heap.size + 1 + 1) (by omega)).trans HK.out)
   have hc:w3.cell? ⟨w.heap.size + 1 + 1,0,none⟩ = some (.slice none 0 0):=zac hk 0
   have hf:=zag hk 0
   have HK3:=hid hk
   have h1:=hb2.size
   clear hk
   go_wp2
   refine bodyPost_ret (v := .tuple #[.agg #[.slice A2 m2 c2], .bool true]) (by simp [results,Tryz.results121,go_sem,hc]) rfl ?_
   rw [HV.out] at hs2
   refine ⟨_,_,_,rfl,hs2.setCell (p:=⟨w.heap.size + 1 + 1,0,none⟩) HK3.out (by decide) _,Below.setCell ?_ (by simp;omega) _⟩
   exact bstep (HB1.out.trans (HB.out.mono (by omega))) hb2 (by omega)
end Nt
end Go.Proofs.YtdbgbaiekpbaoaaGreatDoor
namespace Go.Proofs.YtdbgbaiekpbaoaaGreatDoor
open Go.RowKit Am
open Lib (hid)
attribute [local go_sem ↓] Go.wp_at_zero Go.wp_at_succ
set_option maxHeartbeats 1000000
set_option maxRecDepth 100000
namespace Nt
theorem zd3 (k:Nat):((2:Int) ^ k) = ((2 ^ k:Nat):Int):=by simp
theorem zAk (x s:Nat) (hs:s < 64):(x:Int) / 2 ^ (64 - s) = ((zBd x s:Nat):Int):=by
 rw [zd3, ← Int.natCast_ediv,zoZ hs];rfl
theorem zAl (o x s:Nat) (hs:s < 64) (ho:o < 2 ^ s):bits BinOp.or IntKind.u64 (o:Int) (IntKind.u64.wrap ((x:Int) * 2 ^ s)) = ((zxB o x s:Nat):Int):=by
 have h4:(2:Nat) ^ s < 18446744073709551616:=by
  have : (2:Nat) ^ s < 2 ^ 64:=Nat.pow_lt_pow_right (by decide) hs
  omega
 have e:=pow64_split s (by omega)
 have h1:x * 2 ^ s % B64 = 2 ^ s * (x % 2 ^ (64 - s)):=by rw [e,Nat.mul_comm x,Nat.mul_mod_mul_left]
 rw [zd3, ← Int.natCast_mul,IntKind.wrap_u64]
 have e2:((x * 2 ^ s:Nat):Int) % 18446744073709551616 = ((x * 2 ^ s % B64:Nat):Int):=(Int.natCast_emod _ _).symm
 rw [e2,u64_or_nat _ _ (by omega) (Nat.mod_lt _ (by decide)),h1,Nat.mul_comm (2 ^ s),zvd ho]
 unfold zxB
 rw [h1,Nat.mul_comm (2 ^ s)]
theorem shl (A:Option Addr) (m c a s:Nat) (w:World) (ha:zas w (.slice A m c) a) (hs:s < 64) (hla:wlen a ≤ LIM) :
  Calls Tryz.prog 185 #[.agg #[.slice A m c], .int .i64 (s:Int)] w (zjL w (a * 2 ^ s) true):=by
 obtain ⟨xs,hx,hcx,rfl,hlx,rfl⟩:=ha.words
 rw [← hlx] at hla
 have HX:=hid hx
 have hnb:xs.length + 1 ≤ 9223372036854775807:=by have:=zaP;omega
 have g1:=hid (show xs.length + 1 ≤ 16 * LIM by have:=zaP;omega)
 clear ha hlx hx hcx hla
 have hq:(s:Int) / 64 = 0:=by omega
 have hr:(s:Int) % 64 = (s:Int):=by omega
 have d1:decide ((s:Int) < 0) = false:=by rw [decide_eq_false_iff_not];omega
 have d2:decide ((65536:Int) < (s:Int)) = false:=by rw [decide_eq_false_iff_not];omega
 go_enter Tryz.func185,Tryz.ntmps185
 go_wp2_with (at_make;go_must (refine zdz rfl _ _ rfl (xs.length + 1) _ rfl rfl (by simp) g1.out (w.heap.size + 1 + 1) (by simp) ?_))
 intro w1 ho
 have HO:=hid ho
 clear ho
 have c0:=HO.out.old (b:=w.heap.size) (o:=0) (v := .slice A xs.length c) (by omega) (cell_al (zax rfl rfl))
 have HX0:=hid ((HX.out.alloc (.cells #[.slice A xs.length c] 31)).alloc (.cells #[.slice none 0 0] 31))
 go_wp2
 simp only [hr]
 clear hr hq
 have hq:(s:Int) / 64 = 0:=by omega
 go_loopw [30] (fun i wr => ∃ (j:Nat) (os:List Nat),i = .int .i64 j ∧ j ≤ xs.length ∧ ShlInv xs os 0 s j ∧
   OutAt ((w.alloc (.cells #[.slice A xs.length c] 31)).alloc (.cells #[.slice none 0 0] 31)) wr (w.heap.size + 1 + 1) (xs.length + 1) os)
  (fun i _ => xs.length - (intOf i).toNat)
 case atStart => exact ⟨0,List.replicate (xs.length + 1) 0,rfl,Nat.zero_le _,ShlInv.start xs 0 s _,HO.out⟩
 case round =>
  obtain ⟨j,os,rfl,hj,hI,hO⟩:=hrel
  have HI:=hid hI
  have HO2:=hid hO
  clear c0
  by_cases hlt:j < xs.length
  ·rcases HX0.out.form with ⟨h1,h2⟩ | ⟨g,cap,h1,hg,hcap,hm,hcx⟩
   ·exfalso;rw [h2] at hlt;simp at hlt
   injection h1 with hA' _ hc1'
   subst hA' hc1'
   simp at hg
   have hxc:=hO.old (by omega) (hcx j hlt)
   have hcell:=hO.cell (k:=j) (by omega)
   have hcell1:=hO.cell (k:=j + 1) (by omega)
   have hfro:=hO.fro j
   have hfro1:=hO.fro (j + 1)
   have hlow:wd os j < 2 ^ s:=hI.low
   have rLo:=zAl (wd os j) (wd xs j) s hs hlow
   have rHi:=zAk (wd xs j) s hs
   have hi1:(0:Int) ≤ (j:Int):=Int.natCast_nonneg _
   have hi2:(j:Int) < (xs.length:Int):=by omega
   clear hO hI hcx
   go_wp2_with fail
   go_region
   go_wp2
   go_roundw
   case rel => exact ⟨j + 1,_,by go_num,by omega,HI.out.next HX.out.2 hs (by rw [HO2.out.len];omega),((HO2.out.store j _).store (j + 1) _).drew⟩
   case measure => simp [intOf];omega
  ·obtain rfl:j = xs.length:=by omega
   have hv:nval os = nval xs * 2 ^ s:=by
    have:=HI.out.eq
    rw [List.take_of_length_le (Nat.le_refl _)] at this
    simpa using this
   have hs:=hO.sw HI.out.wds
   have hb0:=hO.bel
   have HV:=hid hv
   have HS:=hid hs
   have HB:=hid hb0
   have hsz:=hO.lt
   clear hv hs hb0 hO hI
   go_wp2_with fail
   refine (trim _ os _ HS.out).mono ?_
   rintro e w3 ⟨A2,m2,c2,rfl,hs2,hb2⟩
   have hk:=zad hb2 ((HB.out.block (w.heap.size + 1) (by omega)).trans (zam (by simp)))
   have hc:w3.cell? ⟨w.heap.size + 1,0,none⟩ = some (.slice none 0 0):=zac hk 0
   have hf:=zag hk 0
   have HK3:=hid hk
   have h1:=hb2.size
   have h0:=HB.out.size
   simp at h0
   clear hk
   go_wp2
   refine bodyPost_ret (v := .tuple #[.agg #[.slice A2 m2 c2], .bool true]) (by simp [results,Tryz.results185,go_sem,hc]) rfl ?_
   rw [HV.out] at hs2
   refine ⟨_,_,_,rfl,hs2.setCell (p:=⟨w.heap.size + 1,0,none⟩) HK3.out (by decide) _,Below.setCell ?_ (by simp) _⟩
   exact bstep (((zae w _).alloc (by simp) _).trans (HB.out.mono (by omega))) hb2 (by omega)
end Nt
namespace Nt
structure ShrInv (xs os:List Nat) (s j:Nat):Prop where
  wds:Wds os
  eq:∀ i,i < j → wd os i = nval xs / 2 ^ s / B64 ^ i % B64
theorem zBh (x y s:Nat) (hs:s < 64) (hx:x < 18446744073709551616):zBf x y s < 18446744073709551616:=by
 have e:=pow64_split s (by omega)
 have h1:y * 2 ^ (64 - s) % B64 = 2 ^ (64 - s) * (y % 2 ^ s):=by rw [e,Nat.mul_comm (2 ^ s),Nat.mul_comm y,Nat.mul_mod_mul_left]
 have h2:x / 2 ^ s < 2 ^ (64 - s):=by
  rw [Nat.div_lt_iff_lt_mul (Nat.pow_pos (by decide)),Nat.mul_comm, ← e];exact hx
 have h3:y % 2 ^ s < 2 ^ s:=Nat.mod_lt _ (Nat.pow_pos (by decide))
 have h4:2 ^ (64 - s) * (y % 2 ^ s + 1) ≤ 2 ^ (64 - s) * 2 ^ s:=Nat.mul_le_mul_left _ h3
 rw [Nat.mul_add,Nat.mul_one,Nat.mul_comm _ (2 ^ s), ← e] at h4
 unfold zBf
 rw [h1]
 have : B64 = 18446744073709551616:=rfl
 omega
theorem zDd (x y s:Nat) (hs:s < 64) (hx:x < 18446744073709551616) :
  bits BinOp.or IntKind.u64 ((x:Int) / 2 ^ s) (IntKind.u64.wrap ((y:Int) * 2 ^ (64 - s))) = ((zBf x y s:Nat):Int):=by
 have e:=pow64_split s (by omega)
 have h1:y * 2 ^ (64 - s) % B64 = (y % 2 ^ s) * 2 ^ (64 - s):=by rw [e,Nat.mul_comm (2 ^ s),Nat.mul_comm y,Nat.mul_mod_mul_left,Nat.mul_comm]
 have h2:x / 2 ^ s < 2 ^ (64 - s):=by
  rw [Nat.div_lt_iff_lt_mul (Nat.pow_pos (by decide)),Nat.mul_comm, ← e];exact hx
 rw [zd3,zd3, ← Int.natCast_mul, ← Int.natCast_ediv,IntKind.wrap_u64]
 have e2:((y * 2 ^ (64 - s):Nat):Int) % 18446744073709551616 = ((y * 2 ^ (64 - s) % B64:Nat):Int):=(Int.natCast_emod _ _).symm
 rw [e2,u64_or_nat _ _ (Nat.lt_of_le_of_lt (Nat.div_le_self _ _) hx) (Nat.mod_lt _ (by decide)),h1,zvd h2]
 unfold zBf
 rw [h1]
theorem ShrInv.next {xs os:List Nat} {s j:Nat} (h:ShrInv xs os s j) (hx:Wds xs) (hs:s < 64) (hj:j < os.length):ShrInv xs (os.set j (zBf (wd xs j) (wd xs (j + 1)) s)) s (j + 1):=by
 refine ⟨h.wds.set _ _ (zBh _ _ _ hs (zdM hx j)),fun i hi => ?_⟩
 unfold wd
 rw [zcU _ _ _ _ hj]
 by_cases e:i = j
 ·subst e;rw [if_pos rfl];exact zBg hx i s hs
 ·rw [if_neg e];exact h.eq i (by omega)
theorem ShrInv.done {xs os:List Nat} {s:Nat} (h:ShrInv xs os s os.length) (hx:Wds xs) (hl:xs.length = os.length):nval os = nval xs / 2 ^ s:=by
 apply znM h.eq
 have:=zc8 xs hx
 rw [hl] at this
 exact Nat.lt_of_le_of_lt (Nat.div_le_self _ _) this

theorem shr (A:Option Addr) (m c a s:Nat) (w:World) (ha:zas w (.slice A m c) a) (hs:s < 64) (hla:wlen a ≤ LIM) :
  Calls Tryz.prog 189 #[.agg #[.slice A m c], .int .i64 (s:Int)] w (zc0 w (a / 2 ^ s)):=by
 obtain ⟨xs,hx,hcx,rfl,hlx,rfl⟩:=ha.words
 rw [← hlx] at hla
 have HX:=hid hx
 have HLA:=hid hla
 have hnb:xs.length + 1 ≤ 9223372036854775807:=by have:=zaP;omega
 have g1:=hid (show xs.length ≤ 16 * LIM by have:=zaP;omega)
 have hq:(s:Int) / 64 = 0:=by omega
 have hr:(s:Int) % 64 = (s:Int):=by omega
 have d1:decide ((s:Int) < 0) = false:=by rw [decide_eq_false_iff_not];omega
 clear ha hlx hx hla
 by_cases h0:xs.length = 0
 ·have hx0:xs = []:=List.length_eq_zero_iff.1 h0
  subst hx0
  clear hcx h0 hr g1
  go_enter Tryz.func189,Tryz.ntmps189
  go_wp2
  refine bodyPost_ret (v := .agg #[.slice none 0 0]) (by simp [results,Tryz.results189,go_sem]) rfl ⟨_,_,_,rfl,?_,((zae w _).alloc (by simp) _)⟩
  simpa [nval] using zas.zero _
 ·have d2:decide ((xs.length:Int) ≤ 0) = false:=by rw [decide_eq_false_iff_not];omega
  clear hcx
  go_enter Tryz.func189,Tryz.ntmps189
  go_wp2_with (at_make;go_must (refine zdz rfl _ _ rfl xs.length _ rfl rfl (by simp) g1.out (w.heap.size + 1 + 1) (by simp) ?_))
  intro w1 ho
  have HO:=hid ho
  clear ho
  have HX0:=hid ((HX.out.alloc (.cells #[.slice A xs.length c] 31)).alloc (.cells #[.slice none 0 0] 31))
  go_wp2
  simp only [hr]
  clear hr hq
  have hq:(s:Int) / 64 = 0:=by omega
  go_loopw [30] (fun i wr => ∃ (j:Nat) (os:List Nat),i = .int .i64 j ∧ j ≤ xs.length ∧ ShrInv xs os s j ∧
    OutAt ((w.alloc (.cells #[.slice A xs.length c] 31)).alloc (.cells #[.slice none 0 0] 31)) wr (w.heap.size + 1 + 1) xs.length os)
   (fun i _ => xs.length - (intOf i).toNat)
  case atStart => exact ⟨0,List.replicate xs.length 0,rfl,Nat.zero_le _,⟨Wds.replicate _,fun i hi => by omega⟩,HO.out⟩
  case round =>
   obtain ⟨j,os,rfl,hj,hI,hO⟩:=hrel
   have HI:=hid hI
   have HO2:=hid hO
   by_cases hlt:j < xs.length
   ·have hXr:=hid (hO.keep HX0.out (by simp))
    have hc0:=hO.old (b:=w.heap.size) (o:=0) (v := .slice A xs.length c) (by omega) (cell_al (zax rfl rfl))
    have hcell:=hO.cell hlt
    have hfro:=hO.fro j
    have hsz:=hO.lt
    have hx1:=zdM HX.out.2 j
    have rW:=zDd (wd xs j) (wd xs (j + 1)) s hs hx1
    have hi1:(0:Int) ≤ (j:Int):=Int.natCast_nonneg _
    have hi2:(j:Int) < (xs.length:Int):=by omega
    have q1:=cell_al (ob := .cells #[.slice A xs.length c] 31) (cell_al (ob := .cells #[.slice A xs.length c] 31) hcell)
    have q2:=zd1 (ob := .cells #[.slice A xs.length c] 31) (zxk (ob := .cells #[.slice A xs.length c] 31) hsz) (zd1 (ob := .cells #[.slice A xs.length c] 31) hsz hfro)
    clear hO hI hcell hfro
    have hi4:(0:Int) ≤ (j:Int) + 1:=by omega
    have hne:w.heap.size ≠ w.heap.size + 1 + 1:=by omega
    have s3:(64 - (s:Int)).toNat = 64 - s:=by omega
    go_wp2_with fail
    have z0:IntKind.i64.wrap 0 = 0:=rfl
    have z1:IntKind.i64.wrap (j:Int) = (j:Int):=IntWalk.i64_in _ (by omega)
    have z2:IntKind.i64.wrap ((j:Int) + 1) = (j:Int) + 1:=IntWalk.i64_in _ (by omega)
    have z3:IntKind.i64.wrap (64 - (s:Int)) = 64 - (s:Int):=IntWalk.i64_in _ (by omega)
    go_region_held3 (fun w' => w'.cell? ⟨w.heap.size,0,none⟩ = some (.slice A xs.length c))
     (first | ((try go_split_ands);(try simp only [World.cell?_drew]);(repeat' apply And.intro) <;> (first | assumption | exact cell_al (by assumption) | exact cell_set (by assumption) (by assumption) | exact cell_al (cell_set (by assumption) (by assumption)) | exact cell_al (cell_al (cell_set (by assumption) (by assumption))))) | go_keep)
     (first
      | (go_at_call 157;(with_reducible refine (word (.slice A xs.length c) xs _ (by assumption) _ ?_).mono ?_);(first | exact hXr.out.drew | exact (hXr.out.alloc _).drew);rintro e w' ⟨rfl,rfl⟩))
    clear z0 z1 z2 z3
    go_wp2
    go_roundw
    case rel => exact ⟨j + 1,_,by go_num,by omega,HI.out.next HX.out.2 hs (by rw [HO2.out.len];exact hlt),(((HO2.out.alloc _).alloc _).store j _).drew⟩
    case measure => simp [intOf];omega
   ·obtain rfl:j = xs.length:=by omega
    have hv:nval os = nval xs / 2 ^ s:=ShrInv.done (by rw [hO.len];exact hI) HX.out.2 hO.len.symm
    have hs:=hO.sw HI.out.wds
    have hb0:=hO.bel
    have HV:=hid hv
    have HS:=hid hs
    have HB:=hid hb0
    have hsz:=hO.lt
    clear hv hs hb0 hO hI
    go_wp2_with fail
    refine (trim _ os _ HS.out).mono ?_
    rintro e w3 ⟨A2,m2,c2,rfl,hs2,hb2⟩
    have hk:=zad hb2 ((HB.out.block (w.heap.size + 1) (by omega)).trans (zam (by simp)))
    have hc:w3.cell? ⟨w.heap.size + 1,0,none⟩ = some (.slice none 0 0):=zac hk 0
    have hf:=zag hk 0
    have HK3:=hid hk
    have h0:=HB.out.size
    simp at h0
    clear hk
    go_wp2
    refine bodyPost_ret (v := .agg #[.slice A2 m2 c2]) (by simp [results,Tryz.results189,go_sem,hc]) rfl ?_
    rw [HV.out] at hs2
    refine ⟨_,_,_,rfl,hs2.setCell (p:=⟨w.heap.size + 1,0,none⟩) HK3.out (by decide) _,Below.setCell ?_ (by simp) _⟩
    exact bstep (((zae w _).alloc (by simp) _).trans (HB.out.mono (by omega))) hb2 (by omega)
end Nt
end Go.Proofs.YtdbgbaiekpbaoaaGreatDoor
