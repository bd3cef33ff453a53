/- cmp.Compare,nat.Cmp by their contracts. Conditions: as each says. -/
import Derived.Test.YtdbgbaiekpbaoaaGreatDoorOutZp
namespace Go.Proofs.YtdbgbaiekpbaoaaGreatDoor
open Go.RowKit Am
open Lib (hid)
attribute [local go_sem ↓] Go.wp_at_zero Go.wp_at_succ
set_option maxHeartbeats 400000
set_option maxRecDepth 100000
def ze9 (a b:Int):Int:=if a < b then -1 else if b < a then 1 else 0
theorem zeb {a b:Int} (h:a < b):ze9 a b = -1:=by unfold ze9;rw [if_pos h]
theorem zea {a b:Int} (h:b < a):ze9 a b = 1:=by unfold ze9;rw [if_neg (by omega),if_pos h]
theorem zgN {a b:Int} (h:a = b):ze9 a b = 0:=by unfold ze9;rw [if_neg (by omega),if_neg (by omega)]
namespace Nt
theorem zut (a b:Int) (w:World):Calls Tryz.prog 151 #[.int .i64 a, .int .i64 b] w fun e w' => e = .returned (.int .i64 (ze9 a b)) ∧ w = w':=by
 rcases Int.lt_trichotomy a b with h | h | h
 ·have E:=hid (zeb h)
  go_enter Tryz.func151,Tryz.ntmps151
  go_wp2
  go_ret
  exact ⟨zst (by rw [E.out]),rfl⟩
 ·subst h
  have E:=hid (zgN (a:=a) rfl)
  go_enter Tryz.func151,Tryz.ntmps151
  go_wp2
  go_ret
  exact ⟨zst (by rw [E.out]),rfl⟩
 ·have E:=hid (zea h)
  go_enter Tryz.func151,Tryz.ntmps151
  go_wp2
  go_ret
  exact ⟨zst (by rw [E.out]),rfl⟩
theorem zJ7 (a b:Int) (w:World):Calls Tryz.prog 152 #[.int .u64 a, .int .u64 b] w fun e w' => e = .returned (.int .i64 (ze9 a b)) ∧ w = w':=by
 rcases Int.lt_trichotomy a b with h | h | h
 ·have E:=hid (zeb h)
  go_enter Tryz.func152,Tryz.ntmps152
  go_wp2
  go_ret
  exact ⟨zst (by rw [E.out]),rfl⟩
 ·subst h
  have E:=hid (zgN (a:=a) rfl)
  go_enter Tryz.func152,Tryz.ntmps152
  go_wp2
  go_ret
  exact ⟨zst (by rw [E.out]),rfl⟩
 ·have E:=hid (zea h)
  go_enter Tryz.func152,Tryz.ntmps152
  go_wp2
  go_ret
  exact ⟨zst (by rw [E.out]),rfl⟩

theorem zuw (A B:Option Addr) (c c':Nat) (xs ys:List Nat) (w:World) (hne:xs.length ≠ ys.length) (v:Int) (hv:v = ze9 xs.length ys.length) :
  Calls Tryz.prog 112 #[.agg #[.slice A xs.length c], .agg #[.slice B ys.length c']] w fun e w' => e = .returned (.int .i64 v) ∧ Below w.heap.size w w':=by
 rcases Nat.lt_or_ge xs.length ys.length with h | h
 ·have e:ze9 xs.length ys.length = -1:=zeb (by omega)
  rw [e] at hv
  subst hv
  clear hne h
  go_enter Tryz.func112,Tryz.ntmps112
  go_wp2_with fail
  refine (zut _ _ _).mono ?_
  rw [e]
  rintro e' w' ⟨rfl,rfl⟩
  clear e
  go_wp2
  go_ret
  exact ⟨rfl,(zae w _).alloc (by simp) _⟩
 ·have e:ze9 xs.length ys.length = 1:=zea (by omega)
  rw [e] at hv
  subst hv
  clear hne h
  go_enter Tryz.func112,Tryz.ntmps112
  go_wp2_with fail
  refine (zut _ _ _).mono ?_
  rw [e]
  rintro e' w' ⟨rfl,rfl⟩
  clear e
  go_wp2
  go_ret
  exact ⟨rfl,(zae w _).alloc (by simp) _⟩

theorem zuv (A B:Option Addr) (c c':Nat) (xs ys:List Nat) (w:World) (hx:SW w (.slice A xs.length c) xs) (hy:SW w (.slice B ys.length c') ys) (hl:xs.length = ys.length) :
  Calls Tryz.prog 112 #[.agg #[.slice A xs.length c], .agg #[.slice B ys.length c']] w fun e w' => e = .returned (.int .i64 (ze9 (nval xs) (nval ys))) ∧ Below w.heap.size w w':=by
 have hlen:=hx.len_le
 have e0:ze9 xs.length ys.length = 0:=zgN (by omega)
 have E0:=hid e0
 have HL:=hid hl
 clear e0
 have HX:=hid hx
 have HY:=hid hy
 have hbel:Below w.heap.size w ((w.alloc (.cells #[.slice A xs.length c] 31)).alloc (.cells #[.slice B ys.length c'] 31)):=(zae w _).alloc (by simp) _
 have HB:=hid hbel
 clear hx hy hl hbel
 go_enter Tryz.func112,Tryz.ntmps112
 go_wp2_with fail
 refine (zut _ _ _).mono ?_
 rw [E0.out]
 rintro e' w' ⟨rfl,rfl⟩
 go_wp2
 go_loopw [6] (fun i wr => ∃ (j q:Nat),i = .int .i64 ((j:Int) - 1) ∧ j ≤ xs.length ∧ xs.drop j = ys.drop j ∧ wr = (((w.alloc (.cells #[.slice A xs.length c] 31)).alloc (.cells #[.slice B ys.length c'] 31))).drewN q)
  (fun i _ => (intOf i + 1).toNat)
 case atStart =>
  exact ⟨xs.length,0,rfl,Nat.le_refl _,by rw [List.drop_eq_nil_of_le (Nat.le_refl _),List.drop_eq_nil_of_le (by rw [HL.out];exact Nat.le_refl _)],rfl⟩
 case round =>
  obtain ⟨j,q,rfl,hj,hd,rfl⟩:=hrel
  have HD:=hid hd
  clear hd
  rcases Nat.eq_zero_or_pos j with rfl | hpos
  ·have hres:ze9 (nval xs) (nval ys) = 0:=zgN (by have:=HD.out;simp at this;rw [this])
   have HR:=hid hres
   clear hres
   go_wp2
   go_ret
   exact ⟨zst (by rw [HR.out]),zhk HB.out q⟩
  ·have hjx:j - 1 < xs.length:=by omega
   have hjy:j - 1 < ys.length:=by have:=HL.out;omega
   rcases HX.out.form with ⟨h1,h2⟩ | ⟨g,cap,h1,hg,hcap,hm,hcx⟩
   ·exfalso;rw [h2] at hjx;simp at hjx
   rcases HY.out.form with ⟨h3,h4⟩ | ⟨g',cap',h3,hg',hcap',hm',hcy⟩
   ·exfalso;rw [h4] at hjy;simp at hjy
   injection h1 with hA _ hc1
   injection h3 with hB _ hc2
   subst hA hB hc1 hc2
   have cx:=cell_al (ob := .cells #[.slice (some ⟨g',0,none⟩) ys.length c'] 31) (cell_al (ob := .cells #[.slice (some ⟨g,0,none⟩) xs.length c] 31) (hcx (j - 1) hjx))
   have cy:=cell_al (ob := .cells #[.slice (some ⟨g',0,none⟩) ys.length c'] 31) (cell_al (ob := .cells #[.slice (some ⟨g,0,none⟩) xs.length c] 31) (hcy (j - 1) hjy))
   have b0:=cell_al (ob := .cells #[.slice (some ⟨g',0,none⟩) ys.length c'] 31) (zax (W:=w) (o:=0) (t:=31) (cs := #[.slice (some ⟨g,0,none⟩) xs.length c]) rfl rfl)
   have b1:=zax (W:=w.alloc (.cells #[.slice (some ⟨g,0,none⟩) xs.length c] 31)) (b:=w.heap.size + 1) (o:=0) (t:=31) (cs := #[.slice (some ⟨g',0,none⟩) ys.length c']) (by simp) rfl
   clear hcx hcy
   have hjx':(j:Int) - 1 < (xs.length:Int):=by omega
   have hjy':(j:Int) - 1 < (ys.length:Int):=by omega
   go_wp2_with fail
   go_region_held3 (fun w' => w'.cell? ⟨w.heap.size,0,none⟩ = some (.slice (some ⟨g,0,none⟩) xs.length c) ∧ w'.cell? ⟨w.heap.size + 1,0,none⟩ = some (.slice (some ⟨g',0,none⟩) ys.length c') ∧
     w'.cell? ⟨g,j - 1,none⟩ = some (.int .u64 ((wd xs (j - 1):Nat):Int)) ∧ w'.cell? ⟨g',j - 1,none⟩ = some (.int .u64 ((wd ys (j - 1):Nat):Int)))
    (first | ((try go_split_ands);(try simp only [World.cell?_drew,World.cell?_drewN]);(repeat' apply And.intro) <;> assumption) | go_keep)
    (first | (go_at_call 152;(with_reducible refine (zJ7 _ _ _).mono ?_);rintro e w' ⟨rfl,rfl⟩))
   have hd1:xs.drop (j - 1 + 1) = ys.drop (j - 1 + 1):=by rw [show j - 1 + 1 = j by omega];exact HD.out
   have HD1:=hid hd1
   clear hd1 cx cy b0 b1 hjx' hjy'
   rcases Nat.lt_trichotomy (wd xs (j - 1)) (wd ys (j - 1)) with h | h | h
   ·have hres:ze9 (nval xs) (nval ys) = -1:=zeb (by have:=zi7 HX.out.2 (j - 1) hjx hjy HD1.out h;omega)
    have HR:=hid hres
    have hr:ze9 ((wd xs (j - 1):Nat):Int) ((wd ys (j - 1):Nat):Int) = -1:=zeb (by omega)
    clear hres h
    rw [hr]
    clear hr
    go_wp2
    go_ret
    exact ⟨zst (by rw [HR.out]),zhk HB.out _⟩
   ·have hr:ze9 ((wd xs (j - 1):Nat):Int) ((wd ys (j - 1):Nat):Int) = 0:=zgN (by omega)
    have hd2:=hid (zoy (j - 1) hjx hjy HD1.out h)
    clear h
    rw [hr]
    clear hr
    go_wp2
    go_roundw
    case rel => exact ⟨j - 1,_,by congr 1;omega,by omega,hd2.out,rfl⟩
    case measure => simp [intOf];omega
   ·have hres:ze9 (nval xs) (nval ys) = 1:=zea (by have:=zi7 HY.out.2 (j - 1) hjy hjx HD1.out.symm h;omega)
    have HR:=hid hres
    have hr:ze9 ((wd xs (j - 1):Nat):Int) ((wd ys (j - 1):Nat):Int) = 1:=zea (by omega)
    clear hres h
    rw [hr]
    clear hr
    go_wp2
    go_ret
    exact ⟨zst (by rw [HR.out]),zhk HB.out _⟩

theorem cmp (A B:Option Addr) (m c m' c' a b:Nat) (w:World) (ha:zas w (.slice A m c) a) (hb:zas w (.slice B m' c') b) :
  Calls Tryz.prog 112 #[.agg #[.slice A m c], .agg #[.slice B m' c']] w fun e w' => e = .returned (.int .i64 (ze9 a b)) ∧ Below w.heap.size w w':=by
 obtain ⟨xs,hx,hcx,rfl,hlx,rfl⟩:=ha.words
 obtain ⟨ys,hy,hcy,rfl,hly,rfl⟩:=hb.words
 rcases Nat.lt_trichotomy xs.length ys.length with h | h | h
 ·have:=zgo hx.2 hcy h
  exact zuw A B c c' xs ys w (by omega) _ (by rw [zeb (by omega),zeb (by omega)])
 ·exact zuv A B c c' xs ys w hx hy h
 ·have:=zgo hy.2 hcx h
  exact zuw A B c c' xs ys w (by omega) _ (by rw [zea (by omega),zea (by omega)])
end Nt
end Go.Proofs.YtdbgbaiekpbaoaaGreatDoor
