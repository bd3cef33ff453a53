/- prod.Mul by its contract: the long factors. Conditions: as each says. -/
import Derived.Test.YtdbgbaiekpbaoaaGreatDoorProd3Zp
import Derived.Deep.DeepCutAuto
set_option linter.all false
namespace Go.Proofs.YtdbgbaiekpbaoaaGreatDoor
open Go.RowKit Am
open Lib (hid)
attribute [local go_sem ↓] Go.wp_at_zero Go.wp_at_succ
set_option maxHeartbeats 10000000
set_option maxRecDepth 100000
namespace Pr
theorem zA8 (A:Option Addr) (m c a k:Nat) (K:Int) (hK:K = (k:Int)) (w:World) (ha:zas w (.slice A m c) a) (hk:k + wlen a ≤ LIM) :
  Calls Tryz.prog 122 #[.agg #[.slice A m c], .int .i64 K] w (zc0 w (a * B64 ^ k)):=by subst hK;exact raised A m c a k w ha hk
theorem zAW (p q r s:Nat):p * r + q * s ≤ (p + q) * (r + s):=by
 have : (p + q) * (r + s) = p * r + q * s + (p * s + q * r):=by grind
 omega
theorem kara (a b X:Nat) (_:0 < X):a % X * (b % X) + (((a % X + a / X) * (b % X + b / X) - (a % X * (b % X) + a / X * (b / X))) * X + a / X * (b / X) * (X * X)) = a * b:=by
 have e1:=Nat.mod_add_div a X
 have e2:=Nat.mod_add_div b X
 generalize a % X = p at *
 generalize a / X = q at *
 generalize b % X = r at *
 generalize b / X = s at *
 have : (p + q) * (r + s) - (p * r + q * s) = p * s + q * r:=by
  have : (p + q) * (r + s) = p * r + q * s + (p * s + q * r):=by grind
  omega
 rw [this, ← e1, ← e2]
 grind
def zpn (M:Nat):Prop := ∀ (A B:Option Addr) (m c m' c' a b:Nat) (w:World),zas w (.slice A m c) a → zas w (.slice B m' c') b → 4 * wlen a ≤ LIM → 4 * wlen b ≤ LIM → wlen a < M → wlen b < M →
    Calls Tryz.prog 58 #[.agg #[.slice A m c], .agg #[.slice B m' c']] w (zc0 w (a * b))
theorem zA1 (A B:Option Addr) (m c m' c' a b M:Nat) (w:World) (ih:zpn M) (hM:wlen a ≤ M ∧ wlen b ≤ M) (ha:zas w (.slice A m c) a) (hb:zas w (.slice B m' c') b) (hla:4 * wlen a ≤ LIM) (hlb:4 * wlen b ≤ LIM) (h8a:8 ≤ wlen a) (h8b:8 ≤ wlen b) :
  Calls Tryz.prog 58 #[.agg #[.slice A m c], .agg #[.slice B m' c']] w (zc0 w (a * b)):=by
 obtain ⟨xs,hx,hcx,hvx,hlx,rfl⟩:=ha.words
 obtain ⟨ys,hy,hcy,hvy,hly,rfl⟩:=hb.words
 have HA:=hid ha
 have HB:=hid hb
 have HWX:=hid hlx
 have HWY:=hid hly
 unfold zpn at ih
 have IH:=hid ih
 have HX:=hid hx
 have HY:=hid hy
 rw [← hlx] at h8a
 rw [← hly] at h8b
 obtain ⟨mn,hmn⟩:∃ mn,mn = if ys.length < xs.length then ys.length else xs.length:=⟨_,rfl⟩
 have hm8:¬ (mn:Int) < 8:=by split at hmn <;> omega
 have hmin:(if ys.length < xs.length then (ys.length:Int) else (xs.length:Int)) = (mn:Int):=by rw [hmn];split <;> rfl
 obtain ⟨mx,hmx⟩:∃ mx,mx = if xs.length < ys.length then ys.length else xs.length:=⟨_,rfl⟩
 have hmax:(if xs.length < ys.length then (ys.length:Int) else (xs.length:Int)) = (mx:Int):=by rw [hmx];split <;> rfl
 have hmx1:xs.length ≤ mx ∧ ys.length ≤ mx ∧ mx ≤ LIM ∧ mx ≤ M ∧ 4 * mx ≤ LIM:=by have:=zaP;split at hmx <;> omega
 have hmx8:8 ≤ mx:=by omega
 have HMX:=hid hmx1
 have hmxb:mx ≤ 9223372036854775806:=by have:=zaP;omega
 clear hmn hmx hmx1
 clear ih ha hb hx hy hcx hcy hvx hvy hlx hly
 have c0:(((w.alloc (.cells #[.slice A xs.length c] 31)).alloc (.cells #[.slice B ys.length c'] 31)).alloc (.cells #[.slice none 0 0] 31)).cell? ⟨w.heap.size,0,none⟩ = some (.slice A xs.length c):=cell_al (cell_al (zax rfl rfl))
 have c1:(((w.alloc (.cells #[.slice A xs.length c] 31)).alloc (.cells #[.slice B ys.length c'] 31)).alloc (.cells #[.slice none 0 0] 31)).cell? ⟨w.heap.size + 1,0,none⟩ = some (.slice B ys.length c'):=cell_al (zax (by simp) rfl)
 have k2:(((w.alloc (.cells #[.slice A xs.length c] 31)).alloc (.cells #[.slice B ys.length c'] 31)).alloc (.cells #[.slice none 0 0] 31)).heap[w.heap.size + 1 + 1]? = some (.cells #[.slice none 0 0] 31 (0,0)):=zam (by simp)
 have kb:Below w.heap.size w (((w.alloc (.cells #[.slice A xs.length c] 31)).alloc (.cells #[.slice B ys.length c'] 31)).alloc (.cells #[.slice none 0 0] 31)):=((zae w _).alloc (by simp) _).alloc (by simp;omega) _
 have kz:(((w.alloc (.cells #[.slice A xs.length c] 31)).alloc (.cells #[.slice B ys.length c'] 31)).alloc (.cells #[.slice none 0 0] 31)).heap.size = w.heap.size + 1 + 1 + 1:=by simp
 have hA1:=HA.out.below kb
 have hB1:=HB.out.below kb
 have hX1:=HX.out.below kb
 have hY1:=HY.out.below kb
 go_enter Tryz.func58,Tryz.ntmps58
 go_wp2_with fail
 generalize (((w.alloc (.cells #[.slice A xs.length c] 31)).alloc (.cells #[.slice B ys.length c'] 31)).alloc (.cells #[.slice none 0 0] 31)) = W0 at *
 have HS:=hid (show ∀ w',Below W0.heap.size W0 w' → ((w'.cell? ⟨w.heap.size,0,none⟩ = some (.slice A xs.length c) ∧ w'.cell? ⟨w.heap.size + 1,0,none⟩ = some (.slice B ys.length c')) ∧ Below W0.heap.size W0 w') from fun w' h => ⟨⟨zab h c0,zab h c1⟩,h⟩)
 have HX1:=hid hX1
 have HY1:=hid hY1
 have HA1:=hid hA1
 have HB1:=hid hB1
 have HK2:=hid k2
 have HKB:=hid kb
 have HKZ:=hid kz
 clear hX1 hY1 hA1 hB1 k2 kb kz
 have H8A:=hid h8a
 have H8B:=hid h8b
 clear hla hlb h8a h8b
 go_region_held3 (fun w' => (w'.cell? ⟨w.heap.size,0,none⟩ = some (.slice A xs.length c) ∧ w'.cell? ⟨w.heap.size + 1,0,none⟩ = some (.slice B ys.length c')) ∧ Below W0.heap.size W0 w')
  ((refine HS.out _ ?_;repeat (first | exact Below.refl _ _ | exact (by assumption:_ ∧ Below _ _ _).2 | with_reducible refine bdrew ?_ | with_reducible refine al2 ?_ _)))
  (first
   | (go_at_call 117;(with_reducible refine (Nt.len (.slice A xs.length c) xs _ (HX1.out.below (by assumption:_ ∧ Below _ _ _).2)).mono ?_);rintro e w' ⟨rfl,rfl⟩)
   | (go_at_call 117;(with_reducible refine (Nt.len (.slice B ys.length c') ys _ (HY1.out.below (by assumption:_ ∧ Below _ _ _).2)).mono ?_);rintro e w' ⟨rfl,rfl⟩))
 go_wp2_with fail
 go_region_held3 (fun w' => (w'.cell? ⟨w.heap.size,0,none⟩ = some (.slice A xs.length c) ∧ w'.cell? ⟨w.heap.size + 1,0,none⟩ = some (.slice B ys.length c')) ∧ Below W0.heap.size W0 w')
  ((refine HS.out _ ?_;repeat (first | exact Below.refl _ _ | exact (by assumption:_ ∧ Below _ _ _).2 | with_reducible refine bdrew ?_ | with_reducible refine al2 ?_ _)))
  (first
   | (go_at_call 117;(with_reducible refine (Nt.len (.slice A xs.length c) xs _ (HX1.out.below (by assumption:_ ∧ Below _ _ _).2)).mono ?_);rintro e w' ⟨rfl,rfl⟩)
   | (go_at_call 117;(with_reducible refine (Nt.len (.slice B ys.length c') ys _ (HY1.out.below (by assumption:_ ∧ Below _ _ _).2)).mono ?_);rintro e w' ⟨rfl,rfl⟩))
 obtain ⟨k,hk⟩:∃ k,k = (mx + 1) / 2:=⟨_,rfl⟩
 have e1:IntKind.i64.wrap ((IntKind.i64.wrap ((mx:Int) + 1)).tdiv 2) = (k:Int):=by
  rw [IntWalk.i64_in ((mx:Int) + 1) (by omega),Int.tdiv_eq_ediv_of_nonneg (by omega),hk]
  have : ((mx:Int) + 1) / 2 = (((mx + 1) / 2:Nat):Int):=by omega
  rw [this,IntWalk.i64_in _ (by omega)]
 simp only [e1]
 clear e1
 have hk4:4 ≤ k:=by omega
 have hkm:k + 1 < mx:=by omega
 have hk2:mx ≤ 2 * k:=by omega
 clear hk
 have hh:=(by assumption:_ ∧ Below W0.heap.size W0 ((((W0.alloc (.cells #[.slice A xs.length c] 31)).alloc (.cells #[.slice B ys.length c'] 31)).alloc (.cells #[.slice A xs.length c] 31)).alloc (.cells #[.slice B ys.length c'] 31)).drew.drew).2
 generalize hV:((((W0.alloc (.cells #[.slice A xs.length c] 31)).alloc (.cells #[.slice B ys.length c'] 31)).alloc (.cells #[.slice A xs.length c] 31)).alloc (.cells #[.slice B ys.length c'] 31)).drew.drew = w1 at *
 clear hV
 have HK:=hid hk4
 have HKM:=hid hkm
 have HK2M:=hid hk2
 have d1:=zab hh c1
 have HA2:=hid (HA1.out.below hh)
 have HB2:=hid (HB1.out.below hh)
 have D1:=hid d1
 have D2:=hid (zad hh HK2.out)
 have DB:=hid (HKB.out.trans (hh.mono (by have:=HKZ.out;omega)))
 have DZ:=hid (show w.heap.size + 3 ≤ w1.heap.size by have:=hh.size;have:=HKZ.out;omega)
 clear hk2 hkm c0 c1 hmin hmax hm8 HX HY HX1 HY1 HKB HS HK2
 go_wp2_with fail
 have G:(∃ v,v = 1):=⟨1,rfl⟩
 refine (cut A xs.length c a k _ HA2.out (by omega) (by have:=HMX.out;have:=HKM.out;omega) (by rw [← HWX.out];have:=H8A.out;omega) (by have:=HMX.out;rw [← HWX.out];omega)).mono ?_
 rintro e w2 ⟨A1,m1,c1,A2,m2,c2,rfl,ha0,ha1,hb2⟩
 have d3:=cell_al (ob := .cells #[.slice A2 m2 c2] 31) (cell_al (ob := .cells #[.slice A1 m1 c1] 31) (zab hb2 D1.out))
 have HA01:=hid ha0
 have HA02:=hid ha1
 have HBB2:=hid hb2
 have hz2:=hb2.size
 have hz1:=DZ.out
 clear ha0 ha1 hb2 G
 go_wp2_with fail
 refine (cut B ys.length c' b k _ ((HB2.out.below HBB2.out).alloc _ |>.alloc _) (by omega) (by have:=HMX.out;have:=HKM.out;omega) (by rw [← HWY.out];have:=H8B.out;omega) (by have:=HMX.out;rw [← HWY.out];omega)).mono ?_
 rintro e w3 ⟨B1,m3,c3,B2,m4,c4,rfl,hb0,hb1',hb3⟩
 have hz3:=hb3.size
 simp at hz3
 clear d3
 go_wp2_with fail
 have P0:((w3.alloc (.cells #[.slice B1 m3 c3] 31)).alloc (.cells #[.slice B2 m4 c4] 31)).cell? ⟨w2.heap.size,0,none⟩ = some (.slice A1 m1 c1):=cell_al (cell_al (zab hb3 (cell_al (zax rfl rfl))))
 have P1:((w3.alloc (.cells #[.slice B1 m3 c3] 31)).alloc (.cells #[.slice B2 m4 c4] 31)).cell? ⟨w2.heap.size + 1,0,none⟩ = some (.slice A2 m2 c2):=cell_al (cell_al (zab hb3 (zax (by simp) rfl)))
 have P2:((w3.alloc (.cells #[.slice B1 m3 c3] 31)).alloc (.cells #[.slice B2 m4 c4] 31)).cell? ⟨w3.heap.size,0,none⟩ = some (.slice B1 m3 c3):=cell_al (zax rfl rfl)
 have P3:((w3.alloc (.cells #[.slice B1 m3 c3] 31)).alloc (.cells #[.slice B2 m4 c4] 31)).cell? ⟨w3.heap.size + 1,0,none⟩ = some (.slice B2 m4 c4):=zax (by simp) rfl
 have N0:=hid ((((HA01.out.alloc (.cells #[.slice A1 m1 c1] 31)).alloc (.cells #[.slice A2 m2 c2] 31)).below hb3).alloc (.cells #[.slice B1 m3 c3] 31) |>.alloc (.cells #[.slice B2 m4 c4] 31))
 have N1:=hid ((((HA02.out.alloc (.cells #[.slice A1 m1 c1] 31)).alloc (.cells #[.slice A2 m2 c2] 31)).below hb3).alloc (.cells #[.slice B1 m3 c3] 31) |>.alloc (.cells #[.slice B2 m4 c4] 31))
 have N2:=hid ((hb0.alloc (.cells #[.slice B1 m3 c3] 31)).alloc (.cells #[.slice B2 m4 c4] 31))
 have N3:=hid ((hb1'.alloc (.cells #[.slice B1 m3 c3] 31)).alloc (.cells #[.slice B2 m4 c4] 31))
 have ER:=hid (show ((w3.alloc (.cells #[.slice B1 m3 c3] 31)).alloc (.cells #[.slice B2 m4 c4] 31)).heap[w.heap.size + 1 + 1]? = some (.cells #[.slice none 0 0] 31 (0,0)) from zak (zak (zad hb3 (zak (zak (zad HBB2.out D2.out))))))
 have EB:=hid (show Below w.heap.size w ((w3.alloc (.cells #[.slice B1 m3 c3] 31)).alloc (.cells #[.slice B2 m4 c4] 31)) from al2 (al2 (zc1 (al2 (al2 (zc1 DB.out HBB2.out) _) _) hb3) _) _)
 have EZ:=hid (show w.heap.size + 3 ≤ ((w3.alloc (.cells #[.slice B1 m3 c3] 31)).alloc (.cells #[.slice B2 m4 c4] 31)).heap.size by simp;omega)
 generalize hV:(w3.alloc (.cells #[.slice B1 m3 c3] 31)).alloc (.cells #[.slice B2 m4 c4] 31) = V at *
 clear hV hb0 hb1' hb3 hz3 HBB2 HA01 HA02 DB DZ D2 D1 HA2 HB2
 generalize w2.heap.size = p0 at *
 generalize w3.heap.size = q0 at *
 have ha1:wlen (a % B64 ^ k) ≤ k:=zaZ (Nat.mod_lt _ (Nat.pow_pos (by decide)))
 have hb1:wlen (b % B64 ^ k) ≤ k:=zaZ (Nat.mod_lt _ (Nat.pow_pos (by decide)))
 have ha2:wlen (a / B64 ^ k) ≤ mx - k:=zaZ (by
  have h1:=zfD a
  have h2:B64 ^ wlen a ≤ B64 ^ (mx - k) * B64 ^ k:=by rw [← Nat.pow_add];exact Nat.pow_le_pow_right (by decide) (by have:=HMX.out;have:=HWX.out;have:=HKM.out;omega)
  exact (Nat.div_lt_iff_lt_mul (Nat.pow_pos (by decide))).2 (by omega))
 have hb2:wlen (b / B64 ^ k) ≤ mx - k:=zaZ (by
  have h1:=zfD b
  have h2:B64 ^ wlen b ≤ B64 ^ (mx - k) * B64 ^ k:=by rw [← Nat.pow_add];exact Nat.pow_le_pow_right (by decide) (by have:=HMX.out;have:=HWY.out;have:=HKM.out;omega)
  exact (Nat.div_lt_iff_lt_mul (Nat.pow_pos (by decide))).2 (by omega))
 have hM4:4 * mx ≤ LIM:=by have:=HMX.out;omega
 have F0:=hid (show 4 * wlen (a % B64 ^ k) ≤ LIM by have:=HKM.out;omega)
 have F1:=hid (show 4 * wlen (a / B64 ^ k) ≤ LIM by omega)
 have F2:=hid (show 4 * wlen (b % B64 ^ k) ≤ LIM by have:=HKM.out;omega)
 have F3:=hid (show 4 * wlen (b / B64 ^ k) ≤ LIM by omega)
 have hMM:mx ≤ M:=by have:=HMX.out;omega
 have G0:=hid (show wlen (a % B64 ^ k) < M by have:=HKM.out;omega)
 have G1:=hid (show wlen (a / B64 ^ k) < M by have:=HK.out;omega)
 have G2:=hid (show wlen (b % B64 ^ k) < M by have:=HKM.out;omega)
 have G3:=hid (show wlen (b / B64 ^ k) < M by have:=HK.out;omega)
 have HWA:=hid (And.intro ha1 ha2)
 have HWB:=hid (And.intro hb1 hb2)
 have HM4:=hid hM4
 have HMM:=hid hMM
 clear ha1 ha2 hb1 hb2 hM4 hMM
 have HS:=hid (show ∀ w',Below V.heap.size V w' → ((w'.cell? ⟨p0,0,none⟩ = some (.slice A1 m1 c1) ∧ w'.cell? ⟨p0 + 1,0,none⟩ = some (.slice A2 m2 c2) ∧ w'.cell? ⟨q0,0,none⟩ = some (.slice B1 m3 c3) ∧ w'.cell? ⟨q0 + 1,0,none⟩ = some (.slice B2 m4 c4)) ∧ Below V.heap.size V w') from fun w' h => ⟨⟨zab h P0,zab h P1,zab h P2,zab h P3⟩,h⟩)
 go_cut [10,11] (fun s10 s11 wr => ∃ (g0 g1:Nat) (L1:Option Addr) (ml cl:Nat) (L2:Option Addr) (mh ch:Nat),s10 = .pointer (some ⟨g0,0,none⟩) ∧ s11 = .pointer (some ⟨g1,0,none⟩) ∧ Below V.heap.size V wr ∧
  wr.cell? ⟨g0,0,none⟩ = some (.slice L1 ml cl) ∧ wr.cell? ⟨g1,0,none⟩ = some (.slice L2 mh ch) ∧ zas wr (.slice L1 ml cl) (a % B64 ^ k * (b % B64 ^ k)) ∧ zas wr (.slice L2 mh ch) (a / B64 ^ k * (b / B64 ^ k)) ∧ V.heap.size ≤ g0 ∧ V.heap.size ≤ g1)
 case first =>
  go_region_held3 (fun w' => (w'.cell? ⟨p0,0,none⟩ = some (.slice A1 m1 c1) ∧ w'.cell? ⟨p0 + 1,0,none⟩ = some (.slice A2 m2 c2) ∧ w'.cell? ⟨q0,0,none⟩ = some (.slice B1 m3 c3) ∧ w'.cell? ⟨q0 + 1,0,none⟩ = some (.slice B2 m4 c4)) ∧ Below V.heap.size V w')
   ((refine HS.out _ ?_;repeat (first | exact Below.refl _ _ | exact (by assumption:_ ∧ Below _ _ _).2 | with_reducible refine bdrew ?_ | with_reducible refine al2 ?_ _ | with_reducible refine set2 ?_ (by omega) | with_reducible refine zc1 ?_ (by assumption))))
   (first
    | (go_at_call 58;(with_reducible refine (IH.out A1 B1 m1 c1 m3 c3 (a % B64 ^ k) (b % B64 ^ k) _ (N0.out.below (by assumption:_ ∧ Below _ _ _).2) (N2.out.below (by assumption:_ ∧ Below _ _ _).2) F0.out F2.out G0.out G2.out).mono ?_);rintro e u1 ⟨L1,ml,cl,rfl,hl,hbl⟩;have hzl:=hbl.size;(try simp at hzl);have hze:V.heap.size ≤ u1.heap.size:=(by omega);(try ((first | (have pp:=zan (b:=V.heap.size) (v := .slice none 0 0) (t:=31) hbl (zal _ _ _);obtain ⟨X0,⟨X0c,X0f⟩,⟨X0d,X0g⟩,⟨X0e,X0h⟩,⟨X0i,X0j⟩,X0k,X0l⟩:=pp) | (have pp:=zan (b:=V.heap.size) (v := .slice none 0 0) (t:=31) hbl (zak (zal _ _ _));obtain ⟨X0,⟨X0c,X0f⟩,⟨X0d,X0g⟩,⟨X0e,X0h⟩,⟨X0i,X0j⟩,X0k,X0l⟩:=pp) | (have pp:=zan (b:=V.heap.size) (v := .slice none 0 0) (t:=31) hbl (zbD _ _ _ _);obtain ⟨X0,⟨X0c,X0f⟩,⟨X0d,X0g⟩,⟨X0e,X0h⟩,⟨X0i,X0j⟩,X0k,X0l⟩:=pp));have X0:=hid X0));(try ((first | (have pp:=zan (b:=V.heap.size + 1) (v := .slice none 0 0) (t:=31) hbl (zal _ _ _);obtain ⟨X1,⟨X1c,X1f⟩,⟨X1d,X1g⟩,⟨X1e,X1h⟩,⟨X1i,X1j⟩,X1k,X1l⟩:=pp) | (have pp:=zan (b:=V.heap.size + 1) (v := .slice none 0 0) (t:=31) hbl (zak (zal _ _ _));obtain ⟨X1,⟨X1c,X1f⟩,⟨X1d,X1g⟩,⟨X1e,X1h⟩,⟨X1i,X1j⟩,X1k,X1l⟩:=pp) | (have pp:=zan (b:=V.heap.size + 1) (v := .slice none 0 0) (t:=31) hbl (zbD _ _ _ _);obtain ⟨X1,⟨X1c,X1f⟩,⟨X1d,X1g⟩,⟨X1e,X1h⟩,⟨X1i,X1j⟩,X1k,X1l⟩:=pp));have X1:=hid X1));have HL1:=hid hl;clear hl)
    | (go_at_call 58;(with_reducible refine (IH.out A2 B2 m2 c2 m4 c4 (a / B64 ^ k) (b / B64 ^ k) _ (N1.out.below (by assumption:_ ∧ Below _ _ _).2) (N3.out.below (by assumption:_ ∧ Below _ _ _).2) F1.out F3.out G1.out G3.out).mono ?_);rintro e u2 ⟨L2,mh,ch,rfl,hh2,hbh⟩;have hzh:=hbh.size;(try simp at hzh);have hzf:V.heap.size ≤ u2.heap.size:=(by omega);(try ((first | (have pp:=zan (b:=V.heap.size) (v := .slice none 0 0) (t:=31) hbh (X0.out);obtain ⟨Y0,⟨Y0c,Y0f⟩,⟨Y0d,Y0g⟩,⟨Y0e,Y0h⟩,⟨Y0i,Y0j⟩,Y0k,Y0l⟩:=pp) | (have pp:=zan (b:=V.heap.size) (v := .slice none 0 0) (t:=31) hbh (X1.out);obtain ⟨Y0,⟨Y0c,Y0f⟩,⟨Y0d,Y0g⟩,⟨Y0e,Y0h⟩,⟨Y0i,Y0j⟩,Y0k,Y0l⟩:=pp) | (have pp:=zan (b:=V.heap.size) (v := .slice none 0 0) (t:=31) hbh (zak X0.out);obtain ⟨Y0,⟨Y0c,Y0f⟩,⟨Y0d,Y0g⟩,⟨Y0e,Y0h⟩,⟨Y0i,Y0j⟩,Y0k,Y0l⟩:=pp) | (have pp:=zan (b:=V.heap.size) (v := .slice none 0 0) (t:=31) hbh (zak X1.out);obtain ⟨Y0,⟨Y0c,Y0f⟩,⟨Y0d,Y0g⟩,⟨Y0e,Y0h⟩,⟨Y0i,Y0j⟩,Y0k,Y0l⟩:=pp) | (have pp:=zan (b:=V.heap.size) (v := .slice none 0 0) (t:=31) hbh (zak (zak X0.out));obtain ⟨Y0,⟨Y0c,Y0f⟩,⟨Y0d,Y0g⟩,⟨Y0e,Y0h⟩,⟨Y0i,Y0j⟩,Y0k,Y0l⟩:=pp) | (have pp:=zan (b:=V.heap.size) (v := .slice none 0 0) (t:=31) hbh (zal _ _ _);obtain ⟨Y0,⟨Y0c,Y0f⟩,⟨Y0d,Y0g⟩,⟨Y0e,Y0h⟩,⟨Y0i,Y0j⟩,Y0k,Y0l⟩:=pp) | (have pp:=zan (b:=V.heap.size) (v := .slice none 0 0) (t:=31) hbh (zak (zal _ _ _));obtain ⟨Y0,⟨Y0c,Y0f⟩,⟨Y0d,Y0g⟩,⟨Y0e,Y0h⟩,⟨Y0i,Y0j⟩,Y0k,Y0l⟩:=pp) | (have pp:=zan (b:=V.heap.size) (v := .slice none 0 0) (t:=31) hbh (zbD _ _ _ _);obtain ⟨Y0,⟨Y0c,Y0f⟩,⟨Y0d,Y0g⟩,⟨Y0e,Y0h⟩,⟨Y0i,Y0j⟩,Y0k,Y0l⟩:=pp));have Y0:=hid Y0));(try ((first | (have pp:=zan (b:=V.heap.size + 1) (v := .slice none 0 0) (t:=31) hbh (X0.out);obtain ⟨Y1,⟨Y1c,Y1f⟩,⟨Y1d,Y1g⟩,⟨Y1e,Y1h⟩,⟨Y1i,Y1j⟩,Y1k,Y1l⟩:=pp) | (have pp:=zan (b:=V.heap.size + 1) (v := .slice none 0 0) (t:=31) hbh (X1.out);obtain ⟨Y1,⟨Y1c,Y1f⟩,⟨Y1d,Y1g⟩,⟨Y1e,Y1h⟩,⟨Y1i,Y1j⟩,Y1k,Y1l⟩:=pp) | (have pp:=zan (b:=V.heap.size + 1) (v := .slice none 0 0) (t:=31) hbh (zak X0.out);obtain ⟨Y1,⟨Y1c,Y1f⟩,⟨Y1d,Y1g⟩,⟨Y1e,Y1h⟩,⟨Y1i,Y1j⟩,Y1k,Y1l⟩:=pp) | (have pp:=zan (b:=V.heap.size + 1) (v := .slice none 0 0) (t:=31) hbh (zak X1.out);obtain ⟨Y1,⟨Y1c,Y1f⟩,⟨Y1d,Y1g⟩,⟨Y1e,Y1h⟩,⟨Y1i,Y1j⟩,Y1k,Y1l⟩:=pp) | (have pp:=zan (b:=V.heap.size + 1) (v := .slice none 0 0) (t:=31) hbh (zak (zak X0.out));obtain ⟨Y1,⟨Y1c,Y1f⟩,⟨Y1d,Y1g⟩,⟨Y1e,Y1h⟩,⟨Y1i,Y1j⟩,Y1k,Y1l⟩:=pp) | (have pp:=zan (b:=V.heap.size + 1) (v := .slice none 0 0) (t:=31) hbh (zal _ _ _);obtain ⟨Y1,⟨Y1c,Y1f⟩,⟨Y1d,Y1g⟩,⟨Y1e,Y1h⟩,⟨Y1i,Y1j⟩,Y1k,Y1l⟩:=pp) | (have pp:=zan (b:=V.heap.size + 1) (v := .slice none 0 0) (t:=31) hbh (zak (zal _ _ _));obtain ⟨Y1,⟨Y1c,Y1f⟩,⟨Y1d,Y1g⟩,⟨Y1e,Y1h⟩,⟨Y1i,Y1j⟩,Y1k,Y1l⟩:=pp) | (have pp:=zan (b:=V.heap.size + 1) (v := .slice none 0 0) (t:=31) hbh (zbD _ _ _ _);obtain ⟨Y1,⟨Y1c,Y1f⟩,⟨Y1d,Y1g⟩,⟨Y1e,Y1h⟩,⟨Y1i,Y1j⟩,Y1k,Y1l⟩:=pp));have Y1:=hid Y1));(try ((first | (have pp:=zan (b:=u1.heap.size) (v := .slice none 0 0) (t:=31) hbh (X0.out);obtain ⟨Y2,⟨Y2c,Y2f⟩,⟨Y2d,Y2g⟩,⟨Y2e,Y2h⟩,⟨Y2i,Y2j⟩,Y2k,Y2l⟩:=pp) | (have pp:=zan (b:=u1.heap.size) (v := .slice none 0 0) (t:=31) hbh (X1.out);obtain ⟨Y2,⟨Y2c,Y2f⟩,⟨Y2d,Y2g⟩,⟨Y2e,Y2h⟩,⟨Y2i,Y2j⟩,Y2k,Y2l⟩:=pp) | (have pp:=zan (b:=u1.heap.size) (v := .slice none 0 0) (t:=31) hbh (zak X0.out);obtain ⟨Y2,⟨Y2c,Y2f⟩,⟨Y2d,Y2g⟩,⟨Y2e,Y2h⟩,⟨Y2i,Y2j⟩,Y2k,Y2l⟩:=pp) | (have pp:=zan (b:=u1.heap.size) (v := .slice none 0 0) (t:=31) hbh (zak X1.out);obtain ⟨Y2,⟨Y2c,Y2f⟩,⟨Y2d,Y2g⟩,⟨Y2e,Y2h⟩,⟨Y2i,Y2j⟩,Y2k,Y2l⟩:=pp) | (have pp:=zan (b:=u1.heap.size) (v := .slice none 0 0) (t:=31) hbh (zak (zak X0.out));obtain ⟨Y2,⟨Y2c,Y2f⟩,⟨Y2d,Y2g⟩,⟨Y2e,Y2h⟩,⟨Y2i,Y2j⟩,Y2k,Y2l⟩:=pp) | (have pp:=zan (b:=u1.heap.size) (v := .slice none 0 0) (t:=31) hbh (zal _ _ _);obtain ⟨Y2,⟨Y2c,Y2f⟩,⟨Y2d,Y2g⟩,⟨Y2e,Y2h⟩,⟨Y2i,Y2j⟩,Y2k,Y2l⟩:=pp) | (have pp:=zan (b:=u1.heap.size) (v := .slice none 0 0) (t:=31) hbh (zak (zal _ _ _));obtain ⟨Y2,⟨Y2c,Y2f⟩,⟨Y2d,Y2g⟩,⟨Y2e,Y2h⟩,⟨Y2i,Y2j⟩,Y2k,Y2l⟩:=pp) | (have pp:=zan (b:=u1.heap.size) (v := .slice none 0 0) (t:=31) hbh (zbD _ _ _ _);obtain ⟨Y2,⟨Y2c,Y2f⟩,⟨Y2d,Y2g⟩,⟨Y2e,Y2h⟩,⟨Y2i,Y2j⟩,Y2k,Y2l⟩:=pp));have Y2:=hid Y2));(try ((first | (have pp:=zan (b:=u1.heap.size + 1) (v := .slice none 0 0) (t:=31) hbh (X0.out);obtain ⟨Y3,⟨Y3c,Y3f⟩,⟨Y3d,Y3g⟩,⟨Y3e,Y3h⟩,⟨Y3i,Y3j⟩,Y3k,Y3l⟩:=pp) | (have pp:=zan (b:=u1.heap.size + 1) (v := .slice none 0 0) (t:=31) hbh (X1.out);obtain ⟨Y3,⟨Y3c,Y3f⟩,⟨Y3d,Y3g⟩,⟨Y3e,Y3h⟩,⟨Y3i,Y3j⟩,Y3k,Y3l⟩:=pp) | (have pp:=zan (b:=u1.heap.size + 1) (v := .slice none 0 0) (t:=31) hbh (zak X0.out);obtain ⟨Y3,⟨Y3c,Y3f⟩,⟨Y3d,Y3g⟩,⟨Y3e,Y3h⟩,⟨Y3i,Y3j⟩,Y3k,Y3l⟩:=pp) | (have pp:=zan (b:=u1.heap.size + 1) (v := .slice none 0 0) (t:=31) hbh (zak X1.out);obtain ⟨Y3,⟨Y3c,Y3f⟩,⟨Y3d,Y3g⟩,⟨Y3e,Y3h⟩,⟨Y3i,Y3j⟩,Y3k,Y3l⟩:=pp) | (have pp:=zan (b:=u1.heap.size + 1) (v := .slice none 0 0) (t:=31) hbh (zak (zak X0.out));obtain ⟨Y3,⟨Y3c,Y3f⟩,⟨Y3d,Y3g⟩,⟨Y3e,Y3h⟩,⟨Y3i,Y3j⟩,Y3k,Y3l⟩:=pp) | (have pp:=zan (b:=u1.heap.size + 1) (v := .slice none 0 0) (t:=31) hbh (zal _ _ _);obtain ⟨Y3,⟨Y3c,Y3f⟩,⟨Y3d,Y3g⟩,⟨Y3e,Y3h⟩,⟨Y3i,Y3j⟩,Y3k,Y3l⟩:=pp) | (have pp:=zan (b:=u1.heap.size + 1) (v := .slice none 0 0) (t:=31) hbh (zak (zal _ _ _));obtain ⟨Y3,⟨Y3c,Y3f⟩,⟨Y3d,Y3g⟩,⟨Y3e,Y3h⟩,⟨Y3i,Y3j⟩,Y3k,Y3l⟩:=pp) | (have pp:=zan (b:=u1.heap.size + 1) (v := .slice none 0 0) (t:=31) hbh (zbD _ _ _ _);obtain ⟨Y3,⟨Y3c,Y3f⟩,⟨Y3d,Y3g⟩,⟨Y3e,Y3h⟩,⟨Y3i,Y3j⟩,Y3k,Y3l⟩:=pp));have Y3:=hid Y3));have HL2:=hid hh2;clear hh2))
  all_goals
   go_wp2
   go_meet
   case rel =>
    refine ⟨_,_,L1,ml,cl,L2,mh,ch,rfl,rfl,(by assumption:_ ∧ Below V.heap.size V _).2,?_,?_,?_,?_,?_,?_⟩
    all_goals (repeat' (first
     | exact HL2.out | exact HL1.out | assumption
     | with_reducible exact zeo _ _ _ | with_reducible exact zfx _ _ _ _
     | with_reducible refine cell_al ?_ | with_reducible refine Box.cell ?_ | with_reducible refine cell_set ?_ ?_
     | with_reducible exact Box.new _ _ | with_reducible exact Box.new1 _ _ _ | with_reducible refine Box.alloc ?_ | with_reducible refine Box.set ?_
     | exact Box.of Y0.out | exact Box.of Y1.out | exact Box.of Y2.out | exact Box.of Y3.out
     | with_reducible refine zas.alloc ?_ _ | with_reducible refine zas.setBox ?_ ?_ | refine zas.below ?_ hbh | with_reducible refine zas.drew ?_
     | omega))
 case rest =>
  obtain ⟨g0,g1,L1,ml,cl,L2,mh,ch,rfl,rfl,hbV,k0,k1,hL1,hL2,hg0,hg1⟩:=hcut
  rename World => wa
  have P0:=zab hbV P0
  have P1:=zab hbV P1
  have P2:=zab hbV P2
  have P3:=zab hbV P3
  have N0:=hid (N0.out.below hbV)
  have N1:=hid (N1.out.below hbV)
  have N2:=hid (N2.out.below hbV)
  have N3:=hid (N3.out.below hbV)
  have NL1:=hid hL1
  have NL2:=hid hL2
  have EZV:=EZ
  have ER:=hid (zad hbV ER.out)
  have EB:=hid (EB.out.trans (hbV.mono (by have:=EZ.out;omega)))
  have EZ:=hid (show w.heap.size + 3 ≤ wa.heap.size by have:=EZ.out;have:=hbV.size;omega)
  have HG0:=hid (show w.heap.size + 3 ≤ g0 ∧ w.heap.size + 3 ≤ g1 by have:=EZV.out;omega)
  clear hg0 hg1
  have S1:wlen (a % B64 ^ k + a / B64 ^ k) ≤ k + 1:=by have:=zgg (a % B64 ^ k) (a / B64 ^ k);have:=HWA.out;have:=HK2M.out;omega
  have S2:wlen (b % B64 ^ k + b / B64 ^ k) ≤ k + 1:=by have:=zgg (b % B64 ^ k) (b / B64 ^ k);have:=HWB.out;have:=HK2M.out;omega
  have F4:=hid (show 4 * wlen (a % B64 ^ k + a / B64 ^ k) ≤ LIM by have:=HM4.out;have:=HKM.out;omega)
  have F5:=hid (show 4 * wlen (b % B64 ^ k + b / B64 ^ k) ≤ LIM by have:=HM4.out;have:=HKM.out;omega)
  have G4:=hid (show wlen (a % B64 ^ k + a / B64 ^ k) < M by have:=HMM.out;have:=HKM.out;omega)
  have G5:=hid (show wlen (b % B64 ^ k + b / B64 ^ k) < M by have:=HMM.out;have:=HKM.out;omega)
  have Q0:=hid (show wlen (a % B64 ^ k) ≤ LIM by have:=F0.out;omega)
  have Q1:=hid (show wlen (a / B64 ^ k) ≤ LIM by have:=F1.out;omega)
  have Q2:=hid (show wlen (b % B64 ^ k) ≤ LIM by have:=F2.out;omega)
  have Q3:=hid (show wlen (b / B64 ^ k) ≤ LIM by have:=F3.out;omega)
  clear S1 S2 hbV hL1 hL2 HS F0 F1 F2 F3 G0 G1 G2 G3
  go_wp2_with fail
  have HS:=hid (show ∀ w',Below wa.heap.size wa w' → ((w'.cell? ⟨p0,0,none⟩ = some (.slice A1 m1 c1) ∧ w'.cell? ⟨p0 + 1,0,none⟩ = some (.slice A2 m2 c2) ∧ w'.cell? ⟨q0,0,none⟩ = some (.slice B1 m3 c3) ∧ w'.cell? ⟨q0 + 1,0,none⟩ = some (.slice B2 m4 c4) ∧ w'.cell? ⟨g0,0,none⟩ = some (.slice L1 ml cl) ∧ w'.cell? ⟨g1,0,none⟩ = some (.slice L2 mh ch)) ∧ Below wa.heap.size wa w') from fun w' h => ⟨⟨zab h P0,zab h P1,zab h P2,zab h P3,zab h k0,zab h k1⟩,h⟩)
  go_cut [12] (fun s12 wr => ∃ (g2:Nat) (D:Option Addr) (md cd:Nat),s12 = .pointer (some ⟨g2,0,none⟩) ∧ Below wa.heap.size wa wr ∧
   wr.cell? ⟨g2,0,none⟩ = some (.slice D md cd) ∧ zas wr (.slice D md cd) ((a % B64 ^ k + a / B64 ^ k) * (b % B64 ^ k + b / B64 ^ k)))
  case first =>
   go_region_held3 (fun w' => ((w'.cell? ⟨p0,0,none⟩ = some (.slice A1 m1 c1) ∧ w'.cell? ⟨p0 + 1,0,none⟩ = some (.slice A2 m2 c2) ∧ w'.cell? ⟨q0,0,none⟩ = some (.slice B1 m3 c3) ∧ w'.cell? ⟨q0 + 1,0,none⟩ = some (.slice B2 m4 c4) ∧ w'.cell? ⟨g0,0,none⟩ = some (.slice L1 ml cl) ∧ w'.cell? ⟨g1,0,none⟩ = some (.slice L2 mh ch)) ∧ Below wa.heap.size wa w'))
    ((refine HS.out _ ?_;repeat (first | exact Below.refl _ _ | exact (by assumption:_ ∧ Below _ _ _).2 | with_reducible refine bdrew ?_ | with_reducible refine al2 ?_ _ | with_reducible refine set2 ?_ (by omega) | with_reducible refine zc1 ?_ (by assumption))))
    (first
     | (go_at_call 120;(with_reducible refine (Nt.add A1 A2 m1 c1 m2 c2 (a % B64 ^ k) (a / B64 ^ k) _ (N0.out.below (by assumption:_ ∧ Below _ _ _).2) (N1.out.below (by assumption:_ ∧ Below _ _ _).2) Q0.out Q1.out).mono ?_);rintro e u1 ⟨E1,me,ce,rfl,he1,hb1⟩;have hz1:=hb1.size;(try simp at hz1);have hze1:wa.heap.size ≤ u1.heap.size:=(by omega);(try ((first | (have pp:=zan (b:=wa.heap.size) (v := .slice none 0 0) (t:=31) hb1 (zal _ _ _);obtain ⟨zb8,⟨zjM,zjP⟩,⟨zjN,zjQ⟩,⟨zjO,zjR⟩,⟨zjS,zjT⟩,zjU,zjV⟩:=pp));have zb8:=hid zb8));have HE1:=hid he1;clear he1)
     | (go_at_call 120;(with_reducible refine (Nt.add B1 B2 m3 c3 m4 c4 (b % B64 ^ k) (b / B64 ^ k) _ (N2.out.below (by assumption:_ ∧ Below _ _ _).2) (N3.out.below (by assumption:_ ∧ Below _ _ _).2) Q2.out Q3.out).mono ?_);rintro e u2 ⟨E2,mf,cf,rfl,he2,hb2⟩;have hz2:=hb2.size;(try simp at hz2);have hze2:wa.heap.size ≤ u2.heap.size:=(by omega);(try ((first | (have pp:=zan (b:=wa.heap.size) (v := .slice none 0 0) (t:=31) hb2 (zb8.out);obtain ⟨zbZ,⟨zfh,zfk⟩,⟨zfi,zfl⟩,⟨zfj,zfm⟩,⟨zfn,zfo⟩,zfp,zfq⟩:=pp) | (have pp:=zan (b:=wa.heap.size) (v := .slice none 0 0) (t:=31) hb2 (zak zb8.out);obtain ⟨zbZ,⟨zfh,zfk⟩,⟨zfi,zfl⟩,⟨zfj,zfm⟩,⟨zfn,zfo⟩,zfp,zfq⟩:=pp));have zbZ:=hid zbZ));(try ((first | (have pp:=zan (b:=u1.heap.size) (v := .slice none 0 0) (t:=31) hb2 (zal _ _ _);obtain ⟨zcz,⟨zjY,zj1⟩,⟨zjZ,zj2⟩,⟨zj0,zj3⟩,⟨zj4,zj5⟩,zj6,zj7⟩:=pp));have zcz:=hid zcz));have HE2:=hid he2;clear he2)
     | (go_at_call 58;(with_reducible refine (IH.out E1 E2 me ce mf cf _ _ _ (by repeat (first | exact HE1.out | with_reducible refine zas.alloc ?_ _ | with_reducible refine zas.drew ?_ | refine zas.below ?_ hb2)) (by repeat (first | exact HE2.out | with_reducible refine zas.alloc ?_ _ | with_reducible refine zas.drew ?_)) F4.out F5.out G4.out G5.out).mono ?_);rintro e u3 ⟨E3,mg,cg,rfl,he3,hb3⟩;have hz3:=hb3.size;(try simp at hz3);have hze3:wa.heap.size ≤ u3.heap.size:=(by omega);(try ((first | (have pp:=zan (b:=wa.heap.size) (v := .slice none 0 0) (t:=31) hb3 (zbZ.out);obtain ⟨zgm,⟨zmw,zmz⟩,⟨zmx,zmA⟩,⟨zmy,zmB⟩,⟨zmC,zmD⟩,zmE,zmF⟩:=pp) | (have pp:=zan (b:=wa.heap.size) (v := .slice none 0 0) (t:=31) hb3 (zak zbZ.out);obtain ⟨zgm,⟨zmw,zmz⟩,⟨zmx,zmA⟩,⟨zmy,zmB⟩,⟨zmC,zmD⟩,zmE,zmF⟩:=pp));have zgm:=hid zgm));(try ((first | (have pp:=zan (b:=u1.heap.size) (v := .slice none 0 0) (t:=31) hb3 (zcz.out);obtain ⟨zgn,⟨zmG,zmJ⟩,⟨zmH,zmK⟩,⟨zmI,zmL⟩,⟨zmM,zmN⟩,zmO,zmP⟩:=pp) | (have pp:=zan (b:=u1.heap.size) (v := .slice none 0 0) (t:=31) hb3 (zak zcz.out);obtain ⟨zgn,⟨zmG,zmJ⟩,⟨zmH,zmK⟩,⟨zmI,zmL⟩,⟨zmM,zmN⟩,zmO,zmP⟩:=pp));have zgn:=hid zgn));(try ((first | (have pp:=zan (b:=u2.heap.size) (v := .slice none 0 0) (t:=31) hb3 (zal _ _ _);obtain ⟨zhj,⟨zpp,zps⟩,⟨zpq,zpt⟩,⟨zpr,zpu⟩,⟨zpv,zpw⟩,zpx,zpy⟩:=pp));have zhj:=hid zhj));have HE3:=hid he3;clear he3))
   all_goals
    go_wp2
    go_meet
    case rel =>
     refine ⟨_,E3,mg,cg,rfl,(by assumption:_ ∧ Below wa.heap.size wa _).2,?_,?_⟩
     all_goals
      repeat' (first
       | with_reducible exact HE3.out
       | with_reducible assumption
       | with_reducible exact zeo _ _ _
       | with_reducible exact zfx _ _ _ _
       | with_reducible refine cell_al ?_
       | with_reducible refine Box.cell ?_
       | with_reducible refine cell_set ?_ ?_
       | with_reducible exact Box.new _ _
       | with_reducible exact Box.new1 _ _ _
       | with_reducible refine Box.alloc ?_
       | with_reducible refine Box.set ?_
       | exact Box.of zgm.out
       | exact Box.of zgn.out
       | exact Box.of zhj.out
       | with_reducible refine zas.alloc ?_ _
       | with_reducible refine zas.setBox ?_ ?_
       | with_reducible refine zas.drew ?_
       | omega)
  case rest =>
   obtain ⟨g2,D,md,cd,rfl,hbW,k2,hD⟩:=hcut
   rename World => wb
   have k0:=zab hbW k0
   have k1:=zab hbW k1
   have NL1:=hid (NL1.out.below hbW)
   have NL2:=hid (NL2.out.below hbW)
   have ND:=hid hD
   have ER:=hid (zad hbW ER.out)
   have EB:=hid (EB.out.trans (hbW.mono (by have:=EZ.out;omega)))
   have EZ:=hid (show w.heap.size + 3 ≤ wb.heap.size by have:=EZ.out;have:=hbW.size;omega)
   have S3:wlen (a % B64 ^ k * (b % B64 ^ k)) ≤ 2 * k:=by have:=zdy (a % B64 ^ k) (b % B64 ^ k);have:=HWA.out;have:=HWB.out;omega
   have S4:wlen (a / B64 ^ k * (b / B64 ^ k)) ≤ 2 * (mx - k):=by have:=zdy (a / B64 ^ k) (b / B64 ^ k);have:=HWA.out;have:=HWB.out;omega
   have S5:wlen ((a % B64 ^ k + a / B64 ^ k) * (b % B64 ^ k + b / B64 ^ k)) ≤ 2 * (k + 1):=by
    have:=zdy (a % B64 ^ k + a / B64 ^ k) (b % B64 ^ k + b / B64 ^ k)
    have:=zgg (a % B64 ^ k) (a / B64 ^ k);have:=zgg (b % B64 ^ k) (b / B64 ^ k);have:=HWA.out;have:=HWB.out;have:=HK2M.out;omega
   have hle:a % B64 ^ k * (b % B64 ^ k) + a / B64 ^ k * (b / B64 ^ k) ≤ (a % B64 ^ k + a / B64 ^ k) * (b % B64 ^ k + b / B64 ^ k):=zAW _ _ _ _
   have S6:wlen ((a % B64 ^ k + a / B64 ^ k) * (b % B64 ^ k + b / B64 ^ k) - (a % B64 ^ k * (b % B64 ^ k) + a / B64 ^ k * (b / B64 ^ k))) ≤ 2 * (k + 1):=Nat.le_trans (zco (Nat.sub_le _ _)) S5
   have Q4:=hid (show wlen (a % B64 ^ k * (b % B64 ^ k)) ≤ LIM by have:=HM4.out;have:=HKM.out;omega)
   have Q5:=hid (show wlen (a / B64 ^ k * (b / B64 ^ k)) ≤ LIM by have:=HM4.out;have:=HKM.out;omega)
   have Q6:=hid (show wlen ((a % B64 ^ k + a / B64 ^ k) * (b % B64 ^ k + b / B64 ^ k)) ≤ LIM by have:=HM4.out;have:=HKM.out;omega)
   have Q7:=hid hle
   have HV:=hid (kara a b (B64 ^ k) (Nat.pow_pos (by decide)))
   have E2K:B64 ^ (2 * k) = B64 ^ k * B64 ^ k:=by rw [Nat.two_mul,Nat.pow_add]
   have wX:wlen (B64 ^ k) ≤ k + 1:=zaZ (Nat.pow_lt_pow_right (by decide) (by omega))
   have R1:=hid (show k + wlen ((a % B64 ^ k + a / B64 ^ k) * (b % B64 ^ k + b / B64 ^ k) - (a % B64 ^ k * (b % B64 ^ k) + a / B64 ^ k * (b / B64 ^ k))) ≤ LIM by have:=HM4.out;have:=HKM.out;omega)
   have R2:=hid (show 2 * k + wlen (a / B64 ^ k * (b / B64 ^ k)) ≤ LIM by have:=HM4.out;have:=HKM.out;omega)
   generalize a % B64 ^ k * (b % B64 ^ k) = lo at *
   generalize a / B64 ^ k * (b / B64 ^ k) = hi at *
   generalize (a % B64 ^ k + a / B64 ^ k) * (b % B64 ^ k + b / B64 ^ k) = bo at *
   have R3:=hid (show wlen ((bo - (lo + hi)) * B64 ^ k) ≤ 3 * k + 3 by have:=zdy (bo - (lo + hi)) (B64 ^ k);omega)
   have R4:=hid (show wlen (hi * B64 ^ (2 * k)) ≤ 2 * mx + 2 by have h1:=zdy hi (B64 ^ (2 * k));have h2:=zdy (B64 ^ k) (B64 ^ k);rw [← E2K] at h2;have:=HKM.out;omega)
   have R5:=hid (show wlen ((bo - (lo + hi)) * B64 ^ k) ≤ LIM by have:=R3.out;have:=HM4.out;have:=HKM.out;omega)
   have R6:=hid (show wlen (hi * B64 ^ (2 * k)) ≤ LIM by have:=R4.out;have:=HM4.out;omega)
   have R7:=hid (show wlen ((bo - (lo + hi)) * B64 ^ k + hi * B64 ^ (2 * k)) ≤ LIM by have:=zgg ((bo - (lo + hi)) * B64 ^ k) (hi * B64 ^ (2 * k));have:=R3.out;have:=R4.out;have:=HM4.out;have:=HKM.out;omega)
   have HV2:=hid (show lo + ((bo - (lo + hi)) * B64 ^ k + hi * B64 ^ (2 * k)) = a * b by rw [E2K];exact HV.out)
   clear S3 S4 S5 S6 hle hbW hD HS E2K wX HV Q0 Q1 Q2 Q3 F4 F5 G4 G5
   go_wp2_with fail
   have HS:=hid (show ∀ w',Below wb.heap.size wb w' → ((w'.cell? ⟨g0,0,none⟩ = some (.slice L1 ml cl) ∧ w'.cell? ⟨g1,0,none⟩ = some (.slice L2 mh ch) ∧ w'.cell? ⟨g2,0,none⟩ = some (.slice D md cd)) ∧ Below wb.heap.size wb w') from fun w' h => ⟨⟨zab h k0,zab h k1,zab h k2⟩,h⟩)
   go_cut [13,14] (fun s13 s14 wr => ∃ (g3:Nat) (G:Option Addr) (mg cg:Nat),s13 = .pointer (some ⟨g3,0,none⟩) ∧ s14 = .bool true ∧ Below wb.heap.size wb wr ∧
    wr.cell? ⟨g3,0,none⟩ = some (.slice G mg cg) ∧ zas wr (.slice G mg cg) (bo - (lo + hi)) ∧ wb.heap.size ≤ g3)
   case first =>
    go_region_held3 (fun w' => ((w'.cell? ⟨g0,0,none⟩ = some (.slice L1 ml cl) ∧ w'.cell? ⟨g1,0,none⟩ = some (.slice L2 mh ch) ∧ w'.cell? ⟨g2,0,none⟩ = some (.slice D md cd)) ∧ Below wb.heap.size wb w'))
     ((refine HS.out _ ?_;repeat (first | exact Below.refl _ _ | exact (by assumption:_ ∧ Below _ _ _).2 | with_reducible refine bdrew ?_ | with_reducible refine al2 ?_ _ | with_reducible refine set2 ?_ (by omega) | with_reducible refine zc1 ?_ (by assumption))))
     (first
      | (go_at_call 120;(with_reducible refine (Nt.add L1 L2 ml cl mh ch lo hi _ (NL1.out.below (by assumption:_ ∧ Below _ _ _).2) (NL2.out.below (by assumption:_ ∧ Below _ _ _).2) Q4.out Q5.out).mono ?_);rintro e u1 ⟨E1,me,ce,rfl,he1,hb1⟩;have hz1:=hb1.size;(try simp at hz1);have hze1:wb.heap.size ≤ u1.heap.size:=(by omega);(try ((first | (have pp:=zan (b:=wb.heap.size) (v := .slice none 0 0) (t:=31) hb1 (zal _ _ _);obtain ⟨zb8,⟨zjM,zjP⟩,⟨zjN,zjQ⟩,⟨zjO,zjR⟩,⟨zjS,zjT⟩,zjU,zjV⟩:=pp));have zb8:=hid zb8));have HE1:=hid he1;clear he1)
      | (go_at_call 121;(with_reducible refine (Nt.sub_ok D E1 md cd me ce bo (lo + hi) _ (ND.out.below (by assumption:_ ∧ Below _ _ _).2) (by repeat (first | exact HE1.out | with_reducible refine zas.alloc ?_ _ | with_reducible refine zas.drew ?_)) Q7.out Q6.out).mono ?_);rintro e u2 ⟨E2,mf,cf,rfl,he2,hb2⟩;have hz2:=hb2.size;(try simp at hz2);have hze2:wb.heap.size ≤ u2.heap.size:=(by omega);(try ((first | (have pp:=zan (b:=wb.heap.size) (v := .slice none 0 0) (t:=31) hb2 (zb8.out);obtain ⟨zbZ,⟨zfh,zfk⟩,⟨zfi,zfl⟩,⟨zfj,zfm⟩,⟨zfn,zfo⟩,zfp,zfq⟩:=pp) | (have pp:=zan (b:=wb.heap.size) (v := .slice none 0 0) (t:=31) hb2 (zak zb8.out);obtain ⟨zbZ,⟨zfh,zfk⟩,⟨zfi,zfl⟩,⟨zfj,zfm⟩,⟨zfn,zfo⟩,zfp,zfq⟩:=pp));have zbZ:=hid zbZ));(try ((first | (have pp:=zan (b:=u1.heap.size) (v := .slice none 0 0) (t:=31) hb2 (zal _ _ _);obtain ⟨zcz,⟨zjY,zj1⟩,⟨zjZ,zj2⟩,⟨zj0,zj3⟩,⟨zj4,zj5⟩,zj6,zj7⟩:=pp));have zcz:=hid zcz));have HE2:=hid he2;clear he2))
    all_goals
     go_wp2
     go_meet
     case rel =>
      refine ⟨_,E2,mf,cf,rfl,rfl,(by assumption:_ ∧ Below wb.heap.size wb _).2,?_,?_,?_⟩
      all_goals
       repeat' (first
        | with_reducible exact HE2.out
        | with_reducible assumption
        | with_reducible exact zeo _ _ _
        | with_reducible exact zfx _ _ _ _
        | with_reducible refine cell_al ?_
        | with_reducible refine Box.cell ?_
        | with_reducible refine cell_set ?_ ?_
        | with_reducible exact Box.new _ _
        | with_reducible exact Box.new1 _ _ _
        | with_reducible refine Box.alloc ?_
        | with_reducible refine Box.set ?_
        | exact Box.of zbZ.out
        | exact Box.of zcz.out
        | with_reducible refine zas.alloc ?_ _
        | with_reducible refine zas.setBox ?_ ?_
        | with_reducible refine zas.drew ?_
        | omega)
   case rest =>
    obtain ⟨g3,G,mg,cg,rfl,rfl,hbX,k3,hG,hg3⟩:=hcut
    rename World => wd
    have k0:=zab hbX k0
    have k1:=zab hbX k1
    have NL1:=hid (NL1.out.below hbX)
    have NL2:=hid (NL2.out.below hbX)
    have NG:=hid hG
    have EZB:=EZ
    have ER:=hid (zad hbX ER.out)
    have EB:=hid (EB.out.trans (hbX.mono (by have:=EZ.out;omega)))
    have EZ:=hid (show w.heap.size + 3 ≤ wd.heap.size by have:=EZ.out;have:=hbX.size;omega)
    have hg3:w.heap.size + 3 ≤ g3:=by have:=EZB.out;omega
    have hg0:=HG0.out.1
    have hg1:=HG0.out.2
    clear hbX hG HS
    go_wp2_with fail
    obtain ⟨kk,hkk⟩:∃ kk,kk = 2 * k:=⟨_,rfl⟩
    rw [← hkk] at R2 R4 R6 R7 HV2
    have HKI:=hid (show IntKind.i64.wrap (2 * (k:Int)) = (kk:Int) by rw [IntWalk.i64_in _ (by have:=HKM.out;have:=HM4.out;have:=zaP;omega),hkk];omega)
    clear hkk
    go_region_held3 (fun w' => w'.cell? ⟨g0,0,none⟩ = some (.slice L1 ml cl) ∧ w'.cell? ⟨g1,0,none⟩ = some (.slice L2 mh ch) ∧ w'.cell? ⟨g3,0,none⟩ = some (.slice G mg cg))
     (((try go_split_ands);(try simp only [World.cell?_drew]);(repeat' apply And.intro) <;> (first | assumption | exact zab hb1 (by assumption) | exact zab hb2 (by assumption) | exact zab hb3 (by assumption) | exact zab hb4 (by assumption) | exact cell_set (by omega) (by assumption) | exact cell_al (by assumption))))
     (first
      | (go_at_call 122;(with_reducible refine (raised G mg cg (bo - (lo + hi)) k _ (by repeat (first | exact NG.out | with_reducible refine zas.alloc ?_ _ | with_reducible refine zas.drew ?_)) R1.out).mono ?_);rintro e u1 ⟨E1,me,ce,rfl,he1,hb1⟩;have hz1:=hb1.size;(try simp at hz1);have hze1:wd.heap.size ≤ u1.heap.size:=(by omega);have HE1:=hid he1;clear he1)
      | (go_at_call 122;(with_reducible refine (zA8 L2 mh ch hi kk (IntKind.i64.wrap (2 * (k:Int))) HKI.out _ (by repeat (first | exact NL2.out | with_reducible refine zas.alloc ?_ _ | with_reducible refine zas.drew ?_ | refine zas.below ?_ hb1)) R2.out).mono ?_);rintro e u2 ⟨E2,mf,cf,rfl,he2,hb2⟩;have hz2:=hb2.size;(try simp at hz2);have hze2:wd.heap.size ≤ u2.heap.size:=(by omega);have HE2:=hid he2;clear he2)
      | (go_at_call 120;(with_reducible refine (Nt.add E1 E2 me ce mf cf _ _ _ (by repeat (first | exact HE1.out | with_reducible refine zas.alloc ?_ _ | with_reducible refine zas.drew ?_ | refine zas.below ?_ hb2)) (by repeat (first | exact HE2.out | with_reducible refine zas.alloc ?_ _ | with_reducible refine zas.drew ?_)) R5.out R6.out).mono ?_);rintro e u3 ⟨E3,mg3,cg3,rfl,he3,hb3⟩;have hz3:=hb3.size;(try simp at hz3);have hze3:wd.heap.size ≤ u3.heap.size:=(by omega);have HE3:=hid he3;clear he3)
      | (go_at_call 120;(with_reducible refine (Nt.add L1 E3 ml cl mg3 cg3 lo _ _ (by repeat (first | exact NL1.out | with_reducible refine zas.alloc ?_ _ | with_reducible refine zas.drew ?_ | refine zas.below ?_ hb3 | refine zas.below ?_ hb2 | refine zas.below ?_ hb1)) (by repeat (first | exact HE3.out | with_reducible refine zas.alloc ?_ _ | with_reducible refine zas.drew ?_)) Q4.out R7.out).mono ?_);rintro e u4 ⟨E4,mh4,ch4,rfl,he4,hb4⟩;have hz4:=hb4.size;(try simp at hz4);have HE4:=hid he4;have ER4:=hid (zad hb4 (zad hb3 (zad hb2 (zad hb1 ER.out))));have EB4:=hid (zc1 (zc1 (zc1 (zc1 (bdrew EB.out) hb1) hb2) hb3) hb4);have ERc:=zac ER4.out 0;have ERf:=zag ER4.out 0;simp only [List.getElem?_toArray,List.getElem?_cons_zero] at ERc;clear he4))
    all_goals
     go_wp2
     refine bodyPost_ret (v := .agg #[.slice E4 mh4 ch4]) (by simp [results,Tryz.results58,go_sem,ERc]) rfl ?_
     have hs4:=HE4.out
     rw [HV2.out] at hs4
     exact ⟨_,_,_,rfl,hs4.setCell (p:=⟨w.heap.size + 1 + 1,0,none⟩) ER4.out (by decide) _,Below.setCell EB4.out (by simp;omega) _⟩
theorem zrH:∀ M,zpn M
 | 0 => fun _ _ _ _ _ _ _ _ _ _ _ _ _ h _ => absurd h (by omega)
 | M + 1 => fun A B m c m' c' a b w ha hb hla hlb hMa hMb => by
  by_cases h8:wlen a < 8 ∨ wlen b < 8
  ·exact zu7 A B m c m' c' a b w ha hb (by omega) h8
  ·exact zA1 A B m c m' c' a b M w (zrH M) (by omega) ha hb hla hlb (by omega) (by omega)
theorem mul (A B:Option Addr) (m c m' c' a b:Nat) (w:World) (ha:zas w (.slice A m c) a) (hb:zas w (.slice B m' c') b) (hla:4 * wlen a ≤ LIM) (hlb:4 * wlen b ≤ LIM) :
  Calls Tryz.prog 58 #[.agg #[.slice A m c], .agg #[.slice B m' c']] w (zc0 w (a * b)) :=
 zrH (wlen a + wlen b + 1) A B m c m' c' a b w ha hb hla hlb (by omega) (by omega)
end Pr
end Go.Proofs.YtdbgbaiekpbaoaaGreatDoor
