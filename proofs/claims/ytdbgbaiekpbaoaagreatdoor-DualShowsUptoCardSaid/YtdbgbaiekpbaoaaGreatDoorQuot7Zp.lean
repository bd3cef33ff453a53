/- quot.DivMod by its contract: a long division. Conditions: as it says. -/
import Derived.Test.YtdbgbaiekpbaoaaGreatDoorQuot4Zp
set_option linter.all false
namespace Go.Proofs.YtdbgbaiekpbaoaaGreatDoor
open Go.RowKit Am
open Lib (hid)
attribute [local go_sem ↓] Go.wp_at_zero Go.wp_at_succ
set_option maxHeartbeats 10000000
set_option maxRecDepth 100000
namespace Qt
theorem zJH (s:Value) (xs:List Nat) (w:World) (hs:SW w s xs):Calls Tryz.prog 117 #[.agg #[s]] w fun e w' => e = .returned (.int .i64 (xs.length:Int)) ∧ Below w.heap.size w w' :=
 (Nt.len s xs w hs).mono fun e w' h => ⟨h.1,by rw [h.2];exact zae w _⟩
theorem zBr (s:Value) (xs:List Nat) (k x:Nat) (K:Int) (hK:K = (k:Int)) (w:World) (hs:SW w s xs) (hx:wd xs k = x):Calls Tryz.prog 157 #[.agg #[s], .int .i64 K] w fun e w' => e = .returned (.int .u64 (x:Int)) ∧ Below w.heap.size w w':=by
 subst hK
 exact (Nt.word s xs k (Int.natCast_nonneg _) w hs).mono fun e w' h => ⟨by rw [h.1, ← hx];rfl,by rw [h.2];exact zae w _⟩
theorem zH4 (x s:Nat) (hx:x < 18446744073709551616) (hs:64 - blen x = s) (w:World):Calls Tryz.prog 184 #[.int .u64 x] w fun e w' => e = .returned (.int .i64 (s:Int)) ∧ Below w.heap.size w w' :=
 (Word.lead x hx w).mono fun e w' h => by
  obtain ⟨h1,n,h2⟩:=h
  exact ⟨by rw [h1,hs],by rw [h2];exact zap w n⟩
theorem zvm (W:World) (g n c k:Nat) (K:Int) (hK:K = (k:Int)) (h1:k ≤ c) (h2:0 < c) :
  (Instr.slice 29 (.slice (some ⟨g,0,none⟩) n c) none (some (.int .i64 K)) none).run Tryz.prog W = .ok (.slice (some ⟨g,0,none⟩) k c) W:=by
 subst hK;exact Pr.run_upto W g n c k h1 h2
theorem ztS {V w6 W w7:World} {v6 v7:Value} {xs:List Nat} {H n m:Nat} (hb6:Below V.heap.size V w6) (hl:(wcells xs).length = m) (hO7:w7.ownsRow H 193 1 v7 (n + 2) (wcells (xs ++ [0,0]))) (hg7:W.grownBy w7 v6.ownBlock)
  (hO:W.ownsRow H 193 1 v6 n (wcells xs)) (hbW:Below w6.heap.size w6 W) (hz:n + ([0,0]:List Nat).length = n + 2) (hs:V.heap.size ≤ w6.heap.size) (hH:V.heap.size ≤ H) :
  ∃ g p,v7 = .slice (some ⟨g,0,none⟩) (n + 2) p ∧ n + 2 ≤ p ∧ V.heap.size ≤ g ∧ w7.ownsRow H 193 1 (.slice (some ⟨g,0,none⟩) (n + 2) p) (n + 2) (wcells (xs ++ [0,0])) ∧ Below V.heap.size V w7:=by
 obtain ⟨g,p,rfl,hp,hg⟩:=zxt hO7 (by omega)
 refine ⟨g,p,rfl,hp,by omega,hO7,?_⟩
 exact (hb6.trans (hbW.mono hs)).grown hg7 (Nat.le_trans hs hbW.size) (fun k hk => Nat.le_trans hH (hO.lt k hk).1)
theorem zDD (u2 u1 u0 v1 v0:Nat) (w:World) (h2:u2 ≤ v1) (h1:u1 < 18446744073709551616) (h0:u0 < 18446744073709551616) (hv:9223372036854775808 ≤ v1) (hv1:v1 < 18446744073709551616) (hv0:v0 < 18446744073709551616) :
  Calls Tryz.prog 186 #[.int .u64 (u2:Int), .int .u64 (u1:Int), .int .u64 (u0:Int), .int .u64 (v1:Int), .int .u64 (v0:Int)] w fun e w' => ∃ q:Nat,e = .returned (.int .u64 (q:Int)) ∧ GuessIs u2 u1 u0 v1 v0 q ∧ Below w.heap.size w w' :=
 (guess u2 u1 u0 v1 v0 w h2 h1 h0 hv hv1 hv0).mono fun e w' h => by
  obtain ⟨⟨q,h1,h2⟩,n,h3⟩:=h
  exact ⟨q,h1,h2,by rw [h3];exact zap w n⟩
theorem zr4 (A B:Option Addr) (m c m' c' a b:Nat) (w:World) (ha:zas w (.slice A m c) a) (hb:zas w (.slice B m' c') b) (hb1:¬ wlen b ≤ 1) (hle:b ≤ a) (hla:wlen a + 1 ≤ LIM) :
    Calls Tryz.prog 176 #[.agg #[.slice A m c], .agg #[.slice B m' c']] w (zv4 w (a / b) (a % b) true):=by
  obtain ⟨ys,hy,hcy,hny,hly,hm⟩:=hb.words
  subst hm
  have HA:=hid ha
  have HBN:=hid hb
  have HY:=hid hy
  have hyl:¬ (ys.length:Int) ≤ 1:=by omega
  have HLY:=hid hly
  have HNY:=hid hny
  clear ha hb hy hly hny
  have W0:∃ W,W = (((w.alloc (.cells #[.slice A m c] 31)).alloc (.cells #[.slice B ys.length c'] 31)).alloc (.cells #[.slice none 0 0] 31)).alloc (.cells #[.slice none 0 0] 31):=⟨_,rfl⟩
  obtain ⟨W,hW⟩:=W0
  have hz:W.heap.size = w.heap.size + 1 + 1 + 1 + 1:=by rw [hW];simp
  have k0:W.cell? ⟨w.heap.size,0,none⟩ = some (.slice A m c):=by rw [hW];exact cell_al (cell_al (cell_al (zax rfl rfl)))
  have k1:W.cell? ⟨w.heap.size + 1,0,none⟩ = some (.slice B ys.length c'):=by rw [hW];exact cell_al (cell_al (zax (by simp) rfl))
  have r2:W.heap[w.heap.size + 1 + 1]? = some (.cells #[.slice none 0 0] 31 (0,0)):=by rw [hW];exact zak (zam (by simp))
  have r3:W.heap[w.heap.size + 1 + 1 + 1]? = some (.cells #[.slice none 0 0] 31 (0,0)):=by rw [hW];exact zam (by simp)
  have hB:Below w.heap.size w W:=by rw [hW];exact (((zae w _).alloc (by simp) _).alloc (by simp;omega) _).alloc (by simp;omega) _
  have NA:=hid (HA.out.below hB)
  have NB:=hid (HBN.out.below hB)
  have NY:=hid (HY.out.below hB)
  have R2:=hid r2
  have R3:=hid r3
  have HB:=hid hB
  have HZ:=hid hz
  clear r2 r3 hB hz HA HBN HY
  go_enter Tryz.func176,Tryz.ntmps176
  go_wp2_with fail
  rw [← hW]
  clear hW
  refine (Nt.len (.slice B ys.length c') ys _ NY.out).mono ?_
  rintro e w' ⟨rfl,rfl⟩
  have k0:=cell_al (ob := .cells #[.slice B ys.length c'] 31) k0
  have k1:=cell_al (ob := .cells #[.slice B ys.length c'] 31) k1
  go_wp2_with fail
  refine (Nt.cmp A B m c ys.length c' a b _ (NA.out.alloc _) (NB.out.alloc _)).mono ?_
  rintro e w2 ⟨rfl,hb2⟩
  have hV:Below W.heap.size W w2:=((zae W _).trans (hb2.mono (by simp)))
  have k0:=zab hb2 k0
  have k1:=zab hb2 k1
  have NA:=hid (NA.out.below hV)
  have NB:=hid (NB.out.below hV)
  have NY:=hid (NY.out.below hV)
  have R2:=hid (zad hV R2.out)
  have R3:=hid (zad hV R3.out)
  have HB:=hid (HB.out.trans (hV.mono (by have:=HZ.out;omega)))
  have HZ:=hid (show w.heap.size + 4 ≤ w2.heap.size by have:=HZ.out;have:=hV.size;omega)
  clear hb2 hV
  have hcm:¬ ze9 (a:Int) (b:Int) < 0:=by
    rcases Nat.lt_or_ge b a with h | h
    · rw [zea (by omega)];omega
    · rw [zgN (by omega)];omega
  obtain ⟨cv,hcv⟩:∃ cv,cv = ze9 (a:Int) (b:Int):=⟨_,rfl⟩
  rw [← hcv] at hcm ⊢
  clear hcv
  go_wp2_with fail
  obtain ⟨top,htop⟩:∃ top,wd ys (ys.length - 1) = top:=⟨_,rfl⟩
  obtain ⟨s,hs⟩:∃ s,64 - blen top = s:=⟨_,rfl⟩
  have HTOP:=hid htop
  have HSS:=hid hs
  obtain ⟨L,hLL⟩:∃ L,ys.length = L + 1:=⟨ys.length - 1,by have:=HLY.out;omega⟩
  have HN:=hid (show (b * 2 ^ s < B64 ^ (L + 1) ∧ 2 ^ 63 * B64 ^ L ≤ b * 2 ^ s) ∧ 1 ≤ L ∧ L + 1 ≤ wlen a by
    have h0:0 < top:=by
      rw [← htop]
      exact Nat.pos_of_ne_zero (zoq hcy (by omega))
    have h1:=zqo (L:=L) (top:=top) (s:=s) NY.out.2 hLL (by rw [← htop,hLL];rfl) h0 hs
    rw [HNY.out] at h1
    have h2:=HLY.out
    have h3:=zco hle
    exact ⟨h1,by omega,by omega⟩)
  clear hLL
  have HTB:=hid (show top < 18446744073709551616 by rw [← htop];exact zdM NY.out.2 _)
  have hL2:2 ≤ ys.length:=by have:=HLY.out;omega
  have HL2:=hid hL2
  have hylb:ys.length ≤ 9223372036854775807:=NY.out.len_le
  have hKI:IntKind.i64.wrap ((ys.length:Int) - 1) = ((ys.length - 1:Nat):Int):=by rw [IntWalk.i64_in _ (by omega)];omega
  have HKI:=hid hKI
  have HLA:=hid (show wlen a ≤ LIM by omega)
  have HLA1:=hid hla
  have HLE:=hid hle
  clear htop hs hKI hla hle hb1
  have HS:=hid (show ∀ w',Below w2.heap.size w2 w' → ((w'.cell? ⟨w.heap.size,0,none⟩ = some (.slice A m c) ∧ w'.cell? ⟨w.heap.size + 1,0,none⟩ = some (.slice B ys.length c')) ∧ Below w2.heap.size w2 w') from fun w' h => ⟨⟨zab h k0,zab h k1⟩,h⟩)
  go_cut [10] (fun s10 wr => s10 = .int .i64 (s:Int) ∧ Below w2.heap.size w2 wr)
  case first =>
    go_region_held3 (fun w' => ((w'.cell? ⟨w.heap.size,0,none⟩ = some (.slice A m c) ∧ w'.cell? ⟨w.heap.size + 1,0,none⟩ = some (.slice B ys.length c')) ∧ Below w2.heap.size w2 w'))
      ((refine HS.out _ ?_;repeat (first | exact Below.refl _ _ | exact (by assumption:_ ∧ Below _ _ _).2 | with_reducible refine bdrew ?_ | with_reducible refine al2 ?_ _ | with_reducible refine set2 ?_ (by omega) | with_reducible refine zc1 ?_ (by assumption))))
      (first
        | (go_at_call 117;(with_reducible refine (zJH (.slice B ys.length c') ys _ (NY.out.below (by assumption:_ ∧ Below _ _ _).2)).mono ?_);rintro e u1 ⟨rfl,hb1⟩;have hz1:=hb1.size;(try simp at hz1);have hze1:w2.heap.size ≤ u1.heap.size:=(by omega))
        | (go_at_call 157;(with_reducible refine (zBr (.slice B ys.length c') ys (ys.length - 1) top (IntKind.i64.wrap ((ys.length:Int) - 1)) HKI.out _ (NY.out.below (by assumption:_ ∧ Below _ _ _).2) HTOP.out).mono ?_);rintro e u2 ⟨rfl,hb2⟩;have hz2:=hb2.size;(try simp at hz2);have hze2:w2.heap.size ≤ u2.heap.size:=(by omega))
        | (go_at_call 184;(with_reducible refine (zH4 top s HTB.out HSS.out _).mono ?_);rintro e u3 ⟨rfl,hb3⟩;have hz3:=hb3.size;(try simp at hz3);have hze3:w2.heap.size ≤ u3.heap.size:=(by omega)))
    all_goals
      go_wp2
      go_meet
      case rel => exact ⟨rfl,(by assumption:_ ∧ Below w2.heap.size w2 _).2⟩
  case rest =>
    obtain ⟨rfl,hbV⟩:=hcut
    rename World => w3
    have k0:=zab hbV k0
    have k1:=zab hbV k1
    have NA:=hid (NA.out.below hbV)
    have NB:=hid (NB.out.below hbV)
    have NY:=hid (NY.out.below hbV)
    have R2:=hid (zad hbV R2.out)
    have R3:=hid (zad hbV R3.out)
    have HB:=hid (HB.out.trans (hbV.mono (by have:=HZ.out;omega)))
    have HZ:=hid (show w.heap.size + 4 ≤ w3.heap.size by have:=HZ.out;have:=hbV.size;omega)
    clear hbV HS
    have hs63:s < 64:=by
      rw [← HSS.out]
      have h0:0 < top:=by
        rw [← HTOP.out]
        exact Nat.pos_of_ne_zero (zoq hcy (by have:=HL2.out;omega))
      have:=zhl h0
      omega
    have HS63:=hid hs63
    have hlb:wlen b ≤ LIM:=Nat.le_trans (zco HLE.out) HLA.out
    have HLB:=hid hlb
    clear hs63 hlb
    go_wp2_with fail
    refine (Nt.shl B ys.length c' b s _ NB.out HS63.out HLB.out).mono ?_
    rintro e w4 ⟨Av,mv,cv',rfl,hv4,hb4⟩
    have k04:=cell_al (ob := .cells #[.slice Av mv cv'] 31) (zab hb4 k0)
    have HV4:=hid (hv4.alloc (.cells #[.slice Av mv cv'] 31))
    have hV:Below w3.heap.size w3 (w4.alloc (.cells #[.slice Av mv cv'] 31)):=hb4.trans (zae w4 _ |>.mono hb4.size)
    have NA4:=hid (NA.out.below hV)
    have HZ4:=hid hb4.size
    have HV:=hid hV
    clear hv4 hb4 hV k1
    go_wp2_with fail
    refine (Nt.shl A m c a s _ NA4.out HS63.out HLA.out).mono ?_
    rintro e w5 ⟨As,ms,cs,rfl,hs5,hb5⟩
    have hV5:Below w3.heap.size w3 (w5.alloc (.cells #[.slice As ms cs] 31)):=(HV.out.trans (hb5.mono HV.out.size)).trans ((zae w5 _).mono (Nat.le_trans HV.out.size hb5.size))
    have hb5':Below (w4.alloc (.cells #[.slice Av mv cv'] 31)).heap.size (w4.alloc (.cells #[.slice Av mv cv'] 31)) (w5.alloc (.cells #[.slice As ms cs] 31)):=hb5.trans ((zae w5 _).mono hb5.size)
    have k0:(w5.alloc (.cells #[.slice As ms cs] 31)).cell? ⟨w.heap.size,0,none⟩ = some (.slice A m c):=zab hb5' k04
    have kv:(w5.alloc (.cells #[.slice As ms cs] 31)).heap[w4.heap.size]? = some (.cells #[.slice Av mv cv'] 31 (0,0)):=zad hb5' (zam rfl)
    have ks:(w5.alloc (.cells #[.slice As ms cs] 31)).cell? ⟨w5.heap.size,0,none⟩ = some (.slice As ms cs):=zax rfl rfl
    have NA:=hid (NA.out.below hV5)
    have NV:=hid (HV4.out.below hb5')
    have NS:=hid (hs5.alloc (.cells #[.slice As ms cs] 31))
    have R2:=hid (zad hV5 R2.out)
    have R3:=hid (zad hV5 R3.out)
    have HB:=hid (HB.out.trans (hV5.mono (by have:=HZ.out;omega)))
    have HZV:=hid (show w.heap.size + 4 ≤ w4.heap.size ∧ w4.heap.size < w5.heap.size ∧ (w5.alloc (.cells #[.slice As ms cs] 31)).heap.size = w5.heap.size + 1 by have:=HZ.out;have:=HZ4.out;have:=hb5.size;simp at this;simp;omega)
    have KV:=hid kv
    clear k04 hV5 hb5' hb5 hs5 kv HV4 NA4 HV NB NY HZ HZ4
    go_wp2_with fail
    generalize hq1:w4.heap.size = gv at *
    generalize hq2:w5.heap.size = gs at *
    generalize w5.alloc (.cells #[.slice As ms cs] 31) = V at *
    clear hq1 hq2
    have HVB:=hid (show ∀ k,(Value.slice Av mv cv').ownBlock = some k → k < V.heap.size by
      obtain ⟨zs,hz,_⟩:=NV.out
      exact fun k hk => hz.block hk)
    obtain ⟨az,hsa,hca,hna,hal,hma⟩:=NA.out.words
    subst hma
    obtain ⟨xs,hsx,hcx,hnx,hxl,hmx⟩:=NS.out.words
    subst hmx
    have hx1:xs.length ≤ az.length + 1:=by
      rw [hxl,hal]
      have h1:=zdy a (2 ^ s)
      have h2:wlen (2 ^ s) ≤ 1:=zdl (Nat.lt_of_le_of_lt (Nat.pow_le_pow_right (show 0 < 2 by decide) (Nat.le_of_lt_succ HS63.out)) (by decide))
      omega
    have hx2:az.length ≤ xs.length:=by
      rw [hxl,hal]
      exact zco (Nat.le_mul_of_pos_right a (Nat.pow_pos (by decide)))
    have haL:az.length ≤ LIM:=by rw [hal];exact HLA.out
    have SA:=hid hsx
    have SN:=hid hsa
    have HAL:=hid hal
    have HNX:=hid hnx
    have HX1:=hid hx1
    have HX2:=hid hx2
    have HAL2:=hid haL
    have SL:=hid (show xs.length ≤ LIM by have:=HLA1.out;omega)
    have hazb:az.length ≤ 9223372036854775800:=by have:=zaP;omega
    have HAW:=hid (show IntKind.i64.wrap ((az.length:Int) + 1) = ((az.length + 1:Nat):Int) by rw [IntWalk.i64_in _ (by omega)];omega)
    clear hsa hca hna hal hsx hcx hnx hxl hx1 hx2 haL
    have k0d:V.drew.cell? ⟨w.heap.size,0,none⟩ = some (.slice A az.length c):=k0
    have k0a:(V.alloc (.cells #[.int .u64 0, .int .u64 0] 193)).drew.cell? ⟨w.heap.size,0,none⟩ = some (.slice A az.length c):=cell_al k0
    have ksd:V.drew.cell? ⟨gs,0,none⟩ = some (.slice As xs.length cs):=ks
    have ksa:(V.alloc (.cells #[.int .u64 0, .int .u64 0] 193)).drew.cell? ⟨gs,0,none⟩ = some (.slice As xs.length cs):=cell_al ks
    have hVl:Below V.heap.size V (V.alloc (.cells #[.int .u64 0, .int .u64 0] 193)).drew:=(zae V _).drew
    go_cut [15] (fun s15 wr => ∃ (H cu:Nat),s15 = .slice (some ⟨H,0,none⟩) (az.length + 1) cu ∧ az.length + 1 ≤ cu ∧ V.heap.size ≤ H ∧ wr.ownsRow H 193 1 (.slice (some ⟨H,0,none⟩) (az.length + 1) cu) (az.length + 1) (wcells ((xs ++ [0,0]).take (az.length + 1))) ∧ Wds xs ∧ Below V.heap.size V wr)
    case first =>
      go_region_law (first
        | (refine znT (by rfl) 158 Tryz.func158 (by kernel_rfl) (by rfl) _ _ (by rfl) _ (by rfl) (Nt.wordsF As xs.length cs xs _ (by first | exact SA.out.drew | exact (SA.out.alloc _).drew) SL.out) ?_;rintro e w6 ⟨A6,m6,c6,rfl,hO6,hW6,hb6⟩;refine ⟨_,rfl,?_⟩;
           have HO6:=hid hO6;have HB6S:=hid hb6.size;have HB6Z:=hid (show V.heap.size ≤ w6.heap.size from (by first | exact Nat.le_trans (by simp) hb6.size));have HW6:=hid hW6;
           have HB6:=hid (show Below V.heap.size V w6 by first | exact (zap V 1).trans (hb6.mono (by first | exact Nat.le_refl _ | (simp;done))) | exact hVl.trans (hb6.mono hVl.size));
           have k06:=zab HB6.out k0;have k06a:=cell_al (ob := .cells #[.int .u64 0, .int .u64 0] 193) k06;try (have L6:∀ j u,(wcells [0,0])[j]? = some u → w6.cell? ((⟨V.heap.size,0,none⟩:Addr).add j) = some u:=fun j u hu => (Below.cell hb6 (World.block_lt_of_cell? (V.alloc (.cells #[.int .u64 0, .int .u64 0] 193)) _ (zH5 V V.heap.size rfl j u hu))).trans (zH5 V V.heap.size rfl j u hu)))
        | ((refine zo4 (by rfl) _ _ (by rfl) (by first | exact HO6.out.alloc _ | exact HO6.out) (by rfl) (by rfl) (xs:=[0,0]) (by rfl) (by first | exact zH5 _ _ (by rfl) | exact L6) (by have:=SL.out;have:=zaP;simp;omega) (by first | exact HB6S.out | exact Nat.le_trans HB6S.out (by simp)) ?_;rintro v7 w7 hO7 hg7;have hq:=ztS HB6.out HO6.out.1 hO7 hg7 (by first | exact HO6.out.alloc _ | exact HO6.out) (by first | exact zae _ _ | exact Below.refl _ _) (by rfl) HB6Z.out (by first | exact Nat.le_refl _ | simp);obtain ⟨H7,p7,rfl,hp7,hH7,hO8,hb7⟩:=hq;have HO8:=hid hO8;have HB7:=hid hb7;have HH7:=hid hH7;have k07:=zab hb7 k0;have SN7:=hid (SN.out.below hb7);have hp8:az.length + 1 ≤ p7:=(by have:=HX2.out;omega);have hup:=fun W => zvm W H7 (xs.length + 2) p7 (az.length + 1) (IntKind.i64.wrap ((az.length:Int) + 1)) HAW.out hp8 (by omega);clear hO7 hg7 hO8 hb7 hH7))
        | (refine znT (by rfl) 117 Tryz.func117 (by kernel_rfl) (by rfl) _ _ (by rfl) _ (by rfl) (zJH (.slice A az.length c) az _ SN7.out) ?_;rintro e w8 ⟨rfl,hb8⟩;refine ⟨_,rfl,?_⟩;have HB8:=hid hb8;clear hb8))
      all_goals
        go_wp2
        go_meet
        case rel => exact ⟨H7,p7,rfl,hp8,HH7.out,zxv (zfF HO8.out HB8.out) (by have:=HX2.out;omega),HW6.out,HB7.out.trans (HB8.out.mono HB7.out.size)⟩
    case rest =>
      obtain ⟨H,cu,rfl,hcu,hHV,hO,hWx,hbV⟩:=hcut
      rename World => Y
      have KV:=hid (zad hbV KV.out)
      have k0:=zab hbV k0
      have NA:=hid (SN.out.below hbV)
      have NV:=hid (NV.out.below hbV)
      have R2:=hid (zad hbV R2.out)
      have R3:=hid (zad hbV R3.out)
      have HB:=hid (HB.out.trans (hbV.mono HB.out.size))
      have HO:=hid hO
      have HWX:=hid hWx
      have HSZ:=hid (show V.heap.size ≤ H ∧ V.heap.size ≤ Y.heap.size by exact ⟨hHV,hbV.size⟩)
      clear hbV hO hWx hHV SA SN NS k0d k0a ksd ksa ks hVl
      obtain ⟨vs,hsv,hcv,hnv,hvl,hmv⟩:=NV.out.words
      subst hmv
      have hnt:=zxq hsv.2 hcv hnv HN.out.1.1 HN.out.1.2
      have SV:=hid hsv
      have HVT:=hid hnt
      have HVN:=hid hnv
      have hpad:=zA6 HX2.out HX1.out
      rw [HNX.out] at hpad
      have hwu:Wds ((xs ++ [0,0]).take (az.length + 1)):=(HWX.out.append (by intro z hz;simp at hz;subst hz;decide)).take _
      generalize (xs ++ [0,0]).take (az.length + 1) = us at *
      have HPAD:=hid hpad
      have HWU:=hid hwu
      clear hsv hcv hnv hvl hnt hpad hwu
      have kvc:=zac KV.out 0
      simp only [List.getElem?_toArray,List.getElem?_cons_zero] at kvc
      go_wp2_with fail
      refine (Nt.len (.slice Av vs.length cv') vs _ SV.out).mono ?_
      rintro e w' ⟨rfl,rfl⟩
      have k0:=cell_al (ob := .cells #[.slice Av vs.length cv'] 31) k0
      go_wp2_with fail
      refine (Nt.len (.slice A az.length c) az _ (NA.out.alloc _)).mono ?_
      rintro e w' ⟨rfl,rfl⟩
      have hvlen:vs.length ≤ az.length:=by have:=HVT.out.1;have:=HN.out.2.2;have:=HAL.out;omega
      obtain ⟨nq,hnq⟩:∃ nq,nq = az.length - vs.length + 1:=⟨_,rfl⟩
      have HNQ:=hid (show nq + vs.length = az.length + 1 by omega)
      have hLq:wrap64 (wrap64 ((az.length:Int) - (vs.length:Int)) + 1) = (nq:Int):=by unfold wrap64;omega
      have HLQ:=hid hLq
      have hnqb:nq ≤ 16 * LIM:=by have:=HAL2.out;have:=zaP;omega
      have HNQB:=hid hnqb
      clear hnq hLq hvlen
      have hYZ:Below Y.heap.size Y ((Y.alloc (.cells #[.slice Av vs.length cv'] 31)).alloc (.cells #[.slice A az.length c] 31)):=(zae Y _).alloc (by simp) _
      generalize (Y.alloc (.cells #[.slice Av vs.length cv'] 31)).alloc (.cells #[.slice A az.length c] 31) = Z at *
      have HYZ:=hid hYZ
      clear hYZ k0
      go_wp2_with (at_make;go_must (refine zdz rfl _ _ rfl nq _ rfl rfl HLQ.out HNQB.out Z.heap.size rfl ?_))
      intro w1 ho
      have hD:DS w w1 H Z.heap.size gv az.length nq cu us (List.replicate nq 0) vs Av cv' :=
        ⟨zfF (zfF HO.out HYZ.out) ho.bel,ho.own,zad ho.bel (zad HYZ.out KV.out),(SV.out.below HYZ.out).below ho.bel,zad ho.bel (zad HYZ.out R2.out),zad ho.bel (zad HYZ.out R3.out),(HB.out.trans (HYZ.out.mono HB.out.size)).trans (ho.bel.mono (Nat.le_trans HB.out.size HYZ.out.size))⟩
      have hF:DF w H Z.heap.size gv (.slice Av vs.length cv'):=by
        have h1:=HSZ.out
        have h2:=(HO.out.lt H rfl).2
        have h3:=HYZ.out.size
        have h4:=HZV.out
        exact ⟨by omega,by omega,by omega,fun e => by have:=HVB.out _ e;omega,fun e => by have:=HVB.out _ e;omega⟩
      have HD:=hid hD
      have HF:=hid hF
      clear ho hD hF
      generalize Z.heap.size = G at *
      have hI:LdInv (a * 2 ^ s) (nval vs) us (List.replicate nq 0) nq:=by
        refine ⟨HWU.out,Wds.replicate nq,by rw [zbK,HPAD.out.1];simp,?_,fun j _ => by rw [List.getD_eq_getElem?_getD,List.getElem?_replicate];split <;> rfl⟩
        have h1:=zw3 (us:=us) (vs:=vs) (a:=a) (s:=s) (n:=az.length) (L:=L) HPAD.out.2 HPAD.out.1 (by rw [HAL.out];exact zfD a) HS63.out (by have:=HN.out.2.2;have:=HAL.out;omega) (by rw [HVN.out];exact HN.out.1.2)
        rw [show nq = az.length - L by have:=HNQ.out;have:=HVT.out.1;omega]
        exact h1
      have HI:=hid hI
      clear hI
      go_wp2_with fail
      go_loopw [18] (fun kv wr => ∃ (k:Nat) (us' qs:List Nat),kv = .int .i64 ((k:Int) - 1) ∧ k ≤ nq ∧ us'.length = az.length + 1 ∧ qs.length = nq ∧ LdInv (a * 2 ^ s) (nval vs) us' qs k ∧ DS w wr H G gv az.length nq cu us' qs vs Av cv')
        (fun kv _ => (intOf kv + 1).toNat)
      case atStart =>
        have h1:wrap64 ((nq:Int) - 1) = (nq:Int) - 1:=by have:=HNQB.out;have:=zaP;unfold wrap64;omega
        exact ⟨nq,us,List.replicate nq 0,by rw [h1],Nat.le_refl _,HPAD.out.2,List.length_replicate,HI.out,HD.out⟩
      case round =>
        obtain ⟨k,us',qs,rfl,hk,hul,hql,hI,hD⟩:=hrel
        have HI:=hid hI
        have HD:=hid hD
        have HUL:=hid hul
        have HQL:=hid hql
        clear hI hD hul hql
        rcases k with _ | k
        · have hfin:=unshift (a:=a) (b:=b) (s:=s) (q:=nval qs) (r:=nval us') (by have:=HI.out.eq;rw [HVN.out] at this;exact this) (by have:=HI.out.lt;rw [List.drop_zero,HVN.out] at this;exact this)
          have HFIN:=hid hfin
          have hrl:wlen (nval us') ≤ LIM:=by
            have h1:=HI.out.lt
            rw [List.drop_zero,HVN.out] at h1
            have h2:wlen (nval us') ≤ L + 1:=zaZ (Nat.lt_trans h1 HN.out.1.1)
            have:=HN.out.2.2;have:=HLA.out;omega
          have HRL:=hid hrl
          clear hfin hrl
          go_wp2_with fail
          refine (Nt.of _ qs _ (HD.out.swQ HQL.out HI.out.wq).reads (by rw [HQL.out];have:=HNQ.out;have:=HVT.out.1;have:=HAL2.out;omega)).mono ?_
          rintro e w2 ⟨A2,m2,c2,rfl,hq2,hb2⟩
          have HD2:=hid (HD.out.step hb2)
          have HQ2:=hid hq2
          clear hq2 hb2
          go_wp2_with fail
          refine (Nt.of _ us' _ (HD2.out.swU HUL.out HI.out.wu).reads (by rw [HUL.out,HAL.out];exact HLA1.out)).mono ?_
          rintro e w3 ⟨A3,m3,c3,rfl,hr3,hb3⟩
          have HD3:=hid (HD2.out.step hb3)
          have HQ3:=hid (HQ2.out.below hb3)
          have HR3:=hid hr3
          clear hr3 hb3
          go_wp2_with fail
          refine (Nt.shr A3 m3 c3 (nval us') s _ HR3.out HS63.out HRL.out).mono ?_
          rintro e w4 ⟨A4,m4,c4,rfl,hr4,hb4⟩
          have HD4:=hid (HD3.out.step hb4)
          have HQ4:=hid (HQ3.out.below hb4)
          have HR4:=hid hr4
          clear hr4 hb4
          have g3:=zac HD4.out.r2 0
          have g4:=zag HD4.out.r2 0
          have g5:=zac HD4.out.r3 0
          have g6:=zag HD4.out.r3 0
          simp only [List.getElem?_toArray,List.getElem?_cons_zero] at g3 g5
          go_wp2
          refine bodyPost_ret (v := .tuple #[.agg #[.slice A2 m2 c2], .agg #[.slice A4 m4 c4], .bool true]) (by simp [results,Tryz.results176,go_sem,g3,g5]) rfl ?_
          have hq4:=HQ4.out
          have hr4:=HR4.out
          rw [HFIN.out.1] at hq4
          rw [HFIN.out.2] at hr4
          exact ⟨_,_,_,_,_,_,rfl,zas.setBox (zas.setBox hq4 (Box.of HD4.out.r2)) (Box.set (Box.of HD4.out.r3)),zas.setBox (zas.setBox hr4 (Box.of HD4.out.r2)) (Box.set (Box.of HD4.out.r3)),Below.setCell (Below.setCell HD4.out.bel (p:=⟨w.heap.size + 1 + 1,0,none⟩) (by show w.heap.size ≤ w.heap.size + 1 + 1;omega) _) (p:=⟨w.heap.size + 1 + 1 + 1,0,none⟩) (by show w.heap.size ≤ w.heap.size + 1 + 1 + 1;omega) _⟩
        · have hW:=zvB HI.out.wu SV.out.2 HI.out.lt (by have:=HUL.out;have:=HNQ.out;omega)
          have HWIN:=hid hW
          have HK:=hid (show k + vs.length ≤ az.length by have:=HNQ.out;omega)
          have e1:((k + 1:Nat):Int) - 1 = (k:Int):=by omega
          simp only [e1]
          clear hW e1
          go_wp2_with fail
          have hv2:2 ≤ vs.length:=by have:=HVT.out.1;have:=HN.out.2.1;omega
          have hazb2:=hazb
          obtain ⟨t2,ht2⟩:∃ t,t = k + vs.length:=⟨_,rfl⟩
          obtain ⟨t1,ht1⟩:∃ t,t = k + vs.length - 1:=⟨_,rfl⟩
          obtain ⟨t0,ht0⟩:∃ t,t = k + vs.length - 2:=⟨_,rfl⟩
          obtain ⟨m1,hm1⟩:∃ t,t = vs.length - 1:=⟨_,rfl⟩
          obtain ⟨m0,hm0⟩:∃ t,t = vs.length - 2:=⟨_,rfl⟩
          have hkk:=HK.out
          have q2:t2 < az.length + 1:=by omega
          have q1:t1 < az.length + 1:=by omega
          have q0:t0 < az.length + 1:=by omega
          have qk:k < nq:=by have:=HNQ.out;omega
          have W2:=hid (show IntKind.i64.wrap ((k:Int) + (vs.length:Int)) = (t2:Int) by rw [IntWalk.i64_in _ (by omega)];omega)
          have W1:=hid (show IntKind.i64.wrap ((t2:Int) - 1) = (t1:Int) by rw [IntWalk.i64_in _ (by omega)];omega)
          have W0:=hid (show IntKind.i64.wrap ((t2:Int) - 2) = (t0:Int) by rw [IntWalk.i64_in _ (by omega)];omega)
          have X1:=hid (show IntKind.i64.wrap ((vs.length:Int) - 1) = (m1:Int) by rw [IntWalk.i64_in _ (by omega)];omega)
          have X0:=hid (show IntKind.i64.wrap ((vs.length:Int) - 2) = (m0:Int) by rw [IntWalk.i64_in _ (by omega)];omega)
          have hg2:wd us' t2 ≤ wd vs m1:=by rw [ht2,hm1];exact HWIN.out.top HI.out.wu SV.out.2 hv2
          have hgv:9223372036854775808 ≤ wd vs m1:=by rw [hm1,HVT.out.1];exact HVT.out.2
          have HG2:=hid hg2
          have HGV:=hid hgv
          have HT2:=hid ht2
          have HT1:=hid ht1
          have HT0:=hid ht0
          have HM1:=hid hm1
          have HM0:=hid hm0
          have HV2:=hid hv2
          have HQK:=hid qk
          clear hg2 hgv
          have D0:DS w wr.drew H G gv az.length nq cu us' qs vs Av cv':=HD.out.step (zap wr 1)
          have HD0:=hid D0
          have cU2:=D0.cellU HUL.out q2
          have cU1:=D0.cellU HUL.out q1
          have cU0:=D0.cellU HUL.out q0
          have cV:=D0.cellV
          have i2:(t2:Int) < (az.length:Int) + 1:=by omega
          have i1:(t1:Int) < (az.length:Int) + 1:=by omega
          have i0:(t0:Int) < (az.length:Int) + 1:=by omega
          have ik:(k:Int) < (nq:Int):=by omega
          have R2q:=hid q2
          have R1q:=hid q1
          have R0q:=hid q0
          clear D0 ht2 ht1 ht0 hm1 hm0 hv2 hkk q2 q1 q0 qk hazb2
          have w2q:=W2.out
          have w1q:=W1.out
          have w0q:=W0.out
          have x1q:=X1.out
          have x0q:=X0.out
          have LU1:=hid (zdM HI.out.wu t1)
          have LU0:=hid (zdM HI.out.wu t0)
          have LV1:=hid (zdM SV.out.2 m1)
          have LV0:=hid (zdM SV.out.2 m0)
          go_cut [] (fun wr' => ∃ (q:Nat),GuessIs (wd us' t2) (wd us' t1) (wd us' t0) (wd vs m1) (wd vs m0) q ∧ DS w wr' H G gv az.length nq cu us' (qs.set k q) vs Av cv')
          case first =>
            have hHG:H < G:=HF.out.hg
            have hgG:gv < G:=Nat.lt_trans HF.out.gh HF.out.hg
            go_region_held3 (fun w' => w'.cell? ⟨H,t2,none⟩ = some (.int .u64 ((wd us' t2:Nat):Int)) ∧ w'.cell? ⟨H,t1,none⟩ = some (.int .u64 ((wd us' t1:Nat):Int)) ∧ w'.cell? ⟨H,t0,none⟩ = some (.int .u64 ((wd us' t0:Nat):Int)) ∧ w'.cell? ⟨gv,0,none⟩ = some (.slice Av vs.length cv'))
              (((try go_split_ands);(try simp only [World.cell?_drew]);(repeat' apply And.intro) <;> (first | assumption | exact zab hb1 (by assumption) | exact zab hb2 (by assumption) | exact zab hb3 (by assumption) | exact cell_set (by omega) (by assumption))))
              (first
                | (go_at_call 157;(with_reducible refine (zBr (.slice Av vs.length cv') vs m1 (wd vs m1) (m1:Int) rfl _ HD0.out.sv rfl).mono ?_);rintro e y1 ⟨rfl,hb1⟩;have HD1:=hid (HD0.out.step hb1))
                | (go_at_call 157;(with_reducible refine (zBr (.slice Av vs.length cv') vs m0 (wd vs m0) (m0:Int) rfl _ HD1.out.sv rfl).mono ?_);rintro e y2 ⟨rfl,hb2⟩;have HD2:=hid (HD1.out.step hb2))
                | (go_at_call 186;(with_reducible refine (zDD (wd us' t2) (wd us' t1) (wd us' t0) (wd vs m1) (wd vs m0) _ HG2.out LU1.out LU0.out HGV.out LV1.out LV0.out).mono ?_);rintro e y3 ⟨q,rfl,hgi,hb3⟩;have HD3:=hid (HD2.out.step hb3);have HGI:=hid hgi;have cQ:=HD3.out.cellQ HQL.out HQK.out;have fQ:=HD3.out.q.frozenAt k;clear hgi))
            all_goals
              go_wp2
              go_meet
              case rel => exact ⟨q,HGI.out,HD3.out.setQ HF.out k q⟩
          case rest =>
            obtain ⟨q,hgi,hDq⟩:=hcut
            rename World => y4
            have hgi':GuessIs (wd us' (k + vs.length)) (wd us' (k + vs.length - 1)) (wd us' (k + vs.length - 2)) (wd vs (vs.length - 1)) (wd vs (vs.length - 2)) q:=by
              have:=hgi
              rw [HT2.out,HT1.out,HT0.out,HM1.out,HM0.out] at this
              exact this
            have HGI:=hid hgi'
            have hq64:q < 18446744073709551616:=hgi.lt
            have HQ64:=hid hq64
            have D4:DS w y4.drew H G gv az.length nq cu us' (qs.set k q) vs Av cv':=hDq.step (zap y4 1)
            have HD4:=hid D4
            have cQ4:y4.drew.cell? ⟨G,k,none⟩ = some (.int .u64 (q:Int)):=by
              have h:=D4.cellQ (by rw [List.length_set];exact HQL.out) HQK.out
              have e:wd (qs.set k q) k = q:=by unfold wd;rw [zcU _ _ _ _ (by rw [HQL.out];exact HQK.out),if_pos rfl]
              rw [e] at h
              exact h
            have cV4:=D4.cellV
            have HOC:=hid (D4.outC HUL.out)
            have HCU:=hid (show k + vs.length + 1 ≤ cu by have:=HK.out;omega)
            have HW3:=hid (show IntKind.i64.wrap ((t2:Int) + 1) = ((k + vs.length + 1:Nat):Int) by have:=R2q.out;have:=HT2.out;rw [IntWalk.i64_in _ (by omega)];omega)
            have hmid:=fun W => zvl W H (az.length + 1) cu k (k + vs.length + 1) (IntKind.i64.wrap ((t2:Int) + 1)) HW3.out (by omega) HCU.out (by have:=HCU.out;omega)
            rw [show k + vs.length + 1 - k = vs.length + 1 by omega] at hmid
            have HTK:=hid (show k + vs.length < az.length + 1 by have:=HK.out;omega)
            have HTC:=hid (show vs.length + 1 ≤ cu - k by have:=HCU.out;omega)
            have HTN:=hid (show az.length + 1 ≤ 2 * LIM by have:=HAL2.out;have:=zaP;omega)
            have HVH:=hid HF.out.vh
            clear hgi hgi' hDq D4 hq64 cU2 cU1 cU0 cV hcu
            go_wp2_with fail
            go_region_with (go_at_call 187;(with_reducible refine (take y4.drew y4.drew H (az.length + 1) cu k (cu - k) q us' vs Av cv' HOC.out HD4.out.sv HVH.out HI.out.wu HQ64.out HTK.out HTC.out HTN.out).mono ?_);rintro e y5 ⟨bb,us2,rfl,hbb,hO5,hw5,hs5,he5⟩;have HO5:=hid hO5;have HW5:=hid hw5;have HS5:=hid hs5;have HE5:=hid he5;clear hO5 hw5 hs5 he5)
            all_goals
              have D5:=HD4.out.ofOut HF.out HO5.out
              have HD5:=hid D5
              have HU5:=hid (show us2.length = az.length + 1 by rw [HS5.out.1];exact HUL.out)
              have HKQ:=hid (show k < qs.length by rw [HQL.out];exact HQK.out)
              have HKU:=hid (show k ≤ us'.length by rw [HUL.out];have:=HTK.out;omega)
              have HGV1:=hid (show 9223372036854775808 ≤ wd vs (vs.length - 1) by rw [← HM1.out];exact HGV.out)
              clear D5 cQ4 cV4 hmid
              rcases (show bb = 0 ∨ bb = 1 by omega) with rfl | rfl
              · have hb0:((0:Nat) == 1) = false:=rfl
                simp only [hb0]
                clear hb0
                have hR:=zqw (nq:=nq) HI.out HWIN.out SV.out.2 HV2.out HKQ.out HKU.out HGV1.out HGI.out HS5.out HW5.out HE5.out
                have HR:=hid hR
                clear hR
                go_wp2_with fail
                have h1:wrap64 ((k:Int) - 1) = (k:Int) - 1:=by have:=HQK.out;have:=HNQB.out;have:=zaP;unfold wrap64;omega
                exact ⟨⟨k,us2,qs.set k q,by rw [h1],by have:=HQK.out;omega,HU5.out,by rw [List.length_set];exact HQL.out,HR.out,HD5.out⟩,by rw [h1];simp [intOf]⟩
              · have hb1:((1:Nat) == 1) = true:=rfl
                simp only [hb1]
                clear hb1
                have hq0:0 < q:=by
                  rcases Nat.eq_zero_or_pos q with h | h
                  · subst h
                    have:=zo6 HWIN.out HW5.out HS5.out HKU.out HE5.out (Nat.le_refl 1) (by simp)
                    omega
                  · exact h
                have HPRED:=hid (zdN hq0 HQ64.out)
                have cQ5:y5.cell? ⟨G,k,none⟩ = some (.int .u64 (q:Int)):=by
                  have h:=HD5.out.cellQ (by rw [List.length_set];exact HQL.out) HQK.out
                  have e:wd (qs.set k q) k = q:=by unfold wd;rw [zcU _ _ _ _ HKQ.out,if_pos rfl]
                  rw [e] at h
                  exact h
                have fQ5:=HD5.out.q.frozenAt k
                clear hq0
                go_wp2_with fail
                rw [HPRED.out]
                have D6:=HD5.out.setQ HF.out k (q - 1)
                have HD6:=hid D6
                clear D6 cQ5 fQ5
                generalize y5.setCell ⟨G,k,none⟩ (.int .u64 ((q - 1:Nat):Int)) = y6 at *
                have D7:DS w y6.drew H G gv az.length nq cu us2 ((qs.set k q).set k (q - 1)) vs Av cv':=HD6.out.step (zap y6 1)
                have HD7:=hid D7
                have cV7:=D7.cellV
                have HOC7:=hid (D7.outC HU5.out)
                have hmid:=fun W => zvl W H (az.length + 1) cu k (k + vs.length + 1) (IntKind.i64.wrap ((t2:Int) + 1)) HW3.out (by omega) HCU.out (by have:=HCU.out;omega)
                rw [show k + vs.length + 1 - k = vs.length + 1 by omega] at hmid
                clear D7
                go_region_with (go_at_call 188;(with_reducible refine (back y6.drew y6.drew H (az.length + 1) cu k (cu - k) us2 vs Av cv' HOC7.out HD7.out.sv HVH.out HW5.out HTK.out HTN.out).mono ?_);rintro e y7 ⟨us3,rfl,hO8,hw8,hs8,cc,he8⟩;have HO8:=hid hO8;have HW8:=hid hw8;have HS8:=hid hs8;have HE8:=hid he8;clear hO8 hw8 hs8 he8)
                all_goals
                  have D8:=HD7.out.ofOut HF.out HO8.out
                  have HD8:=hid D8
                  have hR:=zsu (c:=cc) HI.out HWIN.out SV.out.2 HV2.out HKQ.out HKU.out HGV1.out HGI.out HS5.out HW5.out HE5.out HS8.out HW8.out HE8.out
                  have HR:=hid hR
                  clear hR D8 hmid
                  go_wp2_with fail
                  have h1:wrap64 ((k:Int) - 1) = (k:Int) - 1:=by have:=HQK.out;have:=HNQB.out;have:=zaP;unfold wrap64;omega
                  exact ⟨⟨k,us3,(qs.set k q).set k (q - 1),by rw [h1],by have:=HQK.out;omega,by rw [HS8.out.1];exact HU5.out,by rw [List.length_set,List.length_set];exact HQL.out,HR.out.1,HD8.out⟩,by rw [h1];simp [intOf]⟩
end Qt
end Go.Proofs.YtdbgbaiekpbaoaaGreatDoor
