/- quot.guess by its contract. Conditions: as each says. quot.take by its contract. Conditions: as each says. quot.back by its contract. Conditions: as it says. Conditions: as they say. -/
import Derived.Test.YtdbgbaiekpbaoaaGreatDoorQuot1Zp
set_option linter.all false
namespace Go.Proofs.YtdbgbaiekpbaoaaGreatDoor
open Go.RowKit Am
open Lib (hid)
attribute [local go_sem ↓] Go.wp_at_zero Go.wp_at_succ
set_option maxHeartbeats 1000000
set_option maxRecDepth 100000
namespace Qt
theorem zhR (q v0 r u0:Nat) (h0:u0 < 18446744073709551616):(zdw q v0 0 0 < r ∨ zdw q v0 0 0 = r ∧ zdo q v0 0 0 ≤ u0) ↔ q * v0 ≤ r * B64 + u0:=by
 unfold zdw zdo
 simp only [Nat.add_zero]
 generalize q * v0 = P
 have:=Nat.div_add_mod P B64
 have hB:B64 = 18446744073709551616:=rfl
 have h2:=Nat.mod_lt P (show 0 < B64 by decide)
 rw [hB] at *
 omega
theorem zmQ {x y:Nat} (h:(((zlD x y 0:Nat):Int) == 1) = true):B64 ≤ x + y:=by
 have h1:zlD x y 0 = 1:=by have:=eq_of_beq h;omega
 unfold zlD at h1
 have hB:B64 = 18446744073709551616:=rfl
 rw [hB] at h1 ⊢
 omega
theorem zpz {x y:Nat} (hx:x < 18446744073709551616) (hy:y < 18446744073709551616) (h:(((zlD x y 0:Nat):Int) == 1) = false):zjj x y 0 = x + y ∧ x + y < 18446744073709551616:=by
 have h1:¬ zlD x y 0 = 1:=by have:=ne_of_beq_false h;omega
 unfold zlD at h1
 unfold zjj
 have hB:B64 = 18446744073709551616:=rfl
 rw [hB] at h1 ⊢
 have h2:(x + y + 0) / 18446744073709551616 = 0:=by omega
 omega
theorem zdN {q:Nat} (h:0 < q) (hq:q < 18446744073709551616):IntKind.u64.wrap ((q:Int) - 1) = ((q - 1:Nat):Int):=by
 rw [IntKind.wrap_u64]
 omega
theorem guess (u2 u1 u0 v1 v0:Nat) (w:World) (h2:u2 ≤ v1) (h1:u1 < 18446744073709551616) (h0:u0 < 18446744073709551616) (hv:9223372036854775808 ≤ v1) (hv1:v1 < 18446744073709551616) (hv0:v0 < 18446744073709551616) :
    Calls Tryz.prog 186 #[.int .u64 (u2:Int), .int .u64 (u1:Int), .int .u64 (u0:Int), .int .u64 (v1:Int), .int .u64 (v0:Int)] w fun e w' => (∃ q:Nat,e = .returned (.int .u64 (q:Int)) ∧ GuessIs u2 u1 u0 v1 v0 q) ∧ ∃ n,w' = w.drewN n:=by
  rcases Nat.lt_or_ge u2 v1 with hlt | hge
  · have hst:=hid (GuessInv.start u2 u1 u0 v1 v0 hlt h1 h0)
    go_enter Tryz.func186,Tryz.ntmps186
    go_wp2_with (first
      | (go_at_call 190;(refine (Word.div_ok u2 u1 v1 hlt h1 hv1 _).mono ?_);rintro e w' ⟨rfl,nd,rfl⟩))
    go_loopw [11,12] (fun qv rv wr => ∃ (q r n:Nat),qv = .int .u64 (q:Int) ∧ rv = .int .u64 (r:Int) ∧ GuessInv u2 u1 u0 v1 v0 q r ∧ r < 18446744073709551616 ∧ wr = w.drewN n) (fun qv _ _ => (intOf qv).toNat)
    case atStart => exact ⟨_,_,nd,rfl,rfl,hst.out,by unfold zBV;exact Nat.lt_of_lt_of_le (Nat.mod_lt _ (by omega)) (by omega),rfl⟩
    case round =>
      obtain ⟨q,r,n,rfl,rfl,hI,hr,rfl⟩:=hrel
      have hq:=hI.lt
      have HI:=hid hI
      clear hI hst
      by_cases hc:q * v0 ≤ r * B64 + u0
      · have hd:=hid (HI.out.done hv0 (.inl hc))
        have hcc:=(zhR q v0 r u0 h0).2 hc
        clear hc
        go_wp2_with (first
          | (go_at_call 177;(refine (Word.mul q v0 hq hv0 _).mono ?_);rintro e w' ⟨rfl,rfl⟩))
        all_goals first
          | exact bodyPost_ret (v := .int .u64 (q:Int)) (by simp [results,Tryz.results186,go_sem]) rfl ⟨⟨q,rfl,hd.out⟩,n,rfl⟩
          | (exfalso;omega)
      · have hdn:=HI.out.down (by omega)
        have hq0:=hdn.2
        have HD:=hid hdn.1
        have hcc:¬ (zdw q v0 0 0 < r ∨ zdw q v0 0 0 = r ∧ zdo q v0 0 0 ≤ u0):=fun h => hc ((zhR q v0 r u0 h0).1 h)
        clear hc hdn
        go_wp2_with (first
          | (go_at_call 177;(refine (Word.mul q v0 hq hv0 _).mono ?_);rintro e w' ⟨rfl,rfl⟩)
          | (go_at_call 159;(refine (Word.add r v1 0 hr hv1 (by decide) _).mono ?_);rintro e w' ⟨rfl,rfl⟩))
        all_goals first
          | (have h9:=zmQ (by assumption)
             exact bodyPost_ret (v := .int .u64 (IntKind.u64.wrap ((q:Int) - 1))) (by simp [results,Tryz.results186,go_sem]) rfl ⟨⟨q - 1,by rw [zdN hq0 hq],HD.out.done hv0 (.inr h9)⟩,n,rfl⟩)
          | (have h9:=zpz hr hv1 (by assumption)
             refine ⟨⟨q - 1,r + v1,n,by rw [zdN hq0 hq],by rw [h9.1],HD.out,h9.2,rfl⟩,?_⟩
             rw [zdN hq0 hq]
             simp only [intOf]
             omega)
  · have hev:u2 = v1:=by omega
    have hst:=hid (show GuessInv u2 u1 u0 v1 v0 (B64 - 1) (u1 + v1) by rw [hev];exact GuessInv.start' u1 u0 v1 v0)
    clear hev
    go_enter Tryz.func186,Tryz.ntmps186
    go_wp2_with (first
      | (go_at_call 190;(refine (Word.div_no u2 u1 v1 hge _).mono ?_);rintro e w' ⟨rfl,rfl⟩)
      | (go_at_call 159;(refine (Word.add u1 v1 0 h1 hv1 (by decide) _).mono ?_);rintro e w' ⟨rfl,rfl⟩))
    · have h9:=zmQ (by assumption)
      exact bodyPost_ret (v := .int .u64 18446744073709551615) (by simp [results,Tryz.results186,go_sem]) rfl ⟨⟨B64 - 1,rfl,hst.out.done hv0 (.inr h9)⟩,0,rfl⟩
    · have hb:(((zlD u1 v1 0:Nat):Int) == 1) = false:=by assumption
      have h9:=hid (zpz h1 hv1 hb)
      simp only [hb]
      clear hb
      go_loopw [11,12] (fun qv rv wr => ∃ (q r n:Nat),qv = .int .u64 (q:Int) ∧ rv = .int .u64 (r:Int) ∧ GuessInv u2 u1 u0 v1 v0 q r ∧ r < 18446744073709551616 ∧ wr = w.drewN n) (fun qv _ _ => (intOf qv).toNat)
      case atStart => exact ⟨B64 - 1,u1 + v1,0,rfl,by rw [h9.out.1],hst.out,h9.out.2,rfl⟩
      case round =>
        obtain ⟨q,r,n,rfl,rfl,hI,hr,rfl⟩:=hrel
        have hq:=hI.lt
        have HI:=hid hI
        clear hI hst
        by_cases hc:q * v0 ≤ r * B64 + u0
        · have hd:=hid (HI.out.done hv0 (.inl hc))
          have hcc:=(zhR q v0 r u0 h0).2 hc
          clear hc
          go_wp2_with (first
            | (go_at_call 177;(refine (Word.mul q v0 hq hv0 _).mono ?_);rintro e w' ⟨rfl,rfl⟩))
          all_goals first
            | exact bodyPost_ret (v := .int .u64 (q:Int)) (by simp [results,Tryz.results186,go_sem]) rfl ⟨⟨q,rfl,hd.out⟩,n,rfl⟩
            | (exfalso;omega)
        · have hdn:=HI.out.down (by omega)
          have hq0:=hdn.2
          have HD:=hid hdn.1
          have hcc:¬ (zdw q v0 0 0 < r ∨ zdw q v0 0 0 = r ∧ zdo q v0 0 0 ≤ u0):=fun h => hc ((zhR q v0 r u0 h0).1 h)
          clear hc hdn
          go_wp2_with (first
            | (go_at_call 177;(refine (Word.mul q v0 hq hv0 _).mono ?_);rintro e w' ⟨rfl,rfl⟩)
            | (go_at_call 159;(refine (Word.add r v1 0 hr hv1 (by decide) _).mono ?_);rintro e w' ⟨rfl,rfl⟩))
          all_goals first
            | (have h9:=zmQ (by assumption)
               exact bodyPost_ret (v := .int .u64 (IntKind.u64.wrap ((q:Int) - 1))) (by simp [results,Tryz.results186,go_sem]) rfl ⟨⟨q - 1,by rw [zdN hq0 hq],HD.out.done hv0 (.inr h9)⟩,n,rfl⟩)
            | (have h9:=zpz hr hv1 (by assumption)
               refine ⟨⟨q - 1,r + v1,n,by rw [zdN hq0 hq],by rw [h9.1],HD.out,h9.2,rfl⟩,?_⟩
               rw [zdN hq0 hq]
               simp only [intOf]
               omega)
end Qt
structure OutC (w w1:World) (H n cp:Nat) (os:List Nat):Prop where
  own:w1.ownsRow H 193 1 (.slice (some ⟨H,0,none⟩) n cp) n (wcells os)
  bel:w.grownBy w1 (some H)
  len:os.length = n
theorem zse {w w1 w2:World} {r:Option Nat} (h:w.grownBy w1 r) (hb:Below w1.heap.size w1 w2):w.grownBy w2 r :=
 ⟨hb.os.trans h.os,hb.tape.trans h.tape,hb.output.trans h.output,Nat.le_trans h.size hb.size,fun k hk hr => (hb.block k (Nat.lt_of_lt_of_le hk h.size)).trans (h.block k hk hr)⟩
theorem zqf {a b c:World} {r:Option Nat} (h:a.grownBy b r) (k:b.grownBy c r):a.grownBy c r :=
 ⟨k.os.trans h.os,k.tape.trans h.tape,k.output.trans h.output,Nat.le_trans h.size k.size,fun i hi hr => (k.block i (Nat.lt_of_lt_of_le hi h.size) hr).trans (h.block i hi hr)⟩
namespace OutC
variable {w w1 w2:World} {H n cp:Nat} {os:List Nat}
theorem lt (h:OutC w w1 H n cp os):H < w1.heap.size:=(h.own.lt H rfl).2
theorem step (h:OutC w w1 H n cp os) (hb:Below w1.heap.size w1 w2):OutC w w2 H n cp os :=
 ⟨⟨h.own.1,by
   rcases h.own.2 with h2 | ⟨g,cap,cur,hv,hg,hh,r⟩
   ·exact .inl h2
   ·exact .inr ⟨g,cap,cur,hv,hg,by rw [hb.block g (Array.getElem?_eq_some_iff.1 hh).1];exact hh,r⟩⟩,zse h.bel hb,h.len⟩
theorem alloc (h:OutC w w1 H n cp os) (o:Obj):OutC w (w1.alloc o) H n cp os:=h.step (zae w1 o)
theorem drewN (h:OutC w w1 H n cp os) (k:Nat):OutC w (w1.drewN k) H n cp os:=h.step (zap w1 k)
theorem drew (h:OutC w w1 H n cp os):OutC w w1.drew H n cp os:=h.drewN 1
theorem store (h:OutC w w1 H n cp os) (k v:Nat):OutC w (w1.setCell ⟨H,k,none⟩ (.int .u64 (v:Int))) H n cp (os.set k v) :=
 ⟨by rw [ziN];exact (h.own.stored k _).1,zqf h.bel (h.own.stored k _).2,by rw [List.length_set];exact h.len⟩
theorem cell (h:OutC w w1 H n cp os) {k:Nat} (hk:k < n):w1.cell? ⟨H,k,none⟩ = some (.int .u64 ((wd os k:Nat):Int)):=by
 rw [h.own.cellAt k (by omega),zeu (by rw [h.len];exact hk)]
theorem fro (h:OutC w w1 H n cp os) (k:Nat):w1.frozen? ⟨H,k,none⟩ = false:=h.own.frozenAt k
theorem keep (h:OutC w w1 H n cp os) {s:Value} {xs:List Nat} (hs:SW w s xs) (hH:s.ownBlock ≠ some H):SW w1 s xs :=
 hs.keep fun k hk => h.bel.block k (hs.block hk) (fun e => hH (by rw [hk,e]))
theorem sw (h:OutC w w1 H n cp os) (hw:Wds os):SW w1 (.slice (some ⟨H,0,none⟩) n cp) os:=by
 have:=h.own;have hl:=h.len;subst hl;exact SW.of_own this hw
end OutC
theorem zH8 (b:Nat):((b:Int) == 1) = (b == 1):=by
 by_cases h:b = 1
 ·subst h;rfl
 ·rw [beq_eq_false_iff_ne.2 h,beq_eq_false_iff_ne.2 (by omega)]
namespace Qt
theorem take (W w:World) (H n cap k cp q:Nat) (os vs:List Nat) (A:Option Addr) (c:Nat) (hO:OutC W w H n cap os) (hv:SW W (.slice A vs.length c) vs) (hH:(Value.slice A vs.length c).ownBlock ≠ some H) (ho:Wds os) (hq:q < 18446744073709551616) (hk:k + vs.length < n) (_:vs.length + 1 ≤ cp) (hn:n ≤ 2 * LIM) :
    Calls Tryz.prog 187 #[.slice (some ⟨H,k,none⟩) (vs.length + 1) cp, .agg #[.slice A vs.length c], .int .u64 (q:Int)] w fun e w' => ∃ (b:Nat) (os':List Nat),e = .returned (.bool (b == 1)) ∧ b ≤ 1 ∧ OutC W w' H n cap os' ∧
      Wds os' ∧ za8 os os' k (k + vs.length + 1) ∧ nval os' + B64 ^ k * (q * nval vs) = nval os + B64 ^ (k + vs.length + 1) * b:=by
  have HO:=hid hO
  have HV:=hid hv
  have HW:=hid ho
  have hvb:vs.length ≤ 9223372036854775806:=by have:=zaP;omega
  clear hO hv ho
  have hb0:OutC W (w.alloc (.cells #[.slice A vs.length c] 31)) H n cap os:=HO.out.alloc _
  have hc0:(w.alloc (.cells #[.slice A vs.length c] 31)).cell? ⟨w.heap.size,0,none⟩ = some (.slice A vs.length c):=zax rfl rfl
  have hlt:=HO.out.lt
  go_enter Tryz.func187,Tryz.ntmps187
  go_wp2_with fail
  generalize hw1:w.alloc (.cells #[.slice A vs.length c] 31) = w1 at *
  clear hw1
  have hne:w.heap.size ≠ H:=by omega
  generalize w.heap.size = B at *
  refine (Nt.len (.slice A vs.length c) vs _ (hb0.keep HV.out hH)).mono ?_
  rintro e w' ⟨rfl,rfl⟩
  have hb1:=hid (hb0.alloc (.cells #[.slice A vs.length c] 31))
  have hc1:=hid (cell_al (ob := .cells #[.slice A vs.length c] 31) hc0)
  clear hb0 hc0
  generalize w1.alloc (.cells #[.slice A vs.length c] 31) = w2 at *
  go_wp2_with fail
  go_loopw [7,8,14] (fun ov bv kv wr => ∃ (j V Bo:Nat) (os':List Nat),kv = .int .i64 j ∧ ov = .int .u64 V ∧ bv = .int .u64 Bo ∧ j ≤ vs.length ∧ TakeInv os os' vs k q j V Bo ∧ OutC W wr H n cap os' ∧ wr.cell? ⟨B,0,none⟩ = some (.slice A vs.length c))
    (fun _ _ kv _ => vs.length - (intOf kv).toNat)
  case atStart => exact ⟨0,0,0,os,rfl,rfl,rfl,Nat.zero_le _,TakeInv.start os vs k q HW.out,hb1.out,hc1.out⟩
  case round =>
    obtain ⟨j,V,Bo,os',rfl,rfl,rfl,hj,hI,hO,hc⟩:=hrel
    have hV:V < 18446744073709551616:=hI.ovr
    have hBo:Bo ≤ 1:=hI.one
    have HI:=hid hI
    clear hI
    by_cases hjt:j < vs.length
    · have hvr:=hid (hO.keep HV.out hH)
      have hvj:=zdM HV.out.2 j
      have hoj:=zdM HI.out.wds (k + j)

      have hcell:=cell_al (ob := .cells #[.slice A vs.length c] 31) (hO.cell (k:=k + j) (by omega))
      have hfro:=zd1 (ob := .cells #[.slice A vs.length c] 31) hO.lt (hO.fro (k + j))
      have hj0:(0:Int) ≤ (j:Int):=Int.natCast_nonneg _
      have hj1:(j:Int) < (vs.length:Int) + 1:=by omega
      have HO2:=hid hO
      clear hO
      go_wp2_with (first
        | (go_at_call 157;(with_reducible refine (Nt.word (.slice A vs.length c) vs _ hj0 _ hvr.out).mono ?_);rintro e w' ⟨rfl,rfl⟩)
        | (go_at_call 156;(refine (Word.mulAdd (wd vs j) q V 0 hvj hq hV (by decide) _).mono ?_);rintro e w' ⟨rfl,rfl⟩)
        | (go_at_call 161;(refine (Word.sub (wd os' (k + j)) (zdo (wd vs j) q V 0) Bo hoj (zrG _ _ _ _) hBo _).mono ?_);rintro e w' ⟨rfl,rfl⟩))
      exact ⟨⟨j + 1,_,_,_,by go_num,rfl,rfl,by omega,HI.out.next hq HV.out.2 (by rw [← HI.out.out.1,HO2.out.len];omega),(HO2.out.alloc _).store (k + j) _,cell_set hne (cell_al hc)⟩,by simp [intOf];omega⟩
    · obtain rfl:j = vs.length:=by omega
      have hvr:Hid (SW wr.drew (.slice A vs.length c) vs):=hid (hO.drew.keep HV.out hH)
      have hvr2:Hid (SW (wr.alloc (.cells #[.slice A vs.length c] 31)).drew (.slice A vs.length c) vs):=hid ((hO.alloc (.cells #[.slice A vs.length c] 31)).drew.keep HV.out hH)
      have hoj:=zdM HI.out.wds (k + vs.length)
      have hcell:((wr.alloc (.cells #[.slice A vs.length c] 31)).alloc (.cells #[.slice A vs.length c] 31)).drew.cell? ⟨H,k + vs.length,none⟩ = some (.int .u64 ((wd os' (k + vs.length):Nat):Int)):=cell_al (cell_al (hO.cell (k:=k + vs.length) (by omega)))
      have hfro:((wr.alloc (.cells #[.slice A vs.length c] 31)).alloc (.cells #[.slice A vs.length c] 31)).drew.frozen? ⟨H,k + vs.length,none⟩ = false:=zd1 (zxk hO.lt) (zd1 hO.lt (hO.fro (k + vs.length)))
      have hc0:wr.drew.cell? ⟨B,0,none⟩ = some (.slice A vs.length c):=hc
      have hcc:(wr.alloc (.cells #[.slice A vs.length c] 31)).drew.cell? ⟨B,0,none⟩ = some (.slice A vs.length c):=cell_al hc
      have hj0:(0:Int) ≤ (vs.length:Int):=Int.natCast_nonneg _
      have hj1:(vs.length:Int) < (vs.length:Int) + 1:=by omega
      have HO2:=hid hO
      clear hO
      go_wp2_with fail
      go_region_with (first
        | (go_at_call 117;(first | with_reducible refine (Nt.len (.slice A vs.length c) vs _ hvr.out).mono ?_ | with_reducible refine (Nt.len (.slice A vs.length c) vs _ hvr2.out).mono ?_);rintro e w' ⟨rfl,rfl⟩)
        | (go_at_call 161;(refine (Word.sub (wd os' (k + vs.length)) V Bo hoj hV hBo _).mono ?_);rintro e w' ⟨rfl,rfl⟩))
      all_goals
        (go_wp2
         go_ret
         have hf:=HI.out.fin (by rw [← HI.out.out.1,HO2.out.len];omega)
         exact ⟨_,_,by rw [← zH8];rfl,zBo _ _ _,(((HO2.out.alloc _).alloc _).store (k + vs.length) _).drew,hf.1,hf.2.1,hf.2.2⟩)
end Qt
namespace Qt
theorem back (W w:World) (H n cap k cp:Nat) (os vs:List Nat) (A:Option Addr) (c:Nat) (hO:OutC W w H n cap os) (hv:SW W (.slice A vs.length c) vs) (hH:(Value.slice A vs.length c).ownBlock ≠ some H) (ho:Wds os) (hk:k + vs.length < n) (hn:n ≤ 2 * LIM) :
    Calls Tryz.prog 188 #[.slice (some ⟨H,k,none⟩) (vs.length + 1) cp, .agg #[.slice A vs.length c]] w fun e w' => ∃ os':List Nat,e = .returned (.tuple #[]) ∧ OutC W w' H n cap os' ∧
      Wds os' ∧ za8 os os' k (k + vs.length + 1) ∧ ∃ b,nval os' + B64 ^ (k + vs.length + 1) * b = nval os + B64 ^ k * nval vs:=by
  have HO:=hid hO
  have HV:=hid hv
  have HW:=hid ho
  have hvb:vs.length ≤ 9223372036854775806:=by have:=zaP;omega
  clear hO hv ho
  have hb0:OutC W (w.alloc (.cells #[.slice A vs.length c] 31)) H n cap os:=HO.out.alloc _
  have hc0:(w.alloc (.cells #[.slice A vs.length c] 31)).cell? ⟨w.heap.size,0,none⟩ = some (.slice A vs.length c):=zax rfl rfl
  have hlt:=HO.out.lt
  go_enter Tryz.func188,Tryz.ntmps188
  go_wp2_with fail
  generalize hw1:w.alloc (.cells #[.slice A vs.length c] 31) = w1 at *
  clear hw1
  have hne:w.heap.size ≠ H:=by omega
  generalize w.heap.size = B at *
  refine (Nt.len (.slice A vs.length c) vs _ (hb0.keep HV.out hH)).mono ?_
  rintro e w' ⟨rfl,rfl⟩
  have hb1:=hid (hb0.alloc (.cells #[.slice A vs.length c] 31))
  have hc1:=hid (cell_al (ob := .cells #[.slice A vs.length c] 31) hc0)
  clear hb0 hc0
  generalize w1.alloc (.cells #[.slice A vs.length c] 31) = w2 at *
  go_wp2_with fail
  go_loopw [4,8] (fun bv kv wr => ∃ (j Bo:Nat) (os':List Nat),kv = .int .i64 j ∧ bv = .int .u64 Bo ∧ j ≤ vs.length ∧ BackInv os os' vs k j Bo ∧ OutC W wr H n cap os' ∧ wr.cell? ⟨B,0,none⟩ = some (.slice A vs.length c))
    (fun _ kv _ => vs.length - (intOf kv).toNat)
  case atStart => exact ⟨0,0,os,rfl,rfl,Nat.zero_le _,BackInv.start os vs k HW.out,hb1.out,hc1.out⟩
  case round =>
    obtain ⟨j,Bo,os',rfl,rfl,hj,hI,hO,hc⟩:=hrel
    have hBo:Bo ≤ 1:=hI.one
    have HI:=hid hI
    clear hI
    by_cases hjt:j < vs.length
    · have hvr:Hid (SW wr.drew (.slice A vs.length c) vs):=hid (hO.drew.keep HV.out hH)
      have hvj:=zdM HV.out.2 j
      have hoj:=zdM HI.out.wds (k + j)
      have hcell0:wr.drew.cell? ⟨H,k + j,none⟩ = some (.int .u64 ((wd os' (k + j):Nat):Int)):=hO.cell (k:=k + j) (by omega)
      have hcell:(wr.alloc (.cells #[.slice A vs.length c] 31)).drew.cell? ⟨H,k + j,none⟩ = some (.int .u64 ((wd os' (k + j):Nat):Int)):=cell_al (hO.cell (k:=k + j) (by omega))
      have hfro:(wr.alloc (.cells #[.slice A vs.length c] 31)).drew.frozen? ⟨H,k + j,none⟩ = false:=zd1 hO.lt (hO.fro (k + j))
      have hc0:wr.drew.cell? ⟨B,0,none⟩ = some (.slice A vs.length c):=hc
      have hj0:(0:Int) ≤ (j:Int):=Int.natCast_nonneg _
      have hj1:(j:Int) < (vs.length:Int) + 1:=by omega
      have hj2:(j:Int) < (vs.length:Int):=by omega
      have HO2:=hid hO
      have HC:=hid hc
      clear hO hc
      go_wp2_with fail
      go_region_with (first
        | (go_at_call 157;(with_reducible refine (Nt.word (.slice A vs.length c) vs _ hj0 _ hvr.out).mono ?_);rintro e w' ⟨rfl,rfl⟩)
        | (go_at_call 159;(refine (Word.add (wd os' (k + j)) (wd vs j) Bo hoj hvj hBo _).mono ?_);rintro e w' ⟨rfl,rfl⟩))
      all_goals
        (go_wp2
         exact ⟨⟨j + 1,_,_,by go_num,rfl,by omega,HI.out.next HV.out.2 (by rw [← HI.out.out.1,HO2.out.len];omega),((HO2.out.alloc _).store (k + j) _).drew,cell_set hne (cell_al HC.out)⟩,by simp [intOf];omega⟩)
    · obtain rfl:j = vs.length:=by omega
      have hvr:Hid (SW wr (.slice A vs.length c) vs):=hid (hO.keep HV.out hH)
      have hoj:=zdM HI.out.wds (k + vs.length)
      have hcell:=cell_al (ob := .cells #[.slice A vs.length c] 31) (hO.cell (k:=k + vs.length) (by omega))
      have hfro:=zd1 (ob := .cells #[.slice A vs.length c] 31) hO.lt (hO.fro (k + vs.length))
      have hj0:(0:Int) ≤ (vs.length:Int):=Int.natCast_nonneg _
      have hj1:(vs.length:Int) < (vs.length:Int) + 1:=by omega
      have HO2:=hid hO
      clear hO
      have hw:IntKind.u64.wrap (((wd os' (k + vs.length):Nat):Int) + ((Bo:Nat):Int)) = ((zjj (wd os' (k + vs.length)) Bo 0:Nat):Int):=by rw [IntKind.wrap_u64];unfold zjj B64;omega
      have HWR:=hid hw
      clear hw
      go_wp2_with fail
      refine (Nt.len (.slice A vs.length c) vs _ hvr.out).mono ?_
      rintro e w' ⟨rfl,rfl⟩
      go_wp2
      rw [HWR.out]
      have hf:=HI.out.fin (by rw [← HI.out.out.1,HO2.out.len];omega)
      exact bodyPost_end (v := .tuple #[]) (by simp [results,Tryz.results188,go_sem]) rfl ⟨_,rfl,(HO2.out.alloc _).store (k + vs.length) _,hf.1,hf.2.1,hf.2.2⟩
end Qt
end Go.Proofs.YtdbgbaiekpbaoaaGreatDoor
