/- quot.ByWord by its contract. Conditions: as each says. quot.guess by its contract. Conditions: as each says. quot.take by its contract. Conditions: as each says. quot.back by its contract. Conditions: as it says. Conditions: as they say. -/
import Derived.Test.YtdbgbaiekpbaoaaGreatDoorProd4Zq
import Derived.Test.YtdbgbaiekpbaoaaGreatDoorWord3Zq
set_option linter.all false
namespace Go.Proofs.YtdbgbaiekpbaoaaGreatDoor
open Go.RowKit Am
open Lib (hid)
attribute [local go_sem ↓] Go.wp_at_zero Go.wp_at_succ
set_option maxHeartbeats 1000000
set_option maxRecDepth 100000
namespace Qt
def zsP (w:World) (q r:Nat) (b:Bool) (e:Ending) (w':World):Prop := ∃ (A:Option Addr) (m c:Nat),e = .returned (.tuple #[.agg #[.slice A m c], .int .u64 (r:Int), .bool b]) ∧ zas w' (.slice A m c) q ∧ Below w.heap.size w w'
theorem zCw (A:Option Addr) (m c a x:Nat) (w:World) (ha:zas w (.slice A m c) a) (hx0:0 < x) (hx:x < 18446744073709551616) (hla:wlen a ≤ LIM) :
  Calls Tryz.prog 183 #[.agg #[.slice A m c], .int .u64 (x:Int)] w (zsP w (a / x) (a % x) true):=by
 obtain ⟨xs,hxs,hcx,rfl,hlx,rfl⟩:=ha.words
 rw [← hlx] at hla
 have HX:=hid hxs
 have HLA:=hid hla
 have hxb:((x:Int) == 0) = false:=by rw [beq_eq_false_iff_ne];omega
 have hnb:xs.length ≤ 9223372036854775806:=by have:=zaP;omega
 have g1:=hid (show xs.length ≤ 16 * LIM by have:=zaP;omega)
 clear ha hxs hcx hlx hla
 go_enter Tryz.func183,Tryz.ntmps183
 go_wp2_with fail
 refine (Nt.len (.slice A xs.length c) xs _ ((HX.out.alloc _).alloc _)).mono ?_
 rintro e w' ⟨rfl,rfl⟩
 have c0:(((w.alloc (.cells #[.slice A xs.length c] 31)).alloc (.cells #[.slice none 0 0] 31)).alloc (.cells #[.slice A xs.length c] 31)).cell? ⟨w.heap.size,0,none⟩ = some (.slice A xs.length c):=zaf (zaf (zax rfl rfl))
 have k1:(((w.alloc (.cells #[.slice A xs.length c] 31)).alloc (.cells #[.slice none 0 0] 31)).alloc (.cells #[.slice A xs.length c] 31)).heap[w.heap.size + 1]? = some (.cells #[.slice none 0 0] 31 (0,0)):=zak (zam (by simp))
 have kb:Below w.heap.size w (((w.alloc (.cells #[.slice A xs.length c] 31)).alloc (.cells #[.slice none 0 0] 31)).alloc (.cells #[.slice A xs.length c] 31)):=al2 (al2 (zae w _) _) _
 have kz:(((w.alloc (.cells #[.slice A xs.length c] 31)).alloc (.cells #[.slice none 0 0] 31)).alloc (.cells #[.slice A xs.length c] 31)).heap.size = w.heap.size + 1 + 1 + 1:=by simp
 have hx1:=HX.out.below kb
 generalize ((w.alloc (.cells #[.slice A xs.length c] 31)).alloc (.cells #[.slice none 0 0] 31)).alloc (.cells #[.slice A xs.length c] 31) = W at *
 have HX1:=hid hx1
 have HK1:=hid k1
 have HKB:=hid kb
 have HKZ:=hid kz
 clear hx1 k1 kb kz
 go_wp2_with (at_make;go_must (refine zdz rfl _ _ rfl xs.length _ rfl rfl rfl g1.out W.heap.size rfl ?_))
 intro w1 ho
 have HO:=hid ho
 have c1:=ho.old (by have:=HKZ.out;omega) c0
 clear ho
 go_wp2_with (go_at_call 117;(with_reducible refine (Nt.len (.slice A xs.length c) xs _ (HO.out.keep HX1.out (Nat.le_refl _))).mono ?_);rintro e w' ⟨rfl,rfl⟩)
 have hO1:=HO.out.alloc (.cells #[.slice A xs.length c] 31)
 have HO1:=hid hO1
 clear hO1 c1
 go_loopw [8,9] (fun lv kv wr => ∃ (K:Int) (j L:Nat) (os:List Nat),kv = .int .i64 K ∧ lv = .int .u64 L ∧ K + 1 = j ∧ j ≤ xs.length ∧ DivWInv xs os x j L ∧ OutAt W wr W.heap.size xs.length os)
  (fun _ kv _ => (intOf kv + 1).toNat)
 case atStart => exact ⟨_,xs.length,0,List.replicate xs.length 0,rfl,rfl,by omega,Nat.le_refl _,DivWInv.start xs x xs.length xs.length hx0 (Nat.le_refl _) (Nat.le_refl _),HO1.out⟩
 case round =>
  obtain ⟨K,j,L,os,rfl,rfl,hK,hj,hI,hO⟩:=hrel
  have HI:=hid hI
  have hL:=hI.lft
  clear hI
  rcases j with _ | p
  ·obtain rfl:K = -1:=by omega
   have hv:=HI.out.eq
   rw [List.drop_zero,List.drop_zero] at hv
   have hq:nval os = nval xs / x:=by rw [hv,Nat.mul_add_div hx0,Nat.div_eq_of_lt hL,Nat.add_zero]
   have hr:L = nval xs % x:=by rw [hv,Nat.mul_add_mod,Nat.mod_eq_of_lt hL]
   have HQ:=hid hq
   have HR:=hid hr
   have hs:=hO.sw HI.out.wds
   have HS:=hid hs
   have HB:=hid hO.bel
   have HL2:=hid hO.len
   have hsz:=hO.lt
   clear hv hq hr hs hO
   go_wp2_with fail
   refine (Nt.of _ os _ HS.out.reads (by rw [HL2.out];exact HLA.out)).mono ?_
   rintro e w3 ⟨A2,m2,c2,rfl,hs2,hb2⟩
   have hk:=zad hb2 ((HB.out.block (w.heap.size + 1) (by have:=HKZ.out;omega)).trans HK1.out)
   have hc:w3.cell? ⟨w.heap.size + 1,0,none⟩ = some (.slice none 0 0):=zac hk 0
   have hf:=zag hk 0
   have HK3:=hid hk
   clear hk
   go_wp2
   refine bodyPost_ret (v := .tuple #[.agg #[.slice A2 m2 c2], .int .u64 (L:Int), .bool true]) (by simp [results,Tryz.results183,go_sem,hc]) rfl ?_
   rw [HQ.out] at hs2
   rw [HR.out]
   refine ⟨_,_,_,rfl,hs2.setCell (p:=⟨w.heap.size + 1,0,none⟩) HK3.out (by decide) _,Below.setCell ?_ (by simp) _⟩
   exact bstep (HKB.out.trans (HB.out.mono (by have:=HKZ.out;omega))) hb2 (by have:=HKZ.out;omega)
  ·obtain rfl:K = (p:Int):=by omega
   have hXr:=hid (hO.keep HX1.out (Nat.le_refl _))
   have hc0:=hO.old (by have:=HKZ.out;omega) c0
   have hcell:=hO.cell (k:=p) (by omega)
   have hfro:=hO.fro p
   have hw1:=zdM HX.out.2 p
   have hLb:L < 18446744073709551616:=by omega
   have hsz:=hO.lt
   have q1:=zaf (ob := .cells #[.slice A xs.length c] 31) hcell
   have q2:=zd1 (ob := .cells #[.slice A xs.length c] 31) hsz hfro
   have HO2:=hid hO
   have hi1:(0:Int) ≤ (p:Int):=Int.natCast_nonneg _
   have hi2:(p:Int) < (xs.length:Int):=by omega
   clear hO
   go_wp2_with (first
    | (go_at_call 157;(with_reducible refine (Nt.word (.slice A xs.length c) xs _ hi1 _ hXr.out).mono ?_);rintro e w' ⟨rfl,rfl⟩)
    | (go_at_call 190;(refine (Word.div_ok L (wd xs p) x hL hw1 hx _).mono ?_);rintro e w' ⟨rfl,nd,rfl⟩))
   refine ⟨⟨_,p,_,_,rfl,rfl,by omega,by omega,HI.out.next (by rw [HO2.out.len];omega) HX.out.2,?_⟩,by simp [intOf]⟩
   first
    | exact ((HO2.out.alloc _).drewN _).store p _
    | exact ((HO2.out.alloc _).store p _).drewN _
end Qt
namespace Qt
theorem zhR (q v0 r u0:Nat) (h0:u0 < 18446744073709551616):(zdw q v0 0 0 < r ∨ zdw q v0 0 0 = r ∧ zdo q v0 0 0 ≤ u0) ↔ q * v0 ≤ r * B64 + u0:=by
 unfold zdw zdo
 simp only [Nat.add_zero]
 generalize q * v0 = P
 have:=Nat.div_add_mod P B64
 have hB:B64 = 18446744073709551616:=rfl
 have h2:=Nat.mod_lt P (show 0 < B64 by decide)
 rw [hB] at *
 omega
theorem zmQ {x y:Nat} (h:(((zlD x y 0:Nat):Int) == 1) = true):B64 ≤ x + y:=by
 have h1:zlD x y 0 = 1:=by have:=eq_of_beq h;omega
 unfold zlD at h1
 have hB:B64 = 18446744073709551616:=rfl
 rw [hB] at h1 ⊢
 omega
theorem zpz {x y:Nat} (hx:x < 18446744073709551616) (hy:y < 18446744073709551616) (h:(((zlD x y 0:Nat):Int) == 1) = false):zjj x y 0 = x + y ∧ x + y < 18446744073709551616:=by
 have h1:¬ zlD x y 0 = 1:=by have:=ne_of_beq_false h;omega
 unfold zlD at h1
 unfold zjj
 have hB:B64 = 18446744073709551616:=rfl
 rw [hB] at h1 ⊢
 have h2:(x + y + 0) / 18446744073709551616 = 0:=by omega
 omega
theorem zdN {q:Nat} (h:0 < q) (hq:q < 18446744073709551616):IntKind.u64.wrap ((q:Int) - 1) = ((q - 1:Nat):Int):=by
 rw [IntKind.wrap_u64]
 omega
theorem guess (u2 u1 u0 v1 v0:Nat) (w:World) (h2:u2 ≤ v1) (h1:u1 < 18446744073709551616) (h0:u0 < 18446744073709551616) (hv:9223372036854775808 ≤ v1) (hv1:v1 < 18446744073709551616) (hv0:v0 < 18446744073709551616) :
    Calls Tryz.prog 186 #[.int .u64 (u2:Int), .int .u64 (u1:Int), .int .u64 (u0:Int), .int .u64 (v1:Int), .int .u64 (v0:Int)] w fun e w' => (∃ q:Nat,e = .returned (.int .u64 (q:Int)) ∧ GuessIs u2 u1 u0 v1 v0 q) ∧ ∃ n,w' = w.drewN n:=by
  rcases Nat.lt_or_ge u2 v1 with hlt | hge
  · have hst:=hid (GuessInv.start u2 u1 u0 v1 v0 hlt h1 h0)
    go_enter Tryz.func186,Tryz.ntmps186
    go_wp2_with (first
      | (go_at_call 190;(refine (Word.div_ok u2 u1 v1 hlt h1 hv1 _).mono ?_);rintro e w' ⟨rfl,nd,rfl⟩))
    go_loopw [11,12] (fun qv rv wr => ∃ (q r n:Nat),qv = .int .u64 (q:Int) ∧ rv = .int .u64 (r:Int) ∧ GuessInv u2 u1 u0 v1 v0 q r ∧ r < 18446744073709551616 ∧ wr = w.drewN n) (fun qv _ _ => (intOf qv).toNat)
    case atStart => exact ⟨_,_,nd,rfl,rfl,hst.out,by unfold zBV;exact Nat.lt_of_lt_of_le (Nat.mod_lt _ (by omega)) (by omega),rfl⟩
    case round =>
      obtain ⟨q,r,n,rfl,rfl,hI,hr,rfl⟩:=hrel
      have hq:=hI.lt
      have HI:=hid hI
      clear hI hst
      by_cases hc:q * v0 ≤ r * B64 + u0
      · have hd:=hid (HI.out.done hv0 (.inl hc))
        have hcc:=(zhR q v0 r u0 h0).2 hc
        clear hc
        go_wp2_with (first
          | (go_at_call 177;(refine (Word.mul q v0 hq hv0 _).mono ?_);rintro e w' ⟨rfl,rfl⟩))
        all_goals first
          | exact bodyPost_ret (v := .int .u64 (q:Int)) (by simp [results,Tryz.results186,go_sem]) rfl ⟨⟨q,rfl,hd.out⟩,n,rfl⟩
          | (exfalso;omega)
      · have hdn:=HI.out.down (by omega)
        have hq0:=hdn.2
        have HD:=hid hdn.1
        have hcc:¬ (zdw q v0 0 0 < r ∨ zdw q v0 0 0 = r ∧ zdo q v0 0 0 ≤ u0):=fun h => hc ((zhR q v0 r u0 h0).1 h)
        clear hc hdn
        go_wp2_with (first
          | (go_at_call 177;(refine (Word.mul q v0 hq hv0 _).mono ?_);rintro e w' ⟨rfl,rfl⟩)
          | (go_at_call 159;(refine (Word.add r v1 0 hr hv1 (by decide) _).mono ?_);rintro e w' ⟨rfl,rfl⟩))
        all_goals first
          | (have h9:=zmQ (by assumption)
             exact bodyPost_ret (v := .int .u64 (IntKind.u64.wrap ((q:Int) - 1))) (by simp [results,Tryz.results186,go_sem]) rfl ⟨⟨q - 1,by rw [zdN hq0 hq],HD.out.done hv0 (.inr h9)⟩,n,rfl⟩)
          | (have h9:=zpz hr hv1 (by assumption)
             refine ⟨⟨q - 1,r + v1,n,by rw [zdN hq0 hq],by rw [h9.1],HD.out,h9.2,rfl⟩,?_⟩
             rw [zdN hq0 hq]
             simp only [intOf]
             omega)
  · have hev:u2 = v1:=by omega
    have hst:=hid (show GuessInv u2 u1 u0 v1 v0 (B64 - 1) (u1 + v1) by rw [hev];exact GuessInv.start' u1 u0 v1 v0)
    clear hev
    go_enter Tryz.func186,Tryz.ntmps186
    go_wp2_with (first
      | (go_at_call 190;(refine (Word.div_no u2 u1 v1 hge _).mono ?_);rintro e w' ⟨rfl,rfl⟩)
      | (go_at_call 159;(refine (Word.add u1 v1 0 h1 hv1 (by decide) _).mono ?_);rintro e w' ⟨rfl,rfl⟩))
    · have h9:=zmQ (by assumption)
      exact bodyPost_ret (v := .int .u64 18446744073709551615) (by simp [results,Tryz.results186,go_sem]) rfl ⟨⟨B64 - 1,rfl,hst.out.done hv0 (.inr h9)⟩,0,rfl⟩
    · have hb:(((zlD u1 v1 0:Nat):Int) == 1) = false:=by assumption
      have h9:=hid (zpz h1 hv1 hb)
      simp only [hb]
      clear hb
      go_loopw [11,12] (fun qv rv wr => ∃ (q r n:Nat),qv = .int .u64 (q:Int) ∧ rv = .int .u64 (r:Int) ∧ GuessInv u2 u1 u0 v1 v0 q r ∧ r < 18446744073709551616 ∧ wr = w.drewN n) (fun qv _ _ => (intOf qv).toNat)
      case atStart => exact ⟨B64 - 1,u1 + v1,0,rfl,by rw [h9.out.1],hst.out,h9.out.2,rfl⟩
      case round =>
        obtain ⟨q,r,n,rfl,rfl,hI,hr,rfl⟩:=hrel
        have hq:=hI.lt
        have HI:=hid hI
        clear hI hst
        by_cases hc:q * v0 ≤ r * B64 + u0
        · have hd:=hid (HI.out.done hv0 (.inl hc))
          have hcc:=(zhR q v0 r u0 h0).2 hc
          clear hc
          go_wp2_with (first
            | (go_at_call 177;(refine (Word.mul q v0 hq hv0 _).mono ?_);rintro e w' ⟨rfl,rfl⟩))
          all_goals first
            | exact bodyPost_ret (v := .int .u64 (q:Int)) (by simp [results,Tryz.results186,go_sem]) rfl ⟨⟨q,rfl,hd.out⟩,n,rfl⟩
            | (exfalso;omega)
        · have hdn:=HI.out.down (by omega)
          have hq0:=hdn.2
          have HD:=hid hdn.1
          have hcc:¬ (zdw q v0 0 0 < r ∨ zdw q v0 0 0 = r ∧ zdo q v0 0 0 ≤ u0):=fun h => hc ((zhR q v0 r u0 h0).1 h)
          clear hc hdn
          go_wp2_with (first
            | (go_at_call 177;(refine (Word.mul q v0 hq hv0 _).mono ?_);rintro e w' ⟨rfl,rfl⟩)
            | (go_at_call 159;(refine (Word.add r v1 0 hr hv1 (by decide) _).mono ?_);rintro e w' ⟨rfl,rfl⟩))
          all_goals first
            | (have h9:=zmQ (by assumption)
               exact bodyPost_ret (v := .int .u64 (IntKind.u64.wrap ((q:Int) - 1))) (by simp [results,Tryz.results186,go_sem]) rfl ⟨⟨q - 1,by rw [zdN hq0 hq],HD.out.done hv0 (.inr h9)⟩,n,rfl⟩)
            | (have h9:=zpz hr hv1 (by assumption)
               refine ⟨⟨q - 1,r + v1,n,by rw [zdN hq0 hq],by rw [h9.1],HD.out,h9.2,rfl⟩,?_⟩
               rw [zdN hq0 hq]
               simp only [intOf]
               omega)
end Qt
structure OutC (w w1:World) (H n cp:Nat) (os:List Nat):Prop where
  own:w1.ownsRow H 193 1 (.slice (some ⟨H,0,none⟩) n cp) n (wcells os)
  bel:w.grownBy w1 (some H)
  len:os.length = n
theorem zse {w w1 w2:World} {r:Option Nat} (h:w.grownBy w1 r) (hb:Below w1.heap.size w1 w2):w.grownBy w2 r :=
 ⟨hb.os.trans h.os,hb.tape.trans h.tape,hb.output.trans h.output,Nat.le_trans h.size hb.size,fun k hk hr => (hb.block k (Nat.lt_of_lt_of_le hk h.size)).trans (h.block k hk hr)⟩
theorem zqf {a b c:World} {r:Option Nat} (h:a.grownBy b r) (k:b.grownBy c r):a.grownBy c r :=
 ⟨k.os.trans h.os,k.tape.trans h.tape,k.output.trans h.output,Nat.le_trans h.size k.size,fun i hi hr => (k.block i (Nat.lt_of_lt_of_le hi h.size) hr).trans (h.block i hi hr)⟩
namespace OutC
variable {w w1 w2:World} {H n cp:Nat} {os:List Nat}
theorem lt (h:OutC w w1 H n cp os):H < w1.heap.size:=(h.own.lt H rfl).2
theorem step (h:OutC w w1 H n cp os) (hb:Below w1.heap.size w1 w2):OutC w w2 H n cp os :=
 ⟨⟨h.own.1,by
   rcases h.own.2 with h2 | ⟨g,cap,cur,hv,hg,hh,r⟩
   ·exact .inl h2
   ·exact .inr ⟨g,cap,cur,hv,hg,by rw [hb.block g (Array.getElem?_eq_some_iff.1 hh).1];exact hh,r⟩⟩,zse h.bel hb,h.len⟩
theorem alloc (h:OutC w w1 H n cp os) (o:Obj):OutC w (w1.alloc o) H n cp os:=h.step (zae w1 o)
theorem drewN (h:OutC w w1 H n cp os) (k:Nat):OutC w (w1.drewN k) H n cp os:=h.step (zap w1 k)
theorem drew (h:OutC w w1 H n cp os):OutC w w1.drew H n cp os:=h.drewN 1
theorem store (h:OutC w w1 H n cp os) (k v:Nat):OutC w (w1.setCell ⟨H,k,none⟩ (.int .u64 (v:Int))) H n cp (os.set k v) :=
 ⟨by rw [ziN];exact (h.own.stored k _).1,zqf h.bel (h.own.stored k _).2,by rw [List.length_set];exact h.len⟩
theorem cell (h:OutC w w1 H n cp os) {k:Nat} (hk:k < n):w1.cell? ⟨H,k,none⟩ = some (.int .u64 ((wd os k:Nat):Int)):=by
 rw [h.own.cellAt k (by omega),zeu (by rw [h.len];exact hk)]
theorem fro (h:OutC w w1 H n cp os) (k:Nat):w1.frozen? ⟨H,k,none⟩ = false:=h.own.frozenAt k
theorem keep (h:OutC w w1 H n cp os) {s:Value} {xs:List Nat} (hs:SW w s xs) (hH:s.ownBlock ≠ some H):SW w1 s xs :=
 hs.keep fun k hk => h.bel.block k (hs.block hk) (fun e => hH (by rw [hk,e]))
theorem sw (h:OutC w w1 H n cp os) (hw:Wds os):SW w1 (.slice (some ⟨H,0,none⟩) n cp) os:=by
 have:=h.own;have hl:=h.len;subst hl;exact SW.of_own this hw
end OutC
theorem zH8 (b:Nat):((b:Int) == 1) = (b == 1):=by
 by_cases h:b = 1
 ·subst h;rfl
 ·rw [beq_eq_false_iff_ne.2 h,beq_eq_false_iff_ne.2 (by omega)]
namespace Qt
theorem take (W w:World) (H n cap k cp q:Nat) (os vs:List Nat) (A:Option Addr) (c:Nat) (hO:OutC W w H n cap os) (hv:SW W (.slice A vs.length c) vs) (hH:(Value.slice A vs.length c).ownBlock ≠ some H) (ho:Wds os) (hq:q < 18446744073709551616) (hk:k + vs.length < n) (_:vs.length + 1 ≤ cp) (hn:n ≤ 2 * LIM) :
    Calls Tryz.prog 187 #[.slice (some ⟨H,k,none⟩) (vs.length + 1) cp, .agg #[.slice A vs.length c], .int .u64 (q:Int)] w fun e w' => ∃ (b:Nat) (os':List Nat),e = .returned (.bool (b == 1)) ∧ b ≤ 1 ∧ OutC W w' H n cap os' ∧
      Wds os' ∧ za8 os os' k (k + vs.length + 1) ∧ nval os' + B64 ^ k * (q * nval vs) = nval os + B64 ^ (k + vs.length + 1) * b:=by
  have HO:=hid hO
  have HV:=hid hv
  have HW:=hid ho
  have hvb:vs.length ≤ 9223372036854775806:=by have:=zaP;omega
  clear hO hv ho
  have hb0:OutC W (w.alloc (.cells #[.slice A vs.length c] 31)) H n cap os:=HO.out.alloc _
  have hc0:(w.alloc (.cells #[.slice A vs.length c] 31)).cell? ⟨w.heap.size,0,none⟩ = some (.slice A vs.length c):=zax rfl rfl
  have hlt:=HO.out.lt
  go_enter Tryz.func187,Tryz.ntmps187
  go_wp2_with fail
  generalize hw1:w.alloc (.cells #[.slice A vs.length c] 31) = w1 at *
  clear hw1
  have hne:w.heap.size ≠ H:=by omega
  generalize w.heap.size = B at *
  refine (Nt.len (.slice A vs.length c) vs _ (hb0.keep HV.out hH)).mono ?_
  rintro e w' ⟨rfl,rfl⟩
  have hb1:=hid (hb0.alloc (.cells #[.slice A vs.length c] 31))
  have hc1:=hid (zaf (ob := .cells #[.slice A vs.length c] 31) hc0)
  clear hb0 hc0
  generalize w1.alloc (.cells #[.slice A vs.length c] 31) = w2 at *
  go_wp2_with fail
  go_loopw [7,8,14] (fun ov bv kv wr => ∃ (j V Bo:Nat) (os':List Nat),kv = .int .i64 j ∧ ov = .int .u64 V ∧ bv = .int .u64 Bo ∧ j ≤ vs.length ∧ TakeInv os os' vs k q j V Bo ∧ OutC W wr H n cap os' ∧ wr.cell? ⟨B,0,none⟩ = some (.slice A vs.length c))
    (fun _ _ kv _ => vs.length - (intOf kv).toNat)
  case atStart => exact ⟨0,0,0,os,rfl,rfl,rfl,Nat.zero_le _,TakeInv.start os vs k q HW.out,hb1.out,hc1.out⟩
  case round =>
    obtain ⟨j,V,Bo,os',rfl,rfl,rfl,hj,hI,hO,hc⟩:=hrel
    have hV:V < 18446744073709551616:=hI.ovr
    have hBo:Bo ≤ 1:=hI.one
    have HI:=hid hI
    clear hI
    by_cases hjt:j < vs.length
    · have hvr:=hid (hO.keep HV.out hH)
      have hvj:=zdM HV.out.2 j
      have hoj:=zdM HI.out.wds (k + j)

      have hcell:=zaf (ob := .cells #[.slice A vs.length c] 31) (hO.cell (k:=k + j) (by omega))
      have hfro:=zd1 (ob := .cells #[.slice A vs.length c] 31) hO.lt (hO.fro (k + j))
      have hj0:(0:Int) ≤ (j:Int):=Int.natCast_nonneg _
      have hj1:(j:Int) < (vs.length:Int) + 1:=by omega
      have HO2:=hid hO
      clear hO
      go_wp2_with (first
        | (go_at_call 157;(with_reducible refine (Nt.word (.slice A vs.length c) vs _ hj0 _ hvr.out).mono ?_);rintro e w' ⟨rfl,rfl⟩)
        | (go_at_call 156;(refine (Word.mulAdd (wd vs j) q V 0 hvj hq hV (by decide) _).mono ?_);rintro e w' ⟨rfl,rfl⟩)
        | (go_at_call 161;(refine (Word.sub (wd os' (k + j)) (zdo (wd vs j) q V 0) Bo hoj (zrG _ _ _ _) hBo _).mono ?_);rintro e w' ⟨rfl,rfl⟩))
      exact ⟨⟨j + 1,_,_,_,by go_num,rfl,rfl,by omega,HI.out.next hq HV.out.2 (by rw [← HI.out.out.1,HO2.out.len];omega),(HO2.out.alloc _).store (k + j) _,zah hne (zaf hc)⟩,by simp [intOf];omega⟩
    · obtain rfl:j = vs.length:=by omega
      have hvr:Hid (SW wr.drew (.slice A vs.length c) vs):=hid (hO.drew.keep HV.out hH)
      have hvr2:Hid (SW (wr.alloc (.cells #[.slice A vs.length c] 31)).drew (.slice A vs.length c) vs):=hid ((hO.alloc (.cells #[.slice A vs.length c] 31)).drew.keep HV.out hH)
      have hoj:=zdM HI.out.wds (k + vs.length)
      have hcell:((wr.alloc (.cells #[.slice A vs.length c] 31)).alloc (.cells #[.slice A vs.length c] 31)).drew.cell? ⟨H,k + vs.length,none⟩ = some (.int .u64 ((wd os' (k + vs.length):Nat):Int)):=zaf (zaf (hO.cell (k:=k + vs.length) (by omega)))
      have hfro:((wr.alloc (.cells #[.slice A vs.length c] 31)).alloc (.cells #[.slice A vs.length c] 31)).drew.frozen? ⟨H,k + vs.length,none⟩ = false:=zd1 (zxk hO.lt) (zd1 hO.lt (hO.fro (k + vs.length)))
      have hc0:wr.drew.cell? ⟨B,0,none⟩ = some (.slice A vs.length c):=hc
      have hcc:(wr.alloc (.cells #[.slice A vs.length c] 31)).drew.cell? ⟨B,0,none⟩ = some (.slice A vs.length c):=zaf hc
      have hj0:(0:Int) ≤ (vs.length:Int):=Int.natCast_nonneg _
      have hj1:(vs.length:Int) < (vs.length:Int) + 1:=by omega
      have HO2:=hid hO
      clear hO
      go_wp2_with fail
      go_region_with (first
        | (go_at_call 117;(first | with_reducible refine (Nt.len (.slice A vs.length c) vs _ hvr.out).mono ?_ | with_reducible refine (Nt.len (.slice A vs.length c) vs _ hvr2.out).mono ?_);rintro e w' ⟨rfl,rfl⟩)
        | (go_at_call 161;(refine (Word.sub (wd os' (k + vs.length)) V Bo hoj hV hBo _).mono ?_);rintro e w' ⟨rfl,rfl⟩))
      all_goals
        (go_wp2
         go_ret
         have hf:=HI.out.fin (by rw [← HI.out.out.1,HO2.out.len];omega)
         exact ⟨_,_,by rw [← zH8];rfl,zBo _ _ _,(((HO2.out.alloc _).alloc _).store (k + vs.length) _).drew,hf.1,hf.2.1,hf.2.2⟩)
end Qt
namespace Qt
theorem back (W w:World) (H n cap k cp:Nat) (os vs:List Nat) (A:Option Addr) (c:Nat) (hO:OutC W w H n cap os) (hv:SW W (.slice A vs.length c) vs) (hH:(Value.slice A vs.length c).ownBlock ≠ some H) (ho:Wds os) (hk:k + vs.length < n) (hn:n ≤ 2 * LIM) :
    Calls Tryz.prog 188 #[.slice (some ⟨H,k,none⟩) (vs.length + 1) cp, .agg #[.slice A vs.length c]] w fun e w' => ∃ os':List Nat,e = .returned (.tuple #[]) ∧ OutC W w' H n cap os' ∧
      Wds os' ∧ za8 os os' k (k + vs.length + 1) ∧ ∃ b,nval os' + B64 ^ (k + vs.length + 1) * b = nval os + B64 ^ k * nval vs:=by
  have HO:=hid hO
  have HV:=hid hv
  have HW:=hid ho
  have hvb:vs.length ≤ 9223372036854775806:=by have:=zaP;omega
  clear hO hv ho
  have hb0:OutC W (w.alloc (.cells #[.slice A vs.length c] 31)) H n cap os:=HO.out.alloc _
  have hc0:(w.alloc (.cells #[.slice A vs.length c] 31)).cell? ⟨w.heap.size,0,none⟩ = some (.slice A vs.length c):=zax rfl rfl
  have hlt:=HO.out.lt
  go_enter Tryz.func188,Tryz.ntmps188
  go_wp2_with fail
  generalize hw1:w.alloc (.cells #[.slice A vs.length c] 31) = w1 at *
  clear hw1
  have hne:w.heap.size ≠ H:=by omega
  generalize w.heap.size = B at *
  refine (Nt.len (.slice A vs.length c) vs _ (hb0.keep HV.out hH)).mono ?_
  rintro e w' ⟨rfl,rfl⟩
  have hb1:=hid (hb0.alloc (.cells #[.slice A vs.length c] 31))
  have hc1:=hid (zaf (ob := .cells #[.slice A vs.length c] 31) hc0)
  clear hb0 hc0
  generalize w1.alloc (.cells #[.slice A vs.length c] 31) = w2 at *
  go_wp2_with fail
  go_loopw [4,8] (fun bv kv wr => ∃ (j Bo:Nat) (os':List Nat),kv = .int .i64 j ∧ bv = .int .u64 Bo ∧ j ≤ vs.length ∧ BackInv os os' vs k j Bo ∧ OutC W wr H n cap os' ∧ wr.cell? ⟨B,0,none⟩ = some (.slice A vs.length c))
    (fun _ kv _ => vs.length - (intOf kv).toNat)
  case atStart => exact ⟨0,0,os,rfl,rfl,Nat.zero_le _,BackInv.start os vs k HW.out,hb1.out,hc1.out⟩
  case round =>
    obtain ⟨j,Bo,os',rfl,rfl,hj,hI,hO,hc⟩:=hrel
    have hBo:Bo ≤ 1:=hI.one
    have HI:=hid hI
    clear hI
    by_cases hjt:j < vs.length
    · have hvr:Hid (SW wr.drew (.slice A vs.length c) vs):=hid (hO.drew.keep HV.out hH)
      have hvj:=zdM HV.out.2 j
      have hoj:=zdM HI.out.wds (k + j)
      have hcell0:wr.drew.cell? ⟨H,k + j,none⟩ = some (.int .u64 ((wd os' (k + j):Nat):Int)):=hO.cell (k:=k + j) (by omega)
      have hcell:(wr.alloc (.cells #[.slice A vs.length c] 31)).drew.cell? ⟨H,k + j,none⟩ = some (.int .u64 ((wd os' (k + j):Nat):Int)):=zaf (hO.cell (k:=k + j) (by omega))
      have hfro:(wr.alloc (.cells #[.slice A vs.length c] 31)).drew.frozen? ⟨H,k + j,none⟩ = false:=zd1 hO.lt (hO.fro (k + j))
      have hc0:wr.drew.cell? ⟨B,0,none⟩ = some (.slice A vs.length c):=hc
      have hcc:(wr.alloc (.cells #[.slice A vs.length c] 31)).drew.cell? ⟨B,0,none⟩ = some (.slice A vs.length c):=zaf hc
      have hj0:(0:Int) ≤ (j:Int):=Int.natCast_nonneg _
      have hj1:(j:Int) < (vs.length:Int) + 1:=by omega
      have hj2:(j:Int) < (vs.length:Int):=by omega
      have HO2:=hid hO
      have HC:=hid hc
      clear hO hc
      go_wp2_with fail
      go_region_with (first
        | (go_at_call 157;(with_reducible refine (Nt.word (.slice A vs.length c) vs _ hj0 _ hvr.out).mono ?_);rintro e w' ⟨rfl,rfl⟩)
        | (go_at_call 159;(refine (Word.add (wd os' (k + j)) (wd vs j) Bo hoj hvj hBo _).mono ?_);rintro e w' ⟨rfl,rfl⟩))
      all_goals
        (go_wp2
         exact ⟨⟨j + 1,_,_,by go_num,rfl,by omega,HI.out.next HV.out.2 (by rw [← HI.out.out.1,HO2.out.len];omega),((HO2.out.alloc _).store (k + j) _).drew,zah hne (zaf HC.out)⟩,by simp [intOf];omega⟩)
    · obtain rfl:j = vs.length:=by omega
      have hvr:Hid (SW wr (.slice A vs.length c) vs):=hid (hO.keep HV.out hH)
      have hoj:=zdM HI.out.wds (k + vs.length)
      have hcell:=zaf (ob := .cells #[.slice A vs.length c] 31) (hO.cell (k:=k + vs.length) (by omega))
      have hfro:=zd1 (ob := .cells #[.slice A vs.length c] 31) hO.lt (hO.fro (k + vs.length))
      have hj0:(0:Int) ≤ (vs.length:Int):=Int.natCast_nonneg _
      have hj1:(vs.length:Int) < (vs.length:Int) + 1:=by omega
      have HO2:=hid hO
      clear hO
      have hw:IntKind.u64.wrap (((wd os' (k + vs.length):Nat):Int) + ((Bo:Nat):Int)) = ((zjj (wd os' (k + vs.length)) Bo 0:Nat):Int):=by rw [IntKind.wrap_u64];unfold zjj B64;omega
      have HWR:=hid hw
      clear hw
      go_wp2_with fail
      refine (Nt.len (.slice A vs.length c) vs _ hvr.out).mono ?_
      rintro e w' ⟨rfl,rfl⟩
      go_wp2
      rw [HWR.out]
      have hf:=HI.out.fin (by rw [← HI.out.out.1,HO2.out.len];omega)
      exact bodyPost_end (v := .tuple #[]) (by simp [results,Tryz.results188,go_sem]) rfl ⟨_,rfl,(HO2.out.alloc _).store (k + vs.length) _,hf.1,hf.2.1,hf.2.2⟩
end Qt
end Go.Proofs.YtdbgbaiekpbaoaaGreatDoor
