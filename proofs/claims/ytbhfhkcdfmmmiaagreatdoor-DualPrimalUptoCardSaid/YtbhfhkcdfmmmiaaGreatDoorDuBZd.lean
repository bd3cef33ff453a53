/- Contracts and lemmas: DuB. Conditions: as each says. -/
import Derived.Test.YtbhfhkcdfmmmiaaGreatDoorBasTZd
import Derived.Test.YtbhfhkcdfmmmiaaGreatDoorBoolsZd
set_option linter.all false
set_option maxHeartbeats 4000000
set_option maxRecDepth 100000
namespace Go.Proofs.YtbhfhkcdfmmmiaaGreatDoor
open Go.RowKit Am
open Lib (hid)
attribute [local go_sem ↓] Go.wp_at_zero Go.wp_at_succ
variable {cols:List Nat}{xs:List Rat}{b k:Nat}
theorem zoJ(h:zbk cols xs k=none)(a:el xs k<0):zbk cols xs (k+1)=some k:=by simp only[zbk,h,if_pos a]
theorem zqk(a:¬el xs k<0):zbk cols xs (k+1)=zbk cols xs k:=by
 simp only[zbk];cases zbk cols xs k with
 | none=>simp only[if_neg a]
 | some b=>simp only;rw[if_neg (fun h=>a h.1)]
theorem zsh(h:zbk cols xs k=some b)(a:el xs k<0)(hc:cols.getD k 0<cols.getD b 0):zbk cols xs (k+1)=some k:=by simp only[zbk,h];rw[if_pos ⟨a,hc⟩]
theorem zsg(h:zbk cols xs k=some b)(hc:¬cols.getD k 0<cols.getD b 0):zbk cols xs (k+1)=some b:=by simp only[zbk,h];rw[if_neg (fun h=>hc h.2)]
theorem znI(h:zbk cols xs k=some b):b<k:=by
 have s:=zdk cols xs k;rw[h]at s;exact s.1
section
variable {W0 w:World} {H q:Nat} {rA:OA} {rc:Nat} {lA:List Value} {bA:OA} {bc_:Nat} {kA:OA} {kc:Nat} {eA:OA} {ec m N S own:Nat} {A:List (List Rat)} {b c:List Rat} {left:List Int}
  {tA:OA} {tc:Nat} {cols:List Nat}
namespace Du
theorem leave(h:zhi W0 w H q rA rc lA bA bc_ kA kc eA ec m N S own A b c left tA tc cols) :
  Calls Tryz.prog 64 #[.pointer (some ⟨q,0,none⟩)] w fun e w'=>e=.returned (.int .i64 (zbh (zi5 cols (za5 A b cols))))∧Below w.heap.size w w':=by
 have HP:=hid h;obtain⟨qb,xA,xc,E⟩:=h;have HL:=hid E.basis.len;have ac:=hid (E.basis.vals_ok b).2;have aD:=E.std.hm;clear E;go_enter Tryz.func64,Tryz.ntmps64;go_wp2_with fail
 refine(Tb.basis HP.out).mono ?_;rintro e w1 ⟨A1,c1,rfl,hv1,hb⟩;have I:=hid hb;have an:=hid hv1;clear hv1 hb;go_wp2_with fail
 refine(Tb.values (HP.out.below I.out)).mono ?_;rintro e O ⟨A2,c2,rfl,hv2,hb⟩;have HI:=hid (an.out.below hb);have HX:=hid hv2;have W:=hid (I.out.trans (hb.mono I.out.size));clear hv2 hb;go_wp2
 go_loopw [3,12] (fun bv i wr=>∃k:Nat,i=.int .i64 k∧bv=.int .i64 (zbh (zbk cols (za5 A b cols) k))∧k≤m∧Below O.heap.size O wr)
  (fun _ i _=>m-(intOf i).toNat)
 case atStart=>exact⟨0,rfl,rfl,Nat.zero_le _,Below.refl _ _⟩
 case round =>
  obtain⟨k,rfl,rfl,hk,z⟩:=hrel;have V:=hid z;by_cases ah:k<m
  ·have ad:=hid (HX.out.below z);have Z:=hid (HI.out.below z);obtain⟨bx,rfl,_,_⟩:=ad.out.has (by omega);obtain⟨y,rfl,_,_⟩:=Z.out.has (by omega);have hq:=zaH (xs:=za5 A b cols) (j:=k) (by rw[ac.out];exact ah);obtain⟨g,a,p,n,d,o,l,k0,k1,k2,hR⟩:=ad.out.at_ hq;have HR:=hid hR;have ag:cols[k]? = some (cols.getD k 0):=zaO (by rw[HL.out];exact ah);have al:=hid ag;have az:(0:Int)≤(k:Int):=Int.natCast_nonneg _;have aA:(k:Int)<(m:Int):=by omega
   clear z hR hq ag;have ak:=hid (Bel.mk V.out);go_wp2_with fail
   have D:=hid (show Bel O (wr.alloc (.cells #[g,(a,p,n),(d,o,l)] 49))from ak.out.alloc _);have C:=hid (show RatS (wr.alloc (.cells #[g,(a,p,n),(d,o,l)] 49)) g (a,p,n) (d,o,l) (el (za5 A b cols) k)from HR.out.alloc _);have Y:=hid (show IntsS (wr.alloc (.cells #[g,(a,p,n),(d,o,l)] 49)) w.heap.size (y,m,c1) cols from Z.out.alloc _);have x:=hid (zal wr #[g,(a,p,n),(d,o,l)] 49)
   obtain⟨x0,_,x1,_,x2,_⟩:=bc3 x.out;have L:=Y.out.at_ al.out;have F:=zaa L;by_cases s:el (za5 A b cols) k<0
   ·have hs:=zrN s;have aj:=zeh.2 s;cases hbe:zbk cols (za5 A b cols) k with
    | none =>
     have t:=hid (zoJ hbe s);have J:zbh none = -1:=rfl;rw[J];clear hbe s;refine wp_region_noPanic ?_;refine wp_region_held_drew (S:=fun w'=>w'.cell? ⟨wr.heap.size,0,none⟩=some (.bool g)∧w'.cell? ⟨wr.heap.size,1,none⟩=some (a,p,n)∧w'.cell? ⟨wr.heap.size,2,none⟩=some (d,o,l)) (by kernel_rfl) kp fun hHeld=>?_
     refine zaw [0] ?_;repeat refine tkH (hS:=hHeld) (h:=?_)
     refine zao ?_;refine wpAnyH_ready (rs:=[1]) (by kernel_rfl) (by simp) ?_;refine AllReadyH.cons rfl (fun K r=>?_) AllReadyH.nil;go_simp
     (go_at_call 74;(with_reducible refine(Rt.sign g a p n d o l (el (za5 A b cols) k) _ C.out.drew).mono ?_);rintro e v1 ⟨rfl,hb⟩;have u:=hid (zad hb x.out);have v:=hid (D.out.drew.below hb);obtain⟨R,_,T,_,U,_⟩:=bc3 u.out;clear hb)
     (try go_wp2_with fail)
     refine r.out _ _ kp fun hHeld=>?_
     clear r K;try simp only[Act.put,pu1,pu2,pu3,pu4,pu5,pu6]
     refine zaw [2,3,4,5,6] ?_;repeat refine tkH (hS:=hHeld) (h:=?_)
     refine zao ?_;refine zaw [7,8,9,10,11,12,13,14,15] ?_;repeat refine skH (hS:=hHeld) (h:=?_)
     refine zao ?_;refine zaw [16,17] ?_;repeat refine tkH (hS:=hHeld) (h:=?_)
     refine zao ?_;refine wpAnyH_done (by kernel_rfl) ?_ _;refine NoPanic.normal ?_;go_wp2;go_roundw
     case rel=>exact⟨k+1,by go_num,by rw[t.out];rfl,by omega,v.out.b⟩
     case measure=>simp[intOf];omega
    | some f =>
     have J:zbh (some f)=(f:Int):=rfl;rw[J];have ay:=znI hbe;have af:cols[f]? = some (cols.getD f 0):=zaO (by rw[HL.out];omega);have aB:(0:Int)≤(f:Int):=Int.natCast_nonneg _;have aC:(f:Int)<(m:Int):=by omega
     have M:=Y.out.at_ af;have G:=zaa M;have X:=hid hbe;have ao:=hid s;clear hbe s af;by_cases hc:cols.getD k 0<cols.getD f 0
     ·have t:=hid (zsh X.out ao.out hc);have B:((cols.getD k 0:Nat):Int)<((cols.getD f 0:Nat):Int):=by omega
      clear hc;generalize cols.getD k 0=P at B L F;generalize cols.getD f 0=Q at B M G;refine wp_region_noPanic ?_;refine wp_region_held_drew (S:=fun w'=>w'.cell? ⟨wr.heap.size,0,none⟩=some (.bool g)∧w'.cell? ⟨wr.heap.size,1,none⟩=some (a,p,n)∧w'.cell? ⟨wr.heap.size,2,none⟩=some (d,o,l)∧w'.cell? ⟨y,k,none⟩=some (.int .i64 (P:Int))∧w'.cell? ⟨y,f,none⟩=some (.int .i64 (Q:Int))) (by kernel_rfl) kp fun hHeld=>?_
      refine zaw [0] ?_;repeat refine tkH (hS:=hHeld) (h:=?_)
      refine zao ?_;refine wpAnyH_ready (rs:=[1]) (by kernel_rfl) (by simp) ?_;refine AllReadyH.cons rfl (fun K r=>?_) AllReadyH.nil;go_simp
      (go_at_call 74;(with_reducible refine(Rt.sign g a p n d o l (el (za5 A b cols) k) _ C.out.drew).mono ?_);rintro e v1 ⟨rfl,hb⟩;have u:=hid (zad hb x.out);have v:=hid (D.out.drew.below hb);obtain⟨R,_,T,_,U,_⟩:=bc3 u.out;have av:=zab hb F;have aw:=zab hb G;clear hb)
      (try go_wp2_with fail)
      refine r.out _ _ kp fun hHeld=>?_
      clear r K;try simp only[Act.put,pu1,pu2,pu3,pu4,pu5,pu6]
      refine zaw [2,3,4,5,6,7,8,9,10,11,12,13,14,15,16,17] ?_;repeat refine tkH (hS:=hHeld) (h:=?_)
      refine zao ?_;refine wpAnyH_done (by kernel_rfl) ?_ _;refine NoPanic.normal ?_;go_wp2;go_roundw
      case rel=>exact⟨k+1,by go_num,by rw[t.out];rfl,by omega,v.out.b⟩
      case measure=>simp[intOf];omega
     ·have t:=hid (zsg X.out hc);have B:¬((cols.getD k 0:Nat):Int)<((cols.getD f 0:Nat):Int):=by omega
      clear hc;generalize cols.getD k 0=P at B L F;generalize cols.getD f 0=Q at B M G;refine wp_region_noPanic ?_;refine wp_region_held_drew (S:=fun w'=>w'.cell? ⟨wr.heap.size,0,none⟩=some (.bool g)∧w'.cell? ⟨wr.heap.size,1,none⟩=some (a,p,n)∧w'.cell? ⟨wr.heap.size,2,none⟩=some (d,o,l)∧w'.cell? ⟨y,k,none⟩=some (.int .i64 (P:Int))∧w'.cell? ⟨y,f,none⟩=some (.int .i64 (Q:Int))) (by kernel_rfl) kp fun hHeld=>?_
      refine zaw [0] ?_;repeat refine tkH (hS:=hHeld) (h:=?_)
      refine zao ?_;refine wpAnyH_ready (rs:=[1]) (by kernel_rfl) (by simp) ?_;refine AllReadyH.cons rfl (fun K r=>?_) AllReadyH.nil;go_simp
      (go_at_call 74;(with_reducible refine(Rt.sign g a p n d o l (el (za5 A b cols) k) _ C.out.drew).mono ?_);rintro e v1 ⟨rfl,hb⟩;have u:=hid (zad hb x.out);have v:=hid (D.out.drew.below hb);obtain⟨R,_,T,_,U,_⟩:=bc3 u.out;have av:=zab hb F;have aw:=zab hb G;clear hb)
      (try go_wp2_with fail)
      refine r.out _ _ kp fun hHeld=>?_
      clear r K;try simp only[Act.put,pu1,pu2,pu3,pu4,pu5,pu6]
      refine zaw [2,3,4,5,6,7,8,9,10,11,12,13,14,15,16,17] ?_;repeat refine tkH (hS:=hHeld) (h:=?_)
      refine zao ?_;refine wpAnyH_done (by kernel_rfl) ?_ _;refine NoPanic.normal ?_;go_wp2;go_roundw
      case rel=>exact⟨k+1,by go_num,by rw[t.out];rfl,by omega,v.out.b⟩
      case measure=>simp[intOf];omega
   ·have hs:=zrO s;have aj:¬(el (za5 A b cols) k).num<0:=fun e=>s (zeh.1 e)
    have aE:decide ((el (za5 A b cols) k).num<0)=false:=decide_eq_false aj;have t:=hid (zqk (cols:=cols) s);clear s;refine wp_region_noPanic ?_;refine wp_region_held_drew (S:=fun w'=>w'.cell? ⟨wr.heap.size,0,none⟩=some (.bool g)∧w'.cell? ⟨wr.heap.size,1,none⟩=some (a,p,n)∧w'.cell? ⟨wr.heap.size,2,none⟩=some (d,o,l)) (by kernel_rfl) kp fun hHeld=>?_
    refine zaw [0] ?_;repeat refine tkH (hS:=hHeld) (h:=?_)
    refine zao ?_;refine wpAnyH_ready (rs:=[1]) (by kernel_rfl) (by simp) ?_;refine AllReadyH.cons rfl (fun K r=>?_) AllReadyH.nil;go_simp
    (go_at_call 74;(with_reducible refine(Rt.sign g a p n d o l (el (za5 A b cols) k) _ C.out.drew).mono ?_);rintro e v1 ⟨rfl,hb⟩;have u:=hid (zad hb x.out);have v:=hid (D.out.drew.below hb);obtain⟨R,_,T,_,U,_⟩:=bc3 u.out;clear hb)
    (try go_wp2_with fail)
    refine r.out _ _ kp fun hHeld=>?_
    clear r K;try simp only[Act.put,pu1,pu2,pu3,pu4,pu5,pu6]
    refine zaw [2,3] ?_;repeat refine tkH (hS:=hHeld) (h:=?_)
    refine zao ?_;refine zaw [4,5,6,7,8,9,10,11,12,13,14,15,16] ?_;repeat refine skH (hS:=hHeld) (h:=?_)
    refine zao ?_;refine zaw [17] ?_;repeat refine tkH (hS:=hHeld) (h:=?_)
    refine zao ?_;refine wpAnyH_done (by kernel_rfl) ?_ _;refine NoPanic.normal ?_;go_wp2;go_roundw
    case rel=>exact⟨k+1,by go_num,by rw[t.out],by omega,v.out.b⟩
    case measure=>simp[intOf];omega
  ·obtain rfl:m=k:=by omega
   have t:=hid (show zi5 cols (za5 A b cols)=zbk cols (za5 A b cols) m by unfold zi5;rw[ac.out]);clear z;go_wp2;go_ret
   exact⟨by rw[t.out];rfl,W.out.trans (V.out.mono W.out.size)⟩
end Du
end
