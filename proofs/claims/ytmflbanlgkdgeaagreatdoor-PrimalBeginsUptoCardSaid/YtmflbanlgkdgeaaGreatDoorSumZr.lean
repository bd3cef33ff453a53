/- Contracts and lemmas: Sum Bgp Vec12. Conditions: as each says. -/
import Derived.Test.YtmflbanlgkdgeaaGreatDoorRnpZr
set_option linter.all false
set_option maxHeartbeats 2000000
set_option maxRecDepth 100000
namespace Go.Proofs.YtmflbanlgkdgeaaGreatDoor
open Go.RowKit Am
open Lib (hid)
attribute [local go_sem ↓] Go.wp_at_zero Go.wp_at_succ
namespace Rt
theorem sum(A:OA)(n c:Nat)(xs:List Rat)(H S:Nat)(w:World)(J:VecS w H (.slice A n c) xs)(x:n≤64)(zx:∀q∈xs,mw q≤S)(hS:4*(1+64*(S+1)+S)+8≤LIM) :
  Calls Tryz.prog 24 #[.slice A n c] w (ze4 w (zai n (el xs))):=by
 have HN:=hid J.len;have aj:=hid x;have an:=hid hS;have ZX:=hid (show ∀k,k<n→mw (el xs k)≤S from fun k hk=>zrz zx (by rw[←J.len];exact hk));have aK:n≤9223372036854775807:=by omega
 clear x zx hS;obtain⟨W,F⟩:∃W,(w.alloc (.cells #[.bool false,.slice none 0 0,.slice none 0 0] 66))=W:=⟨_,rfl⟩
 have ad:=hid (show W.heap[w.heap.size]? = some (.cells #[.bool false,.slice none 0 0,.slice none 0 0] 66 (0,0))by rw[←F];exact zam (by simp));have B:=hid (show Below w.heap.size w W by rw[←F];exact zae w _);have HA:=hid (show VecS W H (.slice A n c) xs by rw[←F];exact(J).alloc _);clear J;go_enter Tryz.func24,Tryz.ntmps24;go_wp2;clear F
 go_loopw [8] (fun i wr=>∃(k:Nat) (g:Bool) (P:OA) (m cp:Nat) (D:OA) (f d:Nat),i=.int .i64 k∧k≤n∧wr.heap[W.heap.size]? = some (.cells #[.bool g,.slice P m cp,.slice D f d] 66 (0,0))∧RatS wr g (.slice P m cp) (.slice D f d) (zai k (el xs))∧Below W.heap.size W wr)
  (fun i _=>n-(intOf i).toNat)
 case atStart=>exact⟨0,_,_,_,_,_,_,_,rfl,Nat.zero_le _,zal _ _ _,RatS.zero _,zae W _⟩
 case round =>
  obtain⟨k,g,P,m,cp,D,f,d,rfl,hk,I,E,a⟩:=hrel;by_cases ag:k<n
  ·obtain⟨U,rfl,aF,aG⟩:=HA.out.has (by omega);obtain⟨u,o,y,s,r,z,t,V,X,k2,af⟩:=(HA.out.below a).at_ (zaH (xs:=xs) (j:=k) (by rw[←HN.out];exact ag));have l:=hid (zad a ad.out);have al:=hid (show RatS wr u (.slice o y s) (.slice r z t) (el xs k)from af);have T:=hid (show RatS wr g (.slice P m cp) (.slice D f d) (zai k (el xs))from E);have HW:=hid (show Bel W wr from Bel.mk a);have ah:=hid (B.out.trans ((a).mono B.out.size));obtain⟨K,M,Y,_,L,O,Z,_,Q,R,ab,_⟩:=bf3 l.out
   have au:wr.cell? ⟨U,k*3,none⟩=some (.bool u):=V;have av:wr.cell? ⟨U,k*3+1,none⟩=some (.slice o y s):=X;have ay:wr.cell? ⟨U,k*3+2,none⟩=some (.slice r z t):=k2;have C:=hid I;obtain⟨K,M,Y,_,L,O,Z,_,Q,R,ab,_⟩:=bf3 l.out;obtain⟨aw,_,_,_,ax,_,_,_,ar,_⟩:=bf3 C.out;have au:=V;have av:=X;have ay:=k2
   have L2:=hid (show 4*(mw (zai k (el xs))+mw (el xs k))+8≤LIM by have h1:=zxI zo5 (el xs) S k (fun i hi=>ZX.out i (by omega));have h2:=ZX.out k ag;have h3:k*(S+1)≤64*(S+1):=Nat.mul_le_mul_right _ (by have:=aj.out;omega);have:=an.out;omega);have aI:(0:Int)≤(k:Int):=Int.natCast_nonneg _;have aJ:(k:Int)<(n:Int):=by omega
   clear I E a V X k2 af;have G:=zae wr (.cells #[.bool u,.slice o y s,.slice r z t] 66);have ai:=hid (zad G C.out);have aC:=hid (al.out.below G);have az:=hid (T.out.below G);have aA:=hid (HW.out.below G);obtain⟨aL,_,_,_,aM,_,_,_,aN,_⟩:=bf3 ai.out;have KA:=hid (zal wr #[.bool u,.slice o y s,.slice r z t] 66);obtain⟨aO,_,aP,_,aQ,_⟩:=bc3 KA.out;go_wp2_with fail
   with_reducible refine(Rt.add g P m cp D f d (zai k (el xs)) u o y s r z t (el xs k) _ az.out aC.out L2.out).mono ?_
   rintro e u1 ⟨g2,A2,m2,c2,D2,md2,cd2,rfl,x,hb⟩;have aa:=hid (zad hb ai.out);have aB:=hid (aA.out.below hb);have HS:=hid (show RatS u1 g2 (.slice A2 m2 c2) (.slice D2 md2 cd2) (zai k (el xs)+el xs k)from x);obtain⟨aR,_,aW,_,aS,_,aT,_,aV,_,aU,_⟩:=bf3 aa.out;clear x hb;go_wp2;go_roundw
   case rel=>exact⟨k+1,g2,A2,m2,c2,D2,md2,cd2,by go_num,by omega,zar _ (zar _ (zar _ aa.out)),by unfold zai;exact HS.out.set3 aa.out (by decide) _ _ _,(Bel.set3 aB.out (Nat.le_refl _) _ _ _).b⟩
   case measure=>simp[intOf];omega
  ·have aq:k=n:=by omega
   have l:=hid (zad a ad.out);have T:=hid (show RatS wr g (.slice P m cp) (.slice D f d) (zai k (el xs))from E);have ah:=hid (B.out.trans ((a).mono B.out.size));obtain⟨K,M,Y,_,L,O,Z,_,Q,R,ab,_⟩:=bf3 l.out;have C:=hid I;obtain⟨K,M,Y,_,L,O,Z,_,Q,R,ab,_⟩:=bf3 l.out;obtain⟨aw,_,ax,_,ar,_⟩:=bc3 C.out;clear I E a;go_wp2;refine bodyPost_ret (v:=.agg #[.bool g,.slice P m cp,.slice D f d]) (by simp[results,Tryz.results24,go_sem,K,M,L,O,Q,R]) rfl ?_;have h:=T.out;rw[aq]at h
   exact⟨_,_,_,_,_,_,_,rfl,h.set3 l.out (by decide) _ _ _,bsc (bsc (bsc ah.out))⟩
end Rt
end Go.Proofs.YtmflbanlgkdgeaaGreatDoor
namespace Go.Proofs.YtmflbanlgkdgeaaGreatDoor
open Go.RowKit Am
open Lib (hid)
theorem yoq{A:List (List Rat)}{b:List Rat}{k:Nat}{r:List Rat}(h:A[k]? = some r):(zt0 A b)[k]? = some (scale ((sgI (el b k):Int):Rat) r++zdL A.length k):=by
 have hk:=(List.getElem?_eq_some_iff.1 h).1;unfold zt0;rw[List.getElem?_map,List.getElem?_range hk,zVG,zUb];simp only[Option.map_some,List.getD_eq_getElem?_getD,h,Option.getD_some]
section
variable {m N:Nat} {A:List (List Rat)} {b:List Rat} (hA:Rect m N A) (hb:b.length=m)
include hb in
theorem yop{k:Nat}(hk:k<m):el (bkL (b.map sgI) (zwh b) m) k=el b k:=by
 rw[zWQ hb (by rw[zUh,hb]) hk,zzj (by rw[hb];exact hk),←Rat.mul_assoc,zDO,Rat.one_mul]
include hA hb
theorem yor{k:Nat}(hk:k<m):el (zh1 (N+m) (zKa N m) (za5 (zt0 A b) (zwh b) (zKa N m))) (N+k)=el (zwh b) k:=by
 have a:=zSU (b:=b) hA;rw[zvg (by omega),zUg];have h:=zA7 a.inj (el (za5 (zt0 A b) (zwh b) (zKa N m))) hk;rw[zSI hk]at h;rw[h,zVO hA hb hk,zzj (by rw[hb];exact hk)]
theorem yos{j:Nat}(hj:j<N):el (zh1 (N+m) (zKa N m) (za5 (zt0 A b) (zwh b) (zKa N m))) j=0:=by
 rw[zvg (by omega),zUg];exact zyz _ fun⟨k,hk,e⟩=>by have e:(zKa N m).getD k 0=j:=e;rw[zSI hk]at e;omega
theorem yot:dot (zJG N m) (zh1 (N+m) (zKa N m) (za5 (zt0 A b) (zwh b) (zKa N m)))=zai m (el (zwh b)):=by
 have a:=zSU (b:=b) hA;rw[zVd (zUg N m)];unfold zSB;rw[zyA a.lt];exact zaj fun k hk=>by
  rw[zSI hk,zTp hk,zVO hA hb hk,zzj (by rw[hb];exact hk)];grind
end
theorem ynv{b:List Rat}{k:Nat}(hk:k<b.length):¬el (zwh b) k<0:=by
 rw[zzj hk];exact Rat.not_lt.2 (zYm _)
end Go.Proofs.YtmflbanlgkdgeaaGreatDoor
namespace Go.Proofs.YtmflbanlgkdgeaaGreatDoor
open Go.RowKit Am
open Lib (hid)
attribute [local go_sem ↓] Go.wp_at_zero Go.wp_at_succ
def ykR (w:World) (A:OA) (xs:List Rat):Prop:=∀(k:Nat) (q:Rat),xs[k]? = some q→∃(bx ox:Nat) (g:Bool) (P:OA) (m c:Nat) (D:OA) (md cd:Nat),A=some ⟨bx,ox,none⟩∧w.cell? ⟨bx,ox+k*3,none⟩=some (.bool g)∧w.cell? ⟨bx,ox+k*3+1,none⟩=some (.slice P m c)∧w.cell? ⟨bx,ox+k*3+2,none⟩=some (.slice D md cd)∧RatS w g (.slice P m c) (.slice D md cd) q
theorem ykR.below{w w':World}{A:OA}{xs:List Rat}(h:ykR w A xs)(hb:Below w.heap.size w w'):ykR w' A xs:=fun k q hk=>by
 obtain⟨a,j,g,P,m,c,D,i,d,e,h0,h1,f,hr⟩:=h k q hk;exact⟨a,j,g,P,m,c,D,i,d,e,zab hb h0,zab hb h1,zab hb f,hr.below hb⟩
theorem ykR.alloc{w:World}{A:OA}{xs:List Rat}(h:ykR w A xs)(o:Obj):ykR (w.alloc o) A xs:=h.below (zae w o)
theorem ykR.drew{w:World}{A:OA}{xs:List Rat}(h:ykR w A xs):ykR w.drew A xs:=h.below (zap w 1)
theorem VecS.from_{w:World}{H b n c:Nat}{xs:List Rat}(h:VecS w H (.slice (some ⟨b,0,none⟩) n c) xs)(k:Nat):ykR w (some ⟨b,k*3,none⟩) (xs.drop k):=fun j q hj=>by
 rw[List.getElem?_drop]at hj;obtain⟨g,P,m,c',D,d,a,y0,y1,e,hr⟩:=h.at_ hj;refine⟨b,k*3,g,P,m,c',D,d,a,rfl,?_,?_,?_,hr⟩
 ·rw[show k*3+j*3=(k+j)*3 by omega];exact y0
 ·rw[show k*3+j*3+1=(k+j)*3+1 by omega];exact y1
 ·rw[show k*3+j*3+2=(k+j)*3+2 by omega];exact e
namespace Vc
theorem yrb(S:Nat)(hS:8*S+8≤LIM)(A:OA)(n c:Nat)(xs:List Rat)(B:OA)(d c':Nat)(ys:List Rat)(H':Nat)(w:World)(hx:ykR w A xs)(ac:n=xs.length)(aQ:n≤9223372036854775807)(r:VecS w H' (.slice B d c') ys)(zx:∀q∈xs,mw q≤S)(zy:∀q∈ys,mw q≤S) :
  Calls Tryz.prog 44 #[.slice A n c,.slice B d c'] w fun e w'=>e=.returned (.int .i64 (zlz xs ys))∧Below w.heap.size w w':=by
 have R:=hid ac;have T:=hid r.len;have HX:=hid hx;have X:=hid r;have an:=hid hS;have ZX:=hid zx;have ZY:=hid zy;have aR:d≤9223372036854775807:=by have h1:=r.form.2.1;have h2:=r.form.2.2.1;unfold maxLen at h2;omega
 clear zx zy hS hx r ac;obtain⟨N,hN⟩:∃N,N=min n d:=⟨_,rfl⟩
 have W:=hid hN;have aK:N≤9223372036854775807:=by omega
 have aI:N≤n:=by omega
 have aJ:N≤d:=by omega
 clear hN;go_enter Tryz.func44,Tryz.ntmps44;go_upto_region 1 with fail
 go_cut[11,12] (fun a b wr=>a=.int .i64 (N:Int)∧b=.int .i64 0∧wr=w)
 case first =>
  go_wp2
  all_goals
   go_meet
   case rel=>exact⟨by congr 1;have:=W.out;omega,rfl,rfl⟩
 case rest =>
  obtain⟨rfl,rfl,rfl⟩:=hcut;rename World=>w
  go_wp2
  go_loopw [12] (fun i wr=>∃k:Nat,i=.int .i64 k∧k≤N∧zlz xs ys=zlz (xs.drop k) (ys.drop k)∧Below w.heap.size w wr)
   (fun i _=>N-(intOf i).toNat)
  case atStart=>exact⟨0,rfl,Nat.zero_le _,rfl,Below.refl _ _⟩
  case round =>
   obtain⟨k,rfl,hk,H,l⟩:=hrel;have U:=hid H;by_cases aP:k<N
   ·skip
    obtain⟨by_,rfl,_,_⟩:=X.out.has (by omega);have I:=zaH (xs:=xs) (j:=k) (by rw[←R.out];omega);have J:=zaH (xs:=ys) (j:=k) (by rw[←T.out];omega);obtain⟨g,p,F,s,L,x,u,O,C,rfl,y0,y1,y2,aa⟩:=(HX.out.below l) k _ I;obtain⟨G,t,M,y,v,P,D,z0,z1,z2,ab⟩:=(X.out.below l).at_ J;have V:=hid (zuu I J);have ak:=hid (show 4*(mw (el xs k)+mw (el ys k))+8≤LIM by have:=an.out;have:=ZX.out _ (List.mem_of_getElem? I);have:=ZY.out _ (List.mem_of_getElem? J);omega)
    have al:=hid (show RatS wr F (.slice s L x) (.slice u O C) (el xs k)from aa);have am:=hid (show RatS wr G (.slice t M y) (.slice v P D) (el ys k)from ab);have HW:=hid (show Bel w wr from Bel.mk l);have aC:wr.cell? ⟨g,p+k*3,none⟩=some (.bool F):=y0;have aw:=zaa aC;have aD:wr.cell? ⟨g,p+k*3+1,none⟩=some (.slice s L x):=y1;have ax:=zaa aD;have aE:wr.cell? ⟨g,p+k*3+2,none⟩=some (.slice u O C):=y2;have ay:=zaa aE;have aF:wr.cell? ⟨by_,k*3,none⟩=some (.bool G):=z0;have az:=zaa aF
    have aG:wr.cell? ⟨by_,k*3+1,none⟩=some (.slice t M y):=z1;have aA:=zaa aG;have aH:wr.cell? ⟨by_,k*3+2,none⟩=some (.slice v P D):=z2;have aB:=zaa aH;have aL:(0:Int)≤(k:Int):=Int.natCast_nonneg _;have aM:(k:Int)<(N:Int):=by omega
    have aN:(k:Int)<(n:Int):=by omega
    have aO:(k:Int)<(d:Int):=by omega
    clear l H I J y0 y1 y2 z0 z1 z2 aa ab;go_wp2_with fail
    refine zaS (S:=fun w'=>w'.cell? ⟨g,p+k*3,none⟩=some (.bool F)∧w'.cell? ⟨g,p+k*3+1,none⟩=some (.slice s L x)∧w'.cell? ⟨g,p+k*3+2,none⟩=some (.slice u O C)∧w'.cell? ⟨by_,k*3,none⟩=some (.bool G)∧w'.cell? ⟨by_,k*3+1,none⟩=some (.slice t M y)∧w'.cell? ⟨by_,k*3+2,none⟩=some (.slice v P D)) [] (h:=fun hHeld=>?_);refine zaw [0,1,2,3,4,5,6,7] ?_;repeat refine tkL (hS:=hHeld) (h:=?_)
    refine zao ?_;refine zaB 8 (h:=fun K Z=>?_);go_simp
    (go_at_call 47;(with_reducible refine(Rt.cmpr F s L x u O C (el xs k) G t M y v P D (el ys k) _ al.out.drew am.out.drew ak.out).mono ?_);rintro e v1 ⟨rfl,hb⟩;have ai:=hid (HW.out.drew.below hb);have aT:=zab hb aw;have aU:=zab hb ax;have aV:=zab hb ay;have aW:=zab hb az;have aX:=zab hb aA;have aY:=zab hb aB;clear hb)
    (try go_wp2_with fail)
    refine Z.out _ _ kp fun hHeld=>?_
    clear Z K;try simp only[Act.put,pu1,pu2,pu3,pu4,pu5,pu6]
    refine zaw [9] ?_;repeat refine tkL (hS:=hHeld) (h:=?_)
    refine zao ?_;refine zaM (h:=?_);by_cases o:zlX (el xs k) (el ys k)=0
    ·rw[o];have f:=hid (show zlz xs ys=zlz (xs.drop (k+1)) (ys.drop (k+1))by rw[U.out,V.out,if_pos o]);clear o;go_wp2;go_roundw
     case rel=>exact⟨k+1,by go_num,by omega,f.out,ai.out.b⟩
     case measure=>simp[intOf];omega
    ·have f:=hid (show zlz xs ys=zlX (el xs k) (el ys k)by rw[U.out,V.out,if_neg o]);generalize zlX (el xs k) (el ys k)=z at o f;have aS:(z != 0)=true:=by simp[o]
     go_wp2;go_ret
     exact⟨by rw[f.out];rfl,ai.out.b⟩
   ·obtain rfl:N=k:=by omega
    have f:=hid (show zlz xs ys=if n<d then -1 else if d<n then 1 else 0 by rw[H,zwD (by rw[←R.out,←T.out];exact W.out),←R.out,←T.out]);have Q:=hid l;clear H l;rcases Nat.lt_trichotomy n d with h1 | h1 | h1
    ·have e:zlz xs ys = -1:=(by rw[f.out,if_pos h1])
     have Y:(n:Int)<(d:Int):=(by omega)
     have E:=hid e;clear e;go_wp2;go_ret
     exact⟨by rw[E.out];rfl,Q.out⟩
    ·have e:zlz xs ys=0:=(by rw[f.out,if_neg (by omega),if_neg (by omega)])
     have Y:¬(n:Int)<(d:Int):=(by omega)
     have d2:¬(d:Int)<(n:Int):=(by omega)
     have E:=hid e;clear e;go_wp2;go_ret
     exact⟨by rw[E.out];rfl,Q.out⟩
    ·have e:zlz xs ys=1:=(by rw[f.out,if_neg (by omega),if_pos h1])
     have Y:¬(n:Int)<(d:Int):=(by omega)
     have d2:(d:Int)<(n:Int):=(by omega)
     have E:=hid e;clear e;go_wp2;go_ret
     exact⟨by rw[E.out];rfl,Q.out⟩
theorem sameA(S:Nat)(hS:8*S+8≤LIM)(A:OA)(n c:Nat)(xs:List Rat)(B:OA)(g c':Nat)(ys:List Rat)(i:Nat)(w:World)(l:ykR w A xs)(k:n=xs.length)(r:n≤9223372036854775807)(o:VecS w i (.slice B g c') ys)(zx:∀q∈xs,mw q≤S)(zy:∀q∈ys,mw q≤S) :
  Calls Tryz.prog 17 #[.slice A n c,.slice B g c'] w fun e w'=>e=.returned (.bool (decide (xs=ys)))∧Below w.heap.size w w':=by
 have p:=hid (yrb S hS A n c xs B g c' ys i w l k r o zx zy);have a:=hid (show(zlz xs ys == 0)=decide (xs=ys)by rw[Bool.eq_iff_iff];simp[zot]);clear l k o zx zy hS;go_enter Tryz.func17,Tryz.ntmps17;go_wp2_with fail
 refine p.out.mono ?_;rintro e w1 ⟨rfl,hb⟩;have j:=hid hb;clear hb;generalize zlz xs ys=z at a;by_cases f:z=0
 ·have d:(z == 0)=true:=by simp[f]
  have E:=hid (show decide (xs=ys)=true by rw[←a.out,d]);subst f;go_wp2;go_ret
  exact⟨by rw[E.out];rfl,j.out⟩
 ·have d:(z == 0)=false:=by simp[f]
  have E:=hid (show decide (xs=ys)=false by rw[←a.out,d]);go_wp2;go_ret
  exact⟨by rw[E.out];rfl,j.out⟩
