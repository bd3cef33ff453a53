/- Contracts and lemmas: En18. Conditions: as each says. -/
import Derived.Test.YtmpkpcpllhacpaaGreatDoorAw18aZr
set_option linter.all false
set_option maxHeartbeats 2000000
set_option maxRecDepth 100000
namespace Go.Proofs.YtmpkpcpllhacpaaGreatDoor
open Go.RowKit Am
open Lib (hid)
open Err (z4a)
open Pr (z6d)
attribute [local go_sem ↓] Go.wp_at_zero Go.wp_at_succ
namespace Lw
theorem enters(A:OA)(m cA:Nat)(ps:List (Int × Int))(M:OA)(d Y:Nat)(may:List Bool)(w:World)(hg:w.cell? ⟨0,0,none⟩=some z4a)
  (hp:zcs w A ps) (hm:zgu w M may) (ad:m=ps.length) (ae:d=may.length) (ab:m≤1048576) (ac:d≤1048576) :
  Calls Tryz.prog 3 #[.slice A m cA,.slice M d Y] w fun e w'=>e=.returned (.bool true)∧Below w.heap.size w w':=by
 have HG:=hid hg;have HA:=hid hp;have HM:=hid hm;have V:=hid ad;have u:=hid ae;have Q:=hid ab;have R:=hid ac;clear hp hm hg;have O:=hid (Below.refl w.heap.size w);have hW:w=w:=rfl;clear ad ae ab ac;go_enter Tryz.func3,Tryz.ntmps3;go_wp2_with fail
 clear hW;with_reducible refine(z8t _ HG.out).mono ?_
 rintro e w1 ⟨rfl,hb⟩;have aK:=hid (HA.out.below hb);have aL:=hid (HM.out.below hb);have aj:=hid (O.out.trans ((hb).mono O.out.size));clear hb;go_wp2_with fail
 with_reducible refine(make A m cA ps _ V.out aK.out Q.out).mono ?_
 rintro e w2 ⟨P,c,cP,rfl,hv,hb⟩;have ai:=hid (aL.out.below hb);have v:=hid (show VecS w2 0 (.slice P c cP) (frs ps)from(hv.base (Nat.zero_le _)));have ak:=hid (aj.out.trans ((hb).mono aj.out.size));clear hv hb;have l:=hid (show c=(frs ps).length from v.out.len);go_wp2_with fail
 with_reducible refine(z6d P c cP (frs ps) 0 M d Y may _ v.out ai.out u.out (by have:=R.out;omega)).mono ?_
 rintro e L ⟨rfl,hb⟩;have n:=hid (ai.out.below hb);have p:=hid (v.out.below hb);have o:=hid (ak.out.trans ((hb).mono ak.out.size));clear hb;have a3:c≤9223372036854775807:=by have h:=l.out;rw[zuU]at h;have:=V.out;have:=Q.out;omega
 have a4:d≤9223372036854775807:=by have:=R.out;omega
 obtain⟨N,hN⟩:∃N,N=min c d:=⟨_,rfl⟩
 have U:=hid hN;have aY:N≤c:=by omega
 have aZ:N≤d:=by omega
 clear hN;have ax:=hid (show ∀k,k<N→(may.getD k false=true∧el (frs ps) k<0)→(∀j,j<k→¬(may.getD j false=true∧el (frs ps) j<0))→zbh (zdi (frs ps) may)=(k:Int)from fun k hk h D=>by
  have e:zdi (frs ps) may=some k:=zkH h (frs ps).length 0 (Nat.zero_le _) (by rw[←l.out];omega) fun j _ hj=>D j hj
  rw[e];rfl)
 have av:=hid (show(∀j,j<N→¬(may.getD j false=true∧el (frs ps) j<0))→zbh (zdi (frs ps) may) = -1 from fun D=>by
  have e:zdi (frs ps) may=none:=zhz (frs ps).length 0 fun j _ hj F=>by
   by_cases aB:j<N
   ·exact D j aB F
   ·have:may.getD j false=false:=by rw[List.getD_eq_getElem?_getD,List.getElem?_eq_none (by rw[←u.out];have:=U.out;rw[Nat.zero_add,←l.out]at hj;omega)];rfl
    rw[this]at F;cases F.1
  rw[e];rfl)
 generalize zbh (zdi (frs ps) may)=J at *
 go_wp2
 go_loopw [7] (fun i wr=>∃k:Nat,i=.int .i64 k∧k≤N∧Below L.heap.size L wr∧∀j,j<k→¬(may.getD j false=true∧el (frs ps) j<0))
  (fun i _=>N-(intOf i).toNat)
 case atStart=>exact⟨0,rfl,Nat.zero_le _,Below.refl _ _,fun j hj=>absurd hj (Nat.not_lt_zero _)⟩
 case round =>
  obtain⟨k,rfl,hk,a,hT⟩:=hrel;have HB:=hid a;have x:=hid hT;clear hT;by_cases aE:k<N
  ·have aC:k<c:=by omega
   have aD:k<d:=by omega
   have a0:(0:Int)≤(k:Int):=Int.natCast_nonneg _;have a1:(k:Int)<(c:Int):=by omega
   have a2:(k:Int)<(d:Int):=by omega
   have S:=hid (show ¬(may.getD k false=true∧el (frs ps) k<0)→∀j,j<k+1→¬(may.getD j false=true∧el (frs ps) j<0)from fun h j hj=>by
    by_cases e:j=k
    ·rw[e];exact h
    ·exact x.out j (by omega))
   have aq:=hid (fun h=>ax.out k aE h x.out);obtain⟨y,rfl,_,_⟩:=p.out.has (by omega);have G:may[k]? = some (may.getD k false):=zaO (by rw[←u.out];exact aD);obtain⟨bm,om,rfl,_⟩:=n.out k _ G;have ag:=zaH (xs:=frs ps) (j:=k) (by rw[←l.out];exact aC);obtain⟨C,q,I,z,r,K,B,y0,y1,y2,Z⟩:=(p.out.below a).at_ ag;obtain⟨aU,a6,E,H⟩:=(n.out.below a) k _ G;injection E with E;injection E with hbm1 hbm2;subst hbm1 hbm2;generalize hme:may.getD k false=mv at H;have aJ:=hid (n.out.below a)
   have aS:=hid (p.out.below a);have aw:=hid (show RatS wr C (.slice q I z) (.slice r K B) (el (frs ps) k)from Z);have X:=hid (show Bel L wr from Bel.mk a);have g:=hid (o.out.trans ((a).mono o.out.size));have al:wr.cell? ⟨y,k*3,none⟩=some (.bool C):=y0;have a7:=zaa al;have am:wr.cell? ⟨y,k*3+1,none⟩=some (.slice q I z):=y1;have a9:=zaa am;have an:wr.cell? ⟨y,k*3+2,none⟩=some (.slice r K B):=y2;have bb:=zaa an;have ao:wr.cell? ⟨bm,om+k,none⟩=some (.bool mv):=H;have bd:=zaa ao;have T:=hid hme
   clear a ag G hme y0 y1 y2 H Z;cases mv with
   | false =>
    have s:=hid (S.out (by rw[T.out];intro h;cases h.1));go_wp2;go_roundw
    case rel=>exact⟨k+1,by go_num,by omega,X.out.b,s.out⟩
    case measure=>simp[intOf];omega
   | true =>
    go_wp2_with fail
    with_reducible refine(Rt.sign C q I z r K B (el (frs ps) k) _ aw.out).mono ?_
    rintro e v1 ⟨rfl,hb⟩;have aR:=hid (X.out.below hb);have aM:=hid (g.out.trans ((hb).mono g.out.size));have aN:=zab hb al;have a8:=zaa aN;have aO:=zab hb am;have ba:=zaa aO;have aP:=zab hb an;have bc:=zaa aP;have aQ:=zab hb ao;have be:=zaa aQ;clear hb;by_cases f:el (frs ps) k<0
    ·have hs:=zrN f;have aG:=zeh.2 f;have t:=hid (aq.out ⟨T.out,f⟩);rw[t.out];clear f;go_wp2;go_ret
     exact⟨rfl,aM.out⟩
    ·have hs:=zrO f;have aG:¬(el (frs ps) k).num<0:=fun e=>f (zeh.1 e)
     have a5:¬(el (frs ps) k).num.sign<0:=by omega
     have s:=hid (S.out (fun h=>f h.2));go_wp2;go_roundw
     case rel=>exact⟨k+1,by go_num,by omega,aR.out.b,s.out⟩
     case measure=>simp[intOf];omega
  ·obtain rfl:N=k:=by omega
   have t:=hid (av.out x.out);have aJ:=hid (n.out.below a);have aS:=hid (p.out.below a);have g:=hid (o.out.trans ((a).mono o.out.size));clear a;rw[t.out];have W:=U.out;by_cases e1:N<c
   ·have az:(N:Int)<(c:Int):=by omega
    have e3:¬N<d:=by omega
    have aX:¬(N:Int)<(d:Int):=by omega
    clear W;go_wp2;go_ret
    exact⟨rfl,g.out⟩
   ·have az:¬(N:Int)<(c:Int):=by omega
    clear W;go_wp2;go_ret
    exact⟨rfl,g.out⟩
