/- Contracts and lemmas: Mat4 LuS. Conditions: as each says. -/
import Derived.Test.YtbhfhkcdfmmmiaaGreatMat3Zj
import Derived.Test.YtbhfhkcdfmmmiaaGreatRat6Zj
set_option linter.all false
set_option maxHeartbeats 8000000
set_option maxRecDepth 100000
namespace Go.Proofs.YtbhfhkcdfmmmiaaGreat
open Go.RowKit Am Tryz
attribute [local go_sem ↓] Go.wp_at_zero Go.wp_at_succ
variable {A:List (List Rat)}{y:List Rat}{N k:Nat}
def zph (N:Nat) (A:List (List Rat)) (y:List Rat) (k:Nat):List Rat:=(List.range N).map fun j=>zai k fun i=>el y i*en A i j
theorem zhm(N:Nat)(A:List (List Rat))(y:List Rat)(k:Nat):(zph N A y k).length=N:=by simp[zph]
theorem zt5(N:Nat)(A:List (List Rat))(y:List Rat):zph N A y 0=List.replicate N 0:=by
 unfold zph;simp only[zai];apply ZT;intro i;simp[ZJ];by_cases h:i<N<;>simp[h]
theorem zq8(N:Nat)(A:List (List Rat))(y:List Rat):zph N A y A.length=byL N A y:=rfl
theorem zq9{j:Nat}(h:j<N):(zph N A y k)[j]? = some (zai k fun i=>el y i*en A i j):=by
 unfold zph;rw[Zw,Z4 h];rfl
theorem zt4{r:List Rat}{q:Rat}(hr:A[k]? = some r)(d:y[k]? = some q)(c:r.length=N):zly (zph N A y k) q r=zph N A y (k+1):=by
 apply ZT;intro j;by_cases h:j<N
 ·obtain⟨b,a⟩:∃b,r[j]? = some b:=⟨r[j]'(by omega),Ze _⟩
  rw[zmR (zq9 h) a,zq9 h,zai,znd d];unfold en;rw[getD_some hr,znd a]
 grind[List.getElem?_eq_none,zdt,zhm]
theorem zu8{S T:Nat}(f:∀q∈y,mw q≤S)(d:∀r∈A,∀q∈r,mw q≤T)(h1:1≤S)(a:1≤T)(k:Nat):∀q∈zph N A y k,mw q≤k*(S+T+1)+1:=by
 intro q e;obtain⟨j,hj,rfl⟩:=Zq.1 e;have c:∀ {xs:List Rat} {S:Nat},(∀q∈xs,mw q≤S)→1≤S→∀i,mw (el xs i)≤S:=fun {xs S} h h1 i=>by
  by_cases hi:i<xs.length
  ·exact h _ (Zh (zaH hi))
  grind[zDb,Nat.le_trans,mw0]
 induction k with
 | zero=>rw[zai];have:=mw0;omega
 | succ k b =>
  rw[zai];have g:=zrI (zai k fun i=>el y i*en A i j) (el y k*en A k j);have l:=zdI (el y k) (en A k j);have m:=c f h1 k;have n:mw (en A k j)≤T:=by
   unfold en;grind
  have b:=b (Zq.2 ⟨j,hj,rfl⟩);rw[Xe];omega
namespace Lu
theorem solve(H q n u X:Nat)(F:LUv)(A:OA)(cA:Nat)(b:List Rat)(H':Nat)(w:World)(hF:LuS w H q n F)(a:VecS w H' (A,n,cA) b)(r:n≤64)(hp:∀i,i<n→F.perm.getD i 0<n)(hz:LUsz mw n u F)(hd:∀i,i<n→en F.up i i≠0)(hx:SolLe mw n F b X)(hL:4*(4*X+u+1)+8≤LIM) :
  Calls prog 152 #[.pointer (some ⟨q,0,none⟩),(A,n,cA)] w (zcd w (zaR n F b) true):=by
 obtain⟨lA,lc,ll,uA,uc,ul,pA,pc,aF,b7,_,ce,_,_,cd⟩:=hF.ex;have aB:=un hF.sq;have HN:=un r;have HP:=un hp;have HD:=un hd;have cw:=un a.len;have ax:=un hL;have bW:=un hx.fw;have bl:=un hx.sv;have bn:=un hz;have dh:n≤9223372036854775807:=by omega
 have k0:w.cell? ⟨q,0,none⟩=some (lA,n,lc):=zac aF 0;have k1:w.cell? ⟨q,1,none⟩=some (uA,n,uc):=zac aF 1;have k2:w.cell? ⟨q,2,none⟩=some (pA,n,pc):=zac aF 2;have KQ:=un aF;have bb:=un b7;have aC:=un ce;have bX:=un cd;have HB:=un a;clear hF b7 ce cd a r hp hz hd hx hL aF;go_enter func152,ntmps152
 go_wp2_with (at_make;go_must (refine zdv rfl _ _ rfl n _ rfl rfl rfl (by have:=HN.o;omega) w.heap.size rfl ?_;intro w1 ho aE;have HO:=un ho;have cv:=un aE;have q0:=zab aE k0;have q1:=zab aE k1;have q2:=zab aE k2;clear ho aE))
 go_wp2
 go_loopw [24] (fun i wr=>∃k:Nat,i=.int .i64 k∧k≤n∧VecS wr w (w.heap.size,n,n) (fwO F b n k)∧Below w w wr)
  (fun i _=>n-(intOf i).toNat)
 case atStart=>exact⟨0,rfl,Zb _,by rw[zxc];exact HO.o,cv.o⟩
 case round =>
  obtain⟨k,rfl,hk,g,d⟩:=hrel;by_cases o:k<n
  ·have bt:F.perm[k]? = some (F.perm.getD k 0):=zaO (by rw[aB.o.pl];exact o);have cb:=HP.o k o;generalize ad:F.perm.getD k 0=p at bt cb;have b4:=zaH (xs:=b) (j:=p) (by rw[←cw.o];exact cb);obtain⟨bP,rfl,_,_⟩:=bX.o.has (by omega);obtain⟨bB,rfl,_,_⟩:=HB.o.has (by omega);have p0:=(bX.o.below d).at_ bt;obtain⟨ga,Aa,ma,ca,Da,ch,b0,y0,y1,N,b3⟩:=(HB.o.below d).at_ b4;obtain⟨go,Ao,mo,co,Do,dj,df,o0,o1,o2,_⟩:=g.at_ (zAR F b o);have aL:=g.fro (k*3);have of1:=g.fro (k*3+1)
   have aM:=g.fro (k*3+2);have c9:=un (bb.o.below d);have da:=un (aC.o.below d);have HQ:=un (b3);have R:=un (g);have HW:=un (Bel.mk d);have bD:=zab d k0;have cQ:=zaa bD;have bE:=zab d k1;have cR:=zaa bE;have cZ:=zab d k2;have dp:wr.cell? ⟨bP,k,none⟩=some (.int .i64 (p:Int)):=p0
   have dq:wr.cell? ⟨bB,p*3,none⟩=some (.bool ga):=y0;have dr:wr.cell? ⟨bB,p*3+1,none⟩=some (Aa,ma,ca):=y1;have ds:wr.cell? ⟨bB,p*3+2,none⟩=some (Da,ch,b0):=N;have cF:=un (show(fwO F b n k).set k (el b p)=fwI F b n k 0 by rw[←ad];exact zAS F b o);clear g d bt b4 b3 ad p0 y0 y1 N;have cK:(0:Int)≤(k:Int):=Zf _;have cL:(k:Int)<(n:Int):=by omega
   have cM:(0:Int)≤(p:Int):=Zf _;have cN:(p:Int)<(n:Int):=by omega
   go_wp2
   go_loopw [41] (fun i wr=>∃c:Nat,i=.int .i64 c∧c≤k∧VecS wr w (w.heap.size,n,n) (fwI F b n k c)∧Below w w wr)
    (fun i _=>k-(intOf i).toNat)
   case atStart=>exact⟨0,rfl,Zb _,by rw[←cF.o];exact R.o.store k HQ.o,(Bel.set3 HW.o (Za _) _ _ _).b⟩
   case round =>
    rename World=>wz
    obtain⟨c,rfl,hc,g,d⟩:=hrel;by_cases au:c<k
    ·have ae:F.lo[k]? = some (F.lo.getD k []):=zaO (by rw[aB.o.ll];exact o);have af:=aB.o.lr k o;have V:en F.lo k c=el (F.lo.getD k []) c:=rfl;generalize F.lo.getD k []=rw_ at ae af V;have M:=zaH (xs:=rw_) (j:=c) (by omega);rw[←V]at M;obtain⟨O,rfl,_,_⟩:=bb.o.has (by omega);obtain⟨Ar,cr,_,Z,L⟩:=(bb.o.below d).at_ ae;rw[af]at Z L;obtain⟨m,rfl,_,_⟩:=L.has (by omega);obtain⟨z,s,C,y,t,B,x,y0,y1,N,ac⟩:=L.at_ M;obtain⟨U,P,W,cc,Q,Y,T,z0,z1,z2,ar⟩:=g.at_ (zAO F b (n:=n) (c:=c) au)
     obtain⟨gk,D,mk,I,E,J,G,o0,o1,o2,aj⟩:=g.at_ (zAN F b n k c);have aL:=g.fro (k*3);have of1:=g.fro (k*3+1);have aM:=g.fro (k*3+2);have ab:=un (ac);have az:=un (ar);have aq:=un (aj);have R:=un (g)
     have HW:=un (Bel.mk d);have a0:=zab d k0;have aN:=zaa a0;have a1:=zab d k1;have aO:=zaa a1;have a3:=zab d k2;have aP:=zaa a3;have a2:=Z;have aQ:=zaa a2;have a4:=y0;have aR:=zaa a4;have a6:=y1;have aS:=zaa a6;have a7:=N;have aT:=zaa a7;have a8:=z0
     have aU:=zaa a8;have a9:=z1;have aV:=zaa a9;have ba:=z2;have aW:=zaa ba;have bK:=o0;have bv:=zaa bK;have bN:=o1;have bw:=zaa bN;have bO:=o2;have bx:=zaa bO;have bk:=un (zAP F b n k c);have bc:=(bW.o c (by omega)).1
     rw[zrx F b (i:=c) (j:=k) (k:=n) au (by omega)]at bc;have aG:mw (fwP F b k c)≤2*X:=by unfold fwP;rw[zaj fun i hi=>by rw[←zrx F b (i:=i) (j:=k) (k:=n) (by omega) (by omega)]];exact(bW.o k o).2 c (by omega)
     have aH:=bn.o.lo k o c (by omega);have L1:=un (show 4*(mw (en F.lo k c)+mw (el (fwd F b k) c))+8≤LIM by have:=ax.o;omega);have L2:=un (show 4*(mw (fwP F b k c)+mw (en F.lo k c*el (fwd F b k) c))+8≤LIM by have:=ax.o;have:=zdI (en F.lo k c) (el (fwd F b k) c);omega);clear g d ae af V M L ac ar aj bc aG aH Z y0 y1 N z0 z1 z2;have cO:(0:Int)≤(c:Int):=Zf _;have cP:(c:Int)<(n:Int):=by omega
     go_wp2_with fail
     refine za2 (S:=fun w'=>w'.cell? ⟨q,0,none⟩=some (O,n,lc)∧w'.cell? ⟨q,1,none⟩=some (uA,n,uc)∧w'.cell? ⟨q,2,none⟩=some (bP,n,pc)∧w'.cell? ⟨O,k,none⟩=some (m,n,cr)∧w'.cell? ⟨m,c*3,none⟩=some (.bool z)∧w'.cell? ⟨m,c*3+1,none⟩=some (s,C,y)∧w'.cell? ⟨m,c*3+2,none⟩=some (t,B,x)∧w'.cell? ⟨w,c*3,none⟩=some (.bool U)∧w'.cell? ⟨w,c*3+1,none⟩=some (P,W,cc)∧w'.cell? ⟨w,c*3+2,none⟩=some (Q,Y,T)∧w'.cell? ⟨w,k*3,none⟩=some (.bool gk)∧w'.cell? ⟨w,k*3+1,none⟩=some (D,mk,I)∧w'.cell? ⟨w,k*3+2,none⟩=some (E,J,G)) 23 (h:=fun hHeld=>?_)
     refine zaw [0,1,2,3,4,5,6,7,8,9,10,11,12,13,14,15,16,17,18,19] ?_;repeat refine tkE (hS:=hHeld) (h:=?_)
     refine zao ?_;refine zaN 20 (h:=fun K l=>?_);go_simp
     (go_at_call 15;(with_reducible refine(Rt.mul z s C y t B x (en F.lo k c) U P W cc Q Y T (el (fwd F b k) c) _ ab.o.drew az.o.drew L1.o).mono ?_);rintro e u1 ⟨g1,A1,m1,c1,D1,md1,cd1,rfl,r,a⟩;have bi:=un (ab.o.drew.below a);have bM:=un (az.o.drew.below a);have bh:=un (aq.o.drew.below a);have ag:=un (R.o.drew.below a);have a5:=un (HW.o.drew.below a);have HM:=un (r);have bd:=zab a aN;have be:=zab a aO;have bf:=zab a aP;have bg:=zab a aQ;have ak:=zab a aR;have cj:=zaa ak;have al:=zab a aS;have cm:=zaa al;have am:=zab a aT;have cn:=zaa am;have an:=zab a aU;have cp:=zaa an;have ao:=zab a aV;have cq:=zaa ao;have ap:=zab a aW;have cs:=zaa ap;have bF:=zab a bv;have bG:=zab a bw;have bH:=zab a bx;clear r a)
     (try go_wp2_with fail)
     refine shutOn l fun hHeld=>?_
     clear l K
     refine zaN 21 (h:=fun K l=>?_);go_simp
     (go_at_call 37;(with_reducible refine(Rt.sub gk D mk I E J G (fwP F b k c) g1 A1 m1 c1 D1 md1 cd1 (en F.lo k c*el (fwd F b k) c) _ bh.o HM.o L2.o).mono ?_);rintro e u2 ⟨g2,A2,m2,c2,D2,md2,cd2,rfl,r,a⟩;have dc:=un (bi.o.below a);have db:=un (bM.o.below a);have aa:=un (ag.o.below a);have bQ:=un (a5.o.below a);have cY:=un (HM.o.below a);have HS:=un (r);have c0:=zab a bd;have c3:=zab a be;have c4:=zab a bf;have c5:=zab a bg;have bI:=zab a ak;have cS:=zaa bI;have bJ:=zab a al;have cT:=zaa bJ;have bR:=zab a am;have cU:=zaa bR;have bz:=zab a an;have cV:=zaa bz;have bA:=zab a ao;have cW:=zaa bA;have bC:=zab a ap;have cX:=zaa bC;have c6:=zab a bF;have c7:=zab a bG;have c8:=zab a bH;have aL:=aa.o.fro (k*3);have of1:=aa.o.fro (k*3+1);have aM:=aa.o.fro (k*3+2);clear r a)
     (try go_wp2_with fail)
     refine shutOn l fun hHeld=>?_
     clear l K
     refine zaw [22] ?_;repeat refine tkE (hS:=hHeld) (h:=?_)
     refine zao ?_;refine zba (h:=fun K l=>?_);go_simp;refine shutOff l ?_;clear l K
     refine za1 (h:=?_);go_wp2;go_roundw
     case rel=>exact⟨c+1,by go_num,by omega,by rw[←bk.o];exact aa.o.store k HS.o,(Bel.set3 bQ.o (Za _) _ _ _).b⟩
     case measure=>simp[intOf];omega
    ·obtain rfl:k=c:=by omega
     have bm:=un g;have bj:=un d;clear g d;go_wp2;go_roundw
     case rel=>exact⟨k+1,by go_num,by omega,by rw[←zxb];exact bm.o,bj.o⟩
     case measure=>simp[intOf];omega
  ·obtain rfl:n=k:=by omega
   have bm:=un g;have bj:=un d;clear g d;go_wp2
   go_loopw [10] (fun i wr=>∃k:Nat,i=.int .i64 ((k:Int)-1)∧k≤n∧VecS wr w (w.heap.size,n,n) (bwO F (fwd F b n) n k)∧Below w w wr)
    (fun i _=>(intOf i+1).toNat)
   case atStart=>exact⟨n,rfl,Za _,by rw[zzq F (zcx _ _ _),←zAQ];exact bm.o,bj.o⟩
   case round =>
    rename World=>wy
    obtain⟨k,rfl,hk,g,d⟩:=hrel;cases k with
    | zero =>
     have cH:=un g;have cx:=un d;clear g d;rw[show((0:Nat):Int)-1 = -1 from rfl];go_wp2;refine Zd (v:=.tuple #[(w.heap.size,n,n),true]) (by simp[results,results152,go_sem]) rfl ?_;exact⟨_,_,_,rfl,by have h:=cH.o;rw[zwq]at h;exact h,cx.o⟩
    | succ k =>
     have o:k<n:=by omega
     rw[show((k+1:Nat):Int)-1=(k:Int)by omega];have R:=un g;have cI:=un d;clear g;have c9:=un (bb.o.below d);have da:=un (aC.o.below d);have bD:=zab d k0;have cQ:=zaa bD;have bE:=zab d k1;have cR:=zaa bE;have cZ:=zab d k2;clear d;have cK:(0:Int)≤(k:Int):=Zf _;have cL:(k:Int)<(n:Int):=by omega
     go_wp2
     go_loopw [11] (fun i wr=>∃j:Nat,i=((k+1+j:Nat):Int)∧k+1+j≤n∧VecS wr w (w.heap.size,n,n) (bwI F (fwd F b n) n k j)∧Below w w wr)
      (fun i _=>n-(intOf i).toNat)
     case atStart=>exact⟨0,by go_num,by omega,by rw[zwp F (zcx _ _ _) o];exact R.o,cI.o⟩
     case round =>
      rename World=>wz
      obtain⟨j,rfl,hj,g,d⟩:=hrel;have ae:F.up[k]? = some (F.up.getD k []):=zaO (by rw[aB.o.ul];exact o);have af:=aB.o.ur k o;have V:∀c,en F.up k c=el (F.up.getD k []) c:=fun _=>rfl
      generalize F.up.getD k []=rw_ at ae af V;obtain⟨O,rfl,_,_⟩:=aC.o.has (by omega);obtain⟨Ar,cr,bs,Z,L⟩:=(aC.o.below d).at_ ae;rw[af]at Z L bs;obtain⟨m,rfl,_,_⟩:=L.has (by omega);have dg:=(aC.o.lt (Zh bs) rfl).2;have di:=(ZI.1 KQ.o).1;clear bs;obtain⟨gk,D,mk,I,E,J,G,o0,o1,o2,aj⟩:=g.at_ (zzo F j (zcx F b n) o);have aL:=g.fro (k*3);have of1:=g.fro (k*3+1);have aM:=g.fro (k*3+2);have cM:(0:Int)≤(k:Int):=Zf _
      have cN:(k:Int)<(n:Int):=by omega
      by_cases au:k+1+j<n
      ·have M:=zaH (xs:=rw_) (j:=k+1+j) (by omega);rw[←V]at M;obtain⟨z,s,C,y,t,B,x,y0,y1,N,ac⟩:=L.at_ M;obtain⟨U,P,W,cc,Q,Y,T,z0,z1,z2,ar⟩:=g.at_ (zwo F j (zcx F b n) au);have bq:el (bwd F n (fwd F b n) (n-(k+1))) j=el (zaR n F b) (k+1+j):=(zlL F n (fwd F b n) (f:=n) (j:=k+1) (by omega) j).symm;rw[bq]at ar
       have ad:bwP F (fwd F b n) n k j=el (fwd F b n) k-zai j (fun c=>en F.up k (k+1+c)*el (zaR n F b) (k+1+c)):=by unfold bwP;rw[zaj fun c hc=>by rw[←zlL F n (fwd F b n) (f:=n) (j:=k+1) (by omega) c]];rfl
       have bk:=un (show(bwI F (fwd F b n) n k j).set k (bwP F (fwd F b n) n k j-en F.up k (k+1+j)*el (zaR n F b) (k+1+j))=bwI F (fwd F b n) n k (j+1)by rw[←bq];exact zzp F j (zcx F b n) o);have bc:=(bl.o (k+1+j) au).1;have aG:mw (bwP F (fwd F b n) n k j)≤2*X:=by rw[ad];exact(bl.o k o).2 j (by omega)
       have aH:=bn.o.up k o (k+1+j) au;generalize hc0:k+1+j=c at *
       generalize bwP F (fwd F b n) n k j=pk at *
       have bV:=un hc0;have ab:=un (ac);have az:=un (ar);have aq:=un (aj);have R:=un (g);have HW:=un (Bel.mk d);have a0:=zab d k0;have aN:=zaa a0;have a1:=zab d k1;have aO:=zaa a1
       have a3:=zab d k2;have aP:=zaa a3;have a2:=Z;have aQ:=zaa a2;have a4:=y0;have aR:=zaa a4;have a6:=y1;have aS:=zaa a6;have a7:=N;have aT:=zaa a7;have a8:=z0;have aU:=zaa a8;have a9:=z1;have aV:=zaa a9
       have ba:=z2;have aW:=zaa ba;have bK:=o0;have bv:=zaa bK;have bN:=o1;have bw:=zaa bN;have bO:=o2;have bx:=zaa bO;have L1:=un (show 4*(mw (en F.up k c)+mw (el (zaR n F b) c))+8≤LIM by have:=ax.o;omega)
       have L2:=un (show 4*(mw pk+mw (en F.up k c*el (zaR n F b) c))+8≤LIM by have:=ax.o;have:=zdI (en F.up k c) (el (zaR n F b) c);omega);clear g d ae af V M L ac ar aj bc aG aH bq ad hc0 Z y0 y1 N z0 z1 z2;have cO:(0:Int)≤(c:Int):=Zf _;have cP:(c:Int)<(n:Int):=by omega
       go_wp2_with fail
       refine za2 (S:=fun w'=>w'.cell? ⟨q,0,none⟩=some (lA,n,lc)∧w'.cell? ⟨q,1,none⟩=some (O,n,uc)∧w'.cell? ⟨q,2,none⟩=some (pA,n,pc)∧w'.cell? ⟨O,k,none⟩=some (m,n,cr)∧w'.cell? ⟨m,c*3,none⟩=some (.bool z)∧w'.cell? ⟨m,c*3+1,none⟩=some (s,C,y)∧w'.cell? ⟨m,c*3+2,none⟩=some (t,B,x)∧w'.cell? ⟨w,c*3,none⟩=some (.bool U)∧w'.cell? ⟨w,c*3+1,none⟩=some (P,W,cc)∧w'.cell? ⟨w,c*3+2,none⟩=some (Q,Y,T)∧w'.cell? ⟨w,k*3,none⟩=some (.bool gk)∧w'.cell? ⟨w,k*3+1,none⟩=some (D,mk,I)∧w'.cell? ⟨w,k*3+2,none⟩=some (E,J,G)) 23 (h:=fun hHeld=>?_)
       refine zaw [0,1,2,3,4,5,6,7,8,9,10,11,12,13,14,15,16,17,18,19] ?_;repeat refine tkE (hS:=hHeld) (h:=?_)
       refine zao ?_;refine zaN 20 (h:=fun K l=>?_);go_simp
       (go_at_call 15;(with_reducible refine(Rt.mul z s C y t B x (en F.up k c) U P W cc Q Y T (el (zaR n F b) c) _ ab.o.drew az.o.drew L1.o).mono ?_);rintro e u1 ⟨g1,A1,m1,c1,D1,md1,cd1,rfl,r,a⟩;have bi:=un (ab.o.drew.below a);have bM:=un (az.o.drew.below a);have bh:=un (aq.o.drew.below a);have ag:=un (R.o.drew.below a);have a5:=un (HW.o.drew.below a);have HM:=un (r);have bd:=zab a aN;have be:=zab a aO;have bf:=zab a aP;have bg:=zab a aQ;have ak:=zab a aR;have cj:=zaa ak;have al:=zab a aS;have cm:=zaa al;have am:=zab a aT;have cn:=zaa am;have an:=zab a aU;have cp:=zaa an;have ao:=zab a aV;have cq:=zaa ao;have ap:=zab a aW;have cs:=zaa ap;have bF:=zab a bv;have bG:=zab a bw;have bH:=zab a bx;clear r a)
       (try go_wp2_with fail)
       refine shutOn l fun hHeld=>?_
       clear l K
       refine zaN 21 (h:=fun K l=>?_);go_simp
       (go_at_call 37;(with_reducible refine(Rt.sub gk D mk I E J G pk g1 A1 m1 c1 D1 md1 cd1 (en F.up k c*el (zaR n F b) c) _ bh.o HM.o L2.o).mono ?_);rintro e u2 ⟨g2,A2,m2,c2,D2,md2,cd2,rfl,r,a⟩;have dc:=un (bi.o.below a);have db:=un (bM.o.below a);have aa:=un (ag.o.below a);have bQ:=un (a5.o.below a);have cY:=un (HM.o.below a);have HS:=un (r);have c0:=zab a bd;have c3:=zab a be;have c4:=zab a bf;have c5:=zab a bg;have bI:=zab a ak;have cS:=zaa bI;have bJ:=zab a al;have cT:=zaa bJ;have bR:=zab a am;have cU:=zaa bR;have bz:=zab a an;have cV:=zaa bz;have bA:=zab a ao;have cW:=zaa bA;have bC:=zab a ap;have cX:=zaa bC;have c6:=zab a bF;have c7:=zab a bG;have c8:=zab a bH;have aL:=aa.o.fro (k*3);have of1:=aa.o.fro (k*3+1);have aM:=aa.o.fro (k*3+2);clear r a)
       (try go_wp2_with fail)
       refine shutOn l fun hHeld=>?_
       clear l K
       refine zaw [22] ?_;repeat refine tkE (hS:=hHeld) (h:=?_)
       refine zao ?_;refine zba (h:=fun K l=>?_);go_simp;refine shutOff l ?_;clear l K
       refine za1 (h:=?_);go_wp2;go_roundw
       case rel=>exact⟨j+1,by have:=bV.o;subst this;go_num,by have:=bV.o;omega,by rw[←bk.o];exact aa.o.store k HS.o,(Bel.set3 bQ.o (Za _) _ _ _).b⟩
       case measure=>simp[intOf];omega
      ·skip
       have b6:j=n-(k+1):=by omega
       have M:=zaH (xs:=rw_) (j:=k) (by omega);rw[←V]at M;obtain⟨z,s,C,y,t,B,x,y0,y1,N,ac⟩:=L.at_ M;have ad:bwP F (fwd F b n) n k j=el (fwd F b n) k-zai j (fun c=>en F.up k (k+1+c)*el (zaR n F b) (k+1+c)):=by unfold bwP;rw[zaj fun c hc=>by rw[←zlL F n (fwd F b n) (f:=n) (j:=k+1) (by omega) c]];rfl
       have cG:=un (show(bwI F (fwd F b n) n k j).set k (bwP F (fwd F b n) n k j/en F.up k k)=bwO F (fwd F b n) n k by rw[b6];exact zzn F (zcx F b n) o);have aG:mw (bwP F (fwd F b n) n k j)≤2*X:=by rw[ad];exact(bl.o k o).2 j (by omega)
       have aH:=bn.o.up k o k o;have cz:=un (HD.o k o);generalize bwP F (fwd F b n) n k j=pk at *
       have ab:=un (ac);have aq:=un (aj);have R:=un (g);have HW:=un (Bel.mk d);have a0:=zab d k0;have aN:=zaa a0;have a1:=zab d k1;have aO:=zaa a1;have a3:=zab d k2;have aP:=zaa a3;have a2:=Z
       have aQ:=zaa a2;have a4:=y0;have aR:=zaa a4;have a6:=y1;have aS:=zaa a6;have a7:=N;have aT:=zaa a7;have a8:=o0;have aU:=zaa a8;have a9:=o1;have aV:=zaa a9;have ba:=o2;have aW:=zaa ba
       have L1:=un (show 4*(mw pk+mw (en F.up k k))+8≤LIM by have:=ax.o;omega);clear g d ae af V M L ac aj aG aH ad b6 Z y0 y1 N;go_wp2_with fail
       refine wp_region_held_drew (S:=fun w'=>w'.cell? ⟨q,0,none⟩=some (lA,n,lc)∧w'.cell? ⟨q,1,none⟩=some (O,n,uc)∧w'.cell? ⟨q,2,none⟩=some (pA,n,pc)∧w'.cell? ⟨O,k,none⟩=some (m,n,cr)∧w'.cell? ⟨m,k*3,none⟩=some (.bool z)∧w'.cell? ⟨m,k*3+1,none⟩=some (s,C,y)∧w'.cell? ⟨m,k*3+2,none⟩=some (t,B,x)) (by kernel_rfl) kp fun hHeld=>?_
       refine zaw [0,1,2,3,4,6,7,8,9,10,11,12,13,14,15] ?_;repeat refine tkH (hS:=hHeld) (h:=?_)
       refine zao ?_;refine wpAnyH_ready (rs:=[5]) (by kernel_rfl) (by simp) ?_;refine AllReadyH.cons rfl (fun K l=>?_) AllReadyH.nil;go_simp
       skip
       (try go_wp2_with fail)
       refine l.o _ _ kp fun hHeld=>?_
       clear l K;try simp only[Act.put,pu1,pu2,pu3,pu4,pu5,pu6]
       refine wpAnyH_ready (rs:=[16]) (by kernel_rfl) (by simp) ?_;refine AllReadyH.cons rfl (fun K l=>?_) AllReadyH.nil;go_simp
       (go_at_call 146;(with_reducible refine(Rt.div gk D mk I E J G pk z s C y t B x (en F.up k k) _ aq.o.drew ab.o.drew cz.o L1.o).mono ?_);rintro e u1 ⟨g2,A2,m2,c2,D2,md2,cd2,rfl,r,a⟩;have bi:=un (ab.o.drew.below a);have bh:=un (aq.o.drew.below a);have ag:=un (R.o.drew.below a);have a5:=un (HW.o.drew.below a);have HS:=un (r);have bd:=zab a aN;have be:=zab a aO;have bf:=zab a aP;have bg:=zab a aQ;have ak:=zab a aR;have cj:=zaa ak;have al:=zab a aS;have cm:=zaa al;have am:=zab a aT;have cn:=zaa am;have an:=zab a aU;have cp:=zaa an;have ao:=zab a aV;have cq:=zaa ao;have ap:=zab a aW;have cs:=zaa ap;have aL:=ag.o.fro (k*3);have of1:=ag.o.fro (k*3+1);have aM:=ag.o.fro (k*3+2);clear r a)
       (try go_wp2_with fail)
       refine l.o _ _ kp fun hHeld=>?_
       clear l K;try simp only[Act.put,pu1,pu2,pu3,pu4,pu5,pu6]
       refine zaw [17,18,19,20] ?_;repeat refine tkH (hS:=hHeld) (h:=?_)
       refine zao ?_;refine wpAnyH_ready (rs:=[21]) (by kernel_rfl) (by simp) ?_;refine AllReadyH.cons rfl (fun K l=>?_) AllReadyH.nil;go_simp
       skip
       (try go_wp2_with fail)
       refine l.o _ _ kp fun hHeld=>?_
       clear l K;try simp only[Act.put,pu1,pu2,pu3,pu4,pu5,pu6]
       refine wpAnyH_done (by kernel_rfl) ?_ _;go_wp2;go_roundw
       case rel=>exact⟨k,by go_num,by omega,by rw[←cG.o];exact ag.o.store k HS.o,(Bel.set3 a5.o (Za _) _ _ _).b⟩
       case measure=>first | (simp[intOf];done) | (simp[intOf];omega)
