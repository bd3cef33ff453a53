/- Contracts and lemmas: Mat4 LuS LuT. Conditions: as each says. -/
import Derived.Test.YtbpjabgfcbjjmaaGreatMat3Ye
import Derived.Test.YtbpjabgfcbjjmaaGreatSiegYe
set_option linter.all false
set_option maxHeartbeats 8000000
set_option maxRecDepth 100000
namespace Go.Proofs.YtbpjabgfcbjjmaaGreat
open Go.RowKit Am Tryz
attribute [local go_sem ↓] Go.wp_at_zero Go.wp_at_succ
variable {A:List (List Rat)}{y:List Rat}{N k:Nat}
def zph (N:Nat) (A:List (List Rat)) (y:List Rat) (k:Nat):List Rat:=(List.range N).map λj=>zai k λi=>el y i*en A i j
theorem zhm(N:Nat)(A:List (List Rat))(y:List Rat)(k:Nat):(zph N A y k).length=N:=by simp[zph]
theorem zt5(N:Nat)(A:List (List Rat))(y:List Rat):zph N A y 0=List.replicate N 0:=by unfold zph;simp only[zai];apply Xc;intro i;simp[Z8];by_cases h:i<N<;>simp[h]
theorem zq8(N:Nat)(A:List (List Rat))(y:List Rat):zph N A y A.length=byL N A y:=rfl
theorem zq9{j:Nat}(h:j<N):(zph N A y k)[j]? = some (zai k λi=>el y i*en A i j):=by unfold zph;rw[Z2,XC h];rfl
theorem zt4{r:List Rat}{q:Rat}(hr:A[k]? = some r)(d:y[k]? = some q)(c:r.length=N):zly (zph N A y k) q r=zph N A y (k+1):=by
 apply Xc;intro j;by_cases h:j<N;obtain⟨b,a⟩:∃b,r[j]? = some b:=⟨r[j]' ω,Ze _⟩
 rw[zmR (zq9 h) a,zq9 h,zai,znd d];unfold en;rw[getD_some hr,znd a];grind[List.getElem?_eq_none,zdt,zhm]
theorem zu8{S T:Nat}(f:∀q∈y,mw q<=S)(d:∀r∈A,∀q∈r,mw q<=T)(h1:1<=S)(a:1<=T)(k:Nat):∀q∈zph N A y k,mw q<=k*(S+T+1)+1:=by
 intro q e;obtain⟨j,hj,rfl⟩:=ZH.1 e;have c:∀ {xs:List Rat} {S:Nat},(∀q∈xs,mw q<=S)->1<=S->∀i,mw (el xs i)<=S:=λ{xs S} h h1 i=>by by_cases hi:i<xs.length;exact h _ (Zz (zaH hi));grind[zDb,Nat.le_trans,mw0]
 induction k with
 | zero=>rw[zai];have:=mw0;omega
 | succ k b =>
  rw[zai];have g:=zrI (zai k λi=>el y i*en A i j) (el y k*en A k j);have l:=zdI (el y k) (en A k j);have m:=c f h1 k;have n:mw (en A k j)<=T:=by unfold en;grind
  have b:=b (ZH.2 ⟨j,hj,rfl⟩);rw[XD];omega
namespace Lu
theorem solve(H q n u X:Nat)(F:LUv)(A:OA)(cA:Nat)(b:List Rat)(H':Nat)(w:World)(hF:LuS w H q n F)(a:VecS w H' (A,n,cA) b)(r:n<=64)(hp:∀i,i<n->F.perm.getD i 0<n)(hz:LUsz mw n u F)(hd:∀i,i<n->en F.up i i≠0)(hx:SolLe mw n F b X)(hL:4*(4*X+u+1)+8<=LIM) :
  Calls prog 176 #[.pointer (some ⟨q,0,none⟩),(A,n,cA)] w (zcd w (zaR n F b) true):=by
 obtain⟨lA,lc,ll,uA,uc,ul,pA,pc,aF,b7,_,ce,_,_,cd⟩:=hF.ex;refine μ9 hF.sq r hp hd a.len hL hx.fw hx.sv hz λaB HN HP HD cw ax bW bl bn=>?_;have dh:n<=9223372036854775807:=ω;have k0:χ w q 0 (lA,n,lc):=zac aF 0;have k1:χ w q 1 (uA,n,uc):=zac aF 1;have k2:χ w q 2 (pA,n,pc):=zac aF 2;refine μ5 aF b7 ce cd a λKQ bb aC bX HB=>?_;clear hF b7 ce cd a r hp hz hd hx hL aF;go_enter func176,ntmps176;go_wp2_with (at_make;go_must (refine zdv rfl _ _ rfl n _ rfl rfl rfl (by have:=HN.o;omega) w.heap.size rfl ?_;intro w1 ho aE;have HO:=un ho;have cv:=un aE;have q0:=zab aE k0;have q1:=zab aE k1;have q2:=zab aE k2;clear ho aE))
 go_wp2
 go_loopw [24] (λi wr=>∃k:Nat,i=.int .i64 k/\k<=n/\VecS wr w (w.heap.size,n,n) (fwO F b n k)/\Below w w wr)
  (λi _=>n-(intOf i).toNat)
 case atStart=>exact⟨0,rfl,Zb _,by rw[zxc];exact HO.o,cv.o⟩
 obtain⟨k,rfl,hk,g,d⟩:=hrel;by_cases o:k<n
 ·have bt:F.perm[k]? = some (F.perm.getD k 0):=zaO (by rw[aB.o.pl];exact o);have cb:=HP.o k o;generalize ad:F.perm.getD k 0=p at bt cb;have b4:=zaH (xs:=b) (j:=p) (by rw[<-cw.o];exact cb);obtain⟨bP,rfl,_,_⟩:=bX.o.has ω;obtain⟨bB,rfl,_,_⟩:=HB.o.has ω;have p0:=(bX.o.below d).at_ bt;obtain⟨ga,Aa,ma,ca,Da,ch,b0,y0,y1,N,b3⟩:=(HB.o.below d).at_ b4;obtain⟨go,Ao,mo,co,Do,dj,df,o0,o1,o2,_⟩:=g.at_ (zAR F b o);have aL:=g.fro (k*3);have of1:=g.fro (k*3+1)
  have aM:=g.fro (k*3+2);refine μ5 (bb.o.below d) (aC.o.below d) (b3) (g) (Bel.mk d) λc9 da HQ R HW=>?_;have bD:=zab d k0;have cQ:=zaa bD;have bE:=zab d k1;have cR:=zaa bE;have cZ:=zab d k2;have dp:χ wr bP k (.int .i64 (p:Int)):=p0;have dq:χ wr bB (p*3) (.bool ga):=y0;have dr:χ wr bB (p*3+1) (Aa,ma,ca):=y1;have ds:χ wr bB (p*3+2) (Da,ch,b0):=N;have cF:=un (show(fwO F b n k).set k (el b p)=fwI F b n k 0 by rw[<-ad];exact zAS F b o);clear g d bt b4 b3 ad p0 y0 y1 N;have cK:(0:Int)<=(k:Int):=Zf _;have cL:(k:Int)<(n:Int):=ω;have cM:(0:Int)<=(p:Int):=Zf _;have cN:(p:Int)<(n:Int):=ω;go_wp2
  go_loopw [41] (λi wr=>∃c:Nat,i=.int .i64 c/\c<=k/\VecS wr w (w.heap.size,n,n) (fwI F b n k c)/\Below w w wr)
   (λi _=>k-(intOf i).toNat)
  case atStart=>exact⟨0,rfl,Zb _,by rw[<-cF.o];exact R.o.store k HQ.o,(Bel.set3 HW.o (Za _) _ _ _).b⟩
  rename World=>wz
  obtain⟨c,rfl,hc,g,d⟩:=hrel;by_cases au:c<k
  ·have ae:F.lo[k]? = some (F.lo.getD k []):=zaO (by rw[aB.o.ll];exact o);have af:=aB.o.lr k o;have V:en F.lo k c=el (F.lo.getD k []) c:=rfl;generalize F.lo.getD k []=rw_ at ae af V;have M:=zaH (xs:=rw_) (j:=c) ω;rw[<-V]at M;obtain⟨O,rfl,_,_⟩:=bb.o.has ω;obtain⟨Ar,cr,_,Z,L⟩:=(bb.o.below d).at_ ae;rw[af]at Z L;obtain⟨m,rfl,_,_⟩:=L.has ω;obtain⟨z,s,C,y,t,B,x,y0,y1,N,ac⟩:=L.at_ M;obtain⟨U,P,W,cc,Q,Y,T,z0,z1,z2,ar⟩:=g.at_ (zAO F b (n:=n) (c:=c) au)
   obtain⟨gk,D,mk,I,E,J,G,o0,o1,o2,aj⟩:=g.at_ (zAN F b n k c);have aL:=g.fro (k*3);have of1:=g.fro (k*3+1);have aM:=g.fro (k*3+2);refine μ5 (ac) (ar) (aj) (g) (Bel.mk d) λab az aq R HW=>?_;have a0:=zab d k0;have aN:=zaa a0;have a1:=zab d k1;have aO:=zaa a1;have a3:=zab d k2;have aP:=zaa a3;have a2:=Z;have aQ:=zaa a2;have a4:=y0;have aR:=zaa a4;have a6:=y1;have aS:=zaa a6;have a7:=N;have aT:=zaa a7;have a8:=z0;have aU:=zaa a8;have a9:=z1;have aV:=zaa a9;have ba:=z2;have aW:=zaa ba;have bK:=o0;have bv:=zaa bK;have bN:=o1;have bw:=zaa bN;have bO:=o2;have bx:=zaa bO;have bk:=un (zAP F b n k c);have bc:=(bW.o c ω).1;rw[zrx F b (i:=c) (j:=k) (k:=n) au ω]at bc;have aG:mw (fwP F b k c)<=2*X:=by unfold fwP;rw[zaj λi hi=>by rw[<-zrx F b (i:=i) (j:=k) (k:=n) ω ω]];exact(bW.o k o).2 c ω
   have aH:=bn.o.lo k o c ω;have L1:=un (show 4*(mw (en F.lo k c)+mw (el (fwd F b k) c))+8<=LIM by have:=ax.o;omega);have L2:=un (show 4*(mw (fwP F b k c)+mw (en F.lo k c*el (fwd F b k) c))+8<=LIM by have:=ax.o;have:=zdI (en F.lo k c) (el (fwd F b k) c);omega);clear g d ae af V M L ac ar aj bc aG aH Z y0 y1 N z0 z1 z2;have cO:(0:Int)<=(c:Int):=Zf _;have cP:(c:Int)<(n:Int):=ω;go_wp2_with fail
   refine za2 (S:=λw'=>χ w' q 0 (O,n,lc)/\χ w' q 1 (uA,n,uc)/\χ w' q 2 (bP,n,pc)/\χ w' O k (m,n,cr)/\χ w' m (c*3) (.bool z)/\χ w' m (c*3+1) (s,C,y)/\χ w' m (c*3+2) (t,B,x)/\χ w' w (c*3) (.bool U)/\χ w' w (c*3+1) (P,W,cc)/\χ w' w (c*3+2) (Q,Y,T)/\χ w' w (k*3) (.bool gk)/\χ w' w (k*3+1) (D,mk,I)/\χ w' w (k*3+2) (E,J,G)) 23 (h:=λhHeld=>?_);refine zaw [0,1,2,3,4,5,6,7,8,9,10,11,12,13,14,15,16,17,18,19] ?_;repeat refine tkE (hS:=hHeld) (h:=?_)
   refine zao ?_;refine zaN 20 (h:=λK l=>?_);go_simp;(go_at_call 29;(with_reducible refine(Rt.mul z s C y t B x (en F.lo k c) U P W cc Q Y T (el (fwd F b k) c) _ ab.o.drew az.o.drew L1.o).mono ?_);rintro e u1 ⟨g1,A1,m1,c1,D1,md1,cd1,rfl,r,a⟩;refine μ6 (ab.o.drew.below a) (az.o.drew.below a) (aq.o.drew.below a) (R.o.drew.below a) (HW.o.drew.below a) (r) λbi bM bh ag a5 HM=>?_;have bd:=zab a aN;have be:=zab a aO;have bf:=zab a aP;have bg:=zab a aQ;have ak:=zab a aR;have cj:=zaa ak;have al:=zab a aS;have cm:=zaa al;have am:=zab a aT;have cn:=zaa am;have an:=zab a aU;have cp:=zaa an;have ao:=zab a aV;have cq:=zaa ao;have ap:=zab a aW;have cs:=zaa ap;have bF:=zab a bv;have bG:=zab a bw;have bH:=zab a bx;clear r a);(try go_wp2_with fail);refine shutOn l λhHeld=>?_;clear l K;refine zaN 21 (h:=λK l=>?_);go_simp;(go_at_call 31;(with_reducible refine(Rt.sub gk D mk I E J G (fwP F b k c) g1 A1 m1 c1 D1 md1 cd1 (en F.lo k c*el (fwd F b k) c) _ bh.o HM.o L2.o).mono ?_);rintro e u2 ⟨g2,A2,m2,c2,D2,md2,cd2,rfl,r,a⟩;refine μ6 (bi.o.below a) (bM.o.below a) (ag.o.below a) (a5.o.below a) (HM.o.below a) (r) λdc db aa bQ cY HS=>?_;have c0:=zab a bd;have c3:=zab a be;have c4:=zab a bf;have c5:=zab a bg;have bI:=zab a ak;have cS:=zaa bI;have bJ:=zab a al;have cT:=zaa bJ;have bR:=zab a am;have cU:=zaa bR;have bz:=zab a an;have cV:=zaa bz;have bA:=zab a ao;have cW:=zaa bA;have bC:=zab a ap;have cX:=zaa bC;have c6:=zab a bF;have c7:=zab a bG;have c8:=zab a bH;have aL:=aa.o.fro (k*3);have of1:=aa.o.fro (k*3+1);have aM:=aa.o.fro (k*3+2);clear r a);(try go_wp2_with fail);refine shutOn l λhHeld=>?_;clear l K;refine zaw [22] ?_;repeat refine tkE (hS:=hHeld) (h:=?_)
   refine zao ?_;refine zba (h:=λK l=>?_);go_simp;refine shutOff l ?_;clear l K;refine za1 (h:=?_);go_wp2;go_roundw
   case rel=>exact⟨c+1,by go_num,ω,by rw[<-bk.o];exact aa.o.store k HS.o,(Bel.set3 bQ.o (Za _) _ _ _).b⟩
   case measure=>simp[intOf];omega
  obtain rfl:k=c:=ω;have bm:=un g;have bj:=un d;clear g d;go_wp2;go_roundw
  case rel=>exact⟨k+1,by go_num,ω,by rw[<-zxb];exact bm.o,bj.o⟩
  case measure=>simp[intOf];omega
 obtain rfl:n=k:=ω;have bm:=un g;have bj:=un d;clear g d;go_wp2
 go_loopw [10] (λi wr=>∃k:Nat,i=.int .i64 ((k:Int)-1)/\k<=n/\VecS wr w (w.heap.size,n,n) (bwO F (fwd F b n) n k)/\Below w w wr)
  (λi _=>(intOf i+1).toNat)
 case atStart=>exact⟨n,rfl,Za _,by rw[zzq F (zcx _ _ _),<-zAQ];exact bm.o,bj.o⟩
 rename World=>wy
 obtain⟨k,rfl,hk,g,d⟩:=hrel;cases k with
 | zero =>
  have cH:=un g;have cx:=un d;clear g d;rw[show((0:Nat):Int)-1 = -1 from rfl];go_wp2;refine Zh (v:=.tuple #[(w.heap.size,n,n),true]) (by simp[results,results176,go_sem]) rfl ?_;exact⟨_,_,_,rfl,by have h:=cH.o;rw[zwq]at h;exact h,cx.o⟩
 | succ k =>
  have o:k<n:=ω;rw[show((k+1:Nat):Int)-1=(k:Int)by omega];have R:=un g;have cI:=un d;clear g;have c9:=un (bb.o.below d);have da:=un (aC.o.below d);have bD:=zab d k0;have cQ:=zaa bD;have bE:=zab d k1;have cR:=zaa bE;have cZ:=zab d k2;clear d;have cK:(0:Int)<=(k:Int):=Zf _;have cL:(k:Int)<(n:Int):=ω;go_wp2
  go_loopw [11] (λi wr=>∃j:Nat,i=((k+1+j:Nat):Int)/\k+1+j<=n/\VecS wr w (w.heap.size,n,n) (bwI F (fwd F b n) n k j)/\Below w w wr)
   (λi _=>n-(intOf i).toNat)
  case atStart=>exact⟨0,by go_num,ω,by rw[zwp F (zcx _ _ _) o];exact R.o,cI.o⟩
  rename World=>wz
  obtain⟨j,rfl,hj,g,d⟩:=hrel;have ae:F.up[k]? = some (F.up.getD k []):=zaO (by rw[aB.o.ul];exact o);have af:=aB.o.ur k o;have V:∀c,en F.up k c=el (F.up.getD k []) c:=λ_=>rfl
  generalize F.up.getD k []=rw_ at ae af V;obtain⟨O,rfl,_,_⟩:=aC.o.has ω;obtain⟨Ar,cr,bs,Z,L⟩:=(aC.o.below d).at_ ae;rw[af]at Z L bs;obtain⟨m,rfl,_,_⟩:=L.has ω;have dg:=(aC.o.lt (Zz bs) rfl).2;have di:=(ZS.1 KQ.o).1;clear bs;obtain⟨gk,D,mk,I,E,J,G,o0,o1,o2,aj⟩:=g.at_ (zzo F j (zcx F b n) o);have aL:=g.fro (k*3);have of1:=g.fro (k*3+1);have aM:=g.fro (k*3+2);have cM:(0:Int)<=(k:Int):=Zf _;have cN:(k:Int)<(n:Int):=ω;by_cases au:k+1+j<n
  ·have M:=zaH (xs:=rw_) (j:=k+1+j) ω;rw[<-V]at M;obtain⟨z,s,C,y,t,B,x,y0,y1,N,ac⟩:=L.at_ M;obtain⟨U,P,W,cc,Q,Y,T,z0,z1,z2,ar⟩:=g.at_ (zwo F j (zcx F b n) au);have bq:el (bwd F n (fwd F b n) (n-(k+1))) j=el (zaR n F b) (k+1+j):=(zlL F n (fwd F b n) (f:=n) (j:=k+1) ω j).symm;rw[bq]at ar
   have ad:bwP F (fwd F b n) n k j=el (fwd F b n) k-zai j (λc=>en F.up k (k+1+c)*el (zaR n F b) (k+1+c)):=by unfold bwP;rw[zaj λc hc=>by rw[<-zlL F n (fwd F b n) (f:=n) (j:=k+1) ω c]];rfl
   have bk:=un (show(bwI F (fwd F b n) n k j).set k (bwP F (fwd F b n) n k j-en F.up k (k+1+j)*el (zaR n F b) (k+1+j))=bwI F (fwd F b n) n k (j+1)by rw[<-bq];exact zzp F j (zcx F b n) o);have bc:=(bl.o (k+1+j) au).1;have aG:mw (bwP F (fwd F b n) n k j)<=2*X:=by rw[ad];exact(bl.o k o).2 j ω
   have aH:=bn.o.up k o (k+1+j) au;generalize hc0:k+1+j=c at *
   generalize bwP F (fwd F b n) n k j=pk at *
   refine μ6 hc0 (ac) (ar) (aj) (g) (Bel.mk d) λbV ab az aq R HW=>?_;have a0:=zab d k0;have aN:=zaa a0;have a1:=zab d k1;have aO:=zaa a1;have a3:=zab d k2;have aP:=zaa a3;have a2:=Z;have aQ:=zaa a2;have a4:=y0;have aR:=zaa a4;have a6:=y1;have aS:=zaa a6;have a7:=N;have aT:=zaa a7;have a8:=z0;have aU:=zaa a8;have a9:=z1;have aV:=zaa a9;have ba:=z2;have aW:=zaa ba;have bK:=o0;have bv:=zaa bK;have bN:=o1;have bw:=zaa bN;have bO:=o2;have bx:=zaa bO;have L1:=un (show 4*(mw (en F.up k c)+mw (el (zaR n F b) c))+8<=LIM by have:=ax.o;omega);have L2:=un (show 4*(mw pk+mw (en F.up k c*el (zaR n F b) c))+8<=LIM by have:=ax.o;have:=zdI (en F.up k c) (el (zaR n F b) c);omega);clear g d ae af V M L ac ar aj bc aG aH bq ad hc0 Z y0 y1 N z0 z1 z2;have cO:(0:Int)<=(c:Int):=Zf _;have cP:(c:Int)<(n:Int):=ω;go_wp2_with fail
   refine za2 (S:=λw'=>χ w' q 0 (lA,n,lc)/\χ w' q 1 (O,n,uc)/\χ w' q 2 (pA,n,pc)/\χ w' O k (m,n,cr)/\χ w' m (c*3) (.bool z)/\χ w' m (c*3+1) (s,C,y)/\χ w' m (c*3+2) (t,B,x)/\χ w' w (c*3) (.bool U)/\χ w' w (c*3+1) (P,W,cc)/\χ w' w (c*3+2) (Q,Y,T)/\χ w' w (k*3) (.bool gk)/\χ w' w (k*3+1) (D,mk,I)/\χ w' w (k*3+2) (E,J,G)) 23 (h:=λhHeld=>?_);refine zaw [0,1,2,3,4,5,6,7,8,9,10,11,12,13,14,15,16,17,18,19] ?_;repeat refine tkE (hS:=hHeld) (h:=?_)
   refine zao ?_;refine zaN 20 (h:=λK l=>?_);go_simp;(go_at_call 29;(with_reducible refine(Rt.mul z s C y t B x (en F.up k c) U P W cc Q Y T (el (zaR n F b) c) _ ab.o.drew az.o.drew L1.o).mono ?_);rintro e u1 ⟨g1,A1,m1,c1,D1,md1,cd1,rfl,r,a⟩;refine μ6 (ab.o.drew.below a) (az.o.drew.below a) (aq.o.drew.below a) (R.o.drew.below a) (HW.o.drew.below a) (r) λbi bM bh ag a5 HM=>?_;have bd:=zab a aN;have be:=zab a aO;have bf:=zab a aP;have bg:=zab a aQ;have ak:=zab a aR;have cj:=zaa ak;have al:=zab a aS;have cm:=zaa al;have am:=zab a aT;have cn:=zaa am;have an:=zab a aU;have cp:=zaa an;have ao:=zab a aV;have cq:=zaa ao;have ap:=zab a aW;have cs:=zaa ap;have bF:=zab a bv;have bG:=zab a bw;have bH:=zab a bx;clear r a);(try go_wp2_with fail);refine shutOn l λhHeld=>?_;clear l K;refine zaN 21 (h:=λK l=>?_);go_simp;(go_at_call 31;(with_reducible refine(Rt.sub gk D mk I E J G pk g1 A1 m1 c1 D1 md1 cd1 (en F.up k c*el (zaR n F b) c) _ bh.o HM.o L2.o).mono ?_);rintro e u2 ⟨g2,A2,m2,c2,D2,md2,cd2,rfl,r,a⟩;refine μ6 (bi.o.below a) (bM.o.below a) (ag.o.below a) (a5.o.below a) (HM.o.below a) (r) λdc db aa bQ cY HS=>?_;have c0:=zab a bd;have c3:=zab a be;have c4:=zab a bf;have c5:=zab a bg;have bI:=zab a ak;have cS:=zaa bI;have bJ:=zab a al;have cT:=zaa bJ;have bR:=zab a am;have cU:=zaa bR;have bz:=zab a an;have cV:=zaa bz;have bA:=zab a ao;have cW:=zaa bA;have bC:=zab a ap;have cX:=zaa bC;have c6:=zab a bF;have c7:=zab a bG;have c8:=zab a bH;have aL:=aa.o.fro (k*3);have of1:=aa.o.fro (k*3+1);have aM:=aa.o.fro (k*3+2);clear r a);(try go_wp2_with fail);refine shutOn l λhHeld=>?_;clear l K;refine zaw [22] ?_;repeat refine tkE (hS:=hHeld) (h:=?_)
   refine zao ?_;refine zba (h:=λK l=>?_);go_simp;refine shutOff l ?_;clear l K;refine za1 (h:=?_);go_wp2;go_roundw
   case rel=>exact⟨j+1,by have:=bV.o;subst this;go_num,by have:=bV.o;omega,by rw[<-bk.o];exact aa.o.store k HS.o,(Bel.set3 bQ.o (Za _) _ _ _).b⟩
   case measure=>simp[intOf];omega
  skip
  have b6:j=n-(k+1):=ω;have M:=zaH (xs:=rw_) (j:=k) ω;rw[<-V]at M;obtain⟨z,s,C,y,t,B,x,y0,y1,N,ac⟩:=L.at_ M;have ad:bwP F (fwd F b n) n k j=el (fwd F b n) k-zai j (λc=>en F.up k (k+1+c)*el (zaR n F b) (k+1+c)):=by unfold bwP;rw[zaj λc hc=>by rw[<-zlL F n (fwd F b n) (f:=n) (j:=k+1) ω c]];rfl
  have cG:=un (show(bwI F (fwd F b n) n k j).set k (bwP F (fwd F b n) n k j/en F.up k k)=bwO F (fwd F b n) n k by rw[b6];exact zzn F (zcx F b n) o);have aG:mw (bwP F (fwd F b n) n k j)<=2*X:=by rw[ad];exact(bl.o k o).2 j ω
  have aH:=bn.o.up k o k o;have cz:=un (HD.o k o);generalize bwP F (fwd F b n) n k j=pk at *
  refine μ4 (ac) (aj) (g) (Bel.mk d) λab aq R HW=>?_;have a0:=zab d k0;have aN:=zaa a0;have a1:=zab d k1;have aO:=zaa a1;have a3:=zab d k2;have aP:=zaa a3;have a2:=Z;have aQ:=zaa a2;have a4:=y0;have aR:=zaa a4;have a6:=y1;have aS:=zaa a6;have a7:=N;have aT:=zaa a7;have a8:=o0;have aU:=zaa a8;have a9:=o1;have aV:=zaa a9;have ba:=o2;have aW:=zaa ba;have L1:=un (show 4*(mw pk+mw (en F.up k k))+8<=LIM by have:=ax.o;omega);clear g d ae af V M L ac aj aG aH ad b6 Z y0 y1 N;go_wp2_with fail
  refine wp_region_held_drew (S:=λw'=>χ w' q 0 (lA,n,lc)/\χ w' q 1 (O,n,uc)/\χ w' q 2 (pA,n,pc)/\χ w' O k (m,n,cr)/\χ w' m (k*3) (.bool z)/\χ w' m (k*3+1) (s,C,y)/\χ w' m (k*3+2) (t,B,x)) ξ kp λhHeld=>?_;refine zaw [0,1,2,3,4,6,7,8,9,10,11,12,13,14,15] ?_;repeat refine tkH (hS:=hHeld) (h:=?_)
  refine zao ?_;refine wpAnyH_ready (rs:=[5]) ξ σ ?_;refine AllReadyH.cons rfl (λK l=>?_) AllReadyH.nil;go_simp
  skip
  (try go_wp2_with fail);refine l.o _ _ kp λhHeld=>?_;clear l K;try simp only[Act.put,pu1,pu2,pu3,pu4,pu5,pu6]
  refine wpAnyH_ready (rs:=[16]) ξ σ ?_;refine AllReadyH.cons rfl (λK l=>?_) AllReadyH.nil;go_simp;(go_at_call 159;(with_reducible refine(Rt.div gk D mk I E J G pk z s C y t B x (en F.up k k) _ aq.o.drew ab.o.drew cz.o L1.o).mono ?_);rintro e u1 ⟨g2,A2,m2,c2,D2,md2,cd2,rfl,r,a⟩;refine μ5 (ab.o.drew.below a) (aq.o.drew.below a) (R.o.drew.below a) (HW.o.drew.below a) (r) λbi bh ag a5 HS=>?_;have bd:=zab a aN;have be:=zab a aO;have bf:=zab a aP;have bg:=zab a aQ;have ak:=zab a aR;have cj:=zaa ak;have al:=zab a aS;have cm:=zaa al;have am:=zab a aT;have cn:=zaa am;have an:=zab a aU;have cp:=zaa an;have ao:=zab a aV;have cq:=zaa ao;have ap:=zab a aW;have cs:=zaa ap;have aL:=ag.o.fro (k*3);have of1:=ag.o.fro (k*3+1);have aM:=ag.o.fro (k*3+2);clear r a);(try go_wp2_with fail);refine l.o _ _ kp λhHeld=>?_;clear l K;try simp only[Act.put,pu1,pu2,pu3,pu4,pu5,pu6]
  refine zaw [17,18,19,20] ?_;repeat refine tkH (hS:=hHeld) (h:=?_)
  refine zao ?_;refine wpAnyH_ready (rs:=[21]) ξ σ ?_;refine AllReadyH.cons rfl (λK l=>?_) AllReadyH.nil;go_simp
  skip
  (try go_wp2_with fail);refine l.o _ _ kp λhHeld=>?_;clear l K;try simp only[Act.put,pu1,pu2,pu3,pu4,pu5,pu6]
  refine wpAnyH_done ξ ?_ _;go_wp2;go_roundw
  case rel=>exact⟨k,by go_num,ω,by rw[<-cG.o];exact ag.o.store k HS.o,(Bel.set3 a5.o (Za _) _ _ _).b⟩
  case measure=>first | (simp[intOf];done) | (simp[intOf];omega)
end Lu
end Go.Proofs.YtbpjabgfcbjjmaaGreat
namespace Go.Proofs.YtbpjabgfcbjjmaaGreat
open Go.RowKit Am Tryz
attribute [local go_sem ↓] Go.wp_at_zero Go.wp_at_succ
namespace Lu
theorem solveT(H q n u X:Nat)(F:LUv)(A:OA)(cA:Nat)(b:List Rat)(H':Nat)(w:World)(hF:LuS w H q n F)(a:VecS w H' (A,n,cA) b)(r:n<=64)(hp:∀i,i<n->F.perm.getD i 0<n)(hz:LUsz mw n u F)(hd:∀i,i<n->en F.up i i≠0)(hx:SolTLe mw n F b X)(hL:4*(4*X+u+1)+8<=LIM) :
  Calls prog 161 #[.pointer (some ⟨q,0,none⟩),(A,n,cA)] w (zcd w (zcq n F b) true):=by
 obtain⟨lA,lc,ll,uA,uc,ul,pA,pc,aK,cn,_,cu,_,_,ct⟩:=hF.ex;refine μ9 hF.sq r hp hd a.len hL hx.fw hx.sv hz λaH HN HP HD b7 aC b9 cd cf=>?_;have dA:n<=9223372036854775807:=ω;have k0:χ w q 0 (lA,n,lc):=zac aK 0;have k1:χ w q 1 (uA,n,uc):=zac aK 1;have k2:χ w q 2 (pA,n,pc):=zac aK 2;refine μ5 aK cn cu ct a λKQ aD aw bu HB=>?_;clear hF cn cu ct a r hp hz hd hx hL aK;go_enter func161,ntmps161;go_wp2_with fail
 refine(Vc.copy A n cA b H' _ HB.o (by have:=HN.o;omega)).mono ?_;rintro e w1 ⟨Az,cz,rfl,g,hb1⟩;have HO:=un g;have cM:=un hb1;have q0:=zab hb1 k0;have q1:=zab hb1 k1;have q2:=zab hb1 k2;clear g hb1;go_wp2;have BB:=un (Zj w.heap.size w);have dB:=(ZS.1 KQ.o).1
 go_loopw [26] (λi wr=>∃k:Nat,i=.int .i64 k/\k<=n/\VecS wr w (Az,n,cz) (ftO F b k)/\Below w w wr)
  (λi _=>n-(intOf i).toNat)
 case atStart=>exact⟨0,rfl,Zb _,by rw[zxa];exact HO.o,cM.o⟩
 obtain⟨k,rfl,hk,g,d⟩:=hrel;by_cases L:k<n
 ·obtain⟨l,rfl,aL,_⟩:=g.has ω;have R:=un g;have bw:=un d;have be:k<b.length:=by rw[<-b7.o];exact L
  have c6:=un (zw9 F be);clear g be;refine μ4 (aD.o.below d) (aw.o.below d) (bu.o.below d) (BB.o.trans ((d).mono BB.o.size)) λcI cJ bq a2=>?_;have aA:=zab d k0;have cB:=zaa aA;have aB:=zab d k1;have cC:=zaa aB;have an:=zab d k2;have cD:=zaa an;clear d;have cj:(0:Int)<=(k:Int):=Zf _;have cm:(k:Int)<(n:Int):=ω;go_wp2
  go_loopw [30] (λi wr=>∃j:Nat,i=.int .i64 j/\j<=k/\VecS wr w (l,n,cz) (ftI F b k j)/\Below w w wr)
   (λi _=>k-(intOf i).toNat)
  case atStart=>exact⟨0,rfl,Zb _,by rw[c6.o];exact R.o,bw.o⟩
  rename World=>wz
  obtain⟨j,rfl,hj,g,d⟩:=hrel;have ak:j<n:=ω;have ae:F.up[j]? = some (F.up.getD j []):=zaO (by rw[aH.o.ul];exact ak);have af:=aH.o.ur j ak;have ad:en F.up j k=el (F.up.getD j []) k:=rfl;generalize F.up.getD j []=rw_ at ae af ad;have ac:=zaH (xs:=rw_) (j:=k) ω;rw[<-ad]at ac;obtain⟨M,rfl,_,_⟩:=aw.o.has ω;obtain⟨Ar,cr,bI,Y,N⟩:=(aw.o.below d).at_ ae;rw[af]at Y N bI;obtain⟨o,rfl,_,_⟩:=N.has ω;have dy:=(aw.o.lt (Zz bI) rfl).2;clear bI;obtain⟨z,s,C,y,t,B,x,y0,y1,O,aj⟩:=N.at_ ac;obtain⟨gk,D,mk,I,E,J,G,o0,o1,o2,ai⟩:=g.at_ (zAJ F b k j);have az:=g.fro (k*3);have of1:=g.fro (k*3+1);have aO:=g.fro (k*3+2);have bg:mw (ftP F b k j)<=2*X:=by unfold ftP;rw[zaj λi hi=>by rw[<-znE F b (i:=i) (j:=k) (k:=n) ω ω]];exact(b9.o k L).2 j hj
  have bh:=cf.o.up j ak k L;have bG:(0:Int)<=(k:Int):=Zf _;have bH:(k:Int)<(n:Int):=ω;have c8:(0:Int)<=(j:Int):=Zf _;have c9:(j:Int)<(n:Int):=ω;by_cases ab:j<k
  ·obtain⟨U,P,V,cc,Q,W,T,z0,z1,z2,ax⟩:=g.at_ (zAK F b (j:=j) ab);refine μ5 (aj) (ai) (g) (Bel.mk d) (ax) λaa av R HW aF=>?_;have a3:=zab d k0;have aP:=zaa a3
   have a4:=zab d k1;have aQ:=zaa a4;have a6:=zab d k2;have aR:=zaa a6;have a5:=Y;have aS:=zaa a5;have a7:=y0;have aT:=zaa a7;have a9:=y1;have aU:=zaa a9;have ba:=O;have aV:=zaa ba;have bb:=z0;have aW:=zaa bb;have bc:=z1;have aX:=zaa bc;have bd:=z2;have aY:=zaa bd;have b1:=o0;have bR:=zaa b1;have b3:=o1;have bS:=zaa b3;have b4:=o2;have bT:=zaa b4;have bv:=un (zAL F b k j);have bf:=(b9.o j ak).1;rw[znE F b (i:=j) (j:=k) (k:=n) ab ω]at bf;have L1:=un (show 4*(mw (en F.up j k)+mw (el (zbX F b k) j))+8<=LIM by have:=aC.o;omega);have L2:=un (show 4*(mw (ftP F b k j)+mw (en F.up j k*el (zbX F b k) j))+8<=LIM by have:=aC.o;have:=zdI (en F.up j k) (el (zbX F b k) j);omega);clear g d ae af ad ac N aj ax ai bf bg bh Y y0 y1 O z0 z1 z2;go_wp2_with fail
   refine za2 (S:=λw'=>χ w' q 0 (lA,n,lc)/\χ w' q 1 (M,n,uc)/\χ w' q 2 (pA,n,pc)/\χ w' M j (o,n,cr)/\χ w' o (k*3) (.bool z)/\χ w' o (k*3+1) (s,C,y)/\χ w' o (k*3+2) (t,B,x)/\χ w' l (j*3) (.bool U)/\χ w' l (j*3+1) (P,V,cc)/\χ w' l (j*3+2) (Q,W,T)/\χ w' l (k*3) (.bool gk)/\χ w' l (k*3+1) (D,mk,I)/\χ w' l (k*3+2) (E,J,G)) 23 (h:=λhHeld=>?_);refine zaw [0,1,2,3,4,5,6,7,8,9,10,11,12,13,14,15,16,17,18,19] ?_;repeat refine tkE (hS:=hHeld) (h:=?_)
   refine zao ?_;refine zaN 20 (h:=λK m=>?_);go_simp;(go_at_call 29;(with_reducible refine(Rt.mul z s C y t B x (en F.up j k) U P V cc Q W T (el (zbX F b k) j) _ aa.o.drew aF.o.drew L1.o).mono ?_);rintro e u1 ⟨g1,A1,m1,c1,D1,md1,cd1,rfl,r,a⟩;refine μ6 (aa.o.drew.below a) (av.o.drew.below a) (R.o.drew.below a) (HW.o.drew.below a) (aF.o.drew.below a) (r) λbo bm ag a8 b2 HM=>?_;have bi:=zab a aP;have bj:=zab a aQ;have bk:=zab a aR;have ao:=zab a aS;have cE:=zaa ao;have bl:=zab a aT;have bn:=zab a aU;have bp:=zab a aV;have ap:=zab a aW;have cF:=zaa ap;have aq:=zab a aX;have cG:=zaa aq;have ar:=zab a aY;have cH:=zaa ar;have bX:=zab a bR;have bY:=zab a bS;have bZ:=zab a bT;clear r a);(try go_wp2_with fail);refine shutOn m λhHeld=>?_;clear m K;refine zaN 21 (h:=λK m=>?_);go_simp;(go_at_call 31;(with_reducible refine(Rt.sub gk D mk I E J G (ftP F b k j) g1 A1 m1 c1 D1 md1 cd1 (en F.up j k*el (zbX F b k) j) _ bm.o HM.o L2.o).mono ?_);rintro e u2 ⟨g2,A2,m2,c2,D2,md2,cd2,rfl,r,a⟩;refine μ6 (bo.o.below a) (ag.o.below a) (a8.o.below a) (b2.o.below a) (HM.o.below a) (r) λds Z b5 dr dg HS=>?_;have dh:=zab a bi;have di:=zab a bj;have dj:=zab a bk;have b0:=zab a ao;have dc:=zaa b0;have dk:=zab a bl;have dl:=zab a bn;have dq:=zab a bp;have bU:=zab a ap;have dd:=zaa bU;have bV:=zab a aq;have de:=zaa bV;have bW:=zab a ar;have df:=zaa bW;have dm:=zab a bX;have dn:=zab a bY;have dp:=zab a bZ;have az:=Z.o.fro (k*3);have of1:=Z.o.fro (k*3+1);have aO:=Z.o.fro (k*3+2);clear r a);(try go_wp2_with fail);refine shutOn m λhHeld=>?_;clear m K;refine zaw [22] ?_;repeat refine tkE (hS:=hHeld) (h:=?_)
   refine zao ?_;refine zba (h:=λK m=>?_);go_simp;refine shutOff m ?_;clear m K;refine za1 (h:=?_);go_wp2;go_roundw
   case rel=>exact⟨j+1,by go_num,ω,by rw[<-bv.o];exact Z.o.store k HS.o,(Bel.set3 b5.o aL _ _ _).b⟩
   case measure=>simp[intOf];omega
  obtain rfl:k=j:=ω;refine μ4 (aj) (ai) (g) (Bel.mk d) λaa av R HW=>?_;have a3:=zab d k0;have aP:=zaa a3;have a4:=zab d k1;have aQ:=zaa a4;have a6:=zab d k2;have aR:=zaa a6;have a5:=Y;have aS:=zaa a5;have a7:=y0;have aT:=zaa a7;have a9:=y1;have aU:=zaa a9;have ba:=O;have aV:=zaa ba;have bb:=o0;have aW:=zaa bb;have bc:=o1;have aX:=zaa bc;have bd:=o2;have aY:=zaa bd;refine μ3 (zAI F b k) (HD.o k L) (show 4*(mw (ftP F b k k)+mw (en F.up k k))+8<=LIM by have:=aC.o;omega) λcX cS L1=>?_;clear g d ae af ad ac N aj ai bg bh Y y0 y1 O;go_wp2_with fail
  refine wp_region_held_drew (S:=λw'=>χ w' q 0 (lA,n,lc)/\χ w' q 1 (M,n,uc)/\χ w' q 2 (pA,n,pc)/\χ w' M k (o,n,cr)/\χ w' o (k*3) (.bool z)/\χ w' o (k*3+1) (s,C,y)/\χ w' o (k*3+2) (t,B,x)) ξ kp λhHeld=>?_;refine zaw [0,1,2,3,4,6,7,8,9,10,11,12,13,14,15] ?_;repeat refine tkH (hS:=hHeld) (h:=?_)
  refine zao ?_;refine wpAnyH_ready (rs:=[5]) ξ σ ?_;refine AllReadyH.cons rfl (λK m=>?_) AllReadyH.nil;go_simp
  skip
  (try go_wp2_with fail);refine m.o _ _ kp λhHeld=>?_;clear m K;try simp only[Act.put,pu1,pu2,pu3,pu4,pu5,pu6]
  refine wpAnyH_ready (rs:=[16]) ξ σ ?_;refine AllReadyH.cons rfl (λK m=>?_) AllReadyH.nil;go_simp;(go_at_call 159;(with_reducible refine(Rt.div gk D mk I E J G (ftP F b k k) z s C y t B x (en F.up k k) _ av.o.drew aa.o.drew cS.o L1.o).mono ?_);rintro e u1 ⟨g2,A2,m2,c2,D2,md2,cd2,rfl,r,a⟩;refine μ5 (aa.o.drew.below a) (av.o.drew.below a) (R.o.drew.below a) (HW.o.drew.below a) (r) λbo bm ag a8 HS=>?_;have bi:=zab a aP;have bj:=zab a aQ;have bk:=zab a aR;have ao:=zab a aS;have cE:=zaa ao;have bl:=zab a aT;have bn:=zab a aU;have bp:=zab a aV;have ap:=zab a aW;have cF:=zaa ap;have aq:=zab a aX;have cG:=zaa aq;have ar:=zab a aY;have cH:=zaa ar;have az:=ag.o.fro (k*3);have of1:=ag.o.fro (k*3+1);have aO:=ag.o.fro (k*3+2);clear r a);(try go_wp2_with fail);refine m.o _ _ kp λhHeld=>?_;clear m K;try simp only[Act.put,pu1,pu2,pu3,pu4,pu5,pu6]
  refine zaw [17,18,19,20] ?_;repeat refine tkH (hS:=hHeld) (h:=?_)
  refine zao ?_;refine wpAnyH_ready (rs:=[21]) ξ σ ?_;refine AllReadyH.cons rfl (λK m=>?_) AllReadyH.nil;go_simp
  skip
  (try go_wp2_with fail);refine m.o _ _ kp λhHeld=>?_;clear m K;try simp only[Act.put,pu1,pu2,pu3,pu4,pu5,pu6]
  refine wpAnyH_done ξ ?_ _;go_wp2;go_roundw
  case rel=>exact⟨k+1,by go_num,ω,by rw[<-cX.o];exact ag.o.store k HS.o,(Bel.set3 a8.o aL _ _ _).b⟩
  case measure=>simp[intOf];omega
 obtain rfl:n=k:=ω;have c3:=un (show VecS _ w (Az,n,cz) (zbX F b n)by rw[<-zAM F b7.o.symm];exact g);have cQ:=un d;clear g d;go_wp2
 go_loopw [10] (λi wr=>∃k:Nat,i=.int .i64 ((k:Int)-1)/\k<=n/\VecS wr w (Az,n,cz) (btO F (zbX F b n) n k)/\Below w w wr)
  (λi _=>(intOf i+1).toNat)
 case atStart=>exact⟨n,rfl,Za _,by rw[zzm F (zbT _ _ _)];exact c3.o,cQ.o⟩
 rename World=>wy
 obtain⟨k,rfl,hk,g,d⟩:=hrel;cases k with
 | zero =>
  rw[zwn]at g;refine μ5 (aD.o.below d) (aw.o.below d) (bu.o.below d) (show VecS wy w (Az,n,cz) (luW n F b)from g) (BB.o.trans ((d).mono BB.o.size)) λcI cJ bq ce a2=>?_;have aA:=zab d k0;have cB:=zaa aA;have aB:=zab d k1;have cC:=zaa aB;have an:=zab d k2;have cD:=zaa an;clear g d;rw[show((0:Nat):Int)-1 = -1 from rfl];go_wp2_with (at_make;go_must (refine zdv rfl _ _ rfl n _ rfl rfl rfl (by have:=HN.o;omega) wy.heap.size rfl ?_;intro wq ho bE;have cU:=un ho;have cN:=un bE;have q3:=zab bE an;clear ho bE))
  go_loopw [118] (λi wr=>∃k:Nat,i=.int .i64 k/\k<=n/\VecS wr wy (wy.heap.size,n,n) (back F.perm (luW n F b) k (List.replicate n 0))/\Below wy wy wr)
   (λi _=>n-(intOf i).toNat)
  case atStart=>exact⟨0,rfl,Zb _,cU.o,cN.o⟩
  rename World=>wz
  obtain⟨k,rfl,dz,g,d⟩:=hrel;by_cases bJ:k<n
  ·have bK:F.perm[k]? = some (F.perm.getD k 0):=zaO (by rw[aH.o.pl];exact bJ);have da:=HP.o k bJ;have bM:(back F.perm (luW n F b) k (List.replicate n 0)).set (F.perm.getD k 0) (el (luW n F b) k)=back F.perm (luW n F b) (k+1) (List.replicate n 0):=rfl;generalize F.perm.getD k 0=p at bK da bM;have cY:=un bM;have be:(back F.perm (luW n F b) k (List.replicate n 0)).length=n:=by rw[zjk];simp
   have cv:=zaH (xs:=back F.perm (luW n F b) k (List.replicate n 0)) (j:=p) ω;have cx:=zaH (xs:=luW n F b) (j:=k) (by rw[zAY];exact bJ);obtain⟨bP,rfl,_,_⟩:=bq.o.has ω;obtain⟨l,rfl,aL,_⟩:=ce.o.has ω;have p0:=(bq.o.below d).at_ bK;obtain⟨ga,Aa,ma,ca,Da,bQ,bC,y0,y1,O,ch⟩:=(ce.o.below d).at_ cx;obtain⟨go,Ao,mo,co,Do,dC,dv,o0,o1,o2,_⟩:=g.at_ cv;have az:=g.fro (p*3);have of1:=g.fro (p*3+1);have aO:=g.fro (p*3+2);refine μ3 (ch) (g) (Bel.mk d) λHQ c4 c5=>?_;have dI:=zab d aA;have dJ:=zab d aB;have dK:=zab d an;have dL:χ wz bP k (.int .i64 (p:Int)):=p0;have dM:χ wz l (k*3) (.bool ga):=y0;have dN:χ wz l (k*3+1) (Aa,ma,ca):=y1;have dO:χ wz l (k*3+2) (Da,bQ,bC):=O;clear g d bK bM be cv cx ch p0 y0 y1 O;have cj:(0:Int)<=(k:Int):=Zf _;have cm:(k:Int)<(n:Int):=ω;have bG:(0:Int)<=(p:Int):=Zf _;have bH:(p:Int)<(n:Int):=ω;have dx:wz.drew.frozen? ⟨wy,p*3,none⟩=false:=az;have dw:=zaa o0;go_wp2_with fail
   refine za2 (S:=λw'=>χ w' q 0 (lA,n,lc)/\χ w' q 1 (uA,n,uc)/\χ w' q 2 (bP,n,pc)/\χ w' bP k (.int .i64 (p:Int))/\χ w' l (k*3) (.bool ga)/\χ w' l (k*3+1) (Aa,ma,ca)/\χ w' l (k*3+2) (Da,bQ,bC)) 13 (h:=λhHeld=>?_);refine zaw [0,1,2,3,4,5,6,7,8,9,10,11,12] ?_;repeat refine tkE (hS:=hHeld) (h:=?_)
   refine zao ?_;refine zba (h:=λK m=>?_);go_simp;refine shutOff m ?_;clear m K;refine za1 (h:=?_);go_wp2;go_roundw
   case rel=>exact⟨k+1,by go_num,ω,by rw[<-cY.o];exact c4.o.drew.store p HQ.o.drew,(Bel.set3 c5.o.drew (Za _) _ _ _).b⟩
   case measure=>simp[intOf];omega
  obtain rfl:n=k:=ω;have cZ:=un g;have cO:=un (a2.o.trans (d.mono a2.o.size));have db:=a2.o.size;clear g d;go_wp2;refine Zh (v:=.tuple #[(wy.heap.size,n,n),true]) (by simp[results,results161,go_sem]) rfl ?_;exact⟨_,_,_,rfl,cZ.o.base db,cO.o⟩
 | succ k =>
  have L:k<n:=ω;rw[show((k+1:Nat):Int)-1=(k:Int)by omega];obtain⟨l,rfl,aL,_⟩:=g.has ω;have R:=un g;have bw:=un d;clear g;refine μ4 (aD.o.below d) (aw.o.below d) (bu.o.below d) (BB.o.trans ((d).mono BB.o.size)) λcI cJ bq a2=>?_;have aA:=zab d k0;have cB:=zaa aA;have aB:=zab d k1;have cC:=zaa aB;have an:=zab d k2;have cD:=zaa an;clear d;have cj:(0:Int)<=(k:Int):=Zf _;have cm:(k:Int)<(n:Int):=ω;go_wp2
  go_loopw [11] (λi wr=>∃j:Nat,i=((k+1+j:Nat):Int)/\k+1+j<=n/\VecS wr w (l,n,cz) (btI F (zbX F b n) n k j)/\Below w w wr)
   (λi _=>n-(intOf i).toNat)
  case atStart=>exact⟨0,by go_num,ω,by rw[zwm F (zbT _ _ _) L];exact R.o,bw.o⟩
  rename World=>wz
  obtain⟨j,rfl,hj,g,d⟩:=hrel;by_cases ab:k+1+j<n
  ·have ae:F.lo[k+1+j]? = some (F.lo.getD (k+1+j) []):=zaO (by rw[aH.o.ll];exact ab);have af:=aH.o.lr (k+1+j) ab;have ad:en F.lo (k+1+j) k=el (F.lo.getD (k+1+j) []) k:=rfl;generalize F.lo.getD (k+1+j) []=rw_ at ae af ad;have ac:=zaH (xs:=rw_) (j:=k) ω;rw[<-ad]at ac;obtain⟨M,rfl,_,_⟩:=aD.o.has ω;obtain⟨Ar,cr,_,Y,N⟩:=(aD.o.below d).at_ ae;rw[af]at Y N;obtain⟨o,rfl,_,_⟩:=N.has ω;obtain⟨z,s,C,y,t,B,x,y0,y1,O,aj⟩:=N.at_ ac
   obtain⟨gk,D,mk,I,E,J,G,o0,o1,o2,ai⟩:=g.at_ (zzk F j (zbT F b n) L);have az:=g.fro (k*3);have of1:=g.fro (k*3+1);have aO:=g.fro (k*3+2);obtain⟨U,P,V,cc,Q,W,T,z0,z1,z2,ax⟩:=g.at_ (zwk F j (zbT F b n) ab);have bF:el (zlK F n (zbX F b n) (n-(k+1))) j=el (luW n F b) (k+1+j):=(zka F n (zbX F b n) (f:=n) (j:=k+1) ω j).symm;rw[bF]at ax;have cs:btP F (zbX F b n) n k j=el (zbX F b n) k-zai j (λc=>en F.lo (k+1+c) k*el (luW n F b) (k+1+c)):=by unfold btP;rw[zaj λc hc=>by rw[<-zka F n (zbX F b n) (f:=n) (j:=k+1) ω c]];rfl
   have bv:=un (show(btI F (zbX F b n) n k j).set k (btP F (zbX F b n) n k j-en F.lo (k+1+j) k*el (luW n F b) (k+1+j))=btI F (zbX F b n) n k (j+1)by rw[<-bF];exact zzl F j (zbT F b n) L);have bf:=(cd.o (k+1+j) ab).1;have bg:mw (btP F (zbX F b n) n k j)<=2*X:=by rw[cs];exact(cd.o k L).2 j ω
   have bh:=cf.o.lo (k+1+j) ab k L;generalize hc0:k+1+j=c at *
   generalize btP F (zbX F b n) n k j=pk at *
   refine μ6 hc0 (aj) (ax) (ai) (g) (Bel.mk d) λb8 aa aF av R HW=>?_;have a3:=zab d k0;have aP:=zaa a3;have a4:=zab d k1;have aQ:=zaa a4;have a6:=zab d k2;have aR:=zaa a6;have a5:=Y;have aS:=zaa a5;have a7:=y0;have aT:=zaa a7;have a9:=y1;have aU:=zaa a9;have ba:=O;have aV:=zaa ba;have bb:=z0;have aW:=zaa bb;have bc:=z1;have aX:=zaa bc;have bd:=z2;have aY:=zaa bd;have b1:=o0;have bR:=zaa b1;have b3:=o1;have bS:=zaa b3;have b4:=o2;have bT:=zaa b4;have L1:=un (show 4*(mw (en F.lo c k)+mw (el (luW n F b) c))+8<=LIM by have:=aC.o;omega);have L2:=un (show 4*(mw pk+mw (en F.lo c k*el (luW n F b) c))+8<=LIM by have:=aC.o;have:=zdI (en F.lo c k) (el (luW n F b) c);omega);clear g d ae af ad ac N aj ax ai bf bg bh bF cs hc0 Y y0 y1 O z0 z1 z2;have bG:(0:Int)<=(k:Int):=Zf _;have bH:(k:Int)<(n:Int):=ω;have c8:(0:Int)<=(c:Int):=Zf _;have c9:(c:Int)<(n:Int):=ω;go_wp2_with fail
   refine za2 (S:=λw'=>χ w' q 0 (M,n,lc)/\χ w' q 1 (uA,n,uc)/\χ w' q 2 (pA,n,pc)/\χ w' M c (o,n,cr)/\χ w' o (k*3) (.bool z)/\χ w' o (k*3+1) (s,C,y)/\χ w' o (k*3+2) (t,B,x)/\χ w' l (c*3) (.bool U)/\χ w' l (c*3+1) (P,V,cc)/\χ w' l (c*3+2) (Q,W,T)/\χ w' l (k*3) (.bool gk)/\χ w' l (k*3+1) (D,mk,I)/\χ w' l (k*3+2) (E,J,G)) 23 (h:=λhHeld=>?_);refine zaw [0,1,2,3,4,5,6,7,8,9,10,11,12,13,14,15,16,17,18,19] ?_;repeat refine tkE (hS:=hHeld) (h:=?_)
   refine zao ?_;refine zaN 20 (h:=λK m=>?_);go_simp;(go_at_call 29;(with_reducible refine(Rt.mul z s C y t B x (en F.lo c k) U P V cc Q W T (el (luW n F b) c) _ aa.o.drew aF.o.drew L1.o).mono ?_);rintro e u1 ⟨g1,A1,m1,c1,D1,md1,cd1,rfl,r,a⟩;refine μ6 (aa.o.drew.below a) (aF.o.drew.below a) (av.o.drew.below a) (R.o.drew.below a) (HW.o.drew.below a) (r) λbo b2 bm ag a8 HM=>?_;have bi:=zab a aP;have bj:=zab a aQ;have bk:=zab a aR;have ao:=zab a aS;have cE:=zaa ao;have bl:=zab a aT;have bn:=zab a aU;have bp:=zab a aV;have ap:=zab a aW;have cF:=zaa ap;have aq:=zab a aX;have cG:=zaa aq;have ar:=zab a aY;have cH:=zaa ar;have bX:=zab a bR;have bY:=zab a bS;have bZ:=zab a bT;clear r a);(try go_wp2_with fail);refine shutOn m λhHeld=>?_;clear m K;refine zaN 21 (h:=λK m=>?_);go_simp;(go_at_call 31;(with_reducible refine(Rt.sub gk D mk I E J G pk g1 A1 m1 c1 D1 md1 cd1 (en F.lo c k*el (luW n F b) c) _ bm.o HM.o L2.o).mono ?_);rintro e u2 ⟨g2,A2,m2,c2,D2,md2,cd2,rfl,r,a⟩;refine μ6 (bo.o.below a) (b2.o.below a) (ag.o.below a) (a8.o.below a) (HM.o.below a) (r) λds dr Z b5 dg HS=>?_;have dh:=zab a bi;have di:=zab a bj;have dj:=zab a bk;have b0:=zab a ao;have dc:=zaa b0;have dk:=zab a bl;have dl:=zab a bn;have dq:=zab a bp;have bU:=zab a ap;have dd:=zaa bU;have bV:=zab a aq;have de:=zaa bV;have bW:=zab a ar;have df:=zaa bW;have dm:=zab a bX;have dn:=zab a bY;have dp:=zab a bZ;have az:=Z.o.fro (k*3);have of1:=Z.o.fro (k*3+1);have aO:=Z.o.fro (k*3+2);clear r a);(try go_wp2_with fail);refine shutOn m λhHeld=>?_;clear m K;refine zaw [22] ?_;repeat refine tkE (hS:=hHeld) (h:=?_)
   refine zao ?_;refine zba (h:=λK m=>?_);go_simp;refine shutOff m ?_;clear m K;refine za1 (h:=?_);go_wp2;go_roundw
   case rel=>exact⟨j+1,by have:=b8.o;subst this;go_num,by have:=b8.o;omega,by rw[<-bv.o];exact Z.o.store k HS.o,(Bel.set3 b5.o aL _ _ _).b⟩
   case measure=>simp[intOf];omega
  have ak:j=n-(k+1):=ω;rw[ak,zwl F (zbT F b n) L]at g;have c0:=un g;have cP:=un d;clear g d ak;have bG:(0:Int)<=(k:Int):=Zf _;have bH:(k:Int)<(n:Int):=ω;go_wp2;go_roundw
  case rel=>exact⟨k,by go_num,ω,c0.o,cP.o⟩
  case measure=>first | (simp[intOf];done) | (simp[intOf];omega)
