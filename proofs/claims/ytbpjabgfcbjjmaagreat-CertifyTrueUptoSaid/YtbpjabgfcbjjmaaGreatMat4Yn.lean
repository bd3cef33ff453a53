/- Contracts and lemmas: Mat4 LuS LuT Ints TbMem zjE Vec9 FacMem StdM Std Dshow. Conditions: as each says. -/
import Derived.Test.YtbpjabgfcbjjmaaGreatMat3Yn
import Derived.Test.YtbpjabgfcbjjmaaGreatSiegYn
set_option linter.all false
set_option maxHeartbeats 8000000
set_option maxRecDepth 100000
namespace Go.Proofs.YtbpjabgfcbjjmaaGreat
open Go.RowKit Am Tryz
attribute [local go_sem ↓] Go.wp_at_zero Go.wp_at_succ
variable {A:List (List Rat)}{y:List Rat}{N k:Nat}
def zph (N:Nat) (A:List (List Rat)) (y:List Rat) (k:Nat):List Rat:=(List.range N).map λj=>zai k λi=>el y i*en A i j
theorem zhm(N:Nat)(A:List (List Rat))(y:List Rat)(k:Nat):(zph N A y k).length=N:=by simp[zph]
def zt5(N:Nat)(A:List (List Rat))(y:List Rat):zph N A y 0=List.replicate N 0:=by unfold zph;simp only[zai];apply Xf;intro i;simp[Z9];by_cases h:i<N<;>simp[h]
def zq8(N:Nat)(A:List (List Rat))(y:List Rat):zph N A y A.length=byL N A y:=rfl
def zq9{j:Nat}(h:j<N):(zph N A y k)[j]? = some (zai k λi=>el y i*en A i j):=by unfold zph;rw[Z1,XH h];rfl
def zt4{r:List Rat}{q:Rat}(hr:A[k]? = some r)(d:y[k]? = some q)(c:r.length=N):zly (zph N A y k) q r=zph N A y (k+1):=by
 apply Xf;intro j;by_cases h:j<N;obtain⟨b,a⟩:∃b,r[j]? = some b:=⟨r[j]' ω,Ze _⟩
 rw[zmR (zq9 h) a,zq9 h,zai,znd d];unfold en;rw[getD_some hr,znd a];grind[List.getElem?_eq_none,zdt,zhm]
def zu8{S T:Nat}(f:∀q∈y,mw q<=S)(d:∀r∈A,∀q∈r,mw q<=T)(h1:1<=S)(a:1<=T)(k:Nat):∀q∈zph N A y k,mw q<=k*(S+T+1)+1:=by
 intro q e;obtain⟨j,hj,rfl⟩:=ZH.1 e;have c:∀ {xs:List Rat} {S:Nat},(∀q∈xs,mw q<=S)->1<=S->∀i,mw (el xs i)<=S:=λ{xs S} h h1 i=>by by_cases hi:i<xs.length;exact h _ (Zj (zaH hi));grind[zDb,Nat.le_trans,mw0]
 induction k with
 | zero=>rw[zai];have:=mw0;omega
 | succ k b =>
  rw[zai];have g:=zrI (zai k λi=>el y i*en A i j) (el y k*en A k j);have l:=zdI (el y k) (en A k j);have m:=c f h1 k;have n:mw (en A k j)<=T:=by unfold en;grind
  have b:=b (ZH.2 ⟨j,hj,rfl⟩);rw[XE];omega
namespace Lu
def solve(H q n u X:Nat)(F:LUv)(A:OA)(cA:Nat)(b:List Rat)(H':Nat)(w:World)(hF:LuS w H q n F)(a:VecS w H' (A,n,cA) b)(r:n<=64)(hp:∀i,i<n->F.perm.getD i 0<n)(hz:LUsz mw n u F)(hd:∀i,i<n->en F.up i i≠0)(hx:SolLe mw n F b X)(hL:4*(4*X+u+1)+8<=LIM) :
  Calls prog 176 #[.pointer (some ⟨q,0,none⟩),(A,n,cA)] w (zcd w (zaR n F b) true):=by
 obtain⟨lA,lc,ll,uA,uc,ul,pA,pc,aF,b7,_,ce,_,_,cd⟩:=hF.ex;refine μ9 hF.sq r hp hd a.len hL hx.fw hx.sv hz λaB HN HP HD cw ax bW bl bn=>?_;have dh:n<=9223372036854775807:=ω;have k0:χ w q 0 (lA,n,lc):=zac aF 0;have k1:χ w q 1 (uA,n,uc):=zac aF 1;have k2:χ w q 2 (pA,n,pc):=zac aF 2;refine μ5 aF b7 ce cd a λKQ bb aC bX HB=>?_;clear hF b7 ce cd a r hp hz hd hx hL aF;go_enter func176,ntmps176;go_wp2_with (at_make;go_must (refine zdv rfl _ _ rfl n _ rfl rfl rfl (by have:=HN.o;omega) w.heap.size rfl ?_;intro w1 ho aE;have HO:=un ho;have cv:=un aE;have q0:=zab aE k0;have q1:=zab aE k1;have q2:=zab aE k2;clear ho aE))
 go_wp2
 go_loopw [24] (λi wr=>∃k:Nat,i=.int .i64 k/\k<=n/\VecS wr w (w.heap.size,n,n) (fwO F b n k)/\Below w w wr)
  (λi _=>n-(intOf i).toNat)
 case atStart=>exact⟨0,rfl,Zb _,by rw[zxc];exact HO.o,cv.o⟩
 obtain⟨k,rfl,hk,g,d⟩:=hrel;by_cases o:k<n
 ·have bt:F.perm[k]? = some (F.perm.getD k 0):=zaO (by rw[aB.o.pl];exact o);have cb:=HP.o k o;generalize ad:F.perm.getD k 0=p at bt cb;have b4:=zaH (xs:=b) (j:=p) (by rw[<-cw.o];exact cb);obtain⟨bP,rfl,_,_⟩:=bX.o.has ω;obtain⟨bB,rfl,_,_⟩:=HB.o.has ω;have p0:=(bX.o.below d).at_ bt;obtain⟨ga,Aa,ma,ca,Da,ch,b0,y0,y1,N,b3⟩:=(HB.o.below d).at_ b4;obtain⟨go,Ao,mo,co,Do,dj,df,o0,o1,o2,_⟩:=g.at_ (zAR F b o);have aL:=g.fro (k*3);have of1:=g.fro (k*3+1)
  have aM:=g.fro (k*3+2);refine μ5 (bb.o.below d) (aC.o.below d) (b3) (g) (Bel.mk d) λc9 da HQ R HW=>?_;have bD:=zab d k0;have cQ:=zaa bD;have bE:=zab d k1;have cR:=zaa bE;have cZ:=zab d k2;have dp:χ wr bP k (.int .i64 (p:Int)):=p0;have dq:χ wr bB (p*3) (.bool ga):=y0;have dr:χ wr bB (p*3+1) (Aa,ma,ca):=y1;have ds:χ wr bB (p*3+2) (Da,ch,b0):=N;have cF:=un (show(fwO F b n k).set k (el b p)=fwI F b n k 0 by rw[<-ad];exact zAS F b o);clear g d bt b4 b3 ad p0 y0 y1 N;have cK:(0:Int)<=(k:Int):=Zg _;have cL:(k:Int)<(n:Int):=ω;have cM:(0:Int)<=(p:Int):=Zg _;have cN:(p:Int)<(n:Int):=ω;go_wp2
  go_loopw [41] (λi wr=>∃c:Nat,i=.int .i64 c/\c<=k/\VecS wr w (w.heap.size,n,n) (fwI F b n k c)/\Below w w wr)
   (λi _=>k-(intOf i).toNat)
  case atStart=>exact⟨0,rfl,Zb _,by rw[<-cF.o];exact R.o.store k HQ.o,(Bel.set3 HW.o (Za _) _ _ _).b⟩
  rename World=>wz
  obtain⟨c,rfl,hc,g,d⟩:=hrel;by_cases au:c<k
  ·have ae:F.lo[k]? = some (F.lo.getD k []):=zaO (by rw[aB.o.ll];exact o);have af:=aB.o.lr k o;have V:en F.lo k c=el (F.lo.getD k []) c:=rfl;generalize F.lo.getD k []=rw_ at ae af V;have M:=zaH (xs:=rw_) (j:=c) ω;rw[<-V]at M;obtain⟨O,rfl,_,_⟩:=bb.o.has ω;obtain⟨Ar,cr,_,Z,L⟩:=(bb.o.below d).at_ ae;rw[af]at Z L;obtain⟨m,rfl,_,_⟩:=L.has ω;obtain⟨z,s,C,y,t,B,x,y0,y1,N,ac⟩:=L.at_ M;obtain⟨U,P,W,cc,Q,Y,T,z0,z1,z2,ar⟩:=g.at_ (zAO F b (n:=n) (c:=c) au)
   obtain⟨gk,D,mk,I,E,J,G,o0,o1,o2,aj⟩:=g.at_ (zAN F b n k c);have aL:=g.fro (k*3);have of1:=g.fro (k*3+1);have aM:=g.fro (k*3+2);refine μ5 (ac) (ar) (aj) (g) (Bel.mk d) λab az aq R HW=>?_;have a0:=zab d k0;have aN:=zaa a0;have a1:=zab d k1;have aO:=zaa a1;have a3:=zab d k2;have aP:=zaa a3;have a2:=Z;have aQ:=zaa a2;have a4:=y0;have aR:=zaa a4;have a6:=y1;have aS:=zaa a6;have a7:=N;have aT:=zaa a7;have a8:=z0;have aU:=zaa a8;have a9:=z1;have aV:=zaa a9;have ba:=z2;have aW:=zaa ba;have bK:=o0;have bv:=zaa bK;have bN:=o1;have bw:=zaa bN;have bO:=o2;have bx:=zaa bO;have bk:=un (zAP F b n k c);have bc:=(bW.o c ω).1;rw[zrx F b (i:=c) (j:=k) (k:=n) au ω]at bc;have aG:mw (fwP F b k c)<=2*X:=by unfold fwP;rw[zaj λi hi=>by rw[<-zrx F b (i:=i) (j:=k) (k:=n) ω ω]];exact(bW.o k o).2 c ω
   have aH:=bn.o.lo k o c ω;have L1:=un (show 4*(mw (en F.lo k c)+mw (el (fwd F b k) c))+8<=LIM by have:=ax.o;omega);have L2:=un (show 4*(mw (fwP F b k c)+mw (en F.lo k c*el (fwd F b k) c))+8<=LIM by have:=ax.o;have:=zdI (en F.lo k c) (el (fwd F b k) c);omega);clear g d ae af V M L ac ar aj bc aG aH Z y0 y1 N z0 z1 z2;have cO:(0:Int)<=(c:Int):=Zg _;have cP:(c:Int)<(n:Int):=ω;go_wp2_with fail
   refine za2 (S:=λw'=>χ w' q 0 (O,n,lc)/\χ w' q 1 (uA,n,uc)/\χ w' q 2 (bP,n,pc)/\χ w' O k (m,n,cr)/\χ w' m (c*3) (.bool z)/\χ w' m (c*3+1) (s,C,y)/\χ w' m (c*3+2) (t,B,x)/\χ w' w (c*3) (.bool U)/\χ w' w (c*3+1) (P,W,cc)/\χ w' w (c*3+2) (Q,Y,T)/\χ w' w (k*3) (.bool gk)/\χ w' w (k*3+1) (D,mk,I)/\χ w' w (k*3+2) (E,J,G)) 23 (h:=λhHeld=>?_);refine zaw [0,1,2,3,4,5,6,7,8,9,10,11,12,13,14,15,16,17,18,19] ?_;repeat refine tkE hHeld ?_
   refine zao ?_;refine zaN 20 (h:=λK l=>?_);go_simp;(go_at_call 29;(with_reducible refine(Rt.mul z s C y t B x (en F.lo k c) U P W cc Q Y T (el (fwd F b k) c) _ ab.o.drew az.o.drew L1.o).mono ?_);rintro e u1 ⟨g1,A1,m1,c1,D1,md1,cd1,rfl,r,a⟩;refine μ6 (ab.o.drew.below a) (az.o.drew.below a) (aq.o.drew.below a) (R.o.drew.below a) (HW.o.drew.below a) (r) λbi bM bh ag a5 HM=>?_;have bd:=zab a aN;have be:=zab a aO;have bf:=zab a aP;have bg:=zab a aQ;have ak:=zab a aR;have cj:=zaa ak;have al:=zab a aS;have cm:=zaa al;have am:=zab a aT;have cn:=zaa am;have an:=zab a aU;have cp:=zaa an;have ao:=zab a aV;have cq:=zaa ao;have ap:=zab a aW;have cs:=zaa ap;have bF:=zab a bv;have bG:=zab a bw;have bH:=zab a bx;clear r a);(try go_wp2_with fail);refine shutOn l λhHeld=>?_;clear l K;refine zaN 21 (h:=λK l=>?_);go_simp;(go_at_call 31;(with_reducible refine(Rt.sub gk D mk I E J G (fwP F b k c) g1 A1 m1 c1 D1 md1 cd1 (en F.lo k c*el (fwd F b k) c) _ bh.o HM.o L2.o).mono ?_);rintro e u2 ⟨g2,A2,m2,c2,D2,md2,cd2,rfl,r,a⟩;refine μ6 (bi.o.below a) (bM.o.below a) (ag.o.below a) (a5.o.below a) (HM.o.below a) (r) λdc db aa bQ cY HS=>?_;have c0:=zab a bd;have c3:=zab a be;have c4:=zab a bf;have c5:=zab a bg;have bI:=zab a ak;have cS:=zaa bI;have bJ:=zab a al;have cT:=zaa bJ;have bR:=zab a am;have cU:=zaa bR;have bz:=zab a an;have cV:=zaa bz;have bA:=zab a ao;have cW:=zaa bA;have bC:=zab a ap;have cX:=zaa bC;have c6:=zab a bF;have c7:=zab a bG;have c8:=zab a bH;have aL:=aa.o.fro (k*3);have of1:=aa.o.fro (k*3+1);have aM:=aa.o.fro (k*3+2);clear r a);(try go_wp2_with fail);refine shutOn l λhHeld=>?_;clear l K;refine zaw [22] ?_;repeat refine tkE hHeld ?_
   refine zao ?_;refine zba (h:=λK l=>?_);go_simp;refine shutOff l ?_;clear l K;refine za1 (h:=?_);go_wp2;go_roundw
   case rel=>exact⟨c+1,by go_num,ω,by rw[<-bk.o];exact aa.o.store k HS.o,(Bel.set3 bQ.o (Za _) _ _ _).b⟩
   case measure=>simp[intOf];omega
  obtain rfl:k=c:=ω;have bm:=un g;have bj:=un d;clear g d;go_wp2;go_roundw
  case rel=>exact⟨k+1,by go_num,ω,by rw[<-zxb];exact bm.o,bj.o⟩
  case measure=>simp[intOf];omega
 obtain rfl:n=k:=ω;have bm:=un g;have bj:=un d;clear g d;go_wp2
 go_loopw [10] (λi wr=>∃k:Nat,i=.int .i64 ((k:Int)-1)/\k<=n/\VecS wr w (w.heap.size,n,n) (bwO F (fwd F b n) n k)/\Below w w wr)
  (λi _=>(intOf i+1).toNat)
 case atStart=>exact⟨n,rfl,Za _,by rw[zzq F (zcx _ _ _),<-zAQ];exact bm.o,bj.o⟩
 rename World=>wy
 obtain⟨k,rfl,hk,g,d⟩:=hrel;cases k with
 | zero =>
  have cH:=un g;have cx:=un d;clear g d;rw[show((0:Nat):Int)-1 = -1 from rfl];go_wp2;refine Zi (v:=.tuple #[(w.heap.size,n,n),true]) (by simp[results,results176,go_sem]) rfl ?_;exact⟨_,_,_,rfl,by have h:=cH.o;rw[zwq]at h;exact h,cx.o⟩
 | succ k =>
  have o:k<n:=ω;rw[show((k+1:Nat):Int)-1=(k:Int)by omega];have R:=un g;have cI:=un d;clear g;have c9:=un (bb.o.below d);have da:=un (aC.o.below d);have bD:=zab d k0;have cQ:=zaa bD;have bE:=zab d k1;have cR:=zaa bE;have cZ:=zab d k2;clear d;have cK:(0:Int)<=(k:Int):=Zg _;have cL:(k:Int)<(n:Int):=ω;go_wp2
  go_loopw [11] (λi wr=>∃j:Nat,i=((k+1+j:Nat):Int)/\k+1+j<=n/\VecS wr w (w.heap.size,n,n) (bwI F (fwd F b n) n k j)/\Below w w wr)
   (λi _=>n-(intOf i).toNat)
  case atStart=>exact⟨0,by go_num,ω,by rw[zwp F (zcx _ _ _) o];exact R.o,cI.o⟩
  rename World=>wz
  obtain⟨j,rfl,hj,g,d⟩:=hrel;have ae:F.up[k]? = some (F.up.getD k []):=zaO (by rw[aB.o.ul];exact o);have af:=aB.o.ur k o;have V:∀c,en F.up k c=el (F.up.getD k []) c:=λ_=>rfl
  generalize F.up.getD k []=rw_ at ae af V;obtain⟨O,rfl,_,_⟩:=aC.o.has ω;obtain⟨Ar,cr,bs,Z,L⟩:=(aC.o.below d).at_ ae;rw[af]at Z L bs;obtain⟨m,rfl,_,_⟩:=L.has ω;have dg:=(aC.o.lt (Zj bs) rfl).2;have di:=(ZU.1 KQ.o).1;clear bs;obtain⟨gk,D,mk,I,E,J,G,o0,o1,o2,aj⟩:=g.at_ (zzo F j (zcx F b n) o);have aL:=g.fro (k*3);have of1:=g.fro (k*3+1);have aM:=g.fro (k*3+2);have cM:(0:Int)<=(k:Int):=Zg _;have cN:(k:Int)<(n:Int):=ω;by_cases au:k+1+j<n
  ·have M:=zaH (xs:=rw_) (j:=k+1+j) ω;rw[<-V]at M;obtain⟨z,s,C,y,t,B,x,y0,y1,N,ac⟩:=L.at_ M;obtain⟨U,P,W,cc,Q,Y,T,z0,z1,z2,ar⟩:=g.at_ (zwo F j (zcx F b n) au);have bq:el (bwd F n (fwd F b n) (n-(k+1))) j=el (zaR n F b) (k+1+j):=(zlL F n (fwd F b n) (f:=n) (j:=k+1) ω j).symm;rw[bq]at ar
   have ad:bwP F (fwd F b n) n k j=el (fwd F b n) k-zai j (λc=>en F.up k (k+1+c)*el (zaR n F b) (k+1+c)):=by unfold bwP;rw[zaj λc hc=>by rw[<-zlL F n (fwd F b n) (f:=n) (j:=k+1) ω c]];rfl
   have bk:=un (show(bwI F (fwd F b n) n k j).set k (bwP F (fwd F b n) n k j-en F.up k (k+1+j)*el (zaR n F b) (k+1+j))=bwI F (fwd F b n) n k (j+1)by rw[<-bq];exact zzp F j (zcx F b n) o);have bc:=(bl.o (k+1+j) au).1;have aG:mw (bwP F (fwd F b n) n k j)<=2*X:=by rw[ad];exact(bl.o k o).2 j ω
   have aH:=bn.o.up k o (k+1+j) au;generalize hc0:k+1+j=c at *
   generalize bwP F (fwd F b n) n k j=pk at *
   refine μ6 hc0 (ac) (ar) (aj) (g) (Bel.mk d) λbV ab az aq R HW=>?_;have a0:=zab d k0;have aN:=zaa a0;have a1:=zab d k1;have aO:=zaa a1;have a3:=zab d k2;have aP:=zaa a3;have a2:=Z;have aQ:=zaa a2;have a4:=y0;have aR:=zaa a4;have a6:=y1;have aS:=zaa a6;have a7:=N;have aT:=zaa a7;have a8:=z0;have aU:=zaa a8;have a9:=z1;have aV:=zaa a9;have ba:=z2;have aW:=zaa ba;have bK:=o0;have bv:=zaa bK;have bN:=o1;have bw:=zaa bN;have bO:=o2;have bx:=zaa bO;have L1:=un (show 4*(mw (en F.up k c)+mw (el (zaR n F b) c))+8<=LIM by have:=ax.o;omega);have L2:=un (show 4*(mw pk+mw (en F.up k c*el (zaR n F b) c))+8<=LIM by have:=ax.o;have:=zdI (en F.up k c) (el (zaR n F b) c);omega);clear g d ae af V M L ac ar aj bc aG aH bq ad hc0 Z y0 y1 N z0 z1 z2;have cO:(0:Int)<=(c:Int):=Zg _;have cP:(c:Int)<(n:Int):=ω;go_wp2_with fail
   refine za2 (S:=λw'=>χ w' q 0 (lA,n,lc)/\χ w' q 1 (O,n,uc)/\χ w' q 2 (pA,n,pc)/\χ w' O k (m,n,cr)/\χ w' m (c*3) (.bool z)/\χ w' m (c*3+1) (s,C,y)/\χ w' m (c*3+2) (t,B,x)/\χ w' w (c*3) (.bool U)/\χ w' w (c*3+1) (P,W,cc)/\χ w' w (c*3+2) (Q,Y,T)/\χ w' w (k*3) (.bool gk)/\χ w' w (k*3+1) (D,mk,I)/\χ w' w (k*3+2) (E,J,G)) 23 (h:=λhHeld=>?_);refine zaw [0,1,2,3,4,5,6,7,8,9,10,11,12,13,14,15,16,17,18,19] ?_;repeat refine tkE hHeld ?_
   refine zao ?_;refine zaN 20 (h:=λK l=>?_);go_simp;(go_at_call 29;(with_reducible refine(Rt.mul z s C y t B x (en F.up k c) U P W cc Q Y T (el (zaR n F b) c) _ ab.o.drew az.o.drew L1.o).mono ?_);rintro e u1 ⟨g1,A1,m1,c1,D1,md1,cd1,rfl,r,a⟩;refine μ6 (ab.o.drew.below a) (az.o.drew.below a) (aq.o.drew.below a) (R.o.drew.below a) (HW.o.drew.below a) (r) λbi bM bh ag a5 HM=>?_;have bd:=zab a aN;have be:=zab a aO;have bf:=zab a aP;have bg:=zab a aQ;have ak:=zab a aR;have cj:=zaa ak;have al:=zab a aS;have cm:=zaa al;have am:=zab a aT;have cn:=zaa am;have an:=zab a aU;have cp:=zaa an;have ao:=zab a aV;have cq:=zaa ao;have ap:=zab a aW;have cs:=zaa ap;have bF:=zab a bv;have bG:=zab a bw;have bH:=zab a bx;clear r a);(try go_wp2_with fail);refine shutOn l λhHeld=>?_;clear l K;refine zaN 21 (h:=λK l=>?_);go_simp;(go_at_call 31;(with_reducible refine(Rt.sub gk D mk I E J G pk g1 A1 m1 c1 D1 md1 cd1 (en F.up k c*el (zaR n F b) c) _ bh.o HM.o L2.o).mono ?_);rintro e u2 ⟨g2,A2,m2,c2,D2,md2,cd2,rfl,r,a⟩;refine μ6 (bi.o.below a) (bM.o.below a) (ag.o.below a) (a5.o.below a) (HM.o.below a) (r) λdc db aa bQ cY HS=>?_;have c0:=zab a bd;have c3:=zab a be;have c4:=zab a bf;have c5:=zab a bg;have bI:=zab a ak;have cS:=zaa bI;have bJ:=zab a al;have cT:=zaa bJ;have bR:=zab a am;have cU:=zaa bR;have bz:=zab a an;have cV:=zaa bz;have bA:=zab a ao;have cW:=zaa bA;have bC:=zab a ap;have cX:=zaa bC;have c6:=zab a bF;have c7:=zab a bG;have c8:=zab a bH;have aL:=aa.o.fro (k*3);have of1:=aa.o.fro (k*3+1);have aM:=aa.o.fro (k*3+2);clear r a);(try go_wp2_with fail);refine shutOn l λhHeld=>?_;clear l K;refine zaw [22] ?_;repeat refine tkE hHeld ?_
   refine zao ?_;refine zba (h:=λK l=>?_);go_simp;refine shutOff l ?_;clear l K;refine za1 (h:=?_);go_wp2;go_roundw
   case rel=>exact⟨j+1,by have:=bV.o;subst this;go_num,by have:=bV.o;omega,by rw[<-bk.o];exact aa.o.store k HS.o,(Bel.set3 bQ.o (Za _) _ _ _).b⟩
   case measure=>simp[intOf];omega
  skip
  have b6:j=n-(k+1):=ω;have M:=zaH (xs:=rw_) (j:=k) ω;rw[<-V]at M;obtain⟨z,s,C,y,t,B,x,y0,y1,N,ac⟩:=L.at_ M;have ad:bwP F (fwd F b n) n k j=el (fwd F b n) k-zai j (λc=>en F.up k (k+1+c)*el (zaR n F b) (k+1+c)):=by unfold bwP;rw[zaj λc hc=>by rw[<-zlL F n (fwd F b n) (f:=n) (j:=k+1) ω c]];rfl
  have cG:=un (show(bwI F (fwd F b n) n k j).set k (bwP F (fwd F b n) n k j/en F.up k k)=bwO F (fwd F b n) n k by rw[b6];exact zzn F (zcx F b n) o);have aG:mw (bwP F (fwd F b n) n k j)<=2*X:=by rw[ad];exact(bl.o k o).2 j ω
  have aH:=bn.o.up k o k o;have cz:=un (HD.o k o);generalize bwP F (fwd F b n) n k j=pk at *
  refine μ4 (ac) (aj) (g) (Bel.mk d) λab aq R HW=>?_;have a0:=zab d k0;have aN:=zaa a0;have a1:=zab d k1;have aO:=zaa a1;have a3:=zab d k2;have aP:=zaa a3;have a2:=Z;have aQ:=zaa a2;have a4:=y0;have aR:=zaa a4;have a6:=y1;have aS:=zaa a6;have a7:=N;have aT:=zaa a7;have a8:=o0;have aU:=zaa a8;have a9:=o1;have aV:=zaa a9;have ba:=o2;have aW:=zaa ba;have L1:=un (show 4*(mw pk+mw (en F.up k k))+8<=LIM by have:=ax.o;omega);clear g d ae af V M L ac aj aG aH ad b6 Z y0 y1 N;go_wp2_with fail
  refine wp_region_held_drew (S:=λw'=>χ w' q 0 (lA,n,lc)/\χ w' q 1 (O,n,uc)/\χ w' q 2 (pA,n,pc)/\χ w' O k (m,n,cr)/\χ w' m (k*3) (.bool z)/\χ w' m (k*3+1) (s,C,y)/\χ w' m (k*3+2) (t,B,x)) ξ kp λhHeld=>?_;refine zaw [0,1,2,3,4,6,7,8,9,10,11,12,13,14,15] ?_;repeat refine tkH hHeld ?_
  refine zao ?_;refine wpAnyH_ready (rs:=[5]) ξ σ ?_;refine AllReadyH.cons rfl (λK l=>?_) AllReadyH.nil;go_simp
  skip
  (try go_wp2_with fail);refine l.o _ _ kp λhHeld=>?_;clear l K;try simp only[Act.put,pu1,pu2,pu3,pu4,pu5,pu6]
  refine wpAnyH_ready (rs:=[16]) ξ σ ?_;refine AllReadyH.cons rfl (λK l=>?_) AllReadyH.nil;go_simp;(go_at_call 159;(with_reducible refine(Rt.div gk D mk I E J G pk z s C y t B x (en F.up k k) _ aq.o.drew ab.o.drew cz.o L1.o).mono ?_);rintro e u1 ⟨g2,A2,m2,c2,D2,md2,cd2,rfl,r,a⟩;refine μ5 (ab.o.drew.below a) (aq.o.drew.below a) (R.o.drew.below a) (HW.o.drew.below a) (r) λbi bh ag a5 HS=>?_;have bd:=zab a aN;have be:=zab a aO;have bf:=zab a aP;have bg:=zab a aQ;have ak:=zab a aR;have cj:=zaa ak;have al:=zab a aS;have cm:=zaa al;have am:=zab a aT;have cn:=zaa am;have an:=zab a aU;have cp:=zaa an;have ao:=zab a aV;have cq:=zaa ao;have ap:=zab a aW;have cs:=zaa ap;have aL:=ag.o.fro (k*3);have of1:=ag.o.fro (k*3+1);have aM:=ag.o.fro (k*3+2);clear r a);(try go_wp2_with fail);refine l.o _ _ kp λhHeld=>?_;clear l K;try simp only[Act.put,pu1,pu2,pu3,pu4,pu5,pu6]
  refine zaw [17,18,19,20] ?_;repeat refine tkH hHeld ?_
  refine zao ?_;refine wpAnyH_ready (rs:=[21]) ξ σ ?_;refine AllReadyH.cons rfl (λK l=>?_) AllReadyH.nil;go_simp
  skip
  (try go_wp2_with fail);refine l.o _ _ kp λhHeld=>?_;clear l K;try simp only[Act.put,pu1,pu2,pu3,pu4,pu5,pu6]
  refine wpAnyH_done ξ ?_ _;go_wp2;go_roundw
  case rel=>exact⟨k,by go_num,ω,by rw[<-cG.o];exact ag.o.store k HS.o,(Bel.set3 a5.o (Za _) _ _ _).b⟩
  case measure=>first | (simp[intOf];done) | (simp[intOf];omega)
end Lu
end Go.Proofs.YtbpjabgfcbjjmaaGreat
namespace Go.Proofs.YtbpjabgfcbjjmaaGreat
open Go.RowKit Am Tryz
attribute [local go_sem ↓] Go.wp_at_zero Go.wp_at_succ
namespace Lu
def solveT(H q n u X:Nat)(F:LUv)(A:OA)(cA:Nat)(b:List Rat)(H':Nat)(w:World)(hF:LuS w H q n F)(a:VecS w H' (A,n,cA) b)(r:n<=64)(hp:∀i,i<n->F.perm.getD i 0<n)(hz:LUsz mw n u F)(hd:∀i,i<n->en F.up i i≠0)(hx:SolTLe mw n F b X)(hL:4*(4*X+u+1)+8<=LIM) :
  Calls prog 161 #[.pointer (some ⟨q,0,none⟩),(A,n,cA)] w (zcd w (zcq n F b) true):=by
 obtain⟨lA,lc,ll,uA,uc,ul,pA,pc,aK,cn,_,cu,_,_,ct⟩:=hF.ex;refine μ9 hF.sq r hp hd a.len hL hx.fw hx.sv hz λaH HN HP HD b7 aC b9 cd cf=>?_;have dA:n<=9223372036854775807:=ω;have k0:χ w q 0 (lA,n,lc):=zac aK 0;have k1:χ w q 1 (uA,n,uc):=zac aK 1;have k2:χ w q 2 (pA,n,pc):=zac aK 2;refine μ5 aK cn cu ct a λKQ aD aw bu HB=>?_;clear hF cn cu ct a r hp hz hd hx hL aK;go_enter func161,ntmps161;go_wp2_with fail
 refine(Vc.copy A n cA b H' _ HB.o (by have:=HN.o;omega)).mono ?_;rintro e w1 ⟨Az,cz,rfl,g,hb1⟩;have HO:=un g;have cM:=un hb1;have q0:=zab hb1 k0;have q1:=zab hb1 k1;have q2:=zab hb1 k2;clear g hb1;go_wp2;have BB:=un (Zl w.heap.size w);have dB:=(ZU.1 KQ.o).1
 go_loopw [26] (λi wr=>∃k:Nat,i=.int .i64 k/\k<=n/\VecS wr w (Az,n,cz) (ftO F b k)/\Below w w wr)
  (λi _=>n-(intOf i).toNat)
 case atStart=>exact⟨0,rfl,Zb _,by rw[zxa];exact HO.o,cM.o⟩
 obtain⟨k,rfl,hk,g,d⟩:=hrel;by_cases L:k<n
 ·obtain⟨l,rfl,aL,_⟩:=g.has ω;have R:=un g;have bw:=un d;have be:k<b.length:=by rw[<-b7.o];exact L
  have c6:=un (zw9 F be);clear g be;refine μ4 (aD.o.below d) (aw.o.below d) (bu.o.below d) (BB.o.trans ((d).mono BB.o.size)) λcI cJ bq a2=>?_;have aA:=zab d k0;have cB:=zaa aA;have aB:=zab d k1;have cC:=zaa aB;have an:=zab d k2;have cD:=zaa an;clear d;have cj:(0:Int)<=(k:Int):=Zg _;have cm:(k:Int)<(n:Int):=ω;go_wp2
  go_loopw [30] (λi wr=>∃j:Nat,i=.int .i64 j/\j<=k/\VecS wr w (l,n,cz) (ftI F b k j)/\Below w w wr)
   (λi _=>k-(intOf i).toNat)
  case atStart=>exact⟨0,rfl,Zb _,by rw[c6.o];exact R.o,bw.o⟩
  rename World=>wz
  obtain⟨j,rfl,hj,g,d⟩:=hrel;have ak:j<n:=ω;have ae:F.up[j]? = some (F.up.getD j []):=zaO (by rw[aH.o.ul];exact ak);have af:=aH.o.ur j ak;have ad:en F.up j k=el (F.up.getD j []) k:=rfl;generalize F.up.getD j []=rw_ at ae af ad;have ac:=zaH (xs:=rw_) (j:=k) ω;rw[<-ad]at ac;obtain⟨M,rfl,_,_⟩:=aw.o.has ω;obtain⟨Ar,cr,bI,Y,N⟩:=(aw.o.below d).at_ ae;rw[af]at Y N bI;obtain⟨o,rfl,_,_⟩:=N.has ω;have dy:=(aw.o.lt (Zj bI) rfl).2;clear bI;obtain⟨z,s,C,y,t,B,x,y0,y1,O,aj⟩:=N.at_ ac;obtain⟨gk,D,mk,I,E,J,G,o0,o1,o2,ai⟩:=g.at_ (zAJ F b k j);have az:=g.fro (k*3);have of1:=g.fro (k*3+1);have aO:=g.fro (k*3+2);have bg:mw (ftP F b k j)<=2*X:=by unfold ftP;rw[zaj λi hi=>by rw[<-znE F b (i:=i) (j:=k) (k:=n) ω ω]];exact(b9.o k L).2 j hj
  have bh:=cf.o.up j ak k L;have bG:(0:Int)<=(k:Int):=Zg _;have bH:(k:Int)<(n:Int):=ω;have c8:(0:Int)<=(j:Int):=Zg _;have c9:(j:Int)<(n:Int):=ω;by_cases ab:j<k
  ·obtain⟨U,P,V,cc,Q,W,T,z0,z1,z2,ax⟩:=g.at_ (zAK F b (j:=j) ab);refine μ5 (aj) (ai) (g) (Bel.mk d) (ax) λaa av R HW aF=>?_;have a3:=zab d k0;have aP:=zaa a3
   have a4:=zab d k1;have aQ:=zaa a4;have a6:=zab d k2;have aR:=zaa a6;have a5:=Y;have aS:=zaa a5;have a7:=y0;have aT:=zaa a7;have a9:=y1;have aU:=zaa a9;have ba:=O;have aV:=zaa ba;have bb:=z0;have aW:=zaa bb;have bc:=z1;have aX:=zaa bc;have bd:=z2;have aY:=zaa bd;have b1:=o0;have bR:=zaa b1;have b3:=o1;have bS:=zaa b3;have b4:=o2;have bT:=zaa b4;have bv:=un (zAL F b k j);have bf:=(b9.o j ak).1;rw[znE F b (i:=j) (j:=k) (k:=n) ab ω]at bf;have L1:=un (show 4*(mw (en F.up j k)+mw (el (zbX F b k) j))+8<=LIM by have:=aC.o;omega);have L2:=un (show 4*(mw (ftP F b k j)+mw (en F.up j k*el (zbX F b k) j))+8<=LIM by have:=aC.o;have:=zdI (en F.up j k) (el (zbX F b k) j);omega);clear g d ae af ad ac N aj ax ai bf bg bh Y y0 y1 O z0 z1 z2;go_wp2_with fail
   refine za2 (S:=λw'=>χ w' q 0 (lA,n,lc)/\χ w' q 1 (M,n,uc)/\χ w' q 2 (pA,n,pc)/\χ w' M j (o,n,cr)/\χ w' o (k*3) (.bool z)/\χ w' o (k*3+1) (s,C,y)/\χ w' o (k*3+2) (t,B,x)/\χ w' l (j*3) (.bool U)/\χ w' l (j*3+1) (P,V,cc)/\χ w' l (j*3+2) (Q,W,T)/\χ w' l (k*3) (.bool gk)/\χ w' l (k*3+1) (D,mk,I)/\χ w' l (k*3+2) (E,J,G)) 23 (h:=λhHeld=>?_);refine zaw [0,1,2,3,4,5,6,7,8,9,10,11,12,13,14,15,16,17,18,19] ?_;repeat refine tkE hHeld ?_
   refine zao ?_;refine zaN 20 (h:=λK m=>?_);go_simp;(go_at_call 29;(with_reducible refine(Rt.mul z s C y t B x (en F.up j k) U P V cc Q W T (el (zbX F b k) j) _ aa.o.drew aF.o.drew L1.o).mono ?_);rintro e u1 ⟨g1,A1,m1,c1,D1,md1,cd1,rfl,r,a⟩;refine μ6 (aa.o.drew.below a) (av.o.drew.below a) (R.o.drew.below a) (HW.o.drew.below a) (aF.o.drew.below a) (r) λbo bm ag a8 b2 HM=>?_;have bi:=zab a aP;have bj:=zab a aQ;have bk:=zab a aR;have ao:=zab a aS;have cE:=zaa ao;have bl:=zab a aT;have bn:=zab a aU;have bp:=zab a aV;have ap:=zab a aW;have cF:=zaa ap;have aq:=zab a aX;have cG:=zaa aq;have ar:=zab a aY;have cH:=zaa ar;have bX:=zab a bR;have bY:=zab a bS;have bZ:=zab a bT;clear r a);(try go_wp2_with fail);refine shutOn m λhHeld=>?_;clear m K;refine zaN 21 (h:=λK m=>?_);go_simp;(go_at_call 31;(with_reducible refine(Rt.sub gk D mk I E J G (ftP F b k j) g1 A1 m1 c1 D1 md1 cd1 (en F.up j k*el (zbX F b k) j) _ bm.o HM.o L2.o).mono ?_);rintro e u2 ⟨g2,A2,m2,c2,D2,md2,cd2,rfl,r,a⟩;refine μ6 (bo.o.below a) (ag.o.below a) (a8.o.below a) (b2.o.below a) (HM.o.below a) (r) λds Z b5 dr dg HS=>?_;have dh:=zab a bi;have di:=zab a bj;have dj:=zab a bk;have b0:=zab a ao;have dc:=zaa b0;have dk:=zab a bl;have dl:=zab a bn;have dq:=zab a bp;have bU:=zab a ap;have dd:=zaa bU;have bV:=zab a aq;have de:=zaa bV;have bW:=zab a ar;have df:=zaa bW;have dm:=zab a bX;have dn:=zab a bY;have dp:=zab a bZ;have az:=Z.o.fro (k*3);have of1:=Z.o.fro (k*3+1);have aO:=Z.o.fro (k*3+2);clear r a);(try go_wp2_with fail);refine shutOn m λhHeld=>?_;clear m K;refine zaw [22] ?_;repeat refine tkE hHeld ?_
   refine zao ?_;refine zba (h:=λK m=>?_);go_simp;refine shutOff m ?_;clear m K;refine za1 (h:=?_);go_wp2;go_roundw
   case rel=>exact⟨j+1,by go_num,ω,by rw[<-bv.o];exact Z.o.store k HS.o,(Bel.set3 b5.o aL _ _ _).b⟩
   case measure=>simp[intOf];omega
  obtain rfl:k=j:=ω;refine μ4 (aj) (ai) (g) (Bel.mk d) λaa av R HW=>?_;have a3:=zab d k0;have aP:=zaa a3;have a4:=zab d k1;have aQ:=zaa a4;have a6:=zab d k2;have aR:=zaa a6;have a5:=Y;have aS:=zaa a5;have a7:=y0;have aT:=zaa a7;have a9:=y1;have aU:=zaa a9;have ba:=O;have aV:=zaa ba;have bb:=o0;have aW:=zaa bb;have bc:=o1;have aX:=zaa bc;have bd:=o2;have aY:=zaa bd;refine μ3 (zAI F b k) (HD.o k L) (show 4*(mw (ftP F b k k)+mw (en F.up k k))+8<=LIM by have:=aC.o;omega) λcX cS L1=>?_;clear g d ae af ad ac N aj ai bg bh Y y0 y1 O;go_wp2_with fail
  refine wp_region_held_drew (S:=λw'=>χ w' q 0 (lA,n,lc)/\χ w' q 1 (M,n,uc)/\χ w' q 2 (pA,n,pc)/\χ w' M k (o,n,cr)/\χ w' o (k*3) (.bool z)/\χ w' o (k*3+1) (s,C,y)/\χ w' o (k*3+2) (t,B,x)) ξ kp λhHeld=>?_;refine zaw [0,1,2,3,4,6,7,8,9,10,11,12,13,14,15] ?_;repeat refine tkH hHeld ?_
  refine zao ?_;refine wpAnyH_ready (rs:=[5]) ξ σ ?_;refine AllReadyH.cons rfl (λK m=>?_) AllReadyH.nil;go_simp
  skip
  (try go_wp2_with fail);refine m.o _ _ kp λhHeld=>?_;clear m K;try simp only[Act.put,pu1,pu2,pu3,pu4,pu5,pu6]
  refine wpAnyH_ready (rs:=[16]) ξ σ ?_;refine AllReadyH.cons rfl (λK m=>?_) AllReadyH.nil;go_simp;(go_at_call 159;(with_reducible refine(Rt.div gk D mk I E J G (ftP F b k k) z s C y t B x (en F.up k k) _ av.o.drew aa.o.drew cS.o L1.o).mono ?_);rintro e u1 ⟨g2,A2,m2,c2,D2,md2,cd2,rfl,r,a⟩;refine μ5 (aa.o.drew.below a) (av.o.drew.below a) (R.o.drew.below a) (HW.o.drew.below a) (r) λbo bm ag a8 HS=>?_;have bi:=zab a aP;have bj:=zab a aQ;have bk:=zab a aR;have ao:=zab a aS;have cE:=zaa ao;have bl:=zab a aT;have bn:=zab a aU;have bp:=zab a aV;have ap:=zab a aW;have cF:=zaa ap;have aq:=zab a aX;have cG:=zaa aq;have ar:=zab a aY;have cH:=zaa ar;have az:=ag.o.fro (k*3);have of1:=ag.o.fro (k*3+1);have aO:=ag.o.fro (k*3+2);clear r a);(try go_wp2_with fail);refine m.o _ _ kp λhHeld=>?_;clear m K;try simp only[Act.put,pu1,pu2,pu3,pu4,pu5,pu6]
  refine zaw [17,18,19,20] ?_;repeat refine tkH hHeld ?_
  refine zao ?_;refine wpAnyH_ready (rs:=[21]) ξ σ ?_;refine AllReadyH.cons rfl (λK m=>?_) AllReadyH.nil;go_simp
  skip
  (try go_wp2_with fail);refine m.o _ _ kp λhHeld=>?_;clear m K;try simp only[Act.put,pu1,pu2,pu3,pu4,pu5,pu6]
  refine wpAnyH_done ξ ?_ _;go_wp2;go_roundw
  case rel=>exact⟨k+1,by go_num,ω,by rw[<-cX.o];exact ag.o.store k HS.o,(Bel.set3 a8.o aL _ _ _).b⟩
  case measure=>simp[intOf];omega
 obtain rfl:n=k:=ω;have c3:=un (show VecS _ w (Az,n,cz) (zbX F b n)by rw[<-zAM F b7.o.symm];exact g);have cQ:=un d;clear g d;go_wp2
 go_loopw [10] (λi wr=>∃k:Nat,i=.int .i64 ((k:Int)-1)/\k<=n/\VecS wr w (Az,n,cz) (btO F (zbX F b n) n k)/\Below w w wr)
  (λi _=>(intOf i+1).toNat)
 case atStart=>exact⟨n,rfl,Za _,by rw[zzm F (zbT _ _ _)];exact c3.o,cQ.o⟩
 rename World=>wy
 obtain⟨k,rfl,hk,g,d⟩:=hrel;cases k with
 | zero =>
  rw[zwn]at g;refine μ5 (aD.o.below d) (aw.o.below d) (bu.o.below d) (show VecS wy w (Az,n,cz) (luW n F b)from g) (BB.o.trans ((d).mono BB.o.size)) λcI cJ bq ce a2=>?_;have aA:=zab d k0;have cB:=zaa aA;have aB:=zab d k1;have cC:=zaa aB;have an:=zab d k2;have cD:=zaa an;clear g d;rw[show((0:Nat):Int)-1 = -1 from rfl];go_wp2_with (at_make;go_must (refine zdv rfl _ _ rfl n _ rfl rfl rfl (by have:=HN.o;omega) wy.heap.size rfl ?_;intro wq ho bE;have cU:=un ho;have cN:=un bE;have q3:=zab bE an;clear ho bE))
  go_loopw [118] (λi wr=>∃k:Nat,i=.int .i64 k/\k<=n/\VecS wr wy (wy.heap.size,n,n) (back F.perm (luW n F b) k (List.replicate n 0))/\Below wy wy wr)
   (λi _=>n-(intOf i).toNat)
  case atStart=>exact⟨0,rfl,Zb _,cU.o,cN.o⟩
  rename World=>wz
  obtain⟨k,rfl,dz,g,d⟩:=hrel;by_cases bJ:k<n
  ·have bK:F.perm[k]? = some (F.perm.getD k 0):=zaO (by rw[aH.o.pl];exact bJ);have da:=HP.o k bJ;have bM:(back F.perm (luW n F b) k (List.replicate n 0)).set (F.perm.getD k 0) (el (luW n F b) k)=back F.perm (luW n F b) (k+1) (List.replicate n 0):=rfl;generalize F.perm.getD k 0=p at bK da bM;have cY:=un bM;have be:(back F.perm (luW n F b) k (List.replicate n 0)).length=n:=by rw[zjk];simp
   have cv:=zaH (xs:=back F.perm (luW n F b) k (List.replicate n 0)) (j:=p) ω;have cx:=zaH (xs:=luW n F b) (j:=k) (by rw[zAY];exact bJ);obtain⟨bP,rfl,_,_⟩:=bq.o.has ω;obtain⟨l,rfl,aL,_⟩:=ce.o.has ω;have p0:=(bq.o.below d).at_ bK;obtain⟨ga,Aa,ma,ca,Da,bQ,bC,y0,y1,O,ch⟩:=(ce.o.below d).at_ cx;obtain⟨go,Ao,mo,co,Do,dC,dv,o0,o1,o2,_⟩:=g.at_ cv;have az:=g.fro (p*3);have of1:=g.fro (p*3+1);have aO:=g.fro (p*3+2);refine μ3 (ch) (g) (Bel.mk d) λHQ c4 c5=>?_;have dI:=zab d aA;have dJ:=zab d aB;have dK:=zab d an;have dL:χ wz bP k (.int .i64 (p:Int)):=p0;have dM:χ wz l (k*3) (.bool ga):=y0;have dN:χ wz l (k*3+1) (Aa,ma,ca):=y1;have dO:χ wz l (k*3+2) (Da,bQ,bC):=O;clear g d bK bM be cv cx ch p0 y0 y1 O;have cj:(0:Int)<=(k:Int):=Zg _;have cm:(k:Int)<(n:Int):=ω;have bG:(0:Int)<=(p:Int):=Zg _;have bH:(p:Int)<(n:Int):=ω;have dx:wz.drew.frozen? ⟨wy,p*3,none⟩=false:=az;have dw:=zaa o0;go_wp2_with fail
   refine za2 (S:=λw'=>χ w' q 0 (lA,n,lc)/\χ w' q 1 (uA,n,uc)/\χ w' q 2 (bP,n,pc)/\χ w' bP k (.int .i64 (p:Int))/\χ w' l (k*3) (.bool ga)/\χ w' l (k*3+1) (Aa,ma,ca)/\χ w' l (k*3+2) (Da,bQ,bC)) 13 (h:=λhHeld=>?_);refine zaw [0,1,2,3,4,5,6,7,8,9,10,11,12] ?_;repeat refine tkE hHeld ?_
   refine zao ?_;refine zba (h:=λK m=>?_);go_simp;refine shutOff m ?_;clear m K;refine za1 (h:=?_);go_wp2;go_roundw
   case rel=>exact⟨k+1,by go_num,ω,by rw[<-cY.o];exact c4.o.drew.store p HQ.o.drew,(Bel.set3 c5.o.drew (Za _) _ _ _).b⟩
   case measure=>simp[intOf];omega
  obtain rfl:n=k:=ω;have cZ:=un g;have cO:=un (a2.o.trans (d.mono a2.o.size));have db:=a2.o.size;clear g d;go_wp2;refine Zi (v:=.tuple #[(wy.heap.size,n,n),true]) (by simp[results,results161,go_sem]) rfl ?_;exact⟨_,_,_,rfl,cZ.o.base db,cO.o⟩
 | succ k =>
  have L:k<n:=ω;rw[show((k+1:Nat):Int)-1=(k:Int)by omega];obtain⟨l,rfl,aL,_⟩:=g.has ω;have R:=un g;have bw:=un d;clear g;refine μ4 (aD.o.below d) (aw.o.below d) (bu.o.below d) (BB.o.trans ((d).mono BB.o.size)) λcI cJ bq a2=>?_;have aA:=zab d k0;have cB:=zaa aA;have aB:=zab d k1;have cC:=zaa aB;have an:=zab d k2;have cD:=zaa an;clear d;have cj:(0:Int)<=(k:Int):=Zg _;have cm:(k:Int)<(n:Int):=ω;go_wp2
  go_loopw [11] (λi wr=>∃j:Nat,i=((k+1+j:Nat):Int)/\k+1+j<=n/\VecS wr w (l,n,cz) (btI F (zbX F b n) n k j)/\Below w w wr)
   (λi _=>n-(intOf i).toNat)
  case atStart=>exact⟨0,by go_num,ω,by rw[zwm F (zbT _ _ _) L];exact R.o,bw.o⟩
  rename World=>wz
  obtain⟨j,rfl,hj,g,d⟩:=hrel;by_cases ab:k+1+j<n
  ·have ae:F.lo[k+1+j]? = some (F.lo.getD (k+1+j) []):=zaO (by rw[aH.o.ll];exact ab);have af:=aH.o.lr (k+1+j) ab;have ad:en F.lo (k+1+j) k=el (F.lo.getD (k+1+j) []) k:=rfl;generalize F.lo.getD (k+1+j) []=rw_ at ae af ad;have ac:=zaH (xs:=rw_) (j:=k) ω;rw[<-ad]at ac;obtain⟨M,rfl,_,_⟩:=aD.o.has ω;obtain⟨Ar,cr,_,Y,N⟩:=(aD.o.below d).at_ ae;rw[af]at Y N;obtain⟨o,rfl,_,_⟩:=N.has ω;obtain⟨z,s,C,y,t,B,x,y0,y1,O,aj⟩:=N.at_ ac
   obtain⟨gk,D,mk,I,E,J,G,o0,o1,o2,ai⟩:=g.at_ (zzk F j (zbT F b n) L);have az:=g.fro (k*3);have of1:=g.fro (k*3+1);have aO:=g.fro (k*3+2);obtain⟨U,P,V,cc,Q,W,T,z0,z1,z2,ax⟩:=g.at_ (zwk F j (zbT F b n) ab);have bF:el (zlK F n (zbX F b n) (n-(k+1))) j=el (luW n F b) (k+1+j):=(zka F n (zbX F b n) (f:=n) (j:=k+1) ω j).symm;rw[bF]at ax;have cs:btP F (zbX F b n) n k j=el (zbX F b n) k-zai j (λc=>en F.lo (k+1+c) k*el (luW n F b) (k+1+c)):=by unfold btP;rw[zaj λc hc=>by rw[<-zka F n (zbX F b n) (f:=n) (j:=k+1) ω c]];rfl
   have bv:=un (show(btI F (zbX F b n) n k j).set k (btP F (zbX F b n) n k j-en F.lo (k+1+j) k*el (luW n F b) (k+1+j))=btI F (zbX F b n) n k (j+1)by rw[<-bF];exact zzl F j (zbT F b n) L);have bf:=(cd.o (k+1+j) ab).1;have bg:mw (btP F (zbX F b n) n k j)<=2*X:=by rw[cs];exact(cd.o k L).2 j ω
   have bh:=cf.o.lo (k+1+j) ab k L;generalize hc0:k+1+j=c at *
   generalize btP F (zbX F b n) n k j=pk at *
   refine μ6 hc0 (aj) (ax) (ai) (g) (Bel.mk d) λb8 aa aF av R HW=>?_;have a3:=zab d k0;have aP:=zaa a3;have a4:=zab d k1;have aQ:=zaa a4;have a6:=zab d k2;have aR:=zaa a6;have a5:=Y;have aS:=zaa a5;have a7:=y0;have aT:=zaa a7;have a9:=y1;have aU:=zaa a9;have ba:=O;have aV:=zaa ba;have bb:=z0;have aW:=zaa bb;have bc:=z1;have aX:=zaa bc;have bd:=z2;have aY:=zaa bd;have b1:=o0;have bR:=zaa b1;have b3:=o1;have bS:=zaa b3;have b4:=o2;have bT:=zaa b4;have L1:=un (show 4*(mw (en F.lo c k)+mw (el (luW n F b) c))+8<=LIM by have:=aC.o;omega);have L2:=un (show 4*(mw pk+mw (en F.lo c k*el (luW n F b) c))+8<=LIM by have:=aC.o;have:=zdI (en F.lo c k) (el (luW n F b) c);omega);clear g d ae af ad ac N aj ax ai bf bg bh bF cs hc0 Y y0 y1 O z0 z1 z2;have bG:(0:Int)<=(k:Int):=Zg _;have bH:(k:Int)<(n:Int):=ω;have c8:(0:Int)<=(c:Int):=Zg _;have c9:(c:Int)<(n:Int):=ω;go_wp2_with fail
   refine za2 (S:=λw'=>χ w' q 0 (M,n,lc)/\χ w' q 1 (uA,n,uc)/\χ w' q 2 (pA,n,pc)/\χ w' M c (o,n,cr)/\χ w' o (k*3) (.bool z)/\χ w' o (k*3+1) (s,C,y)/\χ w' o (k*3+2) (t,B,x)/\χ w' l (c*3) (.bool U)/\χ w' l (c*3+1) (P,V,cc)/\χ w' l (c*3+2) (Q,W,T)/\χ w' l (k*3) (.bool gk)/\χ w' l (k*3+1) (D,mk,I)/\χ w' l (k*3+2) (E,J,G)) 23 (h:=λhHeld=>?_);refine zaw [0,1,2,3,4,5,6,7,8,9,10,11,12,13,14,15,16,17,18,19] ?_;repeat refine tkE hHeld ?_
   refine zao ?_;refine zaN 20 (h:=λK m=>?_);go_simp;(go_at_call 29;(with_reducible refine(Rt.mul z s C y t B x (en F.lo c k) U P V cc Q W T (el (luW n F b) c) _ aa.o.drew aF.o.drew L1.o).mono ?_);rintro e u1 ⟨g1,A1,m1,c1,D1,md1,cd1,rfl,r,a⟩;refine μ6 (aa.o.drew.below a) (aF.o.drew.below a) (av.o.drew.below a) (R.o.drew.below a) (HW.o.drew.below a) (r) λbo b2 bm ag a8 HM=>?_;have bi:=zab a aP;have bj:=zab a aQ;have bk:=zab a aR;have ao:=zab a aS;have cE:=zaa ao;have bl:=zab a aT;have bn:=zab a aU;have bp:=zab a aV;have ap:=zab a aW;have cF:=zaa ap;have aq:=zab a aX;have cG:=zaa aq;have ar:=zab a aY;have cH:=zaa ar;have bX:=zab a bR;have bY:=zab a bS;have bZ:=zab a bT;clear r a);(try go_wp2_with fail);refine shutOn m λhHeld=>?_;clear m K;refine zaN 21 (h:=λK m=>?_);go_simp;(go_at_call 31;(with_reducible refine(Rt.sub gk D mk I E J G pk g1 A1 m1 c1 D1 md1 cd1 (en F.lo c k*el (luW n F b) c) _ bm.o HM.o L2.o).mono ?_);rintro e u2 ⟨g2,A2,m2,c2,D2,md2,cd2,rfl,r,a⟩;refine μ6 (bo.o.below a) (b2.o.below a) (ag.o.below a) (a8.o.below a) (HM.o.below a) (r) λds dr Z b5 dg HS=>?_;have dh:=zab a bi;have di:=zab a bj;have dj:=zab a bk;have b0:=zab a ao;have dc:=zaa b0;have dk:=zab a bl;have dl:=zab a bn;have dq:=zab a bp;have bU:=zab a ap;have dd:=zaa bU;have bV:=zab a aq;have de:=zaa bV;have bW:=zab a ar;have df:=zaa bW;have dm:=zab a bX;have dn:=zab a bY;have dp:=zab a bZ;have az:=Z.o.fro (k*3);have of1:=Z.o.fro (k*3+1);have aO:=Z.o.fro (k*3+2);clear r a);(try go_wp2_with fail);refine shutOn m λhHeld=>?_;clear m K;refine zaw [22] ?_;repeat refine tkE hHeld ?_
   refine zao ?_;refine zba (h:=λK m=>?_);go_simp;refine shutOff m ?_;clear m K;refine za1 (h:=?_);go_wp2;go_roundw
   case rel=>exact⟨j+1,by have:=b8.o;subst this;go_num,by have:=b8.o;omega,by rw[<-bv.o];exact Z.o.store k HS.o,(Bel.set3 b5.o aL _ _ _).b⟩
   case measure=>simp[intOf];omega
  have ak:j=n-(k+1):=ω;rw[ak,zwl F (zbT F b n) L]at g;have c0:=un g;have cP:=un d;clear g d ak;have bG:(0:Int)<=(k:Int):=Zg _;have bH:(k:Int)<(n:Int):=ω;go_wp2;go_roundw
  case rel=>exact⟨k,by go_num,ω,c0.o,cP.o⟩
  case measure=>first | (simp[intOf];done) | (simp[intOf];omega)
end Lu
end Go.Proofs.YtbpjabgfcbjjmaaGreat
namespace Go.Proofs.YtbpjabgfcbjjmaaGreat
open Go.RowKit Am Tryz
attribute [local go_sem ↓] Go.wp_at_zero Go.wp_at_succ
variable {x:Int}{L:List (List Rat)}{xs:List Nat}{rows:List PRow}{qs r:List Rat}{l ll ul:List Value}{H N a b c c' g i j k lc n uc z:Nat}{A:OA}{v:Value}{w:World}
def zcells (xs:List Int):List Value:=xs.map λx=>.int .i64 x
def zmo(xs:List Int):(zcells xs).length=xs.length:=by simp[zcells]
def zsA(xs:List Int):∀u∈zcells xs,u.oneCell'=true:=by intro u a;simp only[zcells,ZH]at a;obtain⟨x,_,rfl⟩:=a;rfl
structure IntsZ (w:World) (H:Nat) (v:Value) (xs:List Int):Prop where
  own:w.ownsRow H 3 1 v xs.length (zcells xs)
def IntsS.toZ(h:IntsS w H v xs):IntsZ w H v (xs.map fun(x:Nat)=>(x:Int)):=⟨by have:=h.own;rw[ZK];unfold zcells;rw[List.map_map];exact this⟩
def IntsZ.toS(h:IntsZ w H v (xs.map fun(x:Nat)=>(x:Int))):IntsS w H v xs:=⟨by have:=h.own;rw[ZK]at this;unfold zcells at this;rw[List.map_map]at this;exact this⟩
namespace IntsZ
variable {w w':World} {H:Nat} {v:Value} {xs:List Int}
def keep(h:IntsZ w H v xs)(hk:∀k,v.ownBlock=some k->w'.heap[k]? = w.heap[k]?):IntsZ w' H v xs:=⟨zc9 h.own hk⟩
def below(h:IntsZ w H v xs)(a:Below w w w'):IntsZ w' H v xs:=h.keep λk hk=>a.block k (h.own.lt k hk).2
def alloc(h:IntsZ w H v xs)(o:Obj):IntsZ (w.alloc o) H v xs:=h.below (zae w o)
def drew(h:IntsZ w H v xs):IntsZ w.drew H v xs:=h.below (zap w 1)
def base(h:IntsZ w H v xs)(d:a<=H):IntsZ w a v xs:=⟨zbu h.own d⟩
theorem nil(w:World)(H:Nat):IntsZ w H () []:=⟨Xs _ _ _ _⟩
def tk{t:TypeId}(h:IntsZ w H v xs)(hk:TKeep t w w')(h1:3≠t):IntsZ w' H v xs :=
 h.keep λk a=>hk k (h.own.lt k a).2 λcs e=>za6 h.own e h1 a
def form(h:IntsZ w H (A,n,c) xs):n=xs.length/\n<=c/\c<=maxLen/\((A=none/\c=0/\xs=[])\/∃g,A=some ⟨g,0,none⟩/\H<=g/\g<w.heap.size):=by
 rcases h.own.2 with ⟨d,a⟩ | ⟨g,cap,cur,d,hg,e,a,hm,_⟩
 injection d with e1 e2 e3;subst e1 e2 e3;exact⟨a.symm,Za _,Zb _,.inl ⟨rfl,rfl,Xo.1 a⟩⟩;grind
def len(h:IntsZ w H (A,n,c) xs):n=xs.length:=h.form.1
def has(h:IntsZ w H (A,n,c) xs)(f:0<n):∃g,A=some ⟨g,0,none⟩/\H<=g/\g<w.heap.size:=by obtain⟨h1,d,e,a | a⟩:=h.form;omega;exact a
def slice(h:IntsZ w H v xs):∃A c,v=.slice A xs.length c:=by
 rcases h.own.2 with ⟨a,d⟩ | ⟨g,cap,cur,a,_⟩
 exact⟨_,_,by rw[a,d]⟩;grind
def fro(h:IntsZ w H (b,n,c) xs)(j:Nat):w.frozen? ⟨b,j,none⟩=false:=by have a:=h.len;subst a;exact h.own.frozenAt j
def at_(h:IntsZ w H (b,n,c) xs)(hk:xs[k]? = some x):χ w b k (.int .i64 x):=by have a:=h.len;subst a;have d:=(ZF.1 hk).1;rw[h.own.cellAt _ ω];simp[zcells,hk]
def cut(h:IntsZ w H (b,n,c) xs)(hk:k<=n):IntsZ w H (b,k,c) (xs.take k):=by
 have i:=h.len;subst i;have hl:(xs.take k).length=k:=by rw[ZI];omega
 refine⟨?_⟩;rw[hl];refine⟨by rw[zmo,hl];omega,?_⟩;rcases h.own.2 with ⟨a,_⟩ | ⟨g',l,cur,a,d,hg,o,f,g,j⟩
 simp at a;simp only[Value.slice.injEq,Option.some.injEq,Addr.mk.injEq,and_true,true_and]at a;obtain⟨rfl,rfl⟩:=a;refine .inr ⟨b,c,cur,rfl,d,hg,ω,f,g,?_⟩;have e:zcells (xs.take k)=(zcells xs).take k:=by simp[zcells]
 rw[e,<-j,YX,XB,XB,XD hk]
end IntsZ
def zv3 (w:World) (xs:List Int) (e:Ending) (w':World):Prop:=∃(A:OA) (c:Nat),e=.returned (A,xs.length,c)/\IntsZ w' w (A,xs.length,c) xs/\Below w w w'
namespace Sl
def clone(A:OA)(n c:Nat)(xs:List Int)(H:Nat)(w:World)(h:IntsZ w H (A,n,c) xs)(f:n<=1000000):Calls prog 115 #[(A,n,c)] w (zv3 w xs):=by
 obtain⟨E,l,i,hf⟩:=h.form;subst E;rcases hf with ⟨rfl,rfl,rfl⟩ | ⟨g,rfl,hg,D⟩
 ·clear h l i f;have G:=fun(w:World)=>Yz (P:=prog) w 41 3 none 0 0 0 0 underlying41
  go_enter func115,ntmps115;go_wp2;go_ret;exact⟨_,_,rfl,IntsZ.nil _ _,Zl _ _⟩
 have d:=λj u a=>h.own.cells (g:=g) rfl j u a
 have G:=fun(w:World)=>Yz (P:=prog) w 41 3 (some ⟨g,0,none⟩) xs.length c 0 0 underlying41
 obtain⟨L,hi,I,J,K⟩:=info_parts znF;have p:=VA (e:=3) (size:=1) (base:=w.heap.size) w #[] 0 (Za _) (by unfold maxLen;omega) rfl
 have o:∀j u,(zcells xs)[j]? = some u->(w.alloc (.cells #[] 3)).cell? ((⟨g,0,none⟩:Addr).add j)=some u:=λj u a =>
  (YI w _ _ (Yg w _ (d j u a))).trans (d j u a)
 refine μ4 p o (show 0+xs.length<=maxLen by unfold maxLen;omega) (show(0+xs.length)*8<=140737488355328 by omega) λB z x y=>?_;go_enter func115,ntmps115;go_wp2_with (at_builtin;refine wpList_append_own _ rfl _ _ 41 rfl w.heap.size 3 L (.int .i64 0) 1 8 underlying41 hi I J K rfl δ _ _ _ rfl B.o ⟨g,0,none⟩ xs.length c (zcells xs) rfl (by rw[zmo];omega) z.o (zsA xs) x.o y.o σ ?_;intro M w1 r C O)
 go_ret;rw[Xc,XY]at r;have s:IntsZ w1 w M xs:=⟨r⟩
 obtain⟨t,c',rfl⟩:=s.slice;exact⟨t,c',rfl,s,(zae w _).trans ((Zl _ _).grown C σ (λk hk=>by cases hk;exact Za _))⟩
def index(A:OA)(n c:Nat)(xs:List Int)(x:Int)(H:Nat)(w:World)(h:IntsZ w H (A,n,c) xs) :
  Calls prog 174 #[(A,n,c),.int .i64 x] w λe w'=>(∃i:Int,e=.returned (.int .i64 i)/\((x∈xs/\0<=i)\/(x ∉ xs/\i = -1)))/\Below w w w':=by
 have o:=un h.len;have hf:=h.form;have z:=un h;have K:n<=9223372036854775807:=by have D:=hf.2.2.1;unfold maxLen at D;omega
 go_enter func174,ntmps174;go_wp2
 go_loopw [8] (λi wr=>∃k:Nat,i=.int .i64 k/\k<=n/\Below w w wr/\∀j,j<k->xs[j]? ≠ some x)
  (λi _=>n-(intOf i).toNat)
 case atStart=>exact⟨0,rfl,Zb _,Zl _ _,λj hj=>absurd hj (ZS _)⟩
 obtain⟨k,rfl,hk,a,d⟩:=hrel;have g:=un a;have u:=un d;by_cases s:k<n
 ·have r:=un (z.o.below a);obtain⟨b,rfl,G,I⟩:=r.o.has ω;have f:xs[k]? = some (xs[k]'(by rw[<-o.o];exact s)):=Ze _;generalize xs[k]'(by rw[<-o.o];exact s)=y at f;have L:=r.o.at_ f;have p:=un f;have E:(0:Int)<=(k:Int):=Zg _;have J:(k:Int)<(n:Int):=ω
  by_cases e:x=y
  ·subst e;have B:(x == x)=true:=σ
   have t:=un (Zj p.o);go_wp2;go_ret;exact⟨⟨_,rfl,.inl ⟨t.o,E⟩⟩,g.o⟩
  have B:(x == y)=false:=by simpa using e
  have l:=un (show ∀j,j<k+1->xs[j]? ≠ some x from λj hj=>by by_cases C:j=k;rw[C,p.o];intro h;injection h with h;exact e h.symm;exact u.o j ω);go_wp2;go_roundw
  case rel=>exact⟨k+1,by go_num,ω,g.o,l.o⟩
  case measure=>simp[intOf];omega
 obtain rfl:n=k:=ω;have l:=un (show x ∉ xs from λhm=>by obtain⟨j,hj⟩:=Xh.1 hm;exact d j (by rw[o.o];exact(ZF.1 hj).1) hj);go_wp2;go_ret;exact⟨⟨_,rfl,.inr ⟨l.o,rfl⟩⟩,g.o⟩
def has(A:OA)(n c:Nat)(xs:List Int)(x:Int)(H:Nat)(w:World)(h:IntsZ w H (A,n,c) xs) :
  Calls prog 145 #[(A,n,c),.int .i64 x] w λe w'=>e=.returned (.bool (decide (x∈xs)))/\Below w w w':=by
 by_cases hm:x∈xs
 ·rw[ZG hm];have f:=un hm;go_enter func145,ntmps145;go_wp2_with fail
  refine(index A n c xs x H _ h).mono ?_;rintro e w1 ⟨⟨i,rfl,hi | hi⟩,a⟩
  ·have d:=un a;have h0:=hi.2;go_wp2;go_ret
   exact⟨rfl,d.o⟩
  exact absurd f.o hi.1
 rw[ZJ hm];have f:=un hm;go_enter func145,ntmps145;go_wp2_with fail
 refine(index A n c xs x H _ h).mono ?_;rintro e w1 ⟨⟨i,rfl,hi | hi⟩,a⟩;exact absurd hi.1 f.o;obtain⟨_,rfl⟩:=hi;have d:=un a;go_wp2;go_ret;exact⟨rfl,d.o⟩
end Sl
structure StdP (w:World) (rA:OA) (rc:Nat) (lA:List Value) (bA:OA) (bc_:Nat) (kA:OA) (kc:Nat) (eA:OA) (ec:Nat) (m N S:Nat) (A:List (List Rat)) (b c:List Rat) (left:List Int):Prop where
  rows:VecsL w 0 (rA,m,rc) lA A
  rl:∀r∈A,r.length=N
  B:VecS w 0 (bA,m,bc_) b
  C:VecS w 0 (kA,N,kc) c
  left:IntsZ w 0 (eA,m,ec) left
  hm:m<=64
  hN:N<=64
  zA:∀r∈A,∀q∈r,mw q<=S
  zb:∀q∈b,mw q<=S
  zc:∀q∈c,mw q<=S
  hS:1<=S
namespace StdP
variable {w w':World} {rA:OA} {rc:Nat} {lA:List Value} {bA:OA} {bc_:Nat} {kA:OA} {kc:Nat} {eA:OA} {ec m N S:Nat} {A:List (List Rat)} {b c:List Rat} {left:List Int}
def below(h:StdP w rA rc lA bA bc_ kA kc eA ec m N S A b c left)(a:Below w w w'):StdP w' rA rc lA bA bc_ kA kc eA ec m N S A b c left :=
 ⟨h.rows.below a,h.rl,h.B.below a,h.C.below a,h.left.below a,h.hm,h.hN,h.zA,h.zb,h.zc,h.hS⟩
def alloc(h:StdP w rA rc lA bA bc_ kA kc eA ec m N S A b c left)(o:Obj):StdP (w.alloc o) rA rc lA bA bc_ kA kc eA ec m N S A b c left:=h.below (zae w o)
def drew(h:StdP w rA rc lA bA bc_ kA kc eA ec m N S A b c left):StdP w.drew rA rc lA bA bc_ kA kc eA ec m N S A b c left:=h.below (zap w 1)
def rect(h:StdP w rA rc lA bA bc_ kA kc eA ec m N S A b c left):Rect m N A :=
 ⟨h.rows.nlen.symm,λi hi=>h.rl _ (Zj (zaO (by rw[<-h.rows.nlen];exact hi)))⟩
def blen(h:StdP w rA rc lA bA bc_ kA kc eA ec m N S A b c left):b.length=m:=h.B.len.symm
def clen(h:StdP w rA rc lA bA bc_ kA kc eA ec m N S A b c left):c.length=N:=h.C.len.symm
def zen(h:StdP w rA rc lA bA bc_ kA kc eA ec m N S A b c left)(hi:i<m)(hj:j<N):mw (en A i j)<=S:=by have e:=zaO (L:=A) (i:=i) (d:=[]) (by rw[<-h.rows.nlen];exact hi);have hm:=Zj e;have a:=h.rl _ hm;exact h.zA _ hm _ (Zj (zaH (by rw[a];exact hj)))
def zcol(h:StdP w rA rc lA bA bc_ kA kc eA ec m N S A b c left)(hj:j<N):∀q∈zb4 A j,mw q<=S:=λq a=>by obtain⟨r,hr,rfl⟩:=ZH.1 a;exact h.zA r hr _ (Zj (zaH (by rw[h.rl r hr];exact hj)))
end StdP
structure TabP (W0 w:World) (H q:Nat) (rA:OA) (rc:Nat) (lA:List Value) (bA:OA) (bc_:Nat) (kA:OA) (kc:Nat) (eA:OA) (ec m N S own:Nat) (A:List (List Rat)) (b c:List Rat) (left:List Int)
    (tA:OA) (tc qb:Nat) (xA:OA) (xc:Nat) (cols:List Nat):Prop where
  blk:θ w q #[(rA,m,rc),(N:Int),(bA,m,bc_),(kA,N,kc),(own:Int),(eA,m,ec),(tA,m,tc),.pointer (some ⟨qb,0,none⟩),(xA,m,xc)] 202
  std:StdP W0 rA rc lA bA bc_ kA kc eA ec m N S A b c left
  bel:Below W0 W0 w
  base:W0.heap.size<=H
  colsI:IntsS w H (tA,m,tc) cols
  basO:zhf w H qb m S (bc A cols) (Value.slice tA m tc).ownBlock
  x:VecS w H (xA,m,xc) (za5 A b cols)
  basis:Basis m N A cols
  own_:H<=q
def zhi (W0 w:World) (H q:Nat) (rA:OA) (rc:Nat) (lA:List Value) (bA:OA) (bc_:Nat) (kA:OA) (kc:Nat) (eA:OA) (ec m N S own:Nat) (A:List (List Rat)) (b c:List Rat) (left:List Int)
    (tA:OA) (tc:Nat) (cols:List Nat):Prop:=∃qb xA xc,TabP W0 w H q rA rc lA bA bc_ kA kc eA ec m N S own A b c left tA tc qb xA xc cols
section
variable {W0 w w':World} {H q:Nat} {rA:OA} {rc:Nat} {lA:List Value} {bA:OA} {bc_:Nat} {kA:OA} {kc:Nat} {eA:OA} {ec m N S own:Nat} {A:List (List Rat)} {b c:List Rat} {left:List Int}
  {tA:OA} {tc qb:Nat} {xA:OA} {xc:Nat} {cols:List Nat}
namespace TabP
def below(h:TabP W0 w H q rA rc lA bA bc_ kA kc eA ec m N S own A b c left tA tc qb xA xc cols)(a:Below w w w'):TabP W0 w' H q rA rc lA bA bc_ kA kc eA ec m N S own A b c left tA tc qb xA xc cols :=
 ⟨zad a h.blk,h.std,h.bel.trans (a.mono h.bel.size),h.base,h.colsI.below a,h.basO.below a,h.x.below a,h.basis,h.own_⟩
def alloc(h:TabP W0 w H q rA rc lA bA bc_ kA kc eA ec m N S own A b c left tA tc qb xA xc cols)(o:Obj):TabP W0 (w.alloc o) H q rA rc lA bA bc_ kA kc eA ec m N S own A b c left tA tc qb xA xc cols:=h.below (zae w o)
def drew(h:TabP W0 w H q rA rc lA bA bc_ kA kc eA ec m N S own A b c left tA tc qb xA xc cols):TabP W0 w.drew H q rA rc lA bA bc_ kA kc eA ec m N S own A b c left tA tc qb xA xc cols:=h.below (zap w 1)
def bas(h:TabP W0 w H q rA rc lA bA bc_ kA kc eA ec m N S own A b c left tA tc qb xA xc cols):zjE w H qb m S (bc A cols):=h.basO.toS
def stdN(h:TabP W0 w H q rA rc lA bA bc_ kA kc eA ec m N S own A b c left tA tc qb xA xc cols):StdP w rA rc lA bA bc_ kA kc eA ec m N S A b c left:=h.std.below h.bel
def hle(h:TabP W0 w H q rA rc lA bA bc_ kA kc eA ec m N S own A b c left tA tc qb xA xc cols):H<=w.heap.size:=h.bas.hle
def toS(h:TabP W0 w H q rA rc lA bA bc_ kA kc eA ec m N S own A b c left tA tc qb xA xc cols):zhi W0 w H q rA rc lA bA bc_ kA kc eA ec m N S own A b c left tA tc cols:=⟨qb,xA,xc,h⟩
end TabP
namespace zhi
def below(h:zhi W0 w H q rA rc lA bA bc_ kA kc eA ec m N S own A b c left tA tc cols)(a:Below w w w'):zhi W0 w' H q rA rc lA bA bc_ kA kc eA ec m N S own A b c left tA tc cols:=by obtain⟨qb,xA,xc,h⟩:=h;exact⟨qb,xA,xc,h.below a⟩
def alloc(h:zhi W0 w H q rA rc lA bA bc_ kA kc eA ec m N S own A b c left tA tc cols)(o:Obj):zhi W0 (w.alloc o) H q rA rc lA bA bc_ kA kc eA ec m N S own A b c left tA tc cols:=h.below (zae w o)
def drew(h:zhi W0 w H q rA rc lA bA bc_ kA kc eA ec m N S own A b c left tA tc cols):zhi W0 w.drew H q rA rc lA bA bc_ kA kc eA ec m N S own A b c left tA tc cols:=h.below (zap w 1)
def hle(h:zhi W0 w H q rA rc lA bA bc_ kA kc eA ec m N S own A b c left tA tc cols):H<=w.heap.size:=by obtain⟨qb,xA,xc,h⟩:=h;exact h.hle
def basis(h:zhi W0 w H q rA rc lA bA bc_ kA kc eA ec m N S own A b c left tA tc cols):Basis m N A cols:=by obtain⟨qb,xA,xc,h⟩:=h;exact h.basis
def std(h:zhi W0 w H q rA rc lA bA bc_ kA kc eA ec m N S own A b c left tA tc cols):StdP W0 rA rc lA bA bc_ kA kc eA ec m N S A b c left:=by obtain⟨qb,xA,xc,h⟩:=h;exact h.std
end zhi
end
def zpB{o:Obj}(h:w.heap[a]? = some o)(d:a≠b)(u v x:Value):(((w.setCell ⟨b,i,none⟩ u).setCell ⟨b,j,none⟩ v).setCell ⟨b,k,none⟩ x).heap[a]? = some o:=by rw[ZE _ _ _ _ d,ZE _ _ _ _ d,ZE _ _ _ _ d];exact h
namespace Bs
def solve(H q n S T:Nat)(C:List (List Rat))(A:OA)(cA:Nat)(v:List Rat)(H':Nat)(w:World)(l:zjE w H q n S C)(f:VecS w H' (A,n,cA) v)(u:n<=64)(zv:∀x∈v,mw x<=T)(hT:1<=T)(bk:zpS n S T<=LIM) :
  Calls prog 147 #[.pointer (some ⟨q,0,none⟩),(A,n,cA)] w (zcd w (zes n C v) true):=by
 obtain⟨b5,cc,lc,K,ql,F,D,eA,ec,le,es,r⟩:=l;have aQ:=zoC r.right.base.1 r.right.base.2.1 r.right.base.2.2 r.fac;refine μ5 u aQ zv hT bk λHN HF dE dD aG=>?_;have dM:es.length<=9223372036854775807:=by have:=r.few;omega
 have dT:n<=9223372036854775807:=ω;refine μ3 r f (Zl w.heap.size w) λI bP BB=>?_;obtain⟨k0,_,k1,_,k2,dW⟩:=bc3 r.blk;refine μ4 (zvq r.right v) (λt (ht:t<=es.length)=>zsc (t:=t) zo5 r.right (v:=v) (T:=T) (λi hi=>zrz zv (by rw[<-f.len];exact hi)) ht) (ywm zo5 aQ.1 (yv8 r.right.base.1 r.right.base.2.2) (λi (hi:i<n)=>zrz zv (by rw[<-f.len];exact hi))) (λt e (E:es[t]? = some e)=>zrn zo5 r.right E) λbN bO bM bz=>?_;go_enter func147,ntmps147;go_wp2_with fail
 refine(Lu.solve K ql n (uB n S) (sB n S T) F A cA v H' _ I.o.lu bP.o HN.o HF.o.1.pr HF.o.2 HF.o.1.piv bM.o (zHx aG.o)).mono ?_
 rintro e w1 ⟨B,n1,c1,rfl,hv1,hb⟩;have HX:=un (hv1);have cL:=un (BB.o.trans ((hb).mono BB.o.size));have cN:=zab hb k2;have dX:=zaa cN;obtain rfl:n=n1:=by rw[HX.o.len,zlb]
 have bT:=un (show VecS w1 w (B,n,c1) (zix n (es.take 0) (zes n D v))by rw[zxE I.o.fac];exact HX.o);go_wp2
 go_loopw [27] (λi wr=>∃t:Nat,i=.int .i64 t/\t<=es.length/\VecS wr w (B,n,c1) (zix n (es.take t) (zes n D v))/\Below w w wr)
  (λi _=>es.length-(intOf i).toNat)
 case atStart=>exact⟨0,rfl,Zb _,bT.o,cL.o⟩
 obtain⟨t,rfl,ht,f,l⟩:=hrel;by_cases cd:t<es.length
 ·obtain⟨⟨k,a⟩,E⟩:∃e,es[t]? = some e:=⟨es[t],Ze cd⟩
  obtain⟨hk,M,aS,aV⟩:=bz.o t _ E
  dsimp only at hk M aS aV
  have aX:=bO.o t ht;have ao:=zsd (n:=n) E (zes n D v)
  dsimp only at ao
  have aW:(zix n (es.take t) (zes n D v)).length=n:=f.len.symm;obtain⟨X,hX⟩:∃X,X=zix n (es.take t) (zes n D v):=⟨_,rfl⟩
  rw[<-hX]at f aX ao aW;refine μ6 ao aW aX aV M aS λbE bU aN aM bR bF=>?_;obtain⟨be,rfl,_,_⟩:=I.o.etas.has ω;obtain⟨Ae,p,y0,y1,z⟩:=(I.o.etas.below l).at_ E
  dsimp only at y0 y1 z
  rw[M]at y1 z;obtain⟨d,rfl,dJ,dK⟩:=z.has ω;obtain⟨bu,b6,_,aC,L⟩:=I.o.etas.at_ E
  dsimp only at aC L
  rw[M]at aC L;have bn:Value.slice bu n b6=.slice (some ⟨d,0,none⟩) n p:=by have h1:=zab l aC;rw[y1]at h1;injection h1 with h1;exact h1.symm
  rw[bn]at L;have bS:=un L;obtain⟨g,rfl,bj,dL⟩:=f.has ω;have bl:=zaH (xs:=a) (j:=k) ω;have bm:=zaH (xs:=X) (j:=k) ω;obtain⟨ga,O,ma,ca,U,av,ad,a0,a1,a2,ba⟩:=f.at_ bm;obtain⟨gb,P,mb,cb,V,aw,ae,b0,b1,b2,bb⟩:=z.at_ bl;refine μ4 (f) (show RatS wr ga (O,ma,ca) (U,av,ad) (el X k)from ba) (show RatS wr gb (P,mb,cb) (V,aw,ae) (el a k)from bb) (Bel.mk l) λHV bG bH HW=>?_;have cM:=zab l k0;have cP:χ wr be (t*2) (.int .i64 (k:Int)):=y0;have cQ:χ wr be (t*2+1) (d,n,p):=y1;have cR:χ wr g (k*3) (.bool ga):=a0;have cV:χ wr g (k*3+1) (O,ma,ca):=a1;have cX:χ wr g (k*3+2) (U,av,ad):=a2;have c0:=b0;have db:χ wr d (k*3+1) (P,mb,cb):=b1;have dl:χ wr d (k*3+2) (V,aw,ae):=b2;refine μ3 (show 4*(mw (el X k)+mw (el a k))+8<=LIM by have h1:=aN.o k hk;have h2:=aM.o k hk;have h3:=zyh aG.o;omega) (show ∀j,j<n->4*(mw (el a j)+mw (el X k/el a k))+8<=LIM/\4*(mw (el X j)+mw (el a j*(el X k/el a k)))+8<=LIM from λj hj=>by have h1:=aN.o k hk;have h2:=aM.o k hk;have h3:=zyh aG.o;have h4:=zo5.div (el X k) (el a k);have h5:=aN.o j hj;have h6:=aM.o j hj;have h7:=zdI (el a j) (el X k/el a k);omega) (zuG (k:=k) (w:=a) bU.o) λL1 L2 bV=>?_;have dN:(0:Int)<=(t:Int):=Zg _;have dO:(t:Int)<(es.length:Int):=ω;have dP:(0:Int)<=(k:Int):=Zg _;have dQ:(k:Int)<(n:Int):=ω;have bi:g≠wr.heap.size:=ω;go_wp2_with fail
  have s:=zae wr (.cells #[(k:Int),(d,n,p)] 248);refine μ4 (HV.o.below s) (bG.o.below s) (bH.o.below s) (HW.o.below s) λdp dA dB dm=>?_;have cO:=zab s cM;have ci:=zaa cO;have cS:=zab s cP;have co:=zaa cS;have cU:=zab s cQ;have cq:=zaa cU;have cT:=zab s cR;have cs:=zaa cT;have cW:=zab s cV;have cu:=zaa cW;have cZ:=zab s cX;have cx:=zaa cZ;have c3:=zab s c0;have cz:=zaa c3;have c4:=zab s db;have cC:=zaa c4;have c5:=zab s dl;have cE:=zaa c5;have dc:χ (wr.alloc (.cells #[(k:Int),(d,n,p)] 248)) wr.heap.size 0 (.int .i64 (k:Int)):=zac (zal _ _ _) 0;have cG:=zaa dc;have c7:χ (wr.alloc (.cells #[(k:Int),(d,n,p)] 248)) wr.heap.size 1 (d,n,p):=zac (zal _ _ _) 1;have cm:=zaa c7;have KE:=un (zal wr #[(k:Int),(d,n,p)] 248);go_cut[] (λwy=>VecS wy w (g,n,c1) (zoA n k a X 0)/\θ wy wr.heap.size #[(k:Int),(d,n,p)] 248/\Below w w wy)
  case first =>
   refine za2 (S:=λw'=>χ w' q 0 (b5,n,cc)/\χ w' be (t*2) (.int .i64 (k:Int))/\χ w' be (t*2+1) (d,n,p)/\χ w' g (k*3) (.bool ga)/\χ w' g (k*3+1) (O,ma,ca)/\χ w' g (k*3+2) (U,av,ad)/\χ w' d (k*3) (.bool gb)/\χ w' d (k*3+1) (P,mb,cb)/\χ w' d (k*3+2) (V,aw,ae)/\χ w' wr.heap.size 0 (.int .i64 (k:Int))/\χ w' wr.heap.size 1 (d,n,p)) 19 (h:=λhHeld=>?_);refine zaw [0,1,2,3,4,5,6,7,8,9,10,11,12,13] ?_;repeat refine tkE hHeld ?_
   refine zao ?_;refine zaN 14 (h:=λK o=>?_);go_simp;(go_at_call 159;(refine(Rt.div ga O ma ca U av ad (el X k) gb P mb cb V aw ae (el a k) _ dA.o.drew dB.o.drew bF.o L1.o).mono ?_);rintro e u1 ⟨g2,A2,m2,c2,D2,md2,cd2,rfl,u,hb⟩;refine μ3 (dp.o.drew.below hb) (dm.o.drew.below hb) (u) λaD cY HS=>?_;have d8:=zab hb ci;have d9:=zab hb co;have ea:=zab hb cq;have eb:=zab hb cs;have ed:=zab hb cu;have ef:=zab hb cx;have eg:=zab hb cz;have eh:=zab hb cC;have ei:=zab hb cE;have ej:=zab hb cG;have ee:=zab hb cm;have bX:=un (zad hb KE.o);have cg:=aD.o.fro (k*3);have of1:=aD.o.fro (k*3+1);have ch:=aD.o.fro (k*3+2));(try go_wp2_with fail);refine shutOn o λhHeld=>?_;refine zaw [15,16] ?_;repeat refine tkE hHeld ?_
   refine zao ?_;refine zfQ (i:=17) (v:=?_) rfl ξ (λ_ _ _ h=>h) (Or.inl ⟨by rfl,?_⟩) ?_
   rotate_left
   ·((intro w b9;(try dsimp only at b9);go_simp);(try rfl))
   try simp only[Act.put,pu1,pu2,pu3,pu4,pu5,pu6]
   refine zaw [18] ?_;repeat refine tkE hHeld ?_
   refine zao ?_;refine zba (h:=λK o=>?_);go_simp;refine shutOff o ?_;refine za1 (h:=?_);go_wp2;go_meet
   case rel=>exact⟨by rw[<-bV.o];exact aD.o.store k HS.o,zpB bX.o (Z6 bi) _ _ _,(Bel.set3 cY.o bj _ _ _).b⟩
  rename World=>wy
  obtain⟨f,y,l⟩:=hcut;refine μ3 f y l λbQ bB bv=>?_;go_wp2
  go_loopw [52] (λi aY=>∃j:Nat,i=.int .i64 j/\j<=n/\VecS aY w (g,n,c1) (zoA n k a X j)/\θ aY wr.heap.size #[(k:Int),(d,n,p)] 248/\Below w w aY)
   (λi _=>n-(intOf i).toNat)
  case atStart=>exact⟨0,rfl,Zb _,bQ.o,bB.o,bv.o⟩
  rename World=>wz
  obtain⟨j,rfl,hj,f,y,l⟩:=hrel;by_cases aR:j<n
  ·have z:=bS.o.below l;have aT:=zaH (xs:=a) (j:=j) (by have:=bR.o;omega);have ap:(zoA n k a X j)[j]? = some (if j=k then el X k/el a k else if j<j then el X j-el a j*(el X k/el a k)else el X j):=zkJ aR;have aq:(zoA n k a X j)[k]? = some (if k=k then el X k/el a k else if k<j then el X k-el a k*(el X k/el a k)else el X k):=zkJ hk;rw[if_pos rfl]at aq;have e0:=zac y 0;have e1:=zac y 1;simp only[Xd,Z8,XJ]at e0 e1
   have dR:(0:Int)<=(j:Int):=Zg _;have dS:(j:Int)<(n:Int):=ω;by_cases an:j=k
   ·obtain rfl:k=j:=an.symm;refine μ3 f y l λJ aI G=>?_;go_wp2;go_roundw
    case rel=>exact⟨k+1,by go_num,ω,by rw[<-zuF];exact J.o,aI.o,G.o⟩
    case measure=>simp[intOf];omega
   rw[if_neg an,if_neg (X5 j)]at ap;obtain⟨gj,Q,mj,cj,W,ax,af,p0,p1,p2,bc⟩:=f.at_ ap;obtain⟨gk,R,mk,ck,Y,ay,ag,r0,r1,r2,bd⟩:=f.at_ aq;obtain⟨gv,Av,mv,cv,Z,az,ah,s0,s1,s2,bf⟩:=z.at_ aT;have bL:=un (zwI (n:=n) (k:=k) (w:=a) (x:=X) an aR);have a4:=un (L2.o j aR);have dU:((j:Int) == (k:Int))=false:=by simp;omega
   refine μ5 (f) (show RatS wz gj (Q,mj,cj) (W,ax,af) (el X j)from bc) (show RatS wz gk (R,mk,ck) (Y,ay,ag) (el X k/el a k)from bd) (show RatS wz gv (Av,mv,cv) (Z,az,ah) (el a j)from bf) (Bel.mk l) λHV bI bJ bK HW=>?_;have c6:=e0;have cl:=zaa c6;have c8:χ wz wr.heap.size 1 (d,n,p):=e1;have cp:=zaa c8;have dr:χ wz g (j*3) (.bool gj):=p0;have cr:=zaa dr;have ds:χ wz g (j*3+1) (Q,mj,cj):=p1;have ct:=zaa ds;have dt:χ wz g (j*3+2) (W,ax,af):=p2;have cw:=zaa dt;have du:χ wz g (k*3) (.bool gk):=r0;have cy:=zaa du;have dv:χ wz g (k*3+1) (R,mk,ck):=r1;have cB:=zaa dv;have dw:χ wz g (k*3+2) (Y,ay,ag):=r2;have cD:=zaa dw;have cJ:χ wz d (j*3) (.bool gv):=s0;have cF:=zaa cJ;have cK:χ wz d (j*3+1) (Av,mv,cv):=s1;have cH:=zaa cK;have dq:χ wz d (j*3+2) (Z,az,ah):=s2;have cn:=zaa dq;have aI:=un y;go_wp2_with fail
   refine za2 (S:=λw'=>χ w' wr.heap.size 0 (.int .i64 (k:Int))/\χ w' wr.heap.size 1 (d,n,p)/\χ w' g (j*3) (.bool gj)/\χ w' g (j*3+1) (Q,mj,cj)/\χ w' g (j*3+2) (W,ax,af)/\χ w' g (k*3) (.bool gk)/\χ w' g (k*3+1) (R,mk,ck)/\χ w' g (k*3+2) (Y,ay,ag)/\χ w' d (j*3) (.bool gv)/\χ w' d (j*3+1) (Av,mv,cv)/\χ w' d (j*3+2) (Z,az,ah)) 19 (h:=λhHeld=>?_);refine zaw [0,1,2,3,4,5,6,7,8,9,10,11,12,13,14,15] ?_;repeat refine tkE hHeld ?_
   refine zao ?_;refine zaN 16 (h:=λK o=>?_);go_simp;(go_at_call 29;(refine(Rt.mul gv Av mv cv Z az ah (el a j) gk R mk ck Y ay ag (el X k/el a k) _ bK.o.drew bJ.o.drew a4.o.1).mono ?_);rintro e u1 ⟨g1,A1,m1,c1_,D1,md1,cd1,rfl,u,hb⟩;refine μ4 (HV.o.drew.below hb) (bI.o.drew.below hb) (HW.o.drew.below hb) (u) λc9 cI dn HM=>?_;have dd:=zab hb cl;have de:=zab hb cp;have df:=zab hb cr;have dg:=zab hb ct;have dh:=zab hb cw;have di:=zab hb cy;have dj:=zab hb cB;have dk:=zab hb cD;have dx:=zab hb cF;have dy:=zab hb cH;have da:=zab hb cn;have bY:=un (zad hb (show wz.drew.heap[wr.heap.size]? = _ from aI.o)));(try go_wp2_with fail);refine shutOn o λhHeld=>?_;refine zaN 17 (h:=λK o=>?_);go_simp;(go_at_call 31;(refine(Rt.sub gj Q mj cj W ax af (el X j) g1 A1 m1 c1_ D1 md1 cd1 (el a j*(el X k/el a k)) _ cI.o HM.o a4.o.2).mono ?_);rintro e u2 ⟨g2,A2,m2,c2,D2,md2,cd2,rfl,u,hb⟩;refine μ3 (c9.o.below hb) (dn.o.below hb) (u) λaE dz HS=>?_;have d4:=zab hb dd;have d5:=zab hb de;have d6:=zab hb df;have d7:=zab hb dg;have dY:=zab hb dh;have dZ:=zab hb di;have d0:=zab hb dj;have d1:=zab hb dk;have d2:=zab hb dx;have d3:=zab hb dy;have ek:=zab hb da;have bZ:=un (zad hb bY.o);have cg:=aE.o.fro (j*3);have of1:=aE.o.fro (j*3+1);have ch:=aE.o.fro (j*3+2));(try go_wp2_with fail);refine shutOn o λhHeld=>?_;refine zaw [18] ?_;repeat refine tkE hHeld ?_
   refine zao ?_;refine zba (h:=λK o=>?_);go_simp;refine shutOff o ?_;refine za1 (h:=?_);go_wp2;go_roundw
   case rel=>exact⟨j+1,by go_num,ω,by rw[<-bL.o];exact aE.o.store j HS.o,zpB bZ.o (Z6 bi) _ _ _,(Bel.set3 dz.o bj _ _ _).b⟩
   case measure=>simp[intOf];omega
  obtain rfl:n=j:=ω;have J:=un f;have G:=un l;go_wp2;go_roundw
  case rel=>exact⟨t+1,by go_num,ω,by rw[bE.o,<-zuE];exact J.o,G.o⟩
  case measure=>simp[intOf];omega
 obtain rfl:es.length=t:=ω;have J:=un f;have G:=un l;go_wp2;refine Zi (v:=.tuple #[(B,n,c1),true]) (by simp[results,results147,go_sem]) rfl ?_;exact⟨_,_,_,rfl,by have h:=J.o;rw[XL,bN.o]at h;exact h,G.o⟩
end Bs
namespace Vc
def nought(n:Nat)(d:n<=64)(w:World):Calls prog 156 #[(n:Int)] w (zcd w (List.replicate n 0) true):=by
 have h1:decide ((n:Int)<0)=false:=σ;have j:decide ((64:Int)<(n:Int))=false:=by simp;omega
 have g:=un d;go_enter func156,ntmps156;go_wp2_with (at_make;go_must (refine zdv rfl _ _ rfl n _ rfl rfl rfl (by have:=g.o;omega) w.heap.size rfl ?_;intro w1 e a;have i:=un e;have f:=un a))
 refine Zi (v:=.tuple #[(w.heap.size,n,n),true]) (by simp[results,results156,go_sem]) rfl ?_;exact⟨_,_,_,rfl,i.o,f.o⟩
def unit(n k:Nat)(g:n<=64)(hk:k<n)(w:World):Calls prog 114 #[(n:Int),(k:Int)] w (zcd w (zdL n k) true):=by
 have h1:decide ((k:Int)<0)=false:=σ;have z:decide ((n:Int)<=(k:Int))=false:=by simp;omega
 have l:=un g;have C:(0:Int)<=(k:Int):=Zg _;have D:(k:Int)<(n:Int):=ω;have f:=un (Zl w.heap.size w);go_enter func114,ntmps114;go_wp2_with fail
 refine(nought n l.o _).mono ?_
 rintro e w1 ⟨A,n1,c1,rfl,hv,hb⟩;have o:=un (hv);have i:=un (f.o.trans ((hb).mono f.o.size));have r:n1=n:=by have:=hv.len;rw[ZQ]at this;exact this
 subst r;obtain⟨b,rfl,d,B⟩:=hv.has ω;go_wp2_with fail
 refine(Rt.int 1 δ δ _).mono ?_
 rintro e s ⟨g2,A2,m2,c2,D2,md2,cd2,rfl,hn2,hb⟩;refine μ3 (o.o.below hb) (hn2) (i.o.trans ((hb).mono i.o.size)) λa j t=>?_;obtain⟨go,u,G,co,x,E,y,I,J,K,_⟩:=a.o.at_ (k:=k) (q:=0) (by rw[Z9,if_pos hk]);have L:=a.o.fro (k*3);have of1:=a.o.fro (k*3+1);have M:=a.o.fro (k*3+2);go_wp2;refine Zi (v:=.tuple #[(b,n1,c1),true]) (by simp[results,results114,go_sem]) rfl ?_;exact⟨_,_,_,rfl,by unfold zdL;exact a.o.store k j.o,(Xj (Xj (Xj t.o (p:=⟨b,k*3,none⟩) d _) (p:=⟨b,k*3+1,none⟩) d _) (p:=⟨b,k*3+2,none⟩) d _)⟩
end Vc
theorem zrM{kl ku:Nat}{U:List (List Rat)}(h1:VecsL w H (b,kl,lc) ll L)(f:VecsL w H (b,ku,uc) ul U)(s:0<kl)(k2:0<ku)
  (hr:∀r∈L,0<r.length) (rows:∀a∈ll,∀b∈ul,∀g,a.ownBlock=some g->b.ownBlock≠some g):False:=by
 have o:=h1.nlen;have p:=f.nlen;obtain⟨r,i⟩:∃r,L[0]? = some r:=⟨L[0]' ω,Ze _⟩
 obtain⟨u,l⟩:∃u,U[0]? = some u:=⟨U[0]' ω,Ze _⟩
 obtain⟨A,c,a1,a2,a3⟩:=h1.at_ i;obtain⟨B,d,j,e,_⟩:=f.at_ l;rw[a2]at e;injection e with e;obtain⟨g,rfl,_,_⟩:=a3.has (hr r (Zj i));exact rows _ (Zj a1) _ (Zj j) g rfl (by rw[<-e];rfl)
theorem zgr{o:Oper}{a:Act}{K:Act->World->Prop}{Q:Exit->Act->World->Prop}(s x:Operand)
  (G:o.op=.call { callee:=.builtin .append,args:=#[s,x],argTypes:=#[110,110] })     (J:a.eval s=v) (g:VecsL w H v l L)  (M:a.eval x=.slice (some ⟨b,0,none⟩) 1 1)
  {i:Value}  (B:θ w b #[i] 30) (hr:VecS w H i r)  (D:L.length=n) (U:n+1<=1000000) (t:H<=w.heap.size)
  (z:∀d c' w',VecsL w' H (.slice d (n+1) c') (l++[i]) (L++[r])->TKeep 30 w w'->Below H w w'->(∀j,j<w.heap.size->v.ownBlock≠some j->w'.heap[j]? = w.heap[j]?)->K (a.put o.dst (.slice d (n+1) c')) w') :
  Oper.wp prog o a w K Q:=by
 subst D;obtain⟨T,hi,O,P,R⟩:=info_parts zrA
 refine wp_append_own w s x 110 G H 30 T _ 1 24 underlying110 hi O P R rfl δ v L.length l J g.own ⟨b,0,none⟩ 1 1 [i] M rfl (zrj B)
  (by intro u y;simp at y;subst y;exact hr.one) (by unfold maxLen;omega) ω t ?_
 intro V w' I f _;have p:=g.append hr I f;obtain⟨d,c',rfl⟩:=p.slice;rw[Zz]at p;have C:=z d c' w' p (TKeep.grown g.own f) ((Zl _ _).grown f t (λk hk=>(g.own.lt k hk).1)) (λj hj E=>f.block j hj (λe=>E e.symm));grind
def zbW{ops:Array Oper}{rest:List Oper}{o:Oper}{a:Act}{Q:Exit->Act->World->Prop}(z:o.guard=none)(s x:Operand)
  (D:o.op=.call { callee:=.builtin .append,args:=#[s,x],argTypes:=#[110,110] })     (E:a.eval s=v) (G:VecsL w H v l L)  (I:a.eval x=.slice (some ⟨b,0,none⟩) 1 1)
  {e:Value}  (y:θ w b #[e] 30) (hr:VecS w H e r)  (C:L.length=n) (B:n+1<=1000000) (p:H<=w.heap.size)
  (t:∀d c' w',VecsL w' H (.slice d (n+1) c') (l++[e]) (L++[r])->TKeep 30 w w'->Below H w w'->(∀j,j<w.heap.size->v.ownBlock≠some j->w'.heap[j]? = w.heap[j]?)->wpList prog ops Q rest (a.put o.dst (.slice d (n+1) c')) w') :
  wpList prog ops Q (o::rest) a w :=
 by grind[wpList_plain,zgr]
def zet{ops:Array Oper}{o:Oper}{a:Act}{K:Act->World->Prop}{Q:Exit->Act->World->Prop}{E:Prop}(hg:o.guard=none)(s x:Operand)
  (u:o.op=.call { callee:=.builtin .append,args:=#[s,x],argTypes:=#[110,110] })     (y:a.eval s=v) (z:VecsL w H v l L)  (B:a.eval x=.slice (some ⟨b,0,none⟩) 1 1)
  {d:Value}  (i:θ w b #[d] 30) (hr:VecS w H d r)  (t:L.length=n) (p:n+1<=1000000) (f:H<=w.heap.size)
  (g:∀e c' w',VecsL w' H (.slice e (n+1) c') (l++[d]) (L++[r])->TKeep 30 w w'->Below H w w'->(∀j,j<w.heap.size->v.ownBlock≠some j->w'.heap[j]? = w.heap[j]?)->K (a.put o.dst (.slice e (n+1) c')) w') :
  if Region.wanted o (yielded ops a.tmps)=true then Oper.wp prog o a w K Q else E:=by
 have hw:Region.wanted o (yielded ops a.tmps)=true:=by simp[Region.wanted,hg]
 rw[if_pos hw];grind[zgr]
def ziP{ops:Array Oper}{rest:List Oper}{o:Oper}{a:Act}{Q:Exit->Act->World->Prop}(e:o.guard=none)(s x:Operand)
  (u:o.op=.call { callee:=.builtin .append,args:=#[s,x],argTypes:=#[41,41] })    (y:a.eval s=v) (B:IntsS w H v xs)  (C:a.eval x=.slice (some ⟨b,0,none⟩) 1 1)
   (p:θ w b #[(z:Int)] 3)  (t:xs.length=n) (r:n+1<=1000000) (i:H<=w.heap.size)
  (j:∀d c' w',IntsS w' H (.slice d (n+1) c') (xs++[z])->TKeep 3 w w'->Below H w w'->wpList prog ops Q rest (a.put o.dst (.slice d (n+1) c')) w') :
  wpList prog ops Q (o::rest) a w:=by
 refine wpList_plain e λK l=>?_;have h:=zll (ops:=ops) (K:=K) (Q:=Q) (E:=True) e s x u y B C p t r i λd c' w' h1 f g=>l _ _ (j d c' w' h1 f g)
 have hw:Region.wanted o (yielded ops a.tmps)=true:=by simp[Region.wanted,e]
 rw[if_pos hw]at h;exact h
structure LuG (w:World) (H q n kl ku kp:Nat) (lA:OA) (lc:Nat) (ll:List Value) (uA:OA) (uc:Nat) (ul:List Value) (pA:OA) (pc:Nat) (F:LUv):Prop where
  blk:θ w q #[(lA,kl,lc),(uA,ku,uc),(pA,kp,pc),.bool F.odd] 265
  lo:VecsL w H (lA,kl,lc) ll F.lo
  la:zbG ll
  up:VecsL w H (uA,ku,uc) ul F.up
  ua:zbG ul
  rows:∀a∈ll,∀b∈ul,∀g,a.ownBlock=some g->b.ownBlock≠some g
  perm:IntsS w H (pA,kp,pc) F.perm
  own:H<=q
  l0:kl=0->lA=none
  lr:∀r∈F.lo,r.length=n
  ur:∀r∈F.up,r.length=n
  sep:∀g,(Value.slice lA kl lc).ownBlock=some g->(Value.slice uA ku uc).ownBlock≠some g
theorem zxu(h:(Value.slice A n c).ownBlock=some g)(a:A=none\/A=some ⟨b,0,none⟩):A=some ⟨g,0,none⟩:=by
 rcases a with rfl | rfl;cases h;have:b=g:=by injection h
 rw[this]
namespace LuG
variable {w w':World} {H q n kl ku kp:Nat} {lA:OA} {lc:Nat} {ll:List Value} {uA:OA} {uc:Nat} {ul:List Value} {pA:OA} {pc:Nat} {F:LUv}
def below(h:LuG w H q n kl ku kp lA lc ll uA uc ul pA pc F)(a:Below w w w'):LuG w' H q n kl ku kp lA lc ll uA uc ul pA pc F :=
 ⟨by rw[a.block q (ZU.1 h.blk).1];exact h.blk,h.lo.below a,h.la,h.up.below a,h.ua,h.rows,h.perm.below a,h.own,h.l0,h.lr,h.ur,h.sep⟩
def alloc(h:LuG w H q n kl ku kp lA lc ll uA uc ul pA pc F)(o:Obj):LuG (w.alloc o) H q n kl ku kp lA lc ll uA uc ul pA pc F:=h.below (zae w o)
def drew(h:LuG w H q n kl ku kp lA lc ll uA uc ul pA pc F):LuG w.drew H q n kl ku kp lA lc ll uA uc ul pA pc F:=h.below (zap w 1)
def qlt(h:LuG w H q n kl ku kp lA lc ll uA uc ul pA pc F):q<w.heap.size:=(ZU.1 h.blk).1
theorem addr{H:Nat}(h:VecsL w H v l L)(e:v=(A,k,c)):A=none\/∃b,A=some ⟨b,0,none⟩:=by subst e;obtain⟨_,_,_,h1 | ⟨g,h1,_⟩⟩:=h.form;exact .inl h1.1;grind
def shape{H:Nat}(h:VecsL w H (A,k,c) l L)(e:(Value.slice A k c).ownBlock=some g):A=some ⟨g,0,none⟩:=by grind[addr,zxu]
def pushU(h:LuG w H q n kl ku kp lA lc ll uA uc ul pA pc F)(E:0<n){f:OA}{p:Value}(i:VecsL w' H (f,ku+1,c') (ul++[p]) (F.up++[r]))(hk:TKeep 30 w w')
  (C:∀j,j<w.heap.size->(Value.slice uA ku uc).ownBlock≠some j->w'.heap[j]? = w.heap[j]?) (hr:r.length=n) (t:∀g,p.ownBlock=some g->(∀a∈ll,a.ownBlock≠some g)/\∀a∈ul,a.ownBlock≠some g) :
  LuG (w'.setCell ⟨q,1,none⟩ (f,ku+1,c')) H q n kl (ku+1) kp lA lc ll f c' (ul++[p]) pA pc { F with up:=F.up++[r] }:=by
 have x:=hk.blk h.blk δ;have s:TKeep 265 w' (w'.setCell ⟨q,1,none⟩ (f,ku+1,c')):=TKeep.set x _;have l:=h.lo.keepAll (λj hj=>C j (h.lo.own.lt j hj).2 (h.sep j hj)) λ_ _ _ v=>v.tk hk δ δ
 have y:∀a∈ll,∀b∈ul++[p],∀g,a.ownBlock=some g->b.ownBlock≠some g:=λa u b d g hg=>by rcases ZT.1 d with d | d;exact h.rows a u b d g hg;grind
 refine⟨?_,l.tk s δ δ δ,h.la,i.tk s δ δ δ,h.ua.push λg b hg d=>(t g hg).2 b d,y,(h.perm.tk hk δ).tk s δ,h.own,h.l0,h.lr,λr' G=>?_,λg h1 D=>?_⟩;have:=zar (o:=1) (f,ku+1,c') x;grind;rcases ZT.1 G with h1 | h1;exact h.ur r' h1;grind;have z:=shape l h1;have B:=shape i D;by_cases I:kl=0;rw[h.l0 I]at h1;cases h1;rw[z]at l;rw[B]at i;exact zrM l i ω ω (λr hr=>by rw[h.lr r hr];exact E) y
def pushL(h:LuG w H q n kl ku kp lA lc ll uA uc ul pA pc F)(I:0<n)(G:0<ku){d:OA}{s:Value}(i:VecsL w' H (d,kl+1,c') (ll++[s]) (F.lo++[r]))(hk:TKeep 30 w w')
  (D:∀j,j<w.heap.size->(Value.slice lA kl lc).ownBlock≠some j->w'.heap[j]? = w.heap[j]?) (hr:r.length=n) (u:∀g,s.ownBlock=some g->(∀a∈ll,a.ownBlock≠some g)/\∀a∈ul,a.ownBlock≠some g) :
  LuG (w'.setCell ⟨q,0,none⟩ (d,kl+1,c')) H q n (kl+1) ku kp d c' (ll++[s]) uA uc ul pA pc { F with lo:=F.lo++[r] }:=by
 have x:=hk.blk h.blk δ;have t:TKeep 265 w' (w'.setCell ⟨q,0,none⟩ (d,kl+1,c')):=TKeep.set x _;have p:=h.up.keepAll (λj hj=>D j (h.up.own.lt j hj).2 (λe=>h.sep j e hj)) λ_ _ _ v=>v.tk hk δ δ
 have z:∀a∈ll++[s],∀b∈ul,∀g,a.ownBlock=some g->b.ownBlock≠some g:=λa f b l g hg=>by rcases ZT.1 f with f | f;exact h.rows a f b l g hg;grind
 have y:∀r'∈F.lo++[r],r'.length=n:=λr' J=>by rcases ZT.1 J with h1 | h1;exact h.lr r' h1;grind
 refine⟨?_,i.tk t δ δ δ,h.la.push λg b hg l=>(u g hg).1 b l,p.tk t δ δ δ,h.ua,z,(h.perm.tk hk δ).tk t δ,h.own,λe=>absurd e ω,y,h.ur,λg h1 E=>?_⟩;have:=zar (o:=0) (d,kl+1,c') x;grind;have B:=shape i h1;have C:=shape p E;rw[B]at i;rw[C]at p;grind[zrM]
def pushP(h:LuG w H q n kl ku kp lA lc ll uA uc ul pA pc F){a:OA}(f:IntsS w' H (a,kp+1,c') (F.perm++[z]))(hk:TKeep 3 w w') :
  LuG (w'.setCell ⟨q,2,none⟩ (a,kp+1,c')) H q n kl ku (kp+1) lA lc ll uA uc ul a c' { F with perm:=F.perm++[z] }:=by
 have e:=hk.blk h.blk δ;have d:TKeep 265 w' (w'.setCell ⟨q,2,none⟩ (a,kp+1,c')):=TKeep.set e _;refine⟨?_,(h.lo.tk hk δ δ δ).tk d δ δ δ,h.la,(h.up.tk hk δ δ δ).tk d δ δ δ,h.ua,h.rows,f.tk d δ,h.own,h.l0,h.lr,h.ur,h.sep⟩;have:=zar (o:=2) (a,kp+1,c') e;grind
def toS(h:LuG w H q n n n n lA lc ll uA uc ul pA pc F)(a:Sq n F):LuS w H q n F :=
 ⟨⟨lA,lc,ll,uA,uc,ul,pA,pc,h.blk,h.lo,h.la,h.up,h.ua,h.rows,h.perm⟩,h.own,a⟩
def toQ(h:LuG w H q n n n n lA lc ll uA uc ul pA pc F)(a:0<n):LuQ w H q n F:=by obtain⟨lb,rfl,_,_⟩:=h.lo.has a;obtain⟨ub,rfl,_,_⟩:=h.up.has a;obtain⟨pb,rfl,_,_⟩:=h.perm.has a;exact⟨lb,lc,ll,ub,uc,ul,pb,pc,h.blk,h.lo,h.la,h.up,h.ua,h.rows,λe=>h.sep lb rfl (by rw[e];rfl),h.perm,h.own⟩
end LuG
def laid (n:Nat) (L:List (List Rat)) (k:Nat):LUv:=⟨List.replicate k (List.replicate n 0),L.take k,List.range k,false⟩
def zuY(h:L[k]? = some r):(⟨(laid n L k).lo++[List.replicate n 0],(laid n L k).up++[r],(laid n L k).perm++[k],false⟩:LUv)=laid n L (k+1):=by unfold laid;rw[Xe,h,Yp,Yi];rfl
def LuG.start(w:World)(n:Nat)(L:List (List Rat)):LuG (w.alloc (.cells #[(),(),(),false] 265)) w.heap.size w.heap.size n 0 0 0 none 0 [] none 0 [] none 0 (laid n L 0):=by
 refine⟨zal _ _ _,VecsL.nil _ _,zbG.nil,?_,zbG.nil,λa d=>(Yr d).elim,IntsS.nil _ _,Za _,λ_=>rfl,λr hr=>?_,λr hr=>?_,λg h=>by cases h⟩;show VecsL _ _ _ _ (L.take 0);rw[Vl];simp[VecsL.nil]
 exact(Yr hr).elim;have:r∈L.take 0:=hr;rw[Vl]at this;grind
def LuW (w:World) (H q n:Nat) (F:LUv):Prop:=(0<n->LuQ w H q n F)/\(n=0->LuS w H q n F)
def LuG.toW{q:Nat}{lA:OA}{uA:OA}{pA:OA}{pc:Nat}{F:LUv}(h:LuG w H q n n n n lA lc ll uA uc ul pA pc F)(d:Sq n F):LuW w H q n F :=
 ⟨λa=>h.toQ a,λ_=>h.toS d⟩
def LuW.toS{w:World}{H q n:Nat}{F:LUv}(h:LuW w H q n F)(a:Sq n F):LuS w H q n F:=by by_cases e:n=0;exact h.2 e;exact(h.1 ω).toS a
def zrB(h:L.length=n):laid n L n=zg4 n L:=by unfold laid zg4;rw[<-h,XL]
def IntsZ.push{w':World}{a:Value}{xs:List Int}(d:w'.ownsRow H 3 1 a (xs.length+1) (zcells xs++[.int .i64 x])):IntsZ w' H a (xs++[x]):=by refine⟨?_⟩;rw[Zz];simpa[zcells]using d
def zfS{ops:Array Oper}{rest:List Oper}{o:Oper}{a:Act}{Q:Exit->Act->World->Prop}(t:o.guard=none)(s x:Operand)
  (C:o.op=.call { callee:=.builtin .append,args:=#[s,x],argTypes:=#[41,41] })   {xs:List Int} (E:a.eval s=v) (f:IntsZ w H v xs)  (G:a.eval x=.slice (some ⟨b,0,none⟩) 1 1)
  {z:Int} (r:θ w b #[.int .i64 z] 3)  (B:xs.length=n) (O:n+1<=1000000) (g:H<=w.heap.size)
  (l:∀d c' w',IntsZ w' H (.slice d (n+1) c') (xs++[z])->TKeep 3 w w'->Below H w w'->wpList prog ops Q rest (a.put o.dst (.slice d (n+1) c')) w'):wpList prog ops Q (o::rest) a w:=by
 subst B;obtain⟨M,hi,I,J,L⟩:=info_parts znF;refine wpList_plain t λK p=>?_
 refine wp_append_own w s x 41 C H 3 M _ 1 8 underlying41 hi I J L rfl δ v xs.length (zcells xs) E f.own ⟨b,0,none⟩ 1 1 [.int .i64 z] G rfl (zrj r)
  (by intro u j;simp at j;subst j;rfl) (by unfold maxLen;omega) ω g ?_
 intro P w' D i _;have e:=IntsZ.push D;obtain⟨d,c',rfl⟩:=e.slice;rw[Zz]at e;have y:=l d c' w' e (TKeep.grown f.own i) ((Zl _ _).grown i g (λk hk=>(f.own.lt k hk).1));grind
def zfR{ops:Array Oper}{rest:List Oper}{o:Oper}{a:Act}{Q:Exit->Act->World->Prop}(E:o.guard=none)(s x:Operand)
  (G:o.op=.call { callee:=.builtin .append,args:=#[s,x],argTypes:=#[30,30] })    (L:a.eval s=v) (M:VecS w H v qs)  (O:a.eval x=.slice (some ⟨b,0,none⟩) 1 1)
  {g:Bool}  {m:Nat} {D:OA} {p f:Nat} {q:Rat} (C:θ w b #[g,(A,m,c),(D,p,f)] 62) (J:RatS w g (A,m,c) (D,p,f) q)  (hN:qs.length=N) (V:N+1<=1000000) (r:H<=w.heap.size)
  (z:∀d c' w',VecS w' H (.slice d (N+1) c') (qs++[q])->TKeep 62 w w'->Below H w w'->wpList prog ops Q rest (a.put o.dst (.slice d (N+1) c')) w'):wpList prog ops Q (o::rest) a w:=by
 subst hN;obtain⟨U,hi,P,R,T⟩:=info_parts ze0;obtain⟨l,h1,y,e⟩:=M.row;refine wpList_plain E λK B=>?_
 refine wp_append_own w s x 30 G H 62 U _ 3 56 underlying30 hi P R T rfl δ v qs.length (rcells l) L e ⟨b,0,none⟩ 1 1 [.bool g,.slice A m c,.slice D p f] O rfl (zC6 C)
  (by intro u t;simp at t;rcases t with rfl | rfl | rfl<;>rfl) (by unfold maxLen;omega) ω r ?_
 intro X w' I j _;have i:=VecS.append h1 y e J I j;obtain⟨d,W,c',rfl⟩:=i.slice;have hl:=i.len;rw[Zz]at hl;simp only[Yt,Vs,Xc]at hl;subst hl;exact B _ _ (z d c' w' i (TKeep.grown e j) ((Zl _ _).grown j r (λk hk=>(e.lt k hk).1)))
def zmp(n:Nat):(Builtin.zeroCells (Value.agg #[false,(),()]).cells n).toList=rcells (List.replicate n (false,.slice none 0 0,.slice none 0 0)):=by
 apply Xf;intro j;have g:(Value.agg #[false,(),()]).cells=#[.bool false,.slice none 0 0,.slice none 0 0]:=rfl;rw[g];by_cases hj:j<n*3;have h1:(Builtin.zeroCells #[false,(),()] n).toList[j]? = some (#[Value.bool false,(),()][j%3]!):=by simp[Builtin.zeroCells,hj]
 have hk:(List.replicate n ((false,.slice none 0 0,.slice none 0 0):RV))[j/3]? = some (false,.slice none 0 0,.slice none 0 0):=by rw[Z9,if_pos ω]
 obtain⟨a,d,f⟩:=ziI _ _ _ hk;rw[h1];grind;rw[Xl (by simp[Builtin.zeroCells];omega),Xl (by rw[zcC];simp;omega)]
def zb3{ops:Array Oper}{rest:List Oper}{o:Oper}{a:Act}{Q:Exit->Act->World->Prop}(C:o.guard=none)(s x:Operand)
  (E:o.op=.call { callee:=.builtin .append,args:=#[s,x],argTypes:=#[30,3] })    (I:a.eval s=v) (J:VecS w H v qs)  {M:Int} (L:a.eval x=.int .i64 M) (B:M=(n:Int))
   (hN:qs.length+n=N) (W:N<=1000000) (p:H<=w.heap.size)
  (y:∀f c' w',VecS w' H (.slice f N c') (qs++List.replicate n 0)->TKeep 62 w w'->Below H w w'->wpList prog ops Q rest (a.put o.dst (.slice f N c')) w'):wpList prog ops Q (o::rest) a w:=by
 subst hN;subst B;obtain⟨U,hi,O,R,T⟩:=info_parts ze0;obtain⟨l,h1,u,g⟩:=J.row;refine wpList_plain C λK z=>?_
 obtain⟨V,w',G,t,j⟩:=zgk (P:=prog) w H 30 3 o.type 62 U _ 3 56 .i64 underlying30 underlying3 hi O R T rfl δ v qs.length (rcells l) g n
  (by rw[zmp];exact ziJ _ λr hr=>by obtain⟨_,rfl⟩:=Yv.1 hr;exact⟨rfl,rfl⟩) (by unfold maxLen;omega) ω p
 rw[zmp]at t;have hk:=zh3 g j;have i:VecS w' H V (qs++List.replicate n 0):=by
  refine⟨l++List.replicate n (false,.slice none 0 0,.slice none 0 0),by simp[h1],λk r q d e=>?_,by rw[Zz,zh4,ZQ];exact t⟩;by_cases D:k<l.length;rw[Z4 D]at d;rw[Z4 ω]at e;exact(u k r q d e).keepT hk;rw[ZN ω,Z9]at d;rw[ZN ω,Z9]at e;split at d
  injection d with d;rw[if_pos ω]at e;grind[RatS.zero];cases d
 obtain⟨f,X,c',rfl⟩:=i.slice;have hl:=i.len;rw[Zz,ZQ]at hl;subst hl;exact Lib.wp_append_run w s x 30 3 E v _ I L _ w' G (z _ _ (y f c' w' i (TKeep.grown g j) ((Zl _ _).grown j p (λk hk=>(g.lt k hk).1))))
def cnt (rows:List PRow):Nat->Nat
  | 0=>0
  | k+1=>cnt rows k+if (rows.getD k default).kind=3 then 0 else 1
def zyi(rows:List PRow)(h:j<=k):cnt rows j<=cnt rows k:=by
 induction k with
 | zero=>rw[Nat.le_zero.1 h];omega
 | succ k ih =>
  by_cases e:j=k+1;rw[e];omega;exact Zf (ih ω) (show cnt rows k<=cnt rows k+_ from Yx _ _)
def zfI (k:Int):Int:=if k=1 then 1 else -1
def zch (rows:List PRow) (k:Nat):List Rat:=(List.range (cnt rows rows.length)).map λt=>if (rows.getD k default).kind≠3/\t=cnt rows k then ((zfI (rows.getD k default).kind:Int):Rat)else 0
def zc3 (rows:List PRow):List (List Rat):=(List.range rows.length).map λk=>(rows.getD k default).coef++zch rows k
def zg8 (rows:List PRow):List Rat:=rows.map λr=>r.rhs
def zjD (cost:List Rat) (rows:List PRow):List Rat:=cost++List.replicate (cnt rows rows.length) 0
def zrT(h:k<rows.length):(zc3 rows).getD k []=(rows.getD k default).coef++zch rows k:=by unfold zc3;rw[zbU _ _ ψ 0,zcA h]
def zql(rows:List PRow)(k:Nat):(zch rows k).length=cnt rows rows.length:=by simp[zch]
def zlk(h:∀k,k<rows.length->(rows.getD k default).coef.length=n):Rect rows.length (n+cnt rows rows.length) (zc3 rows) :=
 ⟨by simp[zc3],λi hi=>by rw[zrT hi,Zz,h i hi,zql]⟩
def zvs(h:∀k,k<rows.length->(rows.getD k default).coef.length=n){t:Nat}(hk:k<rows.length)(a:t<cnt rows rows.length) :
  en (zc3 rows) k (n+t)=if (rows.getD k default).kind≠3/\t=cnt rows k then ((zfI (rows.getD k default).kind:Int):Rat)else 0:=by
 unfold en;rw[zrT hk];unfold el;rw[Zh,ZN (by rw[h k hk];omega),h k hk,show n+t-n=t by omega];unfold zch;rw[Z1,XH a];rfl
section
variable {n:Nat} {rows:List PRow} (hl:∀k,k<rows.length->(rows.getD k default).coef.length=n) (hk:∀k,k<rows.length->(rows.getD k default).kind≠3)
include hl hk
end
def zh1 (N:Nat) (cols:List Nat) (xs:List Rat):List Rat:=(List.range N).map λj=>pt cols.length (λk=>cols.getD k 0) (el xs) j
theorem zl8(N:Nat)(cols:List Nat)(xs:List Rat):(zh1 N cols xs).length=N:=by simp[zh1]
theorem zvg{cols:List Nat}{xs:List Rat}(h:j<N):el (zh1 N cols xs) j=pt cols.length (λk=>cols.getD k 0) (el xs) j:=by
 unfold zh1
 conv=>lhs;unfold el
 rw[zbU _ _ ψ 0,zcA h];rfl
section
variable {n:Nat} {rows:List PRow} (hl:∀k,k<rows.length->(rows.getD k default).coef.length=n) (hk:∀k,k<rows.length->(rows.getD k default).kind≠3)
include hl
include hk
omit hl hk in
theorem zKf(h:i<rows.length):el (zg8 rows) i=(rows.getD i default).rhs:=by unfold zg8 el;rw[zbU _ _ h default]
end
