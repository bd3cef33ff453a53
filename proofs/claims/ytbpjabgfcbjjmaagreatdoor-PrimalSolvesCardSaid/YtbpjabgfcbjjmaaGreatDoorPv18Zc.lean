/- Contracts and lemmas: Pv18. Conditions: as each says. -/
import Derived.Test.YtbpjabgfcbjjmaaGreatDoorEx18Zc
import Derived.Test.YtbpjabgfcbjjmaaGreatDoorZoZc
set_option linter.all false
set_option maxHeartbeats 4000000
set_option maxRecDepth 100000
namespace Go.Proofs.YtbpjabgfcbjjmaaGreatDoor
open Go.RowKit Am Go.Proofs.Tryz
open Err (z4a)
open Pr (z6X)
open Pb (zPu)
open Zr (y6E)
open Dz (Fz y1j)
attribute [local go_sem ↓] Go.wp_at_zero Go.wp_at_succ
def y61 (w:World) (b:Nat) (q:Rat):Prop:=∃(g:Bool) (A:OA) (m c:Nat) (D:OA) (md cd:Nat),θ w b #[g,(A,m,c),(D,md,cd)] 68/\RatS w g (A,m,c) (D,md,cd) q
theorem rk3{w:World}{b:Nat}{cs:Array Value}(a:θ w b cs 68)(i j k:Nat)(u x y:Value):zff w (((w.setCell ⟨b,i,none⟩ u).setCell ⟨b,j,none⟩ x).setCell ⟨b,k,none⟩ y):=λn _ c=>by
 have e:n≠b:=by rintro rfl;exact c _ a
 rw[ZD _ _ _ _ (by exact e),ZD _ _ _ _ (by exact e),ZD _ _ _ _ (by exact e)]
namespace Lw
theorem y6I(g:Bool)(A:OA)(m c:Nat)(D:OA)(f b:Nat)(a:Rat)(w:World)(h:RatS w g (A,m,c) (D,f,b) a)(d:Fz a) :
  Calls prog 17 #[.agg #[g,(A,m,c),(D,f,b)],.agg #[.int .i64 a.num,(a.den:Int)]] w λe w'=>e=.returned true/\Below w w w':=by
 refine μ4 (show(a.den:Int)≠0 by have:=a.den_nz;omega) (show I64 a.num/\I64 (a.den:Int)from⟨⟨by have:=d.1;omega,by have:=d.1;omega⟩,⟨by have:=d.2;omega,by have:=d.2;omega⟩⟩) (show mw a<=1000000 from Zj (y6i d) δ) (show a=Rat.divInt a.num (a.den:Int)from(Rat.num_divInt_den a).symm) λs k r o=>?_;clear d;generalize a.num=p at *
 generalize (a.den:Int)=q at *
 obtain⟨W,i⟩:∃W,((w.alloc (.cells #[g,(A,m,c),(D,f,b)] 68)).alloc (.cells #[.int .i64 p,.int .i64 q] 57))=W:=⟨_,rfl⟩
 refine μ4 (show θ W w.heap.size #[g,(A,m,c),(D,f,b)] 68by rw[<-i];exact zak (zam σ)) (show θ W (w.heap.size+1) #[.int .i64 p,.int .i64 q] 57by rw[<-i];exact zam σ) (show Below w w W by rw[<-i];exact(zae w _).alloc σ _) (show RatS W g (A,m,c) (D,f,b) a by rw[<-i];exact((h).alloc _).alloc _) λl n j t=>?_;obtain⟨E,J,F,z,L,S⟩:=bc3 l.o;obtain⟨Q,N,M,T⟩:=bc2 n.o;clear h;go_enter func17,ntmps17;go_wp2_with fail
 clear i;with_reducible refine(z6u g A m c D f b a p q _ t.o s.o k.o.1 k.o.2 o.o r.o).mono ?_
 rintro e w1 ⟨rfl,hb⟩;refine μ3 (zad hb l.o) (zad hb n.o) (j.o.trans ((hb).mono j.o.size)) λx u v=>?_;obtain⟨B,H,C,I,K,P⟩:=bc3 x.o;obtain⟨O,G,R,y⟩:=bc2 u.o;clear hb;go_wp2;go_ret;exact⟨rfl,v.o⟩
theorem solves18(u G H I:Int)(A:OA)(L Y:Nat)(ls:List (List Int))(w:World)(Z:SmallAt w A ls)(hn:L=ls.length)(h0:0<=u)(a:L<=9223372036854775807)(hg:χ w 0 0 z4a) :
  Calls prog 4 #[.agg #[.int .u8 u,.int .i8 G,.int .i8 H,.int .i8 I,(A,L,Y)]] w λe w'=>e=.returned true/\Below w w w':=by
 refine μ4 (y4t h0 G H I (ls:=ls) (λr hr=>by obtain⟨k,hk⟩:=Xk.1 hr;exact(Z.at_ k r hk).1)) (fun(w:World) (Z:SmallAt w A ls)=>y6n u G H I A L Y ls w Z hn h0 a) (fun(w:World) (Z:SmallAt w A ls)=>y6q u G H I A L Y ls w Z hn h0 a) hg λO ad aT bF=>?_;unfold y3b at ad;unfold y3Q at aT;generalize y2a (smN u) ls=zr at *
 generalize y12 (smN u) [G,H,I]=zc at *
 generalize smN u=n at *
 have s:=un O.o.good1;have aU:=O.o.tabs;have aQ:=show DocP n zr.length (y6C zc) (toP zr) (y2C zr) (y29 zr) (cf (y3a zc zr))from y6e O.o.lc O.o.co O.o.kd
 refine μ3 (fun(aC:OA) (cC:Nat) (aR:OA) (T:Nat) (lR:List Value) (w:World) (hC:IntsZ w 0 (aC,n,cC) zc) (hR:ZRows w 0 (aR,zr.length,T) lR zr)=>y6E aC n cC zc aR zr.length T lR zr w hC hR O.o _ rfl) (show(y6C zc).length=n by rw[y6x];exact O.o.lc) (y1N zr) λaH al aS=>?_;have aK:=λho=>y5Q (own:=n) aU (show(y2C zr).length<=4 by rw[y2L];have:=O.o.nr;omega) ho
 have ae:=un (z6W s.o.toS s.o.few al.o aS.o);have aL:=y6D (own:=n) s.o.toS ae.o aQ;clear aQ aU;obtain⟨cost,a0⟩:∃cost,y6C zc=cost:=⟨_,rfl⟩
 obtain⟨rows,a2⟩:∃rows,toP zr=rows:=⟨_,rfl⟩
 rw[a0]at s al ad ae aL;rw[a2]at s ad aH aS ae aL aK;clear a0 a2;generalize hmm:zr.length=m at *
 have bI:=un (fun(C:OA) (cC:Nat) (R:OA) (T:Nat) (w:World) (h1:VecS w 0 (C,n,cC) cost) (h2:RowsS w 0 (R,m,T) rows)=>z6X 1 C n cC R m T cost rows w h1 h2 s.o.toS s.o.few);have aJ:=un (show ∀q∈oX n m rows (sol n m cost rows),mw q<=1000002 from λq l=>by have hs:=zVF m s.o.hr;exact Zj (ae.o.zx q l) ω);have bK:=un (show oO (sol n m cost rows)=1/\(oX n m rows (sol n m cost rows)).length=n\/oO (sol n m cost rows)=2\/oO (sol n m cost rows)=3 from by
  rcases ae.o.shows with ⟨e,h,_⟩ | ⟨e,_⟩ | ⟨e,_⟩
  exact .inl ⟨e,h.2.1⟩;exact .inr (.inl e);exact .inr (.inr e))
 unfold y5b at aH;generalize y3f (y2C zr) (y29 zr) (cf (y3a zc zr)) (n+cnt rows m)=o at *
 generalize y1j (n+cnt rows m) (cf (y3a zc zr)) (el (y5e (y2C zr) (y29 zr) (cf (y3a zc zr)) (n+cnt rows m) n))=dq at *
 have ei:=un hmm;have ek:n<=5:=s.o.hc;generalize oO (sol n m cost rows)=so,oX n m rows (sol n m cost rows)=sx,oY n m cost rows (sol n m cost rows)=sy,oZ n m rows (sol n m cost rows)=sz,(sol n m cost rows).pivots=sn at *
 obtain⟨rfl,J⟩:=aL;have HV:=un J;have bD:=un aK;clear hmm ae hn J aK hg h0;obtain⟨W,hW⟩:∃W,(w.alloc (.cells #[.int .u8 u,.int .i8 G,.int .i8 H,.int .i8 I,(A,L,Y)] 26))=W:=⟨_,rfl⟩
 refine μ3 (show θ W w.heap.size #[.int .u8 u,.int .i8 G,.int .i8 H,.int .i8 I,(A,L,Y)] 26by rw[<-hW];exact zam σ) (show Below w w W by rw[<-hW];exact zae w _) (show SmallAt W A ls by rw[<-hW];exact(Z).alloc _) λaV BB HL=>?_;obtain⟨cs,cy,ct,cm,cD,cI,d8,d0,ea,d4⟩:=bc5 aV.o;have aG:χ W 0 0 z4a:=by rw[<-hW];exact cell_al bF.o
 have eh:=zaa aG;clear Z;go_enter func4,ntmps4;go_wp2_with fail
 clear hW;with_reducible refine(z8t _ aG).mono ?_
 rintro e w1 ⟨rfl,a⟩;refine μ3 (zad a aV.o) (HL.o.below a) (BB.o.trans ((a).mono BB.o.size)) λbi aa bh=>?_;obtain⟨cq,cw,cr,cx,cB,cF,d9,d1,eb,d5⟩:=bc5 bi.o;have bj:=zab a aG;have bQ:=zaa bj;clear a;go_wp2_with fail
 with_reducible refine(aT.o _ aa.o).mono ?_
 rintro e w3 ⟨aC,cC2,aR,cR2,lR,rfl,hC,hR2,a⟩;refine μ5 (zad a bi.o) (aa.o.below a) (show IntsZ w3 0 (aC,n,cC2) zc from(hC.base (Zb _))) (show ZRows w3 0 (aR,m,cR2) lR zr from(hR2.base (Zb _))) (bh.o.trans ((a).mono bh.o.size)) λbg aB bM bN aD=>?_;obtain⟨cu,cn,cv,cp,c4,cT,dV,dM,dW,dI⟩:=bc5 bg.o;clear hC hR2 a;go_wp2_with fail
 with_reducible refine(aH.o aC cC2 aR cR2 lR _ bM.o bN.o).mono ?_
 rintro e w4 ⟨qP,qD,aZ,nZ,cZ,rfl,hz,a⟩;refine μ4 (show θ (w4.alloc (.cells #[.int .i64 o,.int .i64 qP,.int .i64 qD,(aZ,nZ,cZ)] 60)) w.heap.size #[.int .u8 u,.int .i8 G,.int .i8 H,.int .i8 I,(A,L,Y)] 26from zak (zad a bg.o)) (show SmallAt (w4.alloc (.cells #[.int .i64 o,.int .i64 qP,.int .i64 qD,(aZ,nZ,cZ)] 60)) A ls from(aB.o.below a).alloc _) (show Below w w (w4.alloc (.cells #[.int .i64 o,.int .i64 qP,.int .i64 qD,(aZ,nZ,cZ)] 60))from((aD.o.trans ((a).mono aD.o.size))).alloc ((aD.o.trans ((a).mono aD.o.size))).size _) (show θ (w4.alloc (.cells #[.int .i64 o,.int .i64 qP,.int .i64 qD,(aZ,nZ,cZ)] 60)) w4.heap.size #[.int .i64 o,.int .i64 qP,.int .i64 qD,(aZ,nZ,cZ)] 60from zam σ) λbk be bn bt=>?_;obtain⟨cY,cz,c3,cA,dD,ds,ci,ed,ce,ef⟩:=bc5 bk.o;obtain⟨di,c6,dk,c8,dn,dd,dA,dh⟩:=bc4 bt.o;have bB:=un (show o=1->qP=dq.num/\qD=(dq.den:Int)from λe=>hz.elim (λh=>⟨h.2.1,h.2.2.1⟩) λh=>absurd e h.1);clear hz a;go_wp2_with fail
 with_reducible refine(ad.o _ be.o).mono ?_
 rintro e w2 ⟨C,cC,R,T,lP,rfl,J,hr,_,_,a⟩;refine μ6 (zad a bk.o) (zad a bt.o) (be.o.below a) (show VecS w2 0 (C,n,cC) cost from(J.base (Zb _))) (show RowsS w2 0 (R,m,T) rows from(hr.base' (Zb _)).toS) (bn.o.trans ((a).mono bn.o.size)) λbl bm cc HC HR br=>?_;obtain⟨cO,cG,cS,cH,dN,dy,d2,dR,d6,dT⟩:=bc5 bl.o;obtain⟨cW,cM,cX,cN,dm,db,dr,df⟩:=bc4 bm.o;clear J hr a;go_wp2_with fail
 with_reducible refine(bI.o C cC R T _ HC.o HR.o).mono ?_
 rintro e v1 ⟨P,nP,cP,Q,nQ,cQ,E,nE,cE,rfl,hp,l,hd,a⟩;refine μ5 (zad a bl.o) (zad a bm.o) (cc.o.below a) (show VecS v1 0 (P,nP,cP) sx from hp) (br.o.trans ((a).mono br.o.size)) λbo bq cd HP bs=>?_;obtain⟨cU,cJ,cV,cK,dO,dL,d3,dS,d7,dU⟩:=bc5 bo.o;obtain⟨dj,c7,dl,da,dp,de,dB,dg⟩:=bc4 bq.o;clear hp l hd a;have aq:=zae v1 (.cells #[.int .i64 o,(P,nP,cP),(Q,nQ,cQ),(E,nE,cE),(sn:Int)] 47);refine μ5 (zad aq bo.o) (zad aq bq.o) (cd.o.below aq) (HP.o.below aq) (bs.o.trans ((aq).mono bs.o.size)) λbp bv aA bf aE=>?_;obtain⟨ai,dc,aj,c5,ah,ec,af,ee,ag,eg⟩:=bc5 bp.o;obtain⟨dE,dt,dF,du,dP,dz,dQ,dC⟩:=bc4 bv.o;have KR:=un (zal v1 #[.int .i64 o,(P,nP,cP),(Q,nQ,cQ),(E,nE,cE),(sn:Int)] 47);obtain⟨dG,dv,ak,dw,dH,dx,dX,dJ,dY,dK⟩:=bc5 KR.o;clear cs cy ct cm cD cI d8 d0 ea d4 cq cw cr cx cB cF d9 d1 eb d5 bj bQ cu cn cv cp c4 cT dV dM dW dI cY cz c3 cA dD ds ci ed ce ef di c6 dk c8 dn dd dA dh cO cG cS cH dN dy d2 dR d6 dT cW cM cX cN dm db dr df cU cJ cV cK dO dL d3 dS d7 dU dj c7 dl da dp de dB dg;clear a;rcases bK.o with ⟨e0,aY⟩ | e0 | e0
 ·obtain rfl:=e0;obtain⟨hp,l⟩:=bB.o rfl;obtain rfl:=hp;obtain rfl:=l;refine μ3 (bD.o rfl).2 (HV.o rfl) aY λbE aI aF=>?_;clear aY;go_upto_region 9 with fail
  generalize (v1.alloc (.cells #[.int .i64 1,(P,nP,cP),(Q,nQ,cQ),(E,nE,cE),(sn:Int)] 47))=v7 at *
  go_cut[6,7] (λq c wz=>∃b,q=.pointer (some ⟨b,0,none⟩)/\c=true/\y61 wz b dq/\Below v7 v7 wz)
  case first =>
   refine zaS (S:=λw'=>χ w' w 0 (.int .u8 u)/\χ w' w 1 (.int .i8 G)/\χ w' w 2 (.int .i8 H)/\χ w' w 3 (.int .i8 I)/\χ w' w 4 (A,L,Y)/\χ w' v1 1 (P,nP,cP)) [9,10] (h:=λhHeld=>?_);refine zaw [0,2,3] ?_;repeat refine tkL (hS:=hHeld) (h:=?_)
   refine zao ?_;refine zme (i:=1) (j:=8) rfl rfl ξ (λK d=>?_) (λK d=>?_)
   ·skip
    go_simp;(go_at_call 9;(with_reducible refine(ad.o _ (aA.o.drew)).mono ?_);rintro e u1 ⟨C2,cC2',R2,cR2',lP2,rfl,J,hr,_,_,a⟩;have g:Below v7 v7 u1:=(bdrew (Zh v7.heap.size v7)).trans (a.mono (by have t:=0;(try simp)<;>omega));have N:=un g;have az:=g.size;have b5:=zab g ai;have b6:=zab g aj;have b7:=zab g ah;have b9:=zab g af;have ca:=zab g ag;have cb:=zab g ak;refine μ4 (J.base (Zb _)) ((hr.base' (Zb _)).toS) ((aA.o.drew).below a) ((bf.o.drew).below a) λU V aa ab=>?_;clear a g);(try go_wp2_with fail);refine shutOn d λhHeld=>?_;clear d K;refine zme (i:=4) (j:=8) rfl rfl ξ (λK d=>?_) (λK d=>?_)
    ·skip
     go_simp;(go_at_call 16;(with_reducible refine(zPu C2 n cC2' R2 m cR2' cost rows P nP cP sx _ U.o V.o ab.o (by rw[al.o,aF.o]) ω (λq l=>Zj (s.o.sc q l) δ) (λq l=>Zj (aJ.o q l) δ)).mono ?_);rintro e u2 ⟨B,v,D,y,x,F,z,rfl,hn9,a⟩;have f:Below v7 v7 u2:=N.o.trans (a.mono (by have t:=az;(try simp)<;>omega));have ac:=un f;have a3:=f.size;have a1:u1.heap.size+0<=u2.heap.size:=(by have t:=a.size;(try simp at t);omega);have a8:=zab f ai;have a9:=zab f aj;have ba:=zab f ah;have bb:=zab f af;have bc:=zab f ag;have bd:=zab f ak;refine μ5 (aI.o▸hn9) (aa.o.below a) (ab.o.below a) (U.o.below a) (V.o.below a) λX aB bw a6 a7=>?_;clear a f);(try go_wp2_with fail);refine shutOn d λhHeld=>?_;clear d K;refine zaw [5,6] ?_;repeat refine tkL (hS:=hHeld) (h:=?_)
     refine zao ?_;refine zaw [7] ?_;repeat refine tkX (h:=?_)
     refine zao ?_;refine zaB 8 (h:=λK d=>?_);go_simp;refine shutOn d λhHeld=>?_;clear d K;refine zay 9 (h:=λK d=>?_);go_simp;refine shutOff d ?_;clear d K;refine zay 10 (h:=λK d=>?_);go_simp;refine shutOff d ?_;clear d K;refine zaM (h:=?_);go_wp2;go_meet
     case rel=>exact⟨u2.heap.size,rfl,rfl,⟨B,v,D,y,x,F,z,zal _ _ _,X.o.alloc _⟩,Xe ac.o ac.o.size _⟩
    skip
    go_simp;refine shutOn d λhHeld=>?_;clear d K;refine zaB 4 (h:=λK d=>?_);go_simp;(go_at_call 16;(with_reducible refine(zPu C2 n cC2' R2 m cR2' cost rows P nP cP sx _ (U.o.alloc _) (V.o.alloc _) (ab.o.alloc _) (by rw[al.o,aF.o]) ω (λq l=>Zj (s.o.sc q l) δ) (λq l=>Zj (aJ.o q l) δ)).mono ?_);rintro e u2 ⟨B,v,D,y,x,F,z,rfl,hn9,a⟩;have f:Below v7 v7 u2:=(Xe N.o N.o.size _).trans (a.mono (by have t:=az;(try simp)<;>omega));have ac:=un f;have a3:=f.size;have a1:u1.heap.size+1<=u2.heap.size:=(by have t:=a.size;(try simp at t);omega);have a8:=zab f ai;have a9:=zab f aj;have ba:=zab f ah;have bb:=zab f af;have bc:=zab f ag;have bd:=zab f ak;refine μ6 (aI.o▸hn9) ((aa.o.alloc _).below a) ((ab.o.alloc _).below a) ((U.o.alloc _).below a) ((V.o.alloc _).below a) (show θ u2 u1.heap.size #[false,(),()] 68from zad a (zam σ)) λX aB bw a6 a7 M=>?_;obtain⟨b2,bW,bZ,bT,b3,bX,b0,bU,b4,bY,b1,bV⟩:=bf3 M.o;have bS:=(ZQ.1 M.o).1;clear a f);(try go_wp2_with fail);refine shutOn d λhHeld=>?_;clear d K;refine zaw [5,6] ?_;repeat refine tkL (hS:=hHeld) (h:=?_)
    refine zao ?_;refine zaw [7] ?_;repeat refine tkX (h:=?_)
    refine zao ?_;refine zay 9 (h:=λK d=>?_);go_simp;refine shutOff d ?_;clear d K;refine zay 10 (h:=λK d=>?_);go_simp;refine shutOff d ?_;clear d K;refine zaM (h:=?_);go_wp2;go_meet;have k1:=rk3 M.o 0 1 2 B (v,D,y) (x,F,z)
    case rel=>exact⟨u1.heap.size,rfl,rfl,⟨B,v,D,y,x,F,z,zar _ (zar _ (zar _ M.o)),X.o.keepT k1⟩,(bsc (p:=⟨u1,2,none⟩) (bsc (p:=⟨u1,1,none⟩) (bsc (p:=⟨u1,0,none⟩) ac.o N.o.size) N.o.size) N.o.size)⟩
   skip
   go_simp;refine shutOn d λhHeld=>?_;clear d K;refine zaB 1 (h:=λK d=>?_);go_simp;(go_at_call 9;(with_reducible refine(ad.o _ ((aA.o.alloc _).drew)).mono ?_);rintro e u1 ⟨C2,cC2',R2,cR2',lP2,rfl,J,hr,_,_,a⟩;have g:Below v7 v7 u1:=(bdrew (Xe (Zh v7.heap.size v7) (Za _) _)).trans (a.mono (by have t:=0;(try simp)<;>omega));have N:=un g;have az:=g.size;have em:v7.heap.size+1<=u1.heap.size:=(by have t:=a.size;(try simp at t);omega);have b5:=zab g ai;have b6:=zab g aj;have b7:=zab g ah;have b9:=zab g af;have ca:=zab g ag;have cb:=zab g ak;refine μ5 (J.base (Zb _)) ((hr.base' (Zb _)).toS) (((aA.o.alloc _).drew).below a) (((bf.o.alloc _).drew).below a) (show θ u1 v7.heap.size #[false,(),()] 68from zad a (show(v7.alloc (.cells #[false,(),()] 68)).heap[v7.heap.size]? = _ from zam σ)) λU V aa ab bR=>?_;clear a g);(try go_wp2_with fail);refine shutOn d λhHeld=>?_;clear d K;refine zaB 4 (h:=λK d=>?_);go_simp;(go_at_call 16;(with_reducible refine(zPu C2 n cC2' R2 m cR2' cost rows P nP cP sx _ U.o V.o ab.o (by rw[al.o,aF.o]) ω (λq l=>Zj (s.o.sc q l) δ) (λq l=>Zj (aJ.o q l) δ)).mono ?_);rintro e u2 ⟨B,v,D,y,x,F,z,rfl,hn9,a⟩;have f:Below v7 v7 u2:=N.o.trans (a.mono (by have t:=az;(try simp)<;>omega));have ac:=un f;have a3:=f.size;have a1:u1.heap.size+0<=u2.heap.size:=(by have t:=a.size;(try simp at t);omega);have a8:=zab f ai;have a9:=zab f aj;have ba:=zab f ah;have bb:=zab f af;have bc:=zab f ag;have bd:=zab f ak;refine μ6 (aI.o▸hn9) (aa.o.below a) (ab.o.below a) (U.o.below a) (V.o.below a) (zad a (bR.o)) λX aB bw a6 a7 M=>?_;obtain⟨b2,bW,bZ,bT,b3,bX,b0,bU,b4,bY,b1,bV⟩:=bf3 M.o;have bS:=(ZQ.1 M.o).1;clear a f);(try go_wp2_with fail);refine shutOn d λhHeld=>?_;clear d K;refine zaw [5,6] ?_;repeat refine tkL (hS:=hHeld) (h:=?_)
   refine zao ?_;refine zaw [7] ?_;repeat refine tkX (h:=?_)
   refine zao ?_;refine zay 9 (h:=λK d=>?_);go_simp;refine shutOff d ?_;clear d K;refine zay 10 (h:=λK d=>?_);go_simp;refine shutOff d ?_;clear d K;refine zaM (h:=?_);go_wp2;go_meet;have k1:=rk3 M.o 0 1 2 B (v,D,y) (x,F,z)
   case rel=>exact⟨v7.heap.size,rfl,rfl,⟨B,v,D,y,x,F,z,zar _ (zar _ (zar _ M.o)),X.o.keepT k1⟩,(bsc (p:=⟨v7,2,none⟩) (bsc (p:=⟨v7,1,none⟩) (bsc (p:=⟨v7,0,none⟩) ac.o (Za _)) (Za _)) (Za _))⟩
  rename World=>v3
  obtain⟨b8,rfl,rfl,hG,hB⟩:=hcut;obtain⟨B,v,D,y,x,F,z,hG,hR⟩:=hG;refine μ6 hG (zad hB bp.o) (zad hB bv.o) (zad hB KR.o) (show RatS v3 B (v,D,y) (x,F,z) dq from hR) (aE.o.trans ((hB).mono aE.o.size)) λKG bu bx bz X bA=>?_;obtain⟨e4,e2,e5,e3,eE,fs,eq,fu,er,fh⟩:=bc5 bu.o;obtain⟨es,fj,eu,fl,ew,fn,ey,fp⟩:=bc4 bx.o;obtain⟨eA,fr,eB,fd,eC,fe,eD,ff,ep,fg⟩:=bc5 bz.o;obtain⟨eP,eV,eR,eX,eT,eZ⟩:=bc3 KG.o;clear hG hR hB;clear ai dc aj c5 ah ec af ee ag eg dE dt dF du dP dz dQ dC dG dv ak dw dH dx dX dJ dY dK;go_wp2_with fail
  with_reducible refine(y6I B v D y x F z dq _ X.o bE.o).mono ?_
  rintro e v4 ⟨rfl,a⟩;refine μ5 (zad a bu.o) (zad a bx.o) (zad a bz.o) (zad a KG.o) (bA.o.trans ((a).mono bA.o.size)) λdZ cg ch ck cj=>?_;obtain⟨e6,e7,e8,e9,fa,ft,fb,fv,fc,fi⟩:=bc5 dZ.o;obtain⟨et,fk,ev,fm,ex,fo,ez,fq⟩:=bc4 cg.o;obtain⟨eK,eF,eL,eG,eM,eH,eN,eI,eO,eJ⟩:=bc5 ch.o;obtain⟨eQ,eW,eS,eY,eU,e1⟩:=bc3 ck.o;clear a;go_wp2;go_ret;exact⟨rfl,cj.o⟩
 ·obtain rfl:=e0;go_wp2;go_ret
  exact⟨rfl,aE.o⟩
 obtain rfl:=e0;go_wp2;go_ret;exact⟨rfl,aE.o⟩
