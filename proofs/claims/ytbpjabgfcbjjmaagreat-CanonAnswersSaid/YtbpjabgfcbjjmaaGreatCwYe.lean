/- Contracts and lemmas: Cw. Conditions: as each says. -/
import Derived.Test.YtbpjabgfcbjjmaaGreatEx21Ye
import Derived.Test.YtbpjabgfcbjjmaaGreatZoYe
import Derived.Test.YtbpjabgfcbjjmaaGreatZiYe
import Derived.Test.YtbpjabgfcbjjmaaGreatCnpYe
set_option linter.all false
set_option maxHeartbeats 4000000
set_option maxRecDepth 100000
namespace Go.Proofs.YtbpjabgfcbjjmaaGreat
open Go.RowKit Am
open Ca (yvm)
open Zr (y6E y6u isT)
open Dz (Fz y1j y1U y1w y1k)
attribute [local go_sem ↓] Go.wp_at_zero Go.wp_at_succ
section
variable {P:Program} {md:Region.Mode} {ops:Array Oper} {Q:Exit->Act->World->Prop} {S:World->Prop} {i:Nat} {o:List Nat} {oi:Oper} {fuel:Nat} {listed:Array Bool} {a a':Act} {w:World} {late:List Nat}
theorem skL(hi:ops[i]? = some oi:=by rfl)
  (hk:(Region.noSelect ops&&Region.free md ops listed i&&(Region.ready md ops listed).contains i&&zrC md ops late i)=true:=by kernel_rfl)
  (b:∀c a w,Q (.panic c) (a.put oi.dst undef) w->Q (.panic c) a w:=by exact λ_ _ _ h=>h) (e:Region.wanted oi (yielded ops a.tmps)=false:=by kernel_rfl) (d:a.put oi.dst undef=a':=by first | (simp only[Act.put,pu1,pu2,pu3,pu4,pu5,pu6];rfl) | rfl) (hS:S w)
  (h:tk o (zcp P md ops Q S late.contains fuel (listed.setIfInBounds i true) a' w)):tk (i::o) (zcp P md ops Q S late.contains (fuel+1) listed a w) :=
 λ_ _=>by subst d;exact zqI hi hk b (.inr ⟨e,rfl⟩) hS (h _ rfl)
end
namespace Lw
theorem answers21(u x y z:Int)(A:OA)(B H:Nat)(ls:List (List Int))(w:World)(M:SmallAt w A ls)(hn:B=ls.length)(h0:0<=u)(d:B<=9223372036854775807) :
  Calls Tryz.prog 4 #[.agg #[.int .u8 u,.int .i8 x,.int .i8 y,.int .i8 z,(A,B,H)]] w λe w'=>e=.returned true/\Below w.heap.size w w':=by
 refine μ3 (y4t h0 x y z (ls:=ls) (λr hr=>by obtain⟨k,hk⟩:=Xv.1 hr;exact(M.at_ k r hk).1)) (fun(w:World) (M:SmallAt w A ls)=>y6n u x y z A B H ls w M hn h0 d) (fun(w:World) (M:SmallAt w A ls)=>y6q u x y z A B H ls w M hn h0 d) λt af ao=>?_;unfold y3b at af;unfold y3Q at ao;generalize y2a (smN u) ls=zr at *
 generalize y12 (smN u) [x,y,z]=zc at *
 generalize smN u=n at *
 refine μ7 t.o.good1 t.o.tabs (show(y2C zr).length<=4 by rw[y2L];have:=t.o.nr;omega) (fun(aC:OA) (cC:Nat) (G:OA) (v:Nat) (J:List Value) (w:World) (F:IntsZ w 0 (aC,n,cC) zc) (hR:ZRows w 0 (G,zr.length,v) J zr)=>y6E aC n cC zc G zr.length v J zr w F hR t.o _ rfl) (fun(aC:OA) (cC:Nat) (G:OA) (v:Nat) (J:List Value) (w:World) (F:IntsZ w 0 (aC,n,cC) zc) (hR:ZRows w 0 (G,zr.length,v) J zr)=>y6u aC n cC zc G zr.length v J zr w F hR (Zl t.o.nc δ) (Zl t.o.nr δ) (λp hp=>by rw[t.o.co p hp];exact Zl t.o.nc δ) t.o.kd) (show(y6C zc).length=n by rw[y6x];exact t.o.lc) (y1N zr) λL O aK aq ar am an=>?_;have aP:=y7f L.o am.o an.o;have aD:=show DocP n zr.length (y6C zc) (toP zr) (y2C zr) (y29 zr) (cf (y3a zc zr))from y6e t.o.lc t.o.co t.o.kd
 have az:=y69 aP aD;have aF:=λho=>y5Q (own:=n) O.o aK.o ho
 have aE:=fun(h:y5e (y2C zr) (y29 zr) (cf (y3a zc zr)) (n+cnt (toP zr) zr.length) n∈y1k (y2C zr) (y29 zr) (n+cnt (toP zr) zr.length))=>y1w O.o.ent O.o.bnd aK.o h
 have ai:=yvA L.o am.o an.o;have aL:=un (λI (h:Basis zr.length (n+cnt (toP zr) zr.length) (zc3 (toP zr)) I)=>y66 aD h);have ap:=un (fun(C:OA) (cC:Nat) (R:OA) (v:Nat) (w:World) (h1:VecS w 0 (C,n,cC) (y6C zc)) (E:RowsS w 0 (R,zr.length,v) (toP zr))=>yvm C n cC R zr.length v (y6C zc) (toP zr) w h1 E L.o);unfold y5b at aq;unfold y3c at ar;clear aP aD;obtain⟨cost,aQ⟩:∃cost,y6C zc=cost:=⟨_,rfl⟩
 obtain⟨rows,aU⟩:∃rows,toP zr=rows:=⟨_,rfl⟩
 rw[aQ]at L am af az ai ap;rw[aU]at L af aq ar O az aF aE ai aL ap an;clear aQ aU;generalize hmm:zr.length=m at *
 generalize y5e (y2C zr) (y29 zr) (cf (y3a zc zr)) (n+cnt rows m) n=dv at *
 generalize y1j (n+cnt rows m) (cf (y3a zc zr)) (el dv)=dq at *
 generalize y3f (y2C zr) (y29 zr) (cf (y3a zc zr)) (n+cnt rows m)=o at *
 generalize y1k (y2C zr) (y29 zr) (n+cnt rows m)=pts at *
 generalize cO (ys6 n m cost rows)=so,cX n m rows (ys6 n m cost rows)=X,cV n m cost rows (ys6 n m cost rows)=V,cI n m rows (ys6 n m cost rows)=I,(ys6 n m cost rows).pivots=pn at *
 obtain⟨rfl,hy,aT⟩:=az;refine μ4 aT ai (show o=1->(dq=V/\dv.take n=X)/\Fz V/\∀q∈X,Fz q from λh1=>by obtain⟨E,h3⟩:=hy h1;obtain⟨h4,h5⟩:=aF h1;refine⟨⟨E,h3⟩,by rw[<-E];exact h5,λq hq=>?_⟩;rw[<-h3]at hq;obtain⟨j,hj⟩:=Xv.1 (Yh hq);have h6:=(aE h4).at_ j;have h7:=zaH (ZF.1 hj).1;rw[hj]at h7;rw[Option.some.inj h7];exact h6) hmm λbv bp bC dA=>?_;have dB:n<=5:=L.o.hc;have bG:m<=4:=L.o.hr;have dC:(0:Int)<=(pn:Int):=Zf _;generalize y2C zr=DA,y29 zr=DB,y3a zc zr=DC at *
 clear hy aT aF aE ai hmm hn h0;obtain⟨W,hW⟩:∃W,(w.alloc (.cells #[.int .u8 u,.int .i8 x,.int .i8 y,.int .i8 z,(A,B,H)] 26))=W:=⟨_,rfl⟩
 refine μ3 (show θ W w.heap.size #[.int .u8 u,.int .i8 x,.int .i8 y,.int .i8 z,(A,B,H)] 26by rw[<-hW];exact zam σ) (show Below w.heap.size w W by rw[<-hW];exact zae w _) (show SmallAt W A ls by rw[<-hW];exact(M).alloc _) λaN BB HL=>?_;obtain⟨cg,cn,ch,ca,cs,cw,dt,dl,dw,dp⟩:=bc5 aN.o;clear M;go_enter Tryz.func4,Tryz.ntmps4;go_wp2_with fail
 clear hW;with_reducible refine(yt6 _).mono ?_
 rintro e w1 ⟨rfl,d⟩;refine μ3 (zad d aN.o) (HL.o.below d) (BB.o.trans ((d).mono BB.o.size)) λa5 a2 a4=>?_;obtain⟨cd,ck,ce,cm,cr,ct,du,dm,dx,dr⟩:=bc5 a5.o;clear d;go_wp2_with fail
 with_reducible refine(af.o _ a2.o).mono ?_
 rintro e w2 ⟨C,cC,R,v,lP,rfl,hv,hr,_,_,d⟩;refine μ5 (zad d a5.o) (a2.o.below d) (show VecS w2 0 (C,n,cC) cost from(hv.base (Zb _))) (show RowsS w2 0 (R,m,v) rows from(hr.base' (Zb _)).toS) (a4.o.trans ((d).mono a4.o.size)) λa3 b4 HC HR ak=>?_;obtain⟨ci,cb,cj,cc,cK,cE,dj,df,dk,de⟩:=bc5 a3.o;clear hv hr d;go_wp2_with fail
 with_reducible refine(ap.o C cC R v _ HC.o HR.o).mono ?_
 rintro e g ⟨g3,Av3,mv3,cv3,Dv3,md3,cd3,P3,np3,cP3,Ba3,D,ca3,rfl,hq,hp,hi,d⟩;refine μ7 (show θ (g.alloc (.cells #[.int .i64 o,g3,(Av3,mv3,cv3),(Dv3,md3,cd3),(P3,np3,cP3)] 68)) w.heap.size #[.int .u8 u,.int .i8 x,.int .i8 y,.int .i8 z,(A,B,H)] 26from zak (zad d a3.o)) (show SmallAt (g.alloc (.cells #[.int .i64 o,g3,(Av3,mv3,cv3),(Dv3,md3,cd3),(P3,np3,cP3)] 68)) A ls from(b4.o.below d).alloc _) (show RatS (g.alloc (.cells #[.int .i64 o,g3,(Av3,mv3,cv3),(Dv3,md3,cd3),(P3,np3,cP3)] 68)) g3 (Av3,mv3,cv3) (Dv3,md3,cd3) V from(hq).alloc _) (show VecS (g.alloc (.cells #[.int .i64 o,g3,(Av3,mv3,cv3),(Dv3,md3,cd3),(P3,np3,cP3)] 68)) 0 (P3,np3,cP3) X from(hp).alloc _) (show IntsZ (g.alloc (.cells #[.int .i64 o,g3,(Av3,mv3,cv3),(Dv3,md3,cd3),(P3,np3,cP3)] 68)) 0 (Ba3,D,ca3) (zN I)from(hi.toZ).alloc _) (show Below w.heap.size w (g.alloc (.cells #[.int .i64 o,g3,(Av3,mv3,cv3),(Dv3,md3,cd3),(P3,np3,cP3)] 68))from((ak.o.trans ((d).mono ak.o.size))).alloc ((ak.o.trans ((d).mono ak.o.size))).size _) (show θ (g.alloc (.cells #[.int .i64 o,g3,(Av3,mv3,cv3),(Dv3,md3,cd3),(P3,np3,cP3)] 68)) g.heap.size #[.int .i64 o,g3,(Av3,mv3,cv3),(Dv3,md3,cd3),(P3,np3,cP3)] 68from zam σ) λa6 aY HQ HX HI a9 be=>?_;obtain⟨cH,cp,cJ,cq,dd,c9,bY,dy,bX,dz⟩:=bc5 a6.o;obtain⟨c3,cM,c4,cN,c6,cQ,db,cY,dc,cW⟩:=bc5 be.o;have bB:=un hp.len;have aM:=un hi.len;clear hq hp hi d;go_wp2_with fail
 with_reducible refine(ao.o _ aY.o).mono ?_
 rintro e w4 ⟨aC,cC2,G,cR2,J,rfl,F,hR2,d⟩;refine μ9 (zad d a6.o) (zad d be.o) (aY.o.below d) (HQ.o.below d) (HX.o.below d) (HI.o.below d) (show IntsZ w4 0 (aC,n,cC2) zc from(F.base (Zb _))) (show ZRows w4 0 (G,m,cR2) J zr from(hR2.base (Zb _))) (a9.o.trans ((d).mono a9.o.size)) λa7 a8 bO b2 bT bV au av al=>?_;obtain⟨cz,cu,cD,cv,dg,da,dn,dh,ds,di⟩:=bc5 a7.o;obtain⟨cF,cx,cG,cy,c5,cP,c7,cT,c8,cU⟩:=bc5 a8.o;clear F hR2 d;go_wp2_with fail
 with_reducible refine(ar.o aC cC2 G cR2 J _ au.o av.o).mono ?_
 rintro e s ⟨aA,cA,lA,aB,cB,aS,cS,rfl,hA,_,_,d⟩;refine μ9 (show θ (s.alloc (.cells #[(aA,m,cA),(aB,m,cB),.slice aS (n+cnt rows m) cS,(n:Int)] 73)) w.heap.size #[.int .u8 u,.int .i8 x,.int .i8 y,.int .i8 z,(A,B,H)] 26from zak (zad d a7.o)) (show θ (s.alloc (.cells #[(aA,m,cA),(aB,m,cB),.slice aS (n+cnt rows m) cS,(n:Int)] 73)) g.heap.size #[.int .i64 o,g3,(Av3,mv3,cv3),(Dv3,md3,cd3),(P3,np3,cP3)] 68from zak (zad d a8.o)) (show SmallAt (s.alloc (.cells #[(aA,m,cA),(aB,m,cB),.slice aS (n+cnt rows m) cS,(n:Int)] 73)) A ls from(bO.o.below d).alloc _) (show RatS (s.alloc (.cells #[(aA,m,cA),(aB,m,cB),.slice aS (n+cnt rows m) cS,(n:Int)] 73)) g3 (Av3,mv3,cv3) (Dv3,md3,cd3) V from(b2.o.below d).alloc _) (show VecS (s.alloc (.cells #[(aA,m,cA),(aB,m,cB),.slice aS (n+cnt rows m) cS,(n:Int)] 73)) 0 (P3,np3,cP3) X from(bT.o.below d).alloc _) (show IntsZ (s.alloc (.cells #[(aA,m,cA),(aB,m,cB),.slice aS (n+cnt rows m) cS,(n:Int)] 73)) 0 (Ba3,D,ca3) (zN I)from(bV.o.below d).alloc _) (show TabZ (s.alloc (.cells #[(aA,m,cA),(aB,m,cB),.slice aS (n+cnt rows m) cS,(n:Int)] 73)) 0 (aA,m,cA) lA DA from((hA.base (Zb _))).alloc _) (show Below w.heap.size w (s.alloc (.cells #[(aA,m,cA),(aB,m,cB),.slice aS (n+cnt rows m) cS,(n:Int)] 73))from((al.o.trans ((d).mono al.o.size))).alloc ((al.o.trans ((d).mono al.o.size))).size _) (show θ (s.alloc (.cells #[(aA,m,cA),(aB,m,cB),.slice aS (n+cnt rows m) cS,(n:Int)] 73)) s.heap.size #[(aA,m,cA),(aB,m,cB),.slice aS (n+cnt rows m) cS,(n:Int)] 73from zam σ) λba bc bP bQ bU b3 bz bd bg=>?_;obtain⟨eD,eB,eE,eC,fp,fo,fA,ft,fB,fu⟩:=bc5 ba.o;obtain⟨eT,eG,eU,eH,eV,eJ,fa,eK,fc,eL⟩:=bc5 bc.o;obtain⟨fe,eM,ff,eN,fg,eO,fm,e6⟩:=bc4 bg.o;clear hA d;clear cg cn ch ca cs cw dt dl dw dp cd ck ce cm cr ct du dm dx dr ci cb cj cc cK cE dj df dk de cH cp cJ cq dd c9 bY dy bX dz c3 cM c4 cN c6 cQ db cY dc cW cz cu cD cv dg da dn dh ds di cF cx cG cy c5 cP c7 cT c8 cU
 have bt:=un (show ∀(w:World) (qP Z:Int) (T:OA) (N U:Nat),((o=1/\qP=dq.num/\Z=(dq.den:Int)/\N=n/\FracsZ w 0 (.slice T n U) (dv.take n))\/(o≠1/\N=0))->((o=1/\qP=V.num/\Z=(V.den:Int)/\N=np3/\FracsZ w 0 (.slice T np3 U) X/\Fz V/\(∀q∈X,Fz q)/\np3<=1000)\/(o≠1/\np3=0/\V=0))from λw qP Z T N U h=>by
  have hx:=bB.o;rcases h with ⟨h1,E,h3,h4,h5⟩ | ⟨h1,_⟩
  obtain⟨⟨e1,e2⟩,e3,e4⟩:=bC.o h1;have h6:=h5.len;rw[e2]at h5 h6;have e5:np3=n:=ω;rw[e5];exact .inl ⟨h1,by rw[<-e1];exact E,by rw[<-e1];exact h3,h4,h5,e3,e4,ω⟩;obtain⟨e1,e2⟩:=bv.o h1;exact .inr ⟨h1,by rw[hx,e1];rfl,e2⟩)
 go_upto_region 5 with fail
 refine zaS (S:=λw'=>χ w' w.heap.size 0 (.int .u8 u)/\χ w' w.heap.size 1 (.int .i8 x)/\χ w' w.heap.size 2 (.int .i8 y)/\χ w' w.heap.size 3 (.int .i8 z)/\χ w' w.heap.size 4 (A,B,H)/\χ w' g 0 (.int .i64 o)/\χ w' g 1 (.bool g3)/\χ w' g 2 (Av3,mv3,cv3)/\χ w' g 3 (Dv3,md3,cd3)/\χ w' g 4 (P3,np3,cP3)/\χ w' s 0 (aA,m,cA)/\χ w' s 1 (aB,m,cB)/\χ w' s 2 (.slice aS (n+cnt rows m) cS)/\χ w' s 3 (.int .i64 (n:Int))) [] (h:=λhHeld=>?_);refine zaw [0,1,2,3,4,5,6,7,8] ?_;repeat refine tkL (hS:=hHeld) (h:=?_)
 refine zao ?_;refine zaB 9 (h:=λK f=>?_);go_simp
 (go_at_call 11;(with_reducible refine(ao.o _ bP.o.drew).mono ?_);rintro e u1 ⟨aC2,cC3,aR2,cR3,lR2,rfl,F,hR2,d⟩;refine μ10 (zad d ba.o) (zad d bc.o) (zad d bg.o) (bQ.o.drew.below d) (bU.o.drew.below d) (b3.o.drew.below d) (bz.o.drew.below d) (show IntsZ u1 0 (aC2,n,cC3) zc from(F.base (Zb _))) (show ZRows u1 0 (aR2,m,cR3) lR2 zr from(hR2.base (Zb _))) (bd.o.trans ((It.bdrew0' d).mono bd.o.size)) λbb bi bh bW bS b8 bL au av bj=>?_;obtain⟨eR,eI,eS,eF,d3,fV,dL,fY,dN,f1⟩:=bc5 bb.o;obtain⟨fh,eW,fi,eX,fq,e9,fr,fb,fs,fd⟩:=bc5 bi.o;obtain⟨fj,eY,fk,eZ,fl,e0,fv,fn⟩:=bc4 bh.o;clear F hR2 d)
 (try go_wp2_with fail)
 refine shutOn f λhHeld=>?_;clear f K;refine zaB 10 (h:=λK f=>?_);go_simp
 (go_at_call 10;(with_reducible refine(aq.o aC2 cC3 aR2 cR3 lR2 _ au.o av.o).mono ?_);rintro e u2 ⟨qP,Z,T,N,U,rfl,Y,d⟩;refine μ8 (zad d bb.o) (zad d bi.o) (zad d bh.o) (bW.o.below d) (bS.o.below d) (b8.o.below d) (bL.o.below d) (bj.o.trans ((d).mono bj.o.size)) λbf bl bm b5 bR b9 bM bn=>?_;obtain⟨e7,eP,e8,eQ,d4,fW,dM,fZ,dO,fI⟩:=bc5 bf.o;obtain⟨dP,fK,dR,fM,dT,fO,dV,fQ,dX,fS⟩:=bc5 bl.o;obtain⟨dZ,fU,d0,fF,d1,fG,d2,fH⟩:=bc4 bm.o;have bo:=un (bt.o u2 qP Z T N U Y);clear Y d)
 (try go_wp2_with fail)
 refine shutOn f λhHeld=>?_;clear f K;refine zaB 11 (h:=λK f=>?_);go_simp
 (go_at_call 22;(with_reducible refine(y7c o g3 Av3 mv3 cv3 Dv3 md3 cd3 V P3 np3 cP3 X qP Z T N U _ b5.o bR.o bo.o).mono ?_);rintro e u3 ⟨rfl,d⟩;refine μ6 (zad d bf.o) (zad d bl.o) (zad d bm.o) (b9.o.below d) (bM.o.below d) (bn.o.trans ((d).mono bn.o.size)) λbk a0 a1 b7 bN aI=>?_;obtain⟨fw,fx,fy,fz,fC,fX,fD,f0,fE,fJ⟩:=bc5 bk.o;obtain⟨dQ,fL,dS,fN,dU,fP,dW,fR,dY,fT⟩:=bc5 a0.o;obtain⟨es,d6,eu,d8,ew,eg,ey,ei⟩:=bc4 a1.o;clear d)
 (try go_wp2_with fail)
 refine shutOn f λhHeld=>?_;clear f K;refine zaw [12,13,14,15] ?_;repeat refine tkL (hS:=hHeld) (h:=?_)
 refine zao ?_;by_cases Y:D=0
 ·subst Y;refine zaw [16,17] ?_;repeat refine tkL (hS:=hHeld) (h:=?_)
  refine zao ?_;refine zaw [18,19] ?_;repeat refine skL (hS:=hHeld) (h:=?_)
  refine zao ?_;refine zaB 20 (h:=λK f=>?_);go_simp;refine shutOn f λhHeld=>?_;clear f K;refine zaw [21,22,23] ?_;repeat refine tkL (hS:=hHeld) (h:=?_)
  refine zao ?_;refine zaM (h:=?_);go_wp2;go_ret;exact⟨rfl,aI.o⟩
 have ab:=un (bp.o.resolve_left λe=>Y (by have h:=aM.o;rw[e]at h;exact h));have bH:D=m:=by rw[aM.o];exact ab.o.2.basis.len
 subst bH;have dD:((D:Int) == 0)=false:=by simpa using Y
 have bu:=un (show ∀c∈I,c<n+cnt rows D from λc hc=>by obtain⟨k,hk⟩:=Xv.1 hc;have h:=ab.o.2.basis.lt k (by have E:=(ZF.1 hk).1;rw[ab.o.2.basis.len]at E;exact E);rw[Zg,hk]at h;exact h);refine zaw [16,17,18,19] ?_;repeat refine tkL (hS:=hHeld) (h:=?_)
 refine zao ?_;refine zaB 20 (h:=λK f=>?_);go_simp
 (go_at_call 23;(with_reducible refine(isT aA D cA lA DA aB D cB aS (n+cnt rows D) cS (n:Int) Ba3 D ca3 I _ bN.o b7.o O.o.rows O.o.ent bG bu.o (λk l a b=>ab.o.2.basis.inj k l a b) rfl (aL.o I ab.o.2.basis)).mono ?_);rintro e u4 ⟨rfl,d⟩;refine μ4 (zad d bk.o) (zad d a0.o) (zad d a1.o) (aI.o.trans ((d).mono aI.o.size)) λbZ b0 b1 b6=>?_;obtain⟨ek,ea,em,eb,eA,dG,dJ,dH,dK,dI⟩:=bc5 bZ.o;obtain⟨en,ec,eo,ed,ep,ee,eq,ef,er,d5⟩:=bc5 b0.o;obtain⟨et,d7,ev,d9,ex,eh,ez,ej⟩:=bc4 b1.o;clear d)
 (try go_wp2_with fail)
 refine shutOn f λhHeld=>?_;clear f K;refine zaw [21,22,23] ?_;repeat refine tkL (hS:=hHeld) (h:=?_)
 refine zao ?_;refine zaM (h:=?_);go_wp2;go_ret;exact⟨rfl,b6.o⟩
