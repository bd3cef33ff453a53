/- Contracts and lemmas: RgD. Conditions: as each says. -/
import Derived.Test.YtbhfhkcdfmmmiaaGreatRgRZj
set_option linter.all false
set_option maxHeartbeats 4000000
set_option maxRecDepth 100000
namespace Go.Proofs.YtbhfhkcdfmmmiaaGreat
open Go.RowKit Am Go.Proofs.Tryz
open Pb (may fits over)
attribute [local go_sem ↓] Go.wp_at_zero Go.wp_at_succ
def yWT (x:List Rat) (p:PRow):Bool := !zr (zdp p x)
def yLU (rows:List PRow) (x:List Rat):List Bool:=rows.map (yWT x)
def yKD (rows:List PRow) (x:List Rat) (k:Nat):List Bool:=(yLU rows x).take k++List.replicate (rows.length-k) false
def yKS (rows:List PRow) (x:List Rat):List (Nat × Int):=wTo rows (yLU rows x) rows.length
def yOd (nC:Nat) (cost:List Rat) (rows:List PRow) (x:List Rat) (j B:Nat):RangeO:=yJF ((yKS rows x).length+2) (yJG (yKS rows x)) (yJK (yKS rows x) rows cost x j) B
section
variable {rows:List PRow} {x cost:List Rat} {k j:Nat} {p:PRow} {U:List (Nat × Int)}
theorem yNA(h:k≤rows.length):(yKD rows x k).length=rows.length:=by
 unfold yKD yLU;rw[Zj,Zn,Zl,Zr];omega
theorem yMW:yKD rows x 0=List.replicate rows.length false:=by unfold yKD;rfl
theorem yNz:yKD rows x rows.length=yLU rows x:=by
 unfold yKD;rw[ZZ,List.replicate_zero,Yg,ZH (by unfold yLU;rw[Zl];exact Za _)]
theorem yNB(h:rows[k]? = some p):(yKD rows x k).set k (yWT x p)=yKD rows x (k+1):=by
 have c:=(Zm.1 h).1;have a:((yLU rows x).take k).length=k:=by unfold yLU;rw[Zn,Zl];omega
 have b:(yLU rows x).take (k+1)=(yLU rows x).take k++[yWT x p]:=by unfold yLU;rw[ZN,Zw,h];rfl
 unfold yKD;rw[b,List.set_append_right _ _ (by rw[a];exact Za _),a,ZZ,show rows.length-k=(rows.length-(k+1))+1 by omega,XB,YB,Xy];rfl
theorem yLT:(yJK U rows cost x j).length=cost.length:=by simp[yJK]
theorem yMX(h:k<cost.length):(yJK U rows cost x j).take (k+1)=(yJK U rows cost x j).take k++[yJJ U rows cost x j k]:=by
 unfold yJK;rw[ZN,Zw,Z4 h];rfl
end
theorem RowsL.setAt{w:World}{H:Nat}{v:Value}{l:List RR}{ps:List PRow}(h:RowsL w H v l ps){b o:Nat}{u:Value}{cs:Array Value}(c:w.heap[b]? = some (.cells cs 43 (0,0)))(d:∀g,v.ownBlock=some g→g≠b):RowsL (w.setCell ⟨b,o,none⟩ u) H v l ps:=by
 have hk:zij w (w.setCell ⟨b,o,none⟩ u):=fun k _ f=>by
  have e:k≠b:=by rintro rfl;exact f _ c
  exact Zk _ _ _ _ (by exact e)
 exact⟨h.len,fun k r p h1 a=>(h.each k r p h1 a).keepR hk,zc9 h.own fun k e=>Zk _ _ _ _ (by exact d k e)⟩
namespace Ra
theorem cost(S:Nat)(C:OA)(nC L:Nat)(R:OA)(m M:Nat)(cost:List Rat)(rows:List PRow)(X:OA)(nx cX:Nat)(x:List Rat)(w:World)(hc:VecS w 0 (C,nC,L) cost)(hr:RowsS w 0 (R,m,M) rows)(hx:VecS w 0 (X,nx,cX) x)(hg:GoodS S nC m cost rows)(zx:Sm x)(j B S2:Nat)(hj:j<nC)(hf:znD cost rows x=true)(r:B≤1000000)(iT:GoodS S2 ((yKS rows x).length+2) nC (yJG (yKS rows x)) (yJK (yKS rows x) rows cost x j)) :
  Calls prog 25 #[.agg #[(C,nC,L),(R,m,M)],(X,nx,cX),(j:Int),(B:Int)] w (yJX w B (yOd nC cost rows x j B)):=by
 have i1:x.length=cost.length:=by
  have h:=hf;unfold znD at h;simp only[Xc]at h;exact Xs h.1.1
 obtain rfl:nC=nx:=by rw[hc.len,hx.len,i1]
 have iH:=un hx.len;have cD:=un hc.len;have eM:=un hr.len;have N:=un hg;have kq:=un r;have ku:=un iT;have kt:=un hf;have iI:=un zx;have iW:=hg.hr;have kY:=hg.hc;have cB:=un (show 4*(S+1)+8≤LIM by rw[zaP];have:=hg.hS;omega);have iD:=un (show Rows nC rows from fun p H=>⟨(hg.rw_ p H).1,fun q hq=>Zc ((hg.rw_ p H).2.1 q hq) hg.hS,Zc (hg.rw_ p H).2.2 hg.hS⟩);have hU:=yJy rows (yLU rows x) rows.length;have iF:=un (yJB rows (yLU rows x) rows.length)
 have kN:=un (yJz rows (yLU rows x) rows.length);have o6:(yKS rows x).length≤2*rows.length:=hU;have HU:=un (show wTo rows (yLU rows x) m=yKS rows x by unfold yKS;rw[←hr.len]);generalize hoo:yOd nC cost rows x j B=o;have kD:=un (show yJF ((yKS rows x).length+2) (yJG (yKS rows x)) (yJK (yKS rows x) rows cost x j) B=o from hoo);clear hoo hU hg zx hf r iT i1;have iX:rows.length=m:=eM.o.symm;have oU:¬(j:Int)<0:=by omega
 have oV:(j:Int)<(nC:Int):=by omega
 have oW:¬(nC:Int)≤(j:Int):=by omega
 have oX:¬nC≤j:=by omega
 obtain⟨W,hW⟩:∃W,((w.alloc (.cells #[(C,nC,L),(R,m,M)] 31)).alloc (.cells #[false,(),(),false,(),(),false,false] 62))=W:=⟨_,rfl⟩
 have iJ:=un (show W.heap[w.heap.size]? = some (.cells #[(C,nC,L),(R,m,M)] 31 (0,0))by rw[←hW];exact zak (zam (by simp)));have iK:=un (show W.heap[w.heap.size+1]? = some (.cells #[false,(),(),false,(),(),false,false] 62 (0,0))by rw[←hW];exact zam (by simp));have BB:=un (show Below w w W by rw[←hW];exact(zae w _).alloc (by simp) _)
 have HC:=un (show VecS W 0 (C,nC,L) cost by rw[←hW];exact((hc).alloc _).alloc _);have HR:=un (show RowsS W 0 (R,m,M) rows by rw[←hW];exact((hr).alloc _).alloc _);have HX:=un (show VecS W 0 (X,nC,cX) x by rw[←hW];exact((hx).alloc _).alloc _);obtain⟨ni,_,nj,_⟩:=bc2 iJ.o;obtain⟨_,_,_,_,_,_,_,_,_,_,_,_,_,_,_,_,_,_,_,_,_,_,_,_,_,_,_,_,_,_,nc,_⟩:=bf8 iK.o;clear hc hr hx;go_enter func25,ntmps25;go_wp2_with fail
 clear hW;refine(may C nC L R m M cost rows _ HC.o HR.o kY iW iD.o N.o.kd).mono ?_
 rintro e w1 ⟨rfl,f⟩;have jZ:=un (zad f iJ.o);have jS:=un (zad f iK.o);have kn:=un (HC.o.below f);have kl:=un (HR.o.below f);have kh:=un (HX.o.below f);have jW:=un (BB.o.trans ((f).mono BB.o.size));obtain⟨ng,_,nh,_⟩:=bc2 jZ.o;clear f;go_wp2_with fail
 refine(fits C nC L R m M cost rows X nC cX x _ kn.o kl.o kh.o (by omega) iD.o iI.o (by omega)).mono ?_
 rintro e w2 ⟨rfl,f⟩;have gy:=un (zad f jZ.o);have gC:=un (zad f jS.o);have jn:=un (kn.o.below f);have eD:=un (kl.o.below f);have kp:=un (kh.o.below f);have dz:=un (jW.o.trans ((f).mono jW.o.size));obtain⟨_,_,gz,jV⟩:=bc2 gy.o;clear f;rw[kt.o]
 clear ni nj nc ng nh;go_upto_region 6 with fail
 go_wp2_with (at_make;go_must (refine zf8 rfl _ _ rfl m _ rfl rfl rfl (by omega) w2.heap.size rfl ?_;intro w3 ho f;have iz:=un ho;have a4:=un f;have b0:=zab f gz;clear ho f))
 clear b0;have iA:=un (show BoolsS w3 w2 (w2.heap.size,m,m) (yKD rows x 0)by rw[yMW,←eM.o];exact iz.o)
 go_loopw [50] (fun i wr=>∃k:Nat,i=.int .i64 k∧k≤m∧BoolsS wr w2 (w2.heap.size,m,m) (yKD rows x k)∧Below w2 w2 wr)
  (fun i _=>m-(intOf i).toNat)
 case atStart=>exact⟨0,rfl,Zb _,iA.o,a4.o⟩
 case round =>
  clear iz a4 iA;obtain⟨k,rfl,hk,hO,r⟩:=hrel;by_cases am:k<m
  ·obtain⟨p,H⟩:∃p,rows[k]? = some p:=⟨rows[k]'(by rw[←eM.o];exact am),Ze _⟩
   have kJ:=un (yNB (x:=x) H);have iZ:=Zh H;have cF:=un (N.o.rw_ p iZ);obtain⟨bR,rfl,_,_⟩:=eD.o.has (by omega);obtain⟨Q,nq,cq,gp,Ap,mp,cp,Dp,bx,bp,k0,F,k2,k3,k4,e6,i0⟩:=eD.o.at_ H;obtain rfl:nC=nq:=by rw[e6.len,cF.o.1]
   obtain⟨kd,e3⟩:∃kd:Int,p.kind=kd:=⟨_,rfl⟩
   rw[e3]at F;have kv:=un e3;have kE:=un hO;have b8:=un (zad r gy.o);have ce:=un (zad r gC.o);have fB:=un (jn.o.below r);have cT:=un (eD.o.below r);have fR:=un (kp.o.below r);have HW:=un (show Bel w2 wr from Bel.mk r);have HQ:=un (show RatS wr gp (Ap,mp,cp) (Dp,bx,bp) p.rhs from(i0.below r));have kP:=un (show VecS wr 0 (Q,nC,cq) p.coef from(e6.below r));have cc:=un (dz.o.trans ((r).mono dz.o.size));obtain⟨gT,_,gU,_⟩:=bc2 b8.o
   have gP:wr.cell? ⟨bR,k*5,none⟩=some (Q,nC,cq):=zab r k0;have he:wr.cell? ⟨bR,k*5+1,none⟩=some (.int .i64 kd):=zab r F;have hw:wr.cell? ⟨bR,k*5+2,none⟩=some (.bool gp):=zab r k2;have hs:wr.cell? ⟨bR,k*5+3,none⟩=some (Ap,mp,cp):=zab r k3;have hH:wr.cell? ⟨bR,k*5+4,none⟩=some (Dp,bx,bp):=zab r k4
   clear r hO k0 F k2 k3 k4 i0 e6 H e3 iZ;clear gz jV;have oQ:(0:Int)≤(k:Int):=Zf _;have oR:(k:Int)<(m:Int):=by omega
   have I:=zae wr (.cells #[(Q,nC,cq),.int .i64 kd,gp,(Ap,mp,cp),(Dp,bx,bp)] 43);have b9:=un (zad I b8.o);have cb:=un (zad I ce.o);have fQ:=un (fB.o.below I);have il:=un (cT.o.below I);have cS:=un (fR.o.below I);have nZ:=un (HW.o.below I);have jo:=un (HQ.o.below I);have l3:=un (kP.o.below I);have l0:=un (kE.o.below I);have cd:=un (cc.o.trans ((I).mono cc.o.size))
   have gM:=zab I gP;have g4:=zab I he;have hA:=zab I hw;have hG:=zab I hs;have hI:=zab I hH;have iM:=un (zal wr #[(Q,nC,cq),.int .i64 kd,gp,(Ap,mp,cp),(Dp,bx,bp)] 43);obtain⟨n0,_,n1,_,n2,_,oh,_,n5,_⟩:=bc5 iM.o;go_wp2_with fail
   refine(over Q nC cq gp Ap mp cp Dp bx bp kd p kv.o X nC cX x _ l3.o jo.o cS.o (by rw[cF.o.1];exact iH.o) (by omega) (fun q hq=>Zc (cF.o.2.1 q hq) N.o.hS) (Zc cF.o.2.2 N.o.hS) iI.o).mono ?_
   rintro e v1 ⟨g9,A9,m9,c9,D9,md9,cd9,rfl,hn,f⟩;have aU:=un (zad f b9.o);have aD:=un (zad f cb.o);have aT:=un (fQ.o.below f);have bI:=un (il.o.below f);have aO:=un (cS.o.below f);have op:=un (nZ.o.below f);have l1:=un (jo.o.below f);have l2:=un (l0.o.below f);have HV:=un (show RatS v1 g9 (A9,m9,c9) (D9,md9,cd9) (zdp p x)from hn);have aq:=un (cd.o.trans ((f).mono cd.o.size));obtain⟨dC,dA,_⟩:=bc2 aU.o
   have hZ:=zab f gM;have h7:=zab f g4;have h8:=zab f hA;have h9:=zab f hG;have ia:=zab f hI;clear hn f;have J:=zae v1 (.cells #[g9,(A9,m9,c9),(D9,md9,cd9)] 41);have ap:=un (zad J aU.o);have ar:=un (zad J aD.o)
   have an:=un (bI.o.below J);have mu:=un (op.o.below J);have l9:=un (l1.o.below J);have l4:=un (l2.o.below J);have l5:=un (HV.o.below J);have ae:=un (aq.o.trans ((J).mono aq.o.size));obtain⟨aV,_,aW,_⟩:=bc2 ap.o;have af:=zab J hZ;have ai:=zab J h7;have aj:=zab J h8
   have a0:=zab J h9;have a3:=zab J ia;have KV:=un (zal v1 #[g9,(A9,m9,c9),(D9,md9,cd9)] 41);obtain⟨aX,_,aY,_,pA,_⟩:=bc3 KV.o
   clear gT gU gP he hw hs hH gM g4 hA hG hI n0 n1 n2 oh n5 dC dA hZ h7 h8 h9 ia;go_wp2_with fail
   refine(Rt.zero g9 A9 m9 c9 D9 md9 cd9 (zdp p x) _ l5.o).mono ?_
   rintro e v2 ⟨rfl,f⟩;have ad:=un (zad f ap.o);have ag:=un (zad f ar.o);have ah:=un (zad f KV.o);have be:=un (an.o.below f);have bT:=un (mu.o.below f);have fS:=un (l9.o.below f);have f2:=un (l4.o.below f);have au:=un (ae.o.trans ((f).mono ae.o.size));obtain⟨ch,_,ci,_⟩:=bc2 ad.o
   obtain⟨bQ,_,bS,cs,_⟩:=bc3 ah.o;have aQ:=zab f ai;have aS:=zab f a0;have aP:=zab f a3;clear f;have iE:=un (f2.o.store k (yWT x p));rw[kJ.o]at iE;have oP:=f2.o.fro k;have oO:=f2.o.at_ (show(yKD rows x k)[k]? = some _ from Ze (by rw[yNA (by omega)];omega));go_wp2;go_roundw
   case rel=>exact⟨k+1,by go_num,by omega,iE.o,bsc (p:=⟨w2,k,none⟩) bT.o.b (Za _)⟩
   case measure=>simp[intOf];omega
  ·obtain rfl:m=k:=by omega
   have kF:=un (show BoolsS wr 0 (w2.heap.size,m,m) (yLU rows x)by have h:=hO.base (Zb _);rw[←iX,yNz]at h;rw[←iX];exact h);have b8:=un (zad r gy.o);have ce:=un (zad r gC.o);have fB:=un (jn.o.below r);have cT:=un (eD.o.below r);have fR:=un (kp.o.below r);have cc:=un (dz.o.trans ((r).mono dz.o.size));obtain⟨gT,_,gU,_⟩:=bc2 b8.o
   clear r hO;clear gz jV;go_wp2_with fail
   refine(yLE C nC L R m M rows _ m (yLU rows x) _ cT.o kF.o iW N.o.kd).mono ?_
   rw[HU.o];rintro e w4 ⟨A,c,B',c',rfl,ha,hb2,f⟩;have iV:WorS w4 A (yKS rows x).length c B' c' m (yKS rows x):=⟨ha,hb2,fun y hy=>by have:=iF.o y hy;omega,kN.o⟩
   generalize hwa:yKS rows x=U at *
   clear hwa ha hb2;have b9:=un (zad f b8.o);have cb:=un (zad f ce.o);have fQ:=un (fB.o.below f);have il:=un (cT.o.below f);have cS:=un (fR.o.below f);have kM:=un (show WorS w4 A U.length c B' c' m U from iV);have cd:=un (cc.o.trans ((f).mono cc.o.size));clear f iV
   have aL:=zae w4 (.cells #[(A,U.length,c),(B',U.length,c')] 136);have aU:=un (zad aL b9.o);have aD:=un (zad aL cb.o);have aT:=un (fQ.o.below aL);have bI:=un (il.o.below aL);have aO:=un (cS.o.below aL);have fr:=un (kM.o.below aL);have aq:=un (cd.o.trans ((aL).mono cd.o.size));obtain⟨dC,dA,_⟩:=bc2 aU.o
   have cH:=un (zal w4 #[(A,U.length,c),(B',U.length,c')] 136);clear gT gU;go_upto_region 14 with fail
   generalize hwz:(w4.alloc (.cells #[(A,U.length,c),(B',U.length,c')] 136))=wz at *
   have o8:w4.heap.size+1=wz.heap.size:=by rw[←hwz];simp
   clear hwz;go_wp2_with fail
   go_loopw [17,74] (fun rv i wy=>∃(t:Nat) (E:OA) (cE:Nat) (l:List RR),i=.int .i64 t∧rv=(E,t,cE)∧t≤nC∧RowsL wy wz (E,t,cE) l ((yJK U rows cost x j).take t)∧Below wz wz wy)
    (fun _ i _=>nC-(intOf i).toNat)
   case atStart=>exact⟨0,none,0,[],rfl,rfl,Zb _,RowsL.nil _ _,Zg _ _⟩
   case round =>
    rename World=>wy
    obtain⟨t,E,cE,l,rfl,rfl,ht,hl,r⟩:=hrel;by_cases am:t<nC
    ·obtain⟨O,rfl,_,oK⟩:=aT.o.has (by omega);obtain⟨bX,rfl,_,oL⟩:=aO.o.has (by omega);have bm:=un (yMX (U:=U) (rows:=rows) (x:=x) (j:=j) (show t<cost.length by rw[←cD.o];exact am));have iy:=un (show((yJK U rows cost x j).take t).length=t by rw[Zn,yLT,←cD.o];omega);obtain⟨ga,Aa,ma,ca,Da,aC,ay,y0,y1,y2,iR⟩:=aT.o.at_ (show cost[t]? = some (el cost t)from zaH (by rw[←cD.o];exact am))
     obtain⟨gx,Ax,mx,cx,Dx,fa,eU,x0,x1,x2,iS⟩:=aO.o.at_ (show x[t]? = some (el x t)from zaH (by rw[←iH.o];exact am));have kH:=un (show yJJ U rows cost x j t=⟨yJC U rows t++rats (if t=j then [-1,1]else [0,0]),if el x t=0 then 1 else 3,if t=j then 0 else el cost t⟩from rfl);generalize yJJ U rows cost x j t=PR at *
     generalize el cost t=q at *
     generalize el x t=qx at *
     have eL:=un hl;have a5:=un r;have ap:=un (zad r aU.o);have ar:=un (zad r aD.o);have bh:=un (zad r cH.o);have an:=un (bI.o.below r);have aN:=un (fr.o.below r);have HQ:=un (show RatS wy ga (Aa,ma,ca) (Da,aC,ay) q from(iR.below r));have iB:=un (show RatS wy gx (Ax,mx,cx) (Dx,fa,eU) qx from(iS.below r));have ae:=un (aq.o.trans ((r).mono aq.o.size));obtain⟨aV,_,aW,_⟩:=bc2 ap.o
     obtain⟨aX,_,aY,_⟩:=bc2 bh.o;have af:wy.cell? ⟨O,t*3,none⟩=some (.bool ga):=zab r y0;have ai:wy.cell? ⟨O,t*3+1,none⟩=some (Aa,ma,ca):=zab r y1;have aj:wy.cell? ⟨O,t*3+2,none⟩=some (Da,aC,ay):=zab r y2;have a0:wy.cell? ⟨bX,t*3,none⟩=some (.bool gx):=zab r x0
     have a3:wy.cell? ⟨bX,t*3+1,none⟩=some (Ax,mx,cx):=zab r x1;have eE:wy.cell? ⟨bX,t*3+2,none⟩=some (Dx,fa,eU):=zab r x2;have kX:=r.size;clear hl r y0 y1 y2 iR x0 x1 x2 iS;clear dC dA;have iG:=un (Bel.mk (Zg wy.heap.size wy));have oS:(0:Int)≤(t:Int):=Zf _;have oT:(t:Int)<(nC:Int):=by omega
     go_upto_region 18 with fail
     go_cut[19] (fun q_ wq=>∃(G:Nat) (D:OA) (d:Nat),q_=.pointer (some ⟨G,0,none⟩)∧wy.heap.size≤G∧wq.heap[G]? = some (.cells #[(D,U.length+2,d),.int .i64 1,ga,(Aa,ma,ca),(Da,aC,ay)] 43 (0,0))∧VecS wq 0 (D,U.length+2,d) (yJC U rows t++[0,0])∧Below wy.heap.size wy wq)
     case first =>
      refine zaS (S:=fun w'=>w'.cell? ⟨w,0,none⟩=some (O,nC,L)∧w'.cell? ⟨w,1,none⟩=some (R,m,M)∧w'.cell? ⟨w4,0,none⟩=some (A,U.length,c)∧w'.cell? ⟨w4,1,none⟩=some (B',U.length,c')∧w'.cell? ⟨O,t*3,none⟩=some (.bool ga)∧w'.cell? ⟨O,t*3+1,none⟩=some (Aa,ma,ca)∧w'.cell? ⟨O,t*3+2,none⟩=some (Da,aC,ay)) [14] (h:=fun hHeld=>?_);refine zaw [0,1,2,3,4,5,6,7,8,9] ?_;repeat refine tkL (hS:=hHeld) (h:=?_)
      refine zao ?_;refine zme (i:=10) (j:=13) rfl rfl (by kernel_rfl) (fun K s=>?_) (fun K s=>?_)
      ·skip
       go_simp;refine shutOn s fun hHeld=>?_
       clear s K;refine zme (i:=11) (j:=13) rfl rfl (by kernel_rfl) (fun K s=>?_) (fun K s=>?_)
       ·skip
        go_simp
        (go_at_call 67;(refine(column S cB.o A U.length c B' c' U (some ⟨O,0,none⟩) nC L R m M rows t (some ⟨wy.heap.size,0,none⟩) 2 2 [0,0] _ (((aN.o).alloc _).drew) (((an.o).alloc _).drew) ((z6g (u:=wy) (b:=wy.heap.size) rfl (RatS.zero _) (RatS.zero _)).drew) am N.o.sh.co (fun p H=>(N.o.rw_ p H).2.1) (by omega) (by omega) (by omega)).mono ?_);rintro e v1 ⟨D,d,rfl,hv,f⟩;have z:Below wy.heap.size wy v1:=(bdrew (Zo (Zg wy.heap.size wy) (Za _) (.cells #[false,(),(),false,(),()] 41))).trans (f.mono (by simp<;>omega));have bn:=un (hv.base (Zb _));have aH:=un z;have t0:=zab z aV;have t1:=zab z aW;have t2:=zab z aX;have t3:=zab z aY;have t4:=zab z af;have t5:=zab z ai;have t6:=zab z aj;clear hv f z)
        (try go_wp2_with fail)
        refine shutOn s fun hHeld=>?_
        clear s K;refine zaw [12] ?_;repeat refine tkL (hS:=hHeld) (h:=?_)
        refine zao ?_;refine zaB 13 (h:=fun K s=>?_);go_simp;refine shutOn s fun hHeld=>?_
        clear s K;refine zay 14 (h:=fun K s=>?_);go_simp;refine shutOff s ?_;clear s K;refine zaM (h:=?_);go_wp2;go_meet
        case rel=>exact⟨v1.heap.size,D,d,rfl,aH.o.size,zal _ _ _,bn.o.alloc _,aH.o.alloc aH.o.size _⟩
       ·skip
        go_simp;refine shutOn s fun hHeld=>?_
        clear s K;refine zaB 11 (h:=fun K s=>?_);go_simp
        (go_at_call 67;(refine(column S cB.o A U.length c B' c' U (some ⟨O,0,none⟩) nC L R m M rows t (some ⟨wy.heap.size,0,none⟩) 2 2 [0,0] _ ((((aN.o).alloc _).alloc _).drew) ((((an.o).alloc _).alloc _).drew) (((z6g (u:=wy) (b:=wy.heap.size) rfl (RatS.zero _) (RatS.zero _)).alloc _).drew) am N.o.sh.co (fun p H=>(N.o.rw_ p H).2.1) (by omega) (by omega) (by omega)).mono ?_);rintro e v1 ⟨D,d,rfl,hv,f⟩;have z:Below wy.heap.size wy v1:=(bdrew (Zo (Zo (Zg wy.heap.size wy) (Za _) (.cells #[false,(),(),false,(),()] 41)) (by simp) (.cells #[(),.int .i64 0,false,(),()] 43))).trans (f.mono (by simp<;>omega));have bn:=un (hv.base (Zb _));have aH:=un z;have t0:=zab z aV;have t1:=zab z aW;have t2:=zab z aX;have t3:=zab z aY;have t4:=zab z af;have t5:=zab z ai;have t6:=zab z aj;have aI:=un (show v1.heap[wy.heap.size+1]? = some (.cells #[(),.int .i64 0,false,(),()] 43 (0,0))from zad f (zbD wy (.cells #[false,(),(),false,(),()] 41) #[(),.int .i64 0,false,(),()] 43));obtain⟨o0,_,lk,_,o1,_,of1,_,o2,_,ln,_,o3,_,lp,_,o4,_,lr,_⟩:=bf5 aI.o;clear hv f z)
        (try go_wp2_with fail)
        refine shutOn s fun hHeld=>?_
        clear s K;refine zaw [12] ?_;repeat refine tkL (hS:=hHeld) (h:=?_)
        refine zao ?_;refine zay 14 (h:=fun K s=>?_);go_simp;refine shutOff s ?_;clear s K;refine zaM (h:=?_);go_wp2;go_meet;have F:=zqy aI.o (D,U.length+2,d) (.int .i64 1) ga (Aa,ma,ca) (Da,aC,ay)
        case rel=>exact⟨wy.heap.size+1,D,d,rfl,Xz _,zar _ (zar _ (zar _ (zar _ (zar _ aI.o)))),bn.o.tk F (by decide) (by decide),bsc (p:=⟨wy.heap.size+1,4,none⟩) (bsc (p:=⟨wy.heap.size+1,3,none⟩) (bsc (p:=⟨wy.heap.size+1,2,none⟩) (bsc (p:=⟨wy.heap.size+1,1,none⟩) (bsc (p:=⟨wy.heap.size+1,0,none⟩) (aH.o) (Xz _)) (Xz _)) (Xz _)) (Xz _)) (Xz _)⟩
      ·skip
       go_simp;refine shutOn s fun hHeld=>?_
       clear s K;refine zaB 10 (h:=fun K s=>?_);go_simp;refine shutOn s fun hHeld=>?_
       clear s K;refine zaB 11 (h:=fun K s=>?_);go_simp
       (go_at_call 67;(refine(column S cB.o A U.length c B' c' U (some ⟨O,0,none⟩) nC L R m M rows t (some ⟨wy.heap.size+1,0,none⟩) 2 2 [0,0] _ ((((aN.o).alloc _).alloc _).drew) ((((an.o).alloc _).alloc _).drew) ((z6g (u:=wy.alloc (.cells #[(),.int .i64 0,false,(),()] 43)) (b:=wy.heap.size+1) (by simp) (RatS.zero _) (RatS.zero _)).drew) am N.o.sh.co (fun p H=>(N.o.rw_ p H).2.1) (by omega) (by omega) (by omega)).mono ?_);rintro e v1 ⟨D,d,rfl,hv,f⟩;have z:Below wy.heap.size wy v1:=(bdrew (Zo (Zo (Zg wy.heap.size wy) (Za _) (.cells #[(),.int .i64 0,false,(),()] 43)) (by simp) (.cells #[false,(),(),false,(),()] 41))).trans (f.mono (by simp<;>omega));have bn:=un (hv.base (Zb _));have aH:=un z;have t0:=zab z aV;have t1:=zab z aW;have t2:=zab z aX;have t3:=zab z aY;have t4:=zab z af;have t5:=zab z ai;have t6:=zab z aj;have aI:=un (show v1.heap[wy.heap.size]? = some (.cells #[(),.int .i64 0,false,(),()] 43 (0,0))from zad f (zak (zal wy #[(),.int .i64 0,false,(),()] 43)));obtain⟨o0,_,lk,_,o1,_,of1,_,o2,_,ln,_,o3,_,lp,_,o4,_,lr,_⟩:=bf5 aI.o;clear hv f z)
       (try go_wp2_with fail)
       refine shutOn s fun hHeld=>?_
       clear s K;refine zaw [12] ?_;repeat refine tkL (hS:=hHeld) (h:=?_)
       refine zao ?_;refine zay 14 (h:=fun K s=>?_);go_simp;refine shutOff s ?_;clear s K;refine zaM (h:=?_);go_wp2;go_meet;have F:=zqy aI.o (D,U.length+2,d) (.int .i64 1) ga (Aa,ma,ca) (Da,aC,ay)
       case rel=>exact⟨wy.heap.size,D,d,rfl,Za _,zar _ (zar _ (zar _ (zar _ (zar _ aI.o)))),bn.o.tk F (by decide) (by decide),bsc (p:=⟨wy.heap.size,4,none⟩) (bsc (p:=⟨wy.heap.size,3,none⟩) (bsc (p:=⟨wy.heap.size,2,none⟩) (bsc (p:=⟨wy.heap.size,1,none⟩) (bsc (p:=⟨wy.heap.size,0,none⟩) (aH.o) (Za _)) (Za _)) (Za _)) (Za _)) (Za _)⟩
     case rest =>
      rename World=>wq
      obtain⟨G,D,d,rfl,cJ,hO,hV,r⟩:=hcut;have aJ:=un hO;have eJ:=un r;have ad:=un (zad r ap.o);have ag:=un (zad r ar.o);have ah:=un (zad r bh.o);have be:=un (an.o.below r);have a8:=un (aN.o.below r);have fS:=un (HQ.o.below r);have jj:=un (iB.o.below r);have bT:=un (iG.o.below r);have HD:=un (show VecS wq 0 (D,U.length+2,d) (yJC U rows t++[0,0])from hV)
      have au:=un (ae.o.trans ((r).mono ae.o.size));obtain⟨ch,_,ci,_⟩:=bc2 ad.o;obtain⟨bQ,_,bS,cs⟩:=bc2 ah.o;have aQ:=zab r ai;have aS:=zab r a0;have aP:=zab r a3;have bJ:=zab r eE
      obtain⟨dd,_,_,_,_,_,_,_,jv,_,_,_,jA,_,_,_,jB,_⟩:=bf5 aJ.o;clear hO hV r;go_upto_if 92 with fail
      go_cut[] (fun wx=>∃(D2:OA) (V:Nat) (g2:Bool) (A2:OA) (Y P:Nat) (E2:OA) (Z T:Nat),wx.heap[G]? = some (.cells #[(D2,U.length+2,V),.int .i64 1,g2,(A2,Y,P),(E2,Z,T)] 43 (0,0))∧VecS wx 0 (D2,U.length+2,V) (yJC U rows t++rats (if t=j then [-1,1]else [0,0]))∧RatS wx g2 (A2,Y,P) (E2,Z,T) (if t=j then 0 else q)∧Below wy.heap.size wy wx)
      case first =>
       by_cases e5:t=j
       ·subst e5;go_upto_region 20 with fail
        refine zaS (S:=fun w'=>w'.cell? ⟨w,0,none⟩=some (O,nC,L)∧w'.cell? ⟨w,1,none⟩=some (R,m,M)∧w'.cell? ⟨w4,0,none⟩=some (A,U.length,c)∧w'.cell? ⟨w4,1,none⟩=some (B',U.length,c')∧w'.cell? ⟨G,0,none⟩=some (D,U.length+2,d)∧w'.cell? ⟨G,2,none⟩=some (.bool ga)∧w'.cell? ⟨G,3,none⟩=some (Aa,ma,ca)∧w'.cell? ⟨G,4,none⟩=some (Da,aC,ay)) [9,10,11] (h:=fun hHeld=>?_);refine zaw [0,1,2] ?_
        repeat refine tkL (hS:=hHeld) (h:=?_)
        refine zao ?_;refine zaw [7] ?_;repeat refine tkX (h:=?_)
        refine zao ?_;refine zaB 3 (h:=fun K s=>?_);go_simp
        (go_at_call 13;(refine(Rt.int (-1) (by decide) (by decide) _).mono ?_);rintro e v1 ⟨g7,A7,m7,c7,D7,md7,cd7,rfl,hn7,f⟩;have bi:=un (zad f ad.o);have bb:=un (zad f ag.o);have bc:=un (zad f ah.o);have ao:=un (zad f aJ.o);have f1:=un (be.o.drew.below f);have fq:=un (a8.o.drew.below f);have jr:=un (bT.o.drew.below f);have kB:=un (show RatS v1 g7 (A7,m7,c7) (D7,md7,cd7) ((-1:Int):Rat)from hn7);have c3:=un (au.o.trans ((It.bdrew0' f).mono au.o.size));obtain⟨ig,_,ii,_⟩:=bc2 bi.o;obtain⟨fU,_,fV,_⟩:=bc2 bc.o;obtain⟨fW,_,_,_,fX,_,mR,_,mC,_,_,_,mK,_,_,_,mL,_⟩:=bf5 ao.o;clear hn7 f)
        (try go_wp2_with fail)
        refine shutOn s fun hHeld=>?_
        clear s K;refine zaB 4 (h:=fun K s=>?_);go_simp
        (go_at_call 13;(refine(Rt.int 1 (by decide) (by decide) _).mono ?_);rintro e v2 ⟨g8,A8,m8,c8,D8,md8,cd8,rfl,hn8,f⟩;have fI:=un (zad f bi.o);have bd:=un (zad f bb.o);have fJ:=un (zad f bc.o);have jz:=un (zad f ao.o);have jC:=un (f1.o.below f);have je:=un (fq.o.below f);have js:=un (jr.o.below f);have lZ:=un (kB.o.below f);have kC:=un (show RatS v2 g8 (A8,m8,c8) (D8,md8,cd8) ((1:Int):Rat)from hn8);have dh:=un (c3.o.trans ((f).mono c3.o.size));obtain⟨jp,ms,jq,_⟩:=bc2 fI.o;obtain⟨c4,cW,mv,_,c5,cY,mw,_,c6,cZ,my,_,da,c0,mz,_,db,cU,mA,_,dc,cV,mB,_,cP,cN,lS,_,cQ,cO,lT,_⟩:=bf8 bd.o;obtain⟨jt,_,ju,_⟩:=bc2 fJ.o;obtain⟨mG,_,_,_,_,_,_,_,mH,_,_,_,mI,_,_,_,mJ,_⟩:=bf5 jz.o;clear hn8 f)
        (try go_wp2_with fail)
        refine shutOn s fun hHeld=>?_
        clear s K;refine zaB 5 (h:=fun K s=>?_);go_simp;refine shutOn s fun hHeld=>?_
        clear s K;refine zaB 6 (h:=fun K s=>?_);go_simp
        (go_at_call 67;(refine(column S cB.o A U.length c B' c' U (some ⟨O,0,none⟩) nC L R m M rows t (some ⟨v2,0,none⟩) 2 2 [((-1:Int):Rat),((1:Int):Rat)] _ (je.o.alloc _) (jC.o.alloc _) (z6g rfl lZ.o kC.o) am N.o.sh.co (fun p H=>(N.o.rw_ p H).2.1) (by omega) (by omega) (by omega)).mono ?_);rintro e v3 ⟨D3,d3,rfl,hv,f⟩;have eO:=un (hv.base (Zb _));have z:Below (v2.alloc (.cells #[g7,(A7,m7,c7),(D7,md7,cd7),g8,(A8,m8,c8),(D8,md8,cd8)] 41)).heap.size (v2.alloc (.cells #[g7,(A7,m7,c7),(D7,md7,cd7),g8,(A8,m8,c8),(D8,md8,cd8)] 41)) v3:=f;have kr:=un ((js.o.alloc (.cells #[g7,(A7,m7,c7),(D7,md7,cd7),g8,(A8,m8,c8),(D8,md8,cd8)] 41)).b.trans (f.mono (js.o.alloc (.cells #[g7,(A7,m7,c7),(D7,md7,cd7),g8,(A8,m8,c8),(D8,md8,cd8)] 41)).b.size));have a6:=un (zad f (zak jz.o));have r0:=(zag a6.o 0);have r2:=(zag a6.o 2);have r3:=(zag a6.o 3);have r4:=(zag a6.o 4);have t0:=zab z (cell_al (ob:=.cells #[g7,(A7,m7,c7),(D7,md7,cd7),g8,(A8,m8,c8),(D8,md8,cd8)] 41) jp);have t1:=zab z (cell_al (ob:=.cells #[g7,(A7,m7,c7),(D7,md7,cd7),g8,(A8,m8,c8),(D8,md8,cd8)] 41) jq);have t2:=zab z (cell_al (ob:=.cells #[g7,(A7,m7,c7),(D7,md7,cd7),g8,(A8,m8,c8),(D8,md8,cd8)] 41) jt);have t3:=zab z (cell_al (ob:=.cells #[g7,(A7,m7,c7),(D7,md7,cd7),g8,(A8,m8,c8),(D8,md8,cd8)] 41) ju);have t4:=zab z (cell_al (ob:=.cells #[g7,(A7,m7,c7),(D7,md7,cd7),g8,(A8,m8,c8),(D8,md8,cd8)] 41) mG);have t5:=zab z (cell_al (ob:=.cells #[g7,(A7,m7,c7),(D7,md7,cd7),g8,(A8,m8,c8),(D8,md8,cd8)] 41) mH);have t6:=zab z (cell_al (ob:=.cells #[g7,(A7,m7,c7),(D7,md7,cd7),g8,(A8,m8,c8),(D8,md8,cd8)] 41) mI);have t7:=zab z (cell_al (ob:=.cells #[g7,(A7,m7,c7),(D7,md7,cd7),g8,(A8,m8,c8),(D8,md8,cd8)] 41) mJ);clear hv f z)
        (try go_wp2_with fail)
        refine shutOn s fun hHeld=>?_
        clear s K;refine zaw [8] ?_;repeat refine tkL (hS:=hHeld) (h:=?_)
        refine zao ?_;refine zay 9 (h:=fun K s=>?_);go_simp;refine shutOff s ?_;clear s K;refine zay 10 (h:=fun K s=>?_);go_simp;refine shutOff s ?_;clear s K;refine zay 11 (h:=fun K s=>?_);go_simp;refine shutOff s ?_;clear s K;refine zaM (h:=?_);go_wp2;go_meet;have F:=yMe a6.o 0 2 3 4 (D3,U.length+2,d3) false () ()
        case rel=>simp only[if_true];exact⟨D3,d3,false,none,0,0,none,0,0,zar _ (zar _ (zar _ (zar _ a6.o))),eO.o.tk F (by decide) (by decide),RatS.zero _,bsc (p:=⟨G,4,none⟩) (bsc (p:=⟨G,3,none⟩) (bsc (p:=⟨G,2,none⟩) (bsc (p:=⟨G,0,none⟩) (kr.o) cJ) cJ) cJ) cJ⟩
       ·have o5:¬(t:Int)=(j:Int):=by omega
        go_wp2;go_meet
        case rel=>rw[if_neg e5,if_neg e5];exact⟨D,d,ga,Aa,ma,ca,Da,aC,ay,aJ.o,HD.o,fS.o,eJ.o⟩
      case rest =>
       clear aJ eJ;rename World=>wx
       obtain⟨D2,V,g2,A2,Y,P,E2,Z,T,hO,hV,hR,r⟩:=hcut;have aJ:=un hO;have kA:=un (eL.o.below r);have ky:=un (show ∀g,(Value.slice E t cE).ownBlock=some g→g<wy.heap.size from fun g e=>(eL.o.own.lt g e).2);have iw:=un (a5.o.trans (r.mono kX));have ad:=un (zad r ap.o);have ag:=un (zad r ar.o);have ah:=un (zad r bh.o);have be:=un (an.o.below r);have a8:=un (aN.o.below r);have fS:=un (HQ.o.below r)
       have jj:=un (iB.o.below r);have bT:=un (iG.o.below r);have HV:=un (show VecS wx 0 (D2,U.length+2,V) (yJC U rows t++rats (if t=j then [-1,1]else [0,0]))from hV);have kI:=un (show RatS wx g2 (A2,Y,P) (E2,Z,T) (if t=j then 0 else q)from hR);have au:=un (ae.o.trans ((r).mono ae.o.size));obtain⟨ch,_,ci,_⟩:=bc2 ad.o
       obtain⟨bQ,_,bS,cs⟩:=bc2 ah.o;have aQ:=zab r ai;have aS:=zab r a0;have aP:=zab r a3;have bJ:=zab r eE;obtain⟨dd,_,_,_,_,_,_,_,jv,_,_,_,jA,_,_,_,jB,_⟩:=bf5 aJ.o;clear hO hV hR r eL
       clear aV aW aX aY af ai aj a0 a3 eE;rw[kH.o]at bm;generalize rats (if t=j then [-1,1]else [0,0])=mor at *
       generalize (if t=j then 0 else q)=rh at *
       go_wp2_with fail
       refine(Rt.zero gx Ax mx cx Dx fa eU qx _ jj.o).mono ?_
       rintro e v4 ⟨rfl,f⟩;have bi:=un (zad f ad.o);have bb:=un (zad f ag.o);have bc:=un (zad f ah.o);have ao:=un (zad f aJ.o);have f1:=un (be.o.below f);have fq:=un (a8.o.below f);have jr:=un (bT.o.below f);have jD:=un (HV.o.below f);have jk:=un (kI.o.below f);have cM:=un (kA.o.below f);have c3:=un (au.o.trans ((f).mono au.o.size));obtain⟨ig,_,ii,_⟩:=bc2 bi.o
       obtain⟨fU,_,fV,_⟩:=bc2 bc.o;obtain⟨fW,_,_,_,fX,_,mR,_,mC,_,_,_,mK,_,_,_,mL,_⟩:=bf5 ao.o;have md:=zab f aQ;have bl:=un (iw.o.trans (f.mono iw.o.size));clear f
       have oI:=bl.o.size;clear ch ci bQ bS cs aQ aS aP bJ dd jv jA jB;by_cases cI:qx=0
       ·have hz:zr qx=true:=Zs cI;rw[if_pos cI]at bm;rw[hz];have k9:=bl.o.size;go_wp2_with (at_builtin;refine yJR rfl _ _ rfl rfl (cM.o.alloc _) rfl (zal _ _ _) ⟨jD.o.alloc _,rfl,jk.o.alloc _⟩ (n:=t) (p:=⟨yJC U rows t++mor,1,rh⟩) iy.o (by omega) (by simp;omega) ?_;intro G9 eX v9 bt e2 bv;have eK:=un bt;have eI:=un ((Zo bl.o bl.o.size (.cells #[(D2,U.length+2,V),.int .i64 1,g2,(A2,Y,P),(E2,Z,T)] 43)).trans bv);clear bt e2 bv)
        go_roundw
        case rel=>exact⟨t+1,G9,eX,_,by go_num,rfl,by omega,by rw[bm.o];exact eK.o,eI.o⟩
        case measure=>simp[intOf];omega
       ·have hz:zr qx=false:=Zu cI;rw[if_neg cI]at bm;rw[hz];go_upto_region 23 with fail
        have F:TKeep 43 v4 (v4.setCell ⟨G,1,none⟩ (.int .i64 3)):=TKeep.set ao.o _;have kT:=un (show(v4.setCell ⟨G,1,none⟩ (.int .i64 3)).heap[G]? = some (.cells #[(D2,U.length+2,V),.int .i64 3,g2,(A2,Y,P),(E2,Z,T)] 43 (0,0))from zar _ ao.o);have a4:=un (bsc (u:=.int .i64 3) (p:=⟨G,1,none⟩) bl.o (show wz.heap.size≤G by omega));have kx:=un (RowsL.setAt cM.o (b:=G) (u:=.int .i64 3) (o:=1) ao.o (fun g_ e_=>by have h1:=ky.o g_ e_;omega))
        have eO:=un (jD.o.tk F (by decide) (by decide));have kG:=un (jk.o.tk F (by decide));obtain⟨b0,_,b1,_,b2,_,b3,_,b4,_⟩:=bc5 kT.o;generalize v4.setCell ⟨G,1,none⟩ (.int .i64 3)=v5 at *
        have k9:=a4.o.size;go_wp2_with (at_builtin;refine yJR rfl _ _ rfl rfl (kx.o.alloc _) rfl (zal _ _ _) ⟨eO.o.alloc _,rfl,kG.o.alloc _⟩ (n:=t) (p:=⟨yJC U rows t++mor,3,rh⟩) iy.o (by omega) (by simp;omega) ?_;intro G9 eX v9 bt e2 bv;have eK:=un bt;have eI:=un ((Zo a4.o a4.o.size (.cells #[(D2,U.length+2,V),.int .i64 3,g2,(A2,Y,P),(E2,Z,T)] 43)).trans bv);clear bt e2 bv)
        go_roundw
        case rel=>exact⟨t+1,G9,eX,_,by go_num,rfl,by omega,by rw[bm.o];exact eK.o,eI.o⟩
        case measure=>simp[intOf];omega
    ·obtain rfl:nC=t:=by omega
     have kK:=un (show(yJK U rows cost x j).take nC=yJK U rows cost x j from ZH (by rw[yLT,←cD.o];exact Za _));rw[kK.o]at hl;have a5:=un r;have ap:=un (zad r aU.o);have ar:=un (zad r aD.o);have bh:=un (zad r cH.o);have an:=un (bI.o.below r);have aN:=un (fr.o.below r);have HL:=un (show RowsL wy wz (E,nC,cE) l (yJK U rows cost x j)from hl)
     have ae:=un (aq.o.trans ((r).mono aq.o.size));obtain⟨aV,_,aW,_⟩:=bc2 ap.o;obtain⟨aX,_,aY,_⟩:=bc2 bh.o;clear hl r;clear dC dA;go_wp2_with fail
     have al:=zae wy (.cells #[.int .i64 1,.int .i64 (-1)] 3);have ad:=un (zad al ap.o);have ag:=un (zad al ar.o);have ah:=un (zad al bh.o);have be:=un (an.o.below al);have a8:=un (aN.o.below al);have lU:=un (HL.o.below al);have au:=un (ae.o.trans ((al).mono ae.o.size));obtain⟨ch,_,ci,_⟩:=bc2 ad.o
     obtain⟨bQ,_,bS,cs⟩:=bc2 ah.o;have KI:=un (zal wy #[.int .i64 1,.int .i64 (-1)] 3);obtain⟨dd,_⟩:=bc2 KI.o;refine(goal A U.length c B' c' m U wy.heap.size 2 2 [1, -1] _ a8.o (by omega) rfl (zqg wy 1 (-1)) (by decide) (by decide) (by decide)).mono ?_
     rintro e v1 ⟨D,d,rfl,hv,f⟩;have bi:=un (zad f ad.o);have bb:=un (zad f ag.o);have bc:=un (zad f ah.o);have ao:=un (zad f KI.o);have f1:=un (be.o.below f);have fq:=un (a8.o.below f);have cM:=un (lU.o.below f);have kO:=un (show VecS v1 0 (D,U.length+2,d) (yJG U)from(hv.base (Zb _)));have c3:=un (au.o.trans ((f).mono au.o.size));obtain⟨ig,_,ii,_⟩:=bc2 bi.o
     obtain⟨fU,_,fV,_⟩:=bc2 bc.o;obtain⟨fW,_,fX,_⟩:=bc2 ao.o;have iv:=un ((Zo a5.o a5.o.size (.cells #[.int .i64 1,.int .i64 (-1)] 3)).trans (f.mono (Zo a5.o a5.o.size (.cells #[.int .i64 1,.int .i64 (-1)] 3)).size));clear hv f;go_wp2_with fail
     refine(ends S2 E nC cE D (U.length+2) d (yJK U rows cost x j) (yJG U) B _ (cM.o.base' (Zb _)).toS kO.o ku.o kq.o).mono ?_
     rintro e w6 ⟨f,h⟩;have ak:Below wz wz w6:=iv.o.trans (f.mono iv.o.size);rw[kD.o]at h;have fI:=un (zad ak aU.o);have bd:=un (zad ak aD.o);have fJ:=un (zad ak cH.o);have jC:=un (bI.o.below ak);have je:=un (fr.o.below ak);have dh:=un (aq.o.trans ((ak).mono aq.o.size));obtain⟨jp,ms,jq,_⟩:=bc2 fI.o
     obtain⟨c4,cW,mv,_,c5,cY,mw,_,c6,cZ,my,_,da,c0,mz,_,db,cU,mA,_,dc,cV,mB,_,cP,cN,lS,_,cQ,cO,lT,_⟩:=bf8 bd.o;obtain⟨jt,_,ju,_⟩:=bc2 fJ.o;clear ak f
     clear aV aW aX aY ch ci bQ bS cs dd ig ii fU fV fW fX;cases o with
     | spent kk =>
      obtain⟨fb,ev,rfl,e1,kV,num,rfl,k5,kZ⟩:=h;go_wp2;refine Zd (v:=.tuple #[.agg #[false,(),(),false,(),(),false,false],.iface 224 (.pointer (some ⟨fb,0,none⟩))]) (by simp[results,results25,go_sem,c4,cW,c5,cY,c6,cZ,da,c0,db,cU,dc,cV,cP,cN,cQ,cO]) rfl ?_;have F:=zYl bd.o false () () false () () false false
      exact⟨bsc (bsc (bsc (bsc (bsc (bsc (bsc (bsc dh.o))))))),fb,_,rfl,F.blk e1 (by decide),kV,num,rfl,k5,F.blk kZ (by decide)⟩
     | none kk =>
      obtain⟨fb,rfl,e1⟩:=h;go_wp2;refine Zd (v:=.tuple #[.agg #[false,(),(),false,(),(),false,false],.iface 224 (.pointer (some ⟨fb,0,none⟩))]) (by simp[results,results25,go_sem,c4,cW,c5,cY,c6,cZ,da,c0,db,cU,dc,cV,cP,cN,cQ,cO]) rfl ?_;have F:=zYl bd.o false () () false () () false false
      exact⟨bsc (bsc (bsc (bsc (bsc (bsc (bsc (bsc dh.o))))))),fb,rfl,F.blk e1 (by decide)⟩
     | ends a b =>
      obtain⟨gl,a1,m1,c1,d1,e9,eT,gh,a2,Y,P,V,Z,T,rfl,k6,k7⟩:=h;go_wp2;refine Zd (v:=.tuple #[.agg #[gl,(a1,m1,c1),(d1,e9,eT),gh,(a2,Y,P),(V,Z,T),.bool a.isSome,.bool b.isSome],.nilIface]) (by simp[results,results25,go_sem,c4,cW,c5,cY,c6,cZ,da,c0,db,cU,dc,cV,cP,cN,cQ,cO]) rfl ?_;have F:=zYl bd.o gl (a1,m1,c1) (d1,e9,eT) gh (a2,Y,P) (V,Z,T) (.bool a.isSome) (.bool b.isSome)
      exact⟨bsc (bsc (bsc (bsc (bsc (bsc (bsc (bsc dh.o))))))),gl,a1,m1,c1,d1,e9,eT,gh,a2,Y,P,V,Z,T,rfl,k6.tk F (by decide),k7.tk F (by decide)⟩
