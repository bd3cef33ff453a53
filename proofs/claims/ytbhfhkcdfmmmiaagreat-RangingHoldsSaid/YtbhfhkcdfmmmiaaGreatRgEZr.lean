/- Contracts and lemmas: RgE RgQ. Conditions: as each says. -/
import Derived.Test.YtbhfhkcdfmmmiaaGreatRgPZr
import Derived.Test.YtbhfhkcdfmmmiaaGreatGdSZr
set_option linter.all false
set_option maxHeartbeats 4000000
set_option maxRecDepth 100000
namespace Go.Proofs.YtbhfhkcdfmmmiaaGreat
open Go.RowKit Am Go.Proofs.Tryz
open Pr (psolve)
open Pb (zPu)
attribute [local go_sem ↓] Go.wp_at_zero Go.wp_at_succ
variable {rows:List PRow}{cost:List Rat}{S b m n nC:Nat}{g:Rat}{w:World}
theorem Err.wrapF(b:Nat)(S:ByteArray)(k:Int)(w:World):Calls prog 115 #[.iface 224 (.pointer (some ⟨b,0,none⟩)),.string S,.int .i64 k] w fun a w'=>a=.returned (.iface 224 (.pointer (some ⟨w,0,none⟩)))∧w'=w.alloc (.cells #[.string S,.int .i64 k,.iface 224 (.pointer (some ⟨b,0,none⟩))] 226):=by
 go_enter func115,ntmps115;go_wp2;go_ret
 exact⟨rfl,rfl⟩
theorem yMe{cs:Array Value}{t:TypeId}(c:w.heap[b]? = some (.cells cs t (0,0)))(f g l m:Nat)(v1 n o p:Value):TKeep t w ((((w.setCell ⟨b,f,none⟩ v1).setCell ⟨b,g,none⟩ n).setCell ⟨b,l,none⟩ o).setCell ⟨b,m,none⟩ p):=fun k _ d=>by
 have a:k≠b:=fun e=>d cs (by rw[e];exact c)
 rw[Below.heap_setCell _ _ _ _ (by exact a),Below.heap_setCell _ _ _ _ (by exact a),Below.heap_setCell _ _ _ _ (by exact a),Below.heap_setCell _ _ _ _ (by exact a)]
def yPE:ByteArray:={ data:=#[101,110,100] }
theorem ySK{k:Nat}(hk:k<2):sgE k=1∨sgE k = -1:=by
 unfold sgE;rcases(show k=0∨k=1 by omega)with rfl | rfl
 ·exact .inl rfl
 ·exact .inr rfl
theorem yXO{q:Rat}(hg:g=1∨g = -1):mw (g*q)=mw q:=by
 rcases hg with rfl | rfl
 ·rw[Rat.one_mul]
 ·rw[show(-1:Rat)*q = -q by grind,zhY]
theorem GoodS.sg(h:GoodS S nC m cost rows)(hg:g=1∨g = -1):GoodS S nC m (scale g cost) rows :=
 ⟨fun q a=>by
   obtain⟨x,b,rfl⟩:=List.mem_map.1 a;rw[yXO hg];exact h.sc x b,h.rw_,h.kd,h.h1,h.hS,h.hc,h.hr,h.cap,h.sb⟩
theorem yLR{B:Nat}{cols:List Nat}(hg:GoodS S nC m cost rows)(a:cost.length=nC)(b:rows.length=m)(h:zSA (nC+cnt rows m) m (zc3 rows) (zg8 rows) (zjD cost rows) B=.best cols n) :
  (∀q∈(zh1 (nC+cnt rows m+m) cols (za5 (zt0 (zc3 rows) (zg8 rows)) (zwh (zg8 rows)) cols)).take nC,mw q≤sB m S S):=by
 have l:=zVA hg.sh a b rfl;have o:=zVz hg.sh a b rfl;have hc:(zjD cost rows).length=nC+cnt rows m:=by unfold zjD;rw[List.length_append,List.length_replicate,a,b]
 obtain⟨E,_,d⟩:=zUc (B:=2*binom (nC+cnt rows m+m) m+m) l o hc (Nat.le_refl _);obtain⟨f,g⟩:=d B;by_cases c:(zSA (nC+cnt rows m) m (zc3 rows) (zg8 rows) (zjD cost rows) (2*binom (nC+cnt rows m+m) m+m)).pivots≤B
 ·have e:=f c;rw[←e]at E;have:=z6F hg a b rfl E;rw[h]at this;exact this.1
 ·obtain⟨p,e⟩:=g (Nat.lt_of_not_le c);rw[h]at e;cases e
def yYn (W wr:World) (E:Nat→EndO) (k:Nat):Prop:=∃(g:Bool) (A:OA) (m c:Nat) (D:OA) (md cd:Nat) (g':Bool) (A':OA) (m' c':Nat) (D':OA) (md' cd':Nat) (a b:Option Rat),
  wr.heap[W.heap.size]? = some (.cells #[g,(A,m,c),(D,md,cd),g',(A',m',c'),(D',md',cd'),.bool a.isSome,.bool b.isSome] 62 (0,0)) ∧
  RatS wr g (A,m,c) (D,md,cd) (a.getD 0)∧RatS wr g' (A',m',c') (D',md',cd') (b.getD 0)∧EndV E k a b∧Below W W wr
def yJX (w:World) (B:Nat) (o:RangeO) (e:Ending) (w':World):Prop :=
  Below w w w'∧match o with
    | .spent k=>∃fb ev,e=.returned (.tuple #[.agg #[false,(),(),false,(),(),false,false],.iface 224 (.pointer (some ⟨fb,0,none⟩))])∧w'.heap[fb]? = some (.cells #[.string yPE,(k:Int),ev] 226 (0,0))∧Spent w' B ev
    | .none k=>∃fb,e=.returned (.tuple #[.agg #[false,(),(),false,(),(),false,false],.iface 224 (.pointer (some ⟨fb,0,none⟩))])∧w'.heap[fb]? = some (.cells #[.string yPE,(k:Int),.iface 73 (.int .i64 210)] 226 (0,0))
    | .ends a b=>∃(g:Bool) (A:OA) (m c:Nat) (D:OA) (md cd:Nat) (g':Bool) (A':OA) (m' c':Nat) (D':OA) (md' cd':Nat),
        e=.returned (.tuple #[.agg #[g,(A,m,c),(D,md,cd),g',(A',m',c'),(D',md',cd'),.bool a.isSome,.bool b.isSome],.nilIface])∧RatS w' g (A,m,c) (D,md,cd) (a.getD 0)∧RatS w' g' (A',m',c') (D',md',cd') (b.getD 0)
namespace Ra
theorem ends(S:Nat)(R:OA)(m L:Nat)(C:OA)(n cC:Nat)(rows:List PRow)(cost:List Rat)(B:Nat)(w:World)(hr:RowsS w 0 (R,m,L) rows)(hc:VecS w 0 (C,n,cC) cost)(hg:GoodS S n m cost rows)(hB:B≤1000000) :
  Calls prog 68 #[(R,m,L),(C,n,cC),(B:Int)] w (yJX w B (yJF n cost rows B)):=by
 have eY:=un hr.len;have ck:=un hc.len;have HG:=un hg;have eF:=un hB;have H8:=un (show 8*S+8≤LIM by rw[zaP];have:=hg.hS;omega);have eZ:=un hg.sb;have mZ:=hg.hc;have mY:=hg.hr;have eN:=un (fun k=>show yVC n cost rows B k=yJD n (scale (sgE k) cost) rows (zSA (n+cnt rows m) m (zc3 rows) (zg8 rows) (zjD (scale (sgE k) cost) rows) B)by unfold yVC yJw;rw[←hr.len])
 have eS:=un (show ∀cols,yJA n rows cols=(zh1 (n+cnt rows m+m) cols (za5 (zt0 (zc3 rows) (zg8 rows)) (zwh (zg8 rows)) cols)).take n from fun cols=>by unfold yJA;rw[←hr.len]);unfold yJF;generalize hE:yVC n cost rows B=E at *
 clear hg hB hE;obtain⟨W,hW⟩:∃W,(w.alloc (.cells #[false,(),(),false,(),(),false,false] 62))=W:=⟨_,rfl⟩
 have dN:=un (show W.heap[w.heap.size]? = some (.cells #[false,(),(),false,(),(),false,false] 62 (0,0))by rw[←hW];exact zam (by simp));have BB:=un (show Below w w W by rw[←hW];exact zae w _);have HZ:=un (show w.heap.size+1≤W.heap.size by rw[←hW];simp);have HR:=un (show RowsS W 0 (R,m,L) rows by rw[←hW];exact(hr).alloc _);have HC:=un (show VecS W 0 (C,n,cC) cost by rw[←hW];exact(hc).alloc _)
 obtain⟨iF,iL,ju,jf,iG,iC,jv,jh,iV,i8,mp,ml,mH,ms,fL,fp,mI,mv,fU,fw,gR,gM,f1,fD,ha,g5,f8,e9,g0,g6,gf,fh⟩:=bf8 dN.o;clear hr hc;go_enter func68,ntmps68;go_upto_region 2 with fail
 clear hW;have m0:=HZ.o;go_wp2_with fail
 go_loopw [16] (fun i wr=>∃k:Nat,i=.int .i64 k∧k≤2∧yYn W wr E k)
  (fun i _=>2-(intOf i).toNat)
 case atStart=>exact⟨0,rfl,Nat.zero_le _,false,none,0,0,none,0,0,false,none,0,0,none,0,0,none,none,zal _ _ _,RatS.zero _,RatS.zero _,.zero,zae W _⟩
 case round =>
  obtain⟨k,rfl,hk,gl,V,m1,c1,Z,ak,ad,gh,X,m2,c2,D2,al,ae,a,b,hO,dV,dW,dT,ah⟩:=hrel;have dL:=un hO;have J:=un dT;have dB:=un (zad ah dN.o);have lO:=un (HR.o.below ah);have mF:=un (HC.o.below ah);have HA:=un (show RatS wr gl (V,m1,c1) (Z,ak,ad) (a.getD 0)from dV);have dJ:=un (show RatS wr gh (X,m2,c2) (D2,al,ae) (b.getD 0)from dW);have dA:=un (BB.o.trans ((ah).mono BB.o.size))
  obtain⟨ei,ek,iT,i1,ej,el,iU,i2,em,eo,k9,kc,eC,eA,fM,fq,eD,eB,fV,fx,d7,d6,f2,fE,ef,ed,f9,fa,eg,ee,gg,fi⟩:=bf8 dB.o;obtain⟨iZ,iJ,jo,iQ,i4,iB,jl,iY,iP,i9,jy,jn,l1,lp,lj,kF,l3,lu,ll,kH,gG,mM,gx,mD,im,ia,h7,hV,ii,ig,iw,h3⟩:=bf8 dL.o;have e1:=un ah;clear hO dV dW dT ah;have e2:=un (Bel.mk e1.o);by_cases au:k<2
  ·have dM:=un (ySK au);have cl:=un (HG.o.sg dM.o);have aP:=un (eN.o k);have eP:=un (J.o.spent au);have eO:=un (J.o.no au);have eR:=un (show mw (sgE k)≤S by have h1:=HG.o.h1;have h2:mw (sgE k)≤1:=(by rcases dM.o with e | e<;>rw[e]<;>decide +kernel);omega);have mW:(0:Int)≤(k:Int):=Int.natCast_nonneg _;have mX:(k:Int)<2:=by omega
   go_wp2_with fail
   with_reducible refine(Rt.int (1-2*(k:Int)) (by omega) (by omega) _).mono ?_
   rintro e v1 ⟨g7,A7,m7,c7,D7,md7,cd7,rfl,hn,hb⟩;have eh:=un (zad hb dB.o);have en:=un (zad hb dL.o);have mB:=un (lO.o.below hb);have gL:=un (mF.o.below hb);have gr:=un (HA.o.below hb);have eG:=un (dJ.o.below hb);have lP:=un (e2.o.below hb);have eQ:=un (show RatS v1 g7 (A7,m7,c7) (D7,md7,cd7) (sgE k)from hn);have ep:=un (dA.o.trans ((hb).mono dA.o.size))
   obtain⟨iH,iD,jg,iW,iI,iE,ji,iX,jL,js,mq,mm,me,lN,fN,fr,mf,lH,fW,fy,gS,gN,f3,fF,hi,hd,ga,fc,hm,g1,gi,fj⟩:=bf8 eh.o;obtain⟨i0,iK,iO,i5,i3,iA,jp,iR,ja,iS,j5,jI,lq,kB,ky,j1,lv,ko,kz,j2,gH,mN,gy,mE,io,ib,ir,hX,ij,ih,ix,h4⟩:=bf8 en.o;clear hn hb;have z:=zae v1 (.cells #[g7,(A7,m7,c7),(D7,md7,cd7)] 41);have eq:=un (zad z eh.o);have ez:=un (zad z en.o);have gz:=un (mB.o.below z);have d3:=un (gL.o.below z);have gs:=un (gr.o.below z);have eH:=un (eG.o.below z)
   have md:=un (lP.o.below z);have dY:=un (eQ.o.below z);have et:=un (ep.o.trans ((z).mono ep.o.size));obtain⟨jJ,iM,kl,jD,jK,iN,km,jE,lB,k4,mr,mn,gJ,mP,fO,fs,gB,mR,fX,fz,gD,mJ,f4,fG,hj,gY,gb,fd,ho,g2,gj,fk⟩:=bf8 eq.o;obtain⟨kM,jO,la,kd,kO,jQ,kT,ke,kY,kg,kU,kf,lr,kC,lk,kG,lw,kp,lm,kI,mz,mb,l5,lV,hQ,hu,hK,hC,hT,hw,hM,hH⟩:=bf8 ez.o;have KG:=un (zal v1 #[g7,(A7,m7,c7),(D7,md7,cd7)] 41);obtain⟨mh,lJ,mi,lK,mj,lL⟩:=bc3 KG.o;go_wp2_with fail
   with_reducible refine(Vc.scaleS S H8.o g7 A7 m7 c7 D7 md7 cd7 (sgE k) C n cC cost 0 _ d3.o dY.o (by omega) HG.o.sc eR.o).mono ?_
   rintro e v2 ⟨Q,nQ,cQ,rfl,hn,hb⟩;have er:=un (zad hb eq.o);have es:=un (zad hb ez.o);have kA:=un (zad hb KG.o);have mG:=un (gz.o.below hb);have gQ:=un (d3.o.below hb);have gt:=un (gs.o.below hb);have eI:=un (eH.o.below hb);have kJ:=un (md.o.below hb);have gp:=un (dY.o.below hb);have HQ:=un (show VecS v2 0 (Q,nQ,cQ) (scale (sgE k) cost)from(hn.base (Nat.zero_le _)));have ex:=un (et.o.trans ((hb).mono et.o.size))
   obtain⟨jq,i6,j3,jG,jr,i7,j4,jH,lY,ln,gw,mC,mt,l7,fP,ft,mx,l9,fY,fA,gE,mK,f5,fH,hl,gZ,gc,fe,hp,g4,gm,fl⟩:=bf8 er.o;obtain⟨jB,jd,jw,jk,jC,je,jx,jm,kQ,jS,jZ,jM,k0,ki,ka,jF,k2,kj,kb,jt,lE,zip,kX,j9,hR,hv,hL,hG,hU,hJ,hN,hI⟩:=bf8 es.o;obtain⟨kR,jT,kS,jU,k3,kk⟩:=bc3 kA.o;obtain rfl:n=nQ:=by rw[hn.len,zfH,ck.o]
   clear hn hb;have s:=zae v2 (.cells #[(Q,n,cQ),(R,m,L)] 31);have eu:=un (zad s er.o);have ew:=un (zad s es.o);have d2:=un (mG.o.below s);have gT:=un (gQ.o.below s);have gu:=un (gt.o.below s);have eJ:=un (eI.o.below s);have mo:=un (kJ.o.below s);have gq:=un (gp.o.below s);have d0:=un (HQ.o.below s);have ey:=un (ex.o.trans ((s).mono ex.o.size))
   obtain⟨jz,jb,kt,jV,jA,jc,ku,jW,lZ,lM,gP,gK,mu,l8,fQ,fu,my,ma,fZ,fB,gF,mL,f6,fI,hx,hs,gd,ff,hz,he,fS,fm⟩:=bf8 eu.o;obtain⟨kN,jP,kv,jX,kP,jR,kw,jY,kZ,kh,kx,j0,ls,kn,kV,j7,lx,kq,kW,j8,mg,lI,lW,lg,ip,ic,iu,hZ,ik,h8,iy,h5⟩:=bf8 ew.o;have KP:=un (zal v2 #[(Q,n,cQ),(R,m,L)] 31);obtain⟨lz,kr,lA,ks⟩:=bc2 KP.o
   clear iF iL ju jf iG iC jv jh iV i8 mp ml mH ms fL fp mI mv fU fw gR gM f1 fD ha g5 f8 e9 g0 g6 gf fh ei ek iT i1 ej el iU i2 em eo k9 kc eC eA fM fq eD eB fV fx d7 d6 f2 fE ef ed f9 fa eg ee gg fi iZ iJ jo iQ i4 iB jl iY iP i9 jy jn l1 lp lj kF l3 lu ll kH gG mM gx mD im ia h7 hV ii ig iw h3 iH iD jg iW iI iE ji iX jL js mq mm me lN fN fr mf lH fW fy gS gN f3 fF hi hd ga fc hm g1 gi fj i0 iK iO i5 i3 iA jp iR ja iS j5 jI lq kB ky j1 lv ko kz j2 gH mN gy mE io ib ir hX ij ih ix h4 jJ iM kl jD jK iN km jE lB k4 mr mn gJ mP fO fs gB mR fX fz gD mJ f4 fG hj gY gb fd ho g2 gj fk kM jO la kd kO jQ kT ke kY kg kU kf lr kC lk kG lw kp lm kI mz mb l5 lV hQ hu hK hC hT hw hM hH mh lJ mi lK mj lL jq i6 j3 jG jr i7 j4 jH lY ln gw mC mt l7 fP ft mx l9 fY fA gE mK f5 fH hl gZ gc fe hp g4 gm fl jB jd jw jk jC je jx jm kQ jS jZ jM k0 ki ka jF k2 kj kb jt lE zip kX j9 hR hv hL hG hU hJ hN hI kR jT kS jU k3 kk
   go_wp2_with fail
   with_reducible refine(psolve S Q n cQ R m L (scale (sgE k) cost) rows _ _ B _ d0.o d2.o cl.o rfl rfl eF.o).mono ?_
   rintro e g ⟨hb,h⟩;generalize hso:zSA (n+cnt rows m) m (zc3 rows) (zg8 rows) (zjD (scale (sgE k) cost) rows) B=so at *
   have aB:=un (zad hb eu.o);have aD:=un (zad hb ew.o);have aC:=un (zad hb KP.o);have br:=un (d2.o.below hb);have bF:=un (gT.o.below hb);have a6:=un (gu.o.below hb);have aO:=un (eJ.o.below hb);have bt:=un (mo.o.below hb);have a5:=un (gq.o.below hb);have bf:=un (d0.o.below hb);have G:=un (ey.o.trans ((hb).mono ey.o.size));obtain⟨kK,j6,lh,kD,kL,jN,li,kE,gI,mO,fK,fo,gA,mQ,fR,fv,gC,mS,f0,fC,hh,g8,f7,fJ,hy,ht,ge,fg,hA,hf,fT,fn⟩:=bf8 aB.o
   obtain⟨lC,k5,lQ,lb,lD,k6,lR,lc,l0,lo,lS,ld,l2,lt,lT,le,l4,ly,lU,lf,mA,mc,l6,lX,iq,ie,iv,h0,il,h9,iz,h6⟩:=bf8 aD.o;obtain⟨lF,k7,lG,k8⟩:=bc2 aC.o;clear hb;cases so with
   | spent f =>
    obtain⟨ev,rfl,fb,num,rfl,e6,e5⟩:=h;have c:=zae g (.cells #[.int .i64 0,(),(),(),.int .i64 0] 76);have t:=un (zad c aB.o);have o:=un (zad c aD.o);have u:=un (zad c aC.o);have T:=un (br.o.below c);have ar:=un (bF.o.below c);have M:=un (a6.o.below c);have I:=un (aO.o.below c);have N:=un (bt.o.below c);have am:=un (a5.o.below c);have O:=un (bf.o.below c);have A:=un (G.o.trans ((c).mono G.o.size))
    obtain⟨bW,bU,b0,bY,bX,bV,b1,bZ,bq,ch,a8,a7,bg,ci,a0,aV,bh,b9,a1,aW,bM,bG,a2,aX,bS,bQ,a3,aY,bT,bR,a4,aZ⟩:=bf8 t.o;obtain⟨bi,ca,a9,b2,bj,cb,ba,b3,bk,cc,bb,b4,bl,cd,bc,b5,bm,ce,bd,b6,bn,cf,be,b7,bO,bH,bJ,bN,bP,bI,bK,bL⟩:=bf8 o.o;obtain⟨bo,cg,bp,b8⟩:=bc2 u.o;have r:=un (zal g #[.int .i64 0,(),(),(),.int .i64 0] 76);obtain⟨bu,bx,bv,bz,bw,bA,bD,bB,bE,bC⟩:=bc5 r.o;go_wp2_with fail
    refine(Err.wrapF fb yPE (k:Int) _).mono ?_;rintro e w' ⟨rfl,rfl⟩;have d:=zae (g.alloc (.cells #[.int .i64 0,(),(),(),.int .i64 0] 76)) (.cells #[.string yPE,.int .i64 (k:Int),.iface 224 (.pointer (some ⟨fb,0,none⟩))] 226);have H:=un (zad d t.o);have an:=un (zad d o.o);have ao:=un (zad d u.o);have aq:=un (zad d r.o);have eb:=un (T.o.below d);have ea:=un (ar.o.below d);have cA:=un (M.o.below d);have cj:=un (I.o.below d)
    have dc:=un (N.o.below d);have dZ:=un (am.o.below d);have d1:=un (O.o.below d);have ap:=un (A.o.trans ((d).mono A.o.size));obtain⟨aE,aF,cZ,cN,aG,aH,c0,cO,aI,aM,cE,cB,aJ,aN,cq,cv,aK,aL,cr,cw,aA,az,cs,cx,ax,av,ct,cy,ay,aw,cu,cz⟩:=bf8 H.o;obtain⟨cF,dC,c4,cK,cG,dD,c5,cL,cH,dE,c6,cM,cI,dF,c8,cS,cJ,dG,da,cT,dd,cV,db,cU,dx,dv,dy,ds,dw,du,dz,dt⟩:=bf8 an.o;obtain⟨de,cW,df,cX⟩:=bc2 ao.o;obtain⟨dg,dj,dh,dk,di,dl,dp,dm,dq,dn⟩:=bc5 aq.o
    have KF:=un (zal (g.alloc (.cells #[.int .i64 0,(),(),(),.int .i64 0] 76)) #[.string yPE,.int .i64 (k:Int),.iface 224 (.pointer (some ⟨fb,0,none⟩))] 226);have e7:=ap.o.size;go_wp2
    refine bodyPost_ret (v:=.tuple #[.agg #[false,(),(),false,(),(),false,false],.iface 224 (.pointer (some ⟨(g.alloc (.cells #[.int .i64 0,(),(),(),.int .i64 0] 76)).heap.size,0,none⟩))]) (by simp[results,results68,go_sem,aE,aF,aG,aH,aI,aM,aJ,aN,aK,aL,aA,az,ax,av,ay,aw]) rfl ?_;rw[eP.o (by rw[aP.o];rfl)]
    have l:=zYl H.o false () () false () () false false;exact⟨bsc (bsc (bsc (bsc (bsc (bsc (bsc (bsc ap.o))))))),_,_,rfl,l.blk KF.o (by decide),fb,num,rfl,e6,l.blk (zak (zak e5)) (by decide)⟩
   | none cols f =>
    obtain⟨Y,y,rfl,hY⟩:=h;have c:=zae g (.cells #[.int .i64 2,(),(Y,m,y),(),(f:Int)] 76);have t:=un (zad c aB.o);have o:=un (zad c aD.o);have u:=un (zad c aC.o);have T:=un (br.o.below c);have ar:=un (bF.o.below c);have M:=un (a6.o.below c);have I:=un (aO.o.below c);have N:=un (bt.o.below c);have am:=un (a5.o.below c);have O:=un (bf.o.below c);have A:=un (G.o.trans ((c).mono G.o.size))
    obtain⟨bW,bU,b0,bY,bX,bV,b1,bZ,bq,ch,a8,a7,bg,ci,a0,aV,bh,b9,a1,aW,bM,bG,a2,aX,bS,bQ,a3,aY,bT,bR,a4,aZ⟩:=bf8 t.o;obtain⟨bi,ca,a9,b2,bj,cb,ba,b3,bk,cc,bb,b4,bl,cd,bc,b5,bm,ce,bd,b6,bn,cf,be,b7,bO,bH,bJ,bN,bP,bI,bK,bL⟩:=bf8 o.o;obtain⟨bo,cg,bp,b8⟩:=bc2 u.o;have r:=un (zal g #[.int .i64 2,(),(Y,m,y),(),(f:Int)] 76);obtain⟨bu,bx,bv,bz,bw,bA,bD,bB,bE,bC⟩:=bc5 r.o;go_wp2_with fail
    refine(Err.wrap 210 yPE (k:Int) _).mono ?_;rintro e w' ⟨rfl,rfl⟩;have d:=zae (g.alloc (.cells #[.int .i64 2,(),(Y,m,y),(),(f:Int)] 76)) (.cells #[.string yPE,.int .i64 (k:Int),.iface 73 (.int .i64 210)] 226);have H:=un (zad d t.o);have an:=un (zad d o.o);have ao:=un (zad d u.o);have aq:=un (zad d r.o);have eb:=un (T.o.below d);have ea:=un (ar.o.below d);have cA:=un (M.o.below d);have cj:=un (I.o.below d)
    have dc:=un (N.o.below d);have dZ:=un (am.o.below d);have d1:=un (O.o.below d);have ap:=un (A.o.trans ((d).mono A.o.size));obtain⟨aE,aF,cZ,cN,aG,aH,c0,cO,aI,aM,cE,cB,aJ,aN,cq,cv,aK,aL,cr,cw,aA,az,cs,cx,ax,av,ct,cy,ay,aw,cu,cz⟩:=bf8 H.o;obtain⟨cF,dC,c4,cK,cG,dD,c5,cL,cH,dE,c6,cM,cI,dF,c8,cS,cJ,dG,da,cT,dd,cV,db,cU,dx,dv,dy,ds,dw,du,dz,dt⟩:=bf8 an.o;obtain⟨de,cW,df,cX⟩:=bc2 ao.o;obtain⟨dg,dj,dh,dk,di,dl,dp,dm,dq,dn⟩:=bc5 aq.o
    have KF:=un (zal (g.alloc (.cells #[.int .i64 2,(),(Y,m,y),(),(f:Int)] 76)) #[.string yPE,.int .i64 (k:Int),.iface 73 (.int .i64 210)] 226);have e7:=ap.o.size;go_wp2
    refine bodyPost_ret (v:=.tuple #[.agg #[false,(),(),false,(),(),false,false],.iface 224 (.pointer (some ⟨(g.alloc (.cells #[.int .i64 2,(),(Y,m,y),(),(f:Int)] 76)).heap.size,0,none⟩))]) (by simp[results,results68,go_sem,aE,aF,aG,aH,aI,aM,aJ,aN,aK,aL,aA,az,ax,av,ay,aw]) rfl ?_;rw[eO.o (by rw[aP.o];rfl)]
    have l:=zYl H.o false () () false () () false false;exact⟨bsc (bsc (bsc (bsc (bsc (bsc (bsc (bsc ap.o))))))),_,rfl,l.blk KF.o (by decide)⟩
   | best cols f =>
    obtain⟨P,K,Y,y,rfl,hP,hY⟩:=h;have c:=zae g (.cells #[.int .i64 1,(P,n,K),(Y,m,y),(),(f:Int)] 76);have t:=un (zad c aB.o);have o:=un (zad c aD.o);have u:=un (zad c aC.o);have T:=un (br.o.below c);have ar:=un (bF.o.below c);have M:=un (a6.o.below c);have I:=un (aO.o.below c);have N:=un (bt.o.below c);have am:=un (a5.o.below c);have O:=un (bf.o.below c);have A:=un (G.o.trans ((c).mono G.o.size))
    obtain⟨bW,bU,b0,bY,bX,bV,b1,bZ,bq,ch,a8,a7,bg,ci,a0,aV,bh,b9,a1,aW,bM,bG,a2,aX,bS,bQ,a3,aY,bT,bR,a4,aZ⟩:=bf8 t.o;obtain⟨bi,ca,a9,b2,bj,cb,ba,b3,bk,cc,bb,b4,bl,cd,bc,b5,bm,ce,bd,b6,bn,cf,be,b7,bO,bH,bJ,bN,bP,bI,bK,bL⟩:=bf8 o.o;obtain⟨bo,cg,bp,b8⟩:=bc2 u.o;have r:=un (zal g #[.int .i64 1,(P,n,K),(Y,m,y),(),(f:Int)] 76);obtain⟨bu,bx,bv,bz,bw,bA,bD,bB,bE,bC⟩:=bc5 r.o
    have eV:=un (fun q hq=>Nat.le_trans (yLR (cols:=cols) (n:=f) (B:=B) cl.o (by rw[zfH,ck.o]) eY.o.symm hso q hq) eZ.o);have eM:=un hP.len;have dK:=un (show E k=.val (some (dot (scale (sgE k) cost) (yJA n rows cols)))by rw[aP.o];rfl);rw[eS.o]at dK;have eU:=un ((hP.base (Nat.zero_le _)).alloc (.cells #[.int .i64 1,(P,n,K),(Y,m,y),(),(f:Int)] 76));clear hP hY
    generalize (zh1 (n+cnt rows m+m) cols (za5 (zt0 (zc3 rows) (zg8 rows)) (zwh (zg8 rows)) cols)).take n=pt at *
    go_wp2_with fail
    with_reducible refine(zPu Q n cQ R m L (scale (sgE k) cost) rows P n K pt _ O.o T.o eU.o (by rw[zfH,←ck.o];exact eM.o) (by omega) (fun q hq=>Nat.le_trans (cl.o.sc q hq) HG.o.hS) eV.o).mono ?_
    rintro e v4 ⟨g9,A9,m9,c9,D9,md9,cd9,rfl,hn,hb⟩;have H:=un (zad hb t.o);have an:=un (zad hb o.o);have ao:=un (zad hb u.o);have aq:=un (zad hb r.o);have eb:=un (T.o.below hb);have ea:=un (ar.o.below hb);have cA:=un (M.o.below hb);have cj:=un (I.o.below hb);have dc:=un (N.o.below hb);have dZ:=un (am.o.below hb);have d1:=un (O.o.below hb);have HV:=un (show RatS v4 g9 (A9,m9,c9) (D9,md9,cd9) (dot (scale (sgE k) cost) pt)from hn)
    have ap:=un (A.o.trans ((hb).mono A.o.size));obtain⟨aE,aF,cZ,cN,aG,aH,c0,cO,aI,aM,cE,cB,aJ,aN,cq,cv,aK,aL,cr,cw,aA,az,cs,cx,ax,av,ct,cy,ay,aw,cu,cz⟩:=bf8 H.o;obtain⟨cF,dC,c4,cK,cG,dD,c5,cL,cH,dE,c6,cM,cI,dF,c8,cS,cJ,dG,da,cT,dd,cV,db,cU,dx,dv,dy,ds,dw,du,dz,dt⟩:=bf8 an.o;obtain⟨de,cW,df,cX⟩:=bc2 ao.o;obtain⟨dg,dj,dh,dk,di,dl,dp,dm,dq,dn⟩:=bc5 aq.o;clear hn hb;generalize dot (scale (sgE k) cost) pt=vv at *
    have aR:=un (J.o.next au dK.o);have F:=zae v4 (.cells #[g9,(A9,m9,c9),(D9,md9,cd9)] 41);have d4:=un (zad F H.o);have bs:=un (zad F an.o);have d5:=un (zad F ao.o);have d9:=un (zad F aq.o);have gv:=un (cA.o.below F);have eK:=un (cj.o.below F);have d8:=un (dc.o.below F);have ec:=un (HV.o.below F);obtain⟨oI,ou,oA,oi,oJ,ov,oB,oj,pB,n7,nO,nH,oa,n8,nC,nA,ob,n9,nD,ns,oc,n4,nE,nu,od,n5,nF,nw,oe,n6,nG,ny⟩:=bf8 d4.o
    obtain⟨oK,ow,oC,og,oL,ox,oD,oh,oM,oy,oE,ok,oN,oz,oF,ol,oO,op,oG,om,oP,oq,oH,oo,n2,nV,nb,m8,n3,nX,nc,na⟩:=bf8 bs.o;obtain⟨oQ,os,oR,ot⟩:=bc2 d5.o;obtain⟨oX,oS,oY,oT,oZ,oU,o0,oV,o1,oW⟩:=bc5 d9.o;have KV:=un (zal v4 #[g9,(A9,m9,c9),(D9,md9,cd9)] 41);obtain⟨pu,pk,pv,pm,pw,po⟩:=bc3 KV.o
    clear jz jb kt jV jA jc ku jW lZ lM gP gK mu l8 fQ fu my ma fZ fB gF mL f6 fI hx hs gd ff hz he fS fm kN jP kv jX kP jR kw jY kZ kh kx j0 ls kn kV j7 lx kq kW j8 mg lI lW lg ip ic iu hZ ik h8 iy h5 lz kr lA ks kK j6 lh kD kL jN li kE gI mO fK fo gA mQ fR fv gC mS f0 fC hh g8 f7 fJ hy ht ge fg hA hf fT fn lC k5 lQ lb lD k6 lR lc l0 lo lS ld l2 lt lT le l4 ly lU lf mA mc l6 lX iq ie iv h0 il h9 iz h6 lF k7 lG k8 bW bU b0 bY bX bV b1 bZ bq ch a8 a7 bg ci a0 aV bh b9 a1 aW bM bG a2 aX bS bQ a3 aY bT bR a4 aZ bi ca a9 b2 bj cb ba b3 bk cc bb b4 bl cd bc b5 bm ce bd b6 bn cf be b7 bO bH bJ bN bP bI bK bL bo cg bp b8 bu bx bv bz bw bA bD bB bE bC aE aF cZ cN aG aH c0 cO aI aM cE cB aJ aN cq cv aK aL cr cw aA az cs cx ax av ct cy ay aw cu cz cF dC c4 cK cG dD c5 cL cH dE c6 cM cI dF c8 cS cJ dG da cT dd cV db cU dx dv dy ds dw du dz dt de cW df cX dg dj dh dk di dl dp dm dq dn
    rcases(show k=0∨k=1 by omega)with rfl | rfl
    ·go_wp2;go_roundw
     have l:=yMe bs.o 0 1 2 6 g9 (A9,m9,c9) (D9,md9,cd9) true
     case rel=>exact⟨1,by go_num,by omega,g9,A9,m9,c9,D9,md9,cd9,gh,X,m2,c2,D2,al,ae,some vv,b,zar _ (zar _ (zar _ (zar _ bs.o))),RatS.tk ec.o l (by decide),RatS.tk eK.o l (by decide),by simpa using aR.o,bsc (p:=⟨W.heap.size,6,none⟩) (bsc (p:=⟨W.heap.size,2,none⟩) (bsc (p:=⟨W.heap.size,1,none⟩) (bsc (p:=⟨W.heap.size,0,none⟩) (d8.o.b) (Nat.le_refl _)) (Nat.le_refl _)) (Nat.le_refl _)) (Nat.le_refl _)⟩
     case measure=>simp[intOf]
    ·go_wp2_with fail
     with_reducible refine(Rt.neg g9 A9 m9 c9 D9 md9 cd9 vv _ ec.o).mono ?_
     rintro e v5 ⟨g3,A3,m3,c3,D3,md3,cd3,rfl,hn,hb⟩;have gV:=un (zad hb d4.o);have dr:=un (zad hb bs.o);have gW:=un (zad hb d5.o);have gU:=un (zad hb d9.o);have gX:=un (zad hb KV.o);have gn:=un (gv.o.below hb);have gO:=un (d8.o.below hb);have eT:=un (show RatS v5 g3 (A3,m3,c3) (D3,md3,cd3) (-vv)from hn);obtain⟨o2,o9,px,nI,o3,pa,py,nJ,pA,nL,pz,nK,nY,nR,nz,nk,nZ,nS,nB,nl,n0,nT,nt,nm,ni,ng,nv,np,nj,nh,nx,nr⟩:=bf8 gV.o
     obtain⟨o4,pb,pP,pK,o5,pc,pQ,pL,pC,pF,pR,pM,pD,pG,pS,pN,pE,pH,pT,pO,nN,nM,nd,m4,n1,nU,ne,m5,nW,nP,nf,m6⟩:=bf8 dr.o;obtain⟨o6,pd,o7,pe⟩:=bc2 gW.o;obtain⟨o8,pf,pi,pg,pj,ph,pU,pI,pV,pJ⟩:=bc5 gU.o;obtain⟨pp,pq,pl,pr,pn,ps⟩:=bc3 gX.o;clear hn hb;go_wp2;go_roundw
     have l:=yMe dr.o 3 4 5 7 g3 (A3,m3,c3) (D3,md3,cd3) true
     case rel=>exact⟨2,by go_num,by omega,gl,V,m1,c1,Z,ak,ad,g3,A3,m3,c3,D3,md3,cd3,a,some (-vv),zar _ (zar _ (zar _ (zar _ dr.o))),RatS.tk gn.o l (by decide),RatS.tk eT.o l (by decide),by simpa using aR.o,bsc (p:=⟨W.heap.size,7,none⟩) (bsc (p:=⟨W.heap.size,5,none⟩) (bsc (p:=⟨W.heap.size,4,none⟩) (bsc (p:=⟨W.heap.size,3,none⟩) (gO.o.b) (Nat.le_refl _)) (Nat.le_refl _)) (Nat.le_refl _)) (Nat.le_refl _)⟩
     case measure=>simp[intOf]
   | falls cols jj f =>
    obtain⟨P,K,D,cD,rfl,hP,hD⟩:=h;have c:=zae g (.cells #[.int .i64 3,(P,n,K),(),(D,n,cD),(f:Int)] 76);have t:=un (zad c aB.o);have o:=un (zad c aD.o);have u:=un (zad c aC.o);have T:=un (br.o.below c);have ar:=un (bF.o.below c);have M:=un (a6.o.below c);have I:=un (aO.o.below c);have N:=un (bt.o.below c);have am:=un (a5.o.below c);have O:=un (bf.o.below c);have A:=un (G.o.trans ((c).mono G.o.size))
    obtain⟨bW,bU,b0,bY,bX,bV,b1,bZ,bq,ch,a8,a7,bg,ci,a0,aV,bh,b9,a1,aW,bM,bG,a2,aX,bS,bQ,a3,aY,bT,bR,a4,aZ⟩:=bf8 t.o;obtain⟨bi,ca,a9,b2,bj,cb,ba,b3,bk,cc,bb,b4,bl,cd,bc,b5,bm,ce,bd,b6,bn,cf,be,b7,bO,bH,bJ,bN,bP,bI,bK,bL⟩:=bf8 o.o;obtain⟨bo,cg,bp,b8⟩:=bc2 u.o;have r:=un (zal g #[.int .i64 3,(P,n,K),(),(D,n,cD),(f:Int)] 76);obtain⟨bu,bx,bv,bz,bw,bA,bD,bB,bE,bC⟩:=bc5 r.o;have aR:=un (J.o.next au (v:=Option.none) (by rw[aP.o];rfl));go_wp2;go_roundw
    case rel=>exact⟨k+1,by go_num,by omega,gl,V,m1,c1,Z,ak,ad,gh,X,m2,c2,D2,al,ae,a,b,o.o,M.o,I.o,by have h:=aR.o;(rcases(show k=0∨k=1 by omega)with rfl | rfl);(· cases J.o;exact h);(· cases J.o;exact h),N.o.b⟩
    case measure=>simp[intOf];omega
  ·obtain rfl:k=2:=by omega
   have e4:=J.o.last;go_wp2;refine bodyPost_ret (v:=.tuple #[.agg #[gl,(V,m1,c1),(Z,ak,ad),gh,(X,m2,c2),(D2,al,ae),.bool a.isSome,.bool b.isSome],.nilIface]) (by simp[results,results68,go_sem,ei,ek,ej,el,em,eo,eC,eA,eD,eB,d7,d6,ef,ed,eg,ee]) rfl ?_;have l:=zYl dB.o gl (V,m1,c1) (Z,ak,ad) gh (X,m2,c2) (D2,al,ae) (.bool a.isSome) (.bool b.isSome);rw[e4]
   exact⟨bsc (bsc (bsc (bsc (bsc (bsc (bsc (bsc dA.o))))))),gl,V,m1,c1,Z,ak,ad,gh,X,m2,c2,D2,al,ae,rfl,HA.o.tk l (by decide),dJ.o.tk l (by decide)⟩
end Ra
inductive RhsO where
  | spent:RhsO
  | none:RhsO
  | range:RangeO→RhsO
def yLD (rows:List PRow):List (Nat × Int):=wTo rows (List.replicate rows.length false) rows.length
def yYb (nC:Nat) (cost:List Rat) (rows:List PRow) (k B:Nat):Out→RhsO
  | .spent _=>.spent
  | .best cols _=>.range (yJF (yLD rows).length (yJH (yLD rows) k) (yJL (yLD rows) rows cost++[yJI (yLD rows) rows (dot cost (yJA nC rows cols))]) B)
  | _=>.none
def yWU (nC:Nat) (cost:List Rat) (rows:List PRow) (k B:Nat):RhsO:=yYb nC cost rows k B (yJw nC cost rows B)
def yJY (U:List (Nat × Int)) (k i:Nat):List Rat:=(yJH U k).take i++List.replicate (U.length-i) 0
def yJZ (U:List (Nat × Int)) (rows:List PRow) (i:Nat):List Rat:=(U.take i).map fun x=>(x.2:Rat)*(rows.getD x.1 default).rhs
section
variable {U:List (Nat × Int)} {rows:List PRow} {cost:List Rat} {k i j:Nat} {x:Nat × Int}
theorem yMR(h:i≤U.length):(yJY U k i).length=U.length:=by
 unfold yJY yJH;rw[List.length_append,List.length_take,List.length_map,List.length_replicate];omega
theorem yMb:yJY U k 0=List.replicate U.length 0:=by unfold yJY;rfl
theorem yMQ:yJY U k U.length=yJH U k:=by
 unfold yJY;rw[Nat.sub_self,List.replicate_zero,List.append_nil,List.take_of_length_le (by unfold yJH;rw[List.length_map];exact Nat.le_refl _)]
theorem yK3(h:U[i]? = some x):(yJH U k).take (i+1)=(yJH U k).take i++[if x.1=k then (x.2:Rat)else 0]:=by
 unfold yJH;rw[List.take_add_one,List.getElem?_map,h];rfl
theorem yMa(h:U[i]? = some x)(a:x.1≠k):yJY U k (i+1)=yJY U k i:=by
 have b:=(List.getElem?_eq_some_iff.1 h).1;unfold yJY;rw[yK3 h,if_neg a,show U.length-i=(U.length-(i+1))+1 by omega,List.replicate_succ,List.append_assoc];rfl
theorem yMS(h:U[i]? = some x)(b:x.1=k):(yJY U k i).set i (x.2:Rat)=yJY U k (i+1):=by
 have c:=(List.getElem?_eq_some_iff.1 h).1;have a:((yJH U k).take i).length=i:=by unfold yJH;rw[List.length_take,List.length_map];omega
 unfold yJY;rw[yK3 h,if_pos b,List.set_append_right _ _ (by rw[a];exact Nat.le_refl _),a,Nat.sub_self,show U.length-i=(U.length-(i+1))+1 by omega,List.replicate_succ,List.set_cons_zero,List.append_assoc];rfl
theorem yMd(h:U[i]? = some x):yJZ U rows (i+1)=yJZ U rows i++[(x.2:Rat)*(rows.getD x.1 default).rhs]:=by
 unfold yJZ;rw[List.take_add_one,h];simp
theorem yMV(h:i≤U.length):(yJZ U rows i).length=i:=by unfold yJZ;rw[List.length_map,List.length_take];omega
theorem yMU(v:Rat):yJI U rows v=⟨yJZ U rows U.length,3,v⟩:=by unfold yJI yJZ;rw[List.take_of_length_le (Nat.le_refl _)]
theorem yKO:(yJL U rows cost).length=cost.length:=by simp[yJL]
theorem yMY(h:j<cost.length):(yJL U rows cost).take (j+1)=(yJL U rows cost).take j++[⟨yJC U rows j,1,el cost j⟩]:=by
 unfold yJL;rw[List.take_add_one,List.getElem?_map,List.getElem?_range h];rfl
end
theorem yKe{ops:Array Oper}{o:Oper}{a:Act}{K:Act→World→Prop}{Q:Exit→Act→World→Prop}{E:Prop}(hg:o.guard=none)(l c:Operand)(m:o.op=Op.makeSlice 123 l c)(n:Nat)(L:Int)(g:a.eval l=.int .i64 L)(hc:a.eval c=.int .i64 L)(e:L=(n:Int))(u:n≤1048576)
  (d:∀w1,BoolsS w1 w (w.heap.size,n,n) (List.replicate n false)→Below w w w1→K (a.put o.dst (w.heap.size,n,n)) w1) :
  if Region.wanted o (yielded ops a.tmps)=true then Oper.wp prog o a w K Q else E:=by
 have hw:Region.wanted o (yielded ops a.tmps)=true:=by simp[Region.wanted,hg]
 rw[if_pos hw];obtain⟨t,f,q,r,s⟩:=info_parts zuV;subst e;obtain⟨w',p,b,r2⟩:=run_make_full (P:=prog) w w.heap.size 123 4 t _ 1 underlying123 f q r .i64 .i64 n (by rw[s];omega) (by unfold maxLen;omega) (Nat.le_refl _);unfold Oper.wp;simp[execOp,m,g,hc,p,Result.andThen];rw[zsy]at b;exact d _ ⟨by rw[List.length_replicate];exact b⟩ ((Below.refl _ _).grown r2 (Nat.le_refl _) (fun k hk=>by cases hk))
theorem yJR{ops:Array Oper}{rest:List Oper}{o:Oper}{a:Act}{Q:Exit→Act→World→Prop}(hg:o.guard=none)(s x:Operand)
  (G:o.op=.call { callee:=.builtin .append,args:=#[s,x],argTypes:=#[29,29] }) {H:Nat} {v:Value} {l:List RR} {ps:List PRow} (I:a.eval s=v) (J:RowsL w H v l ps)  (L:a.eval x=.slice (some ⟨b,0,none⟩) 1 1)
  {C:OA} {nc cc:Nat} {kd:Int} {g:Bool} {A:OA} {c:Nat} {D:OA} {f e:Nat} {p:PRow} (z:w.heap[b]? = some (.cells #[(C,nc,cc),.int .i64 kd,g,(A,m,c),(D,f,e)] 43 (0,0)))
  (hr:RowS w ⟨.slice C nc cc,kd,g,.slice A m c,.slice D f e⟩ p)  (F:ps.length=n) (B:n+1≤1000000) (t:H≤w.heap.size)
  (u:∀d c' w',RowsL w' H (.slice d (n+1) c') (l++[⟨.slice C nc cc,kd,g,.slice A m c,.slice D f e⟩]) (ps++[p])→zij w w'→Below H w w'→wpList prog ops Q rest (a.put o.dst (.slice d (n+1) c')) w'):wpList prog ops Q (o::rest) a w:=by
 refine wpList_plain hg fun K y=>?_
 have h:=zKn (ops:=#[]) (K:=K) (Q:=Q) (E:=True) hg s x G I J L z hr F B t fun d c' w' h1 q r=>y _ _ (u d c' w' h1 q r)
 rwa [if_pos (by simp[Region.wanted,hg])]at h
