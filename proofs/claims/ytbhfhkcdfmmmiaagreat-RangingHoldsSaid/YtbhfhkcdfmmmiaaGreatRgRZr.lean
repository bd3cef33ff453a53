/- Contracts and lemmas: RgR RgD RgX RgA RgH RgB. Conditions: as each says. -/
import Derived.Test.YtbhfhkcdfmmmiaaGreatRgEZr
set_option linter.all false
set_option maxHeartbeats 4000000
set_option maxRecDepth 100000
namespace Go.Proofs.YtbhfhkcdfmmmiaaGreat
open Go.RowKit Am Go.Proofs.Tryz
open Pr (psolve)
open Pb (zPu may)
attribute [local go_sem ↓] Go.wp_at_zero Go.wp_at_succ
variable {b:Nat}{w:World}
def yT1 (w:World) (B:Nat) (o:RhsO) (e:Ending) (w':World):Prop:=match o with
  | .spent=>Below w w w'∧∃ev,e=.returned (.tuple #[.agg #[false,(),(),false,(),(),false,false],ev])∧Spent w' B ev
  | .none=>Below w w w'∧e=.returned (.tuple #[.agg #[false,(),(),false,(),(),false,false],.iface 73 (.int .i64 210)])
  | .range r=>yJX w B r e w'
theorem rk3{cs:Array Value}(a:w.heap[b]? = some (.cells cs 41 (0,0)))(i j k:Nat)(u x y:Value):zff w (((w.setCell ⟨b,i,none⟩ u).setCell ⟨b,j,none⟩ x).setCell ⟨b,k,none⟩ y):=fun n _ c=>by
 have e:n≠b:=by rintro rfl;exact c _ a
 rw[Below.heap_setCell _ _ _ _ (by exact e),Below.heap_setCell _ _ _ _ (by exact e),Below.heap_setCell _ _ _ _ (by exact e)]
theorem VecS.blkOf{H n c:Nat}{qs:List Rat}(h:VecS w H (b,n,c) qs):∃cs,w.heap[b]? = some (.cells cs 41 (0,0)):=by
 obtain⟨l,_,_,d⟩:=h.row;rcases d.2 with ⟨a,_⟩ | ⟨g,cap,cur,a,_,e,_⟩
 ·cases a
 ·injection a with e1;injection e1 with e1;injection e1 with e1;subst e1;exact⟨_,e⟩
def yXl (wr wy:World) (U:List (Nat × Int)) (rows:List PRow) (k i0:Nat) (F:OA) (cF:Nat) (g s d:Value):Prop :=
  wy.heap[wr.heap.size]? = some (.cells #[(F,i0,cF),.int .i64 3,g,s,d] 43 (0,0))∧VecS wy wr (F,i0,cF) (yJZ U rows i0)∧VecS wy wr (wr.heap.size+1,U.length,U.length) (yJY U k i0) ∧
  (∀g,(Value.slice F i0 cF).ownBlock=some g→g≠wr.heap.size+1)∧Below wr wr wy
namespace Ra
theorem rhs(S:Nat)(C:OA)(nC M:Nat)(R:OA)(m I:Nat)(cost:List Rat)(rows:List PRow)(w:World)(hc:VecS w 0 (C,nC,M) cost)(hr:RowsS w 0 (R,m,I) rows)(hg:GoodS S nC m cost rows)(k B S2:Nat)(hk:k<m)(f:B≤1000000)(g0:∀cols O,zSA (nC+cnt rows m) m (zc3 rows) (zg8 rows) (zjD cost rows) B=.best cols O→GoodS S2 (yLD rows).length (nC+1) (yJH (yLD rows) k) (yJL (yLD rows) rows cost++[yJI (yLD rows) rows (dot cost (yJA nC rows cols))])) :
  Calls prog 28 #[.agg #[(C,nC,M),(R,m,I)],(k:Int),(B:Int)] w (yT1 w B (yWU nC cost rows k B)):=by
 have aD:=un hc.len;have gM:=un hr.len;have HG:=un hg;have gH:=un f;have kj:=un g0;have b1:=hg.hr;have kG:=hg.hc;have kl:=un hg.sb;have kn:=un (show Sm cost from fun q hq=>Nat.le_trans (hg.sc q hq) hg.hS);have ki:=un (show Rows nC rows from fun p hp=>⟨(hg.rw_ p hp).1,fun q hq=>Nat.le_trans ((hg.rw_ p hp).2.1 q hq) hg.hS,Nat.le_trans (hg.rw_ p hp).2.2 hg.hS⟩);have HU:=un (show wTo rows (List.replicate m false) m=yLD rows by unfold yLD;rw[←hr.len])
 have hU:=yJy rows (List.replicate m false) m;have bg:=un (yJB rows (List.replicate m false) m);have bh:=un (yJz rows (List.replicate m false) m);rw[HU.o]at hU bg bh;have kc:=un (show yWU nC cost rows k B=yYb nC cost rows k B (zSA (nC+cnt rows m) m (zc3 rows) (zg8 rows) (zjD cost rows) B)by unfold yWU yJw;rw[←hr.len])
 have ka:=un (show ∀cols,yJA nC rows cols=(zh1 (nC+cnt rows m+m) cols (za5 (zt0 (zc3 rows) (zg8 rows)) (zwh (zg8 rows)) cols)).take nC from fun cols=>by unfold yJA;rw[←hr.len]);rw[kc.o];clear hg f g0;have qj:¬(k:Int)<0:=by omega
 have qk:(k:Int)<(m:Int):=by omega
 have ql:¬(m:Int)≤(k:Int):=by omega
 have qm:¬m≤k:=by omega
 obtain⟨W,hW⟩:∃W,((w.alloc (.cells #[(C,nC,M),(R,m,I)] 31)).alloc (.cells #[false,(),(),false,(),(),false,false] 62))=W:=⟨_,rfl⟩
 have gO:=un (show W.heap[w.heap.size]? = some (.cells #[(C,nC,M),(R,m,I)] 31 (0,0))by rw[←hW];exact zak (zam (by simp)));have gP:=un (show W.heap[w.heap.size+1]? = some (.cells #[false,(),(),false,(),(),false,false] 62 (0,0))by rw[←hW];exact zam (by simp));have BB:=un (show Below w w W by rw[←hW];exact(zae w _).alloc (by simp) _);have HZ:=un (show w.heap.size+2≤W.heap.size by rw[←hW];simp)
 have HC:=un (show VecS W 0 (C,nC,M) cost by rw[←hW];exact((hc).alloc _).alloc _);have HR:=un (show RowsS W 0 (R,m,I) rows by rw[←hW];exact((hr).alloc _).alloc _);obtain⟨nl,nw,nm,ng⟩:=bc2 gO.o;obtain⟨nL,nH,n8,nD,nF,nQ,nT,ny,nY,n3,oy,oi,pG,pp,pl,oY,pI,pu,pn,o5,lU,pQ,lP,pM,mY,mO,mL,mD,m4,mS,na,mH⟩:=bf8 gP.o;clear hc hr;go_enter func28,ntmps28;go_wp2_with fail
 clear hW;have qn:=HZ.o;with_reducible refine(may C nC M R m I cost rows _ HC.o HR.o kG b1 ki.o HG.o.kd).mono ?_
 rintro e w1 ⟨rfl,d⟩;have je:=un (zad d gO.o);have jc:=un (zad d gP.o);have jW:=un (HC.o.below d);have jI:=un (HR.o.below d);have jd:=un (BB.o.trans ((d).mono BB.o.size));obtain⟨nj,nu,nk,nv⟩:=bc2 je.o;obtain⟨nI,ns,n4,nA,nM,nf,n0,nG,nz,nR,od,n2,pH,pq,pm,oZ,pJ,pv,po,o6,lV,pR,lQ,pN,mZ,mP,mM,mE,mV,mT,nb,mI⟩:=bf8 jc.o;clear d;go_wp2_with fail
 clear nl nw nm ng nL nH n8 nD nF nQ nT ny nY n3 oy oi pG pp pl oY pI pu pn o5 lU pQ lP pM mY mO mL mD m4 mS na mH;with_reducible refine(psolve S C nC M R m I cost rows _ _ B _ jW.o jI.o HG.o rfl rfl gH.o).mono ?_
 rintro e w2 ⟨d,h⟩;generalize hso:zSA (nC+cnt rows m) m (zc3 rows) (zg8 rows) (zjD cost rows) B=so at *
 have bO:=un (zad d je.o);have bP:=un (zad d jc.o);have b9:=un (jW.o.below d);have db:=un (jI.o.below d);have aA:=un (jd.o.trans ((d).mono jd.o.size));obtain⟨np,nh,nr,ni⟩:=bc2 bO.o;obtain⟨nJ,nt,nx,nN,nK,ne,n5,nB,nS,nE,oz,oj,pr,oX,oU,ow,pw,oK,oV,ox,lW,pS,lR,pO,m0,mQ,m5,mF,mW,mU,nc,mJ⟩:=bf8 bP.o;clear d;cases so with
 | spent O =>
  obtain⟨ev,rfl,fb,num,rfl,dH,bl⟩:=h;have u:=zae w2 (.cells #[.int .i64 0,(),(),(),.int .i64 0] 76);have aB:=un (zad u bO.o);have ab:=un (zad u bP.o);have bz:=un (b9.o.below u);have bx:=un (db.o.below u);have aC:=un (aA.o.trans ((u).mono aA.o.size));obtain⟨cx,cu,cy,cv⟩:=bc2 aB.o;obtain⟨aV,aP,cM,cA,aW,aQ,cK,cB,aX,aS,cL,cG,aY,aU,cN,cI,aZ,aT,cO,cJ,a3,a0,cV,cU,aN,aL,cr,cm,aO,aM,ct,cn⟩:=bf8 ab.o
  have KR:=un (zal w2 #[.int .i64 0,(),(),(),.int .i64 0] 76);obtain⟨cZ,cQ,c0,cS,c3,cT,c6,cW,da,cX⟩:=bc5 KR.o;go_wp2;refine bodyPost_ret (v:=.tuple #[.agg #[false,(),(),false,(),(),false,false],.iface 224 (.pointer (some ⟨fb,0,none⟩))]) (by simp[results,results28,go_sem,aV,aP,aW,aQ,aX,aS,aY,aU,aZ,aT,a3,a0,aN,aL,aO,aM]) rfl ?_
  have z:=zYl ab.o false () () false () () false false;exact⟨bsc (bsc (bsc (bsc (bsc (bsc (bsc (bsc aC.o))))))),_,rfl,fb,num,rfl,dH,z.blk (zak bl) (by decide)⟩
 | none cols O =>
  obtain⟨Y,cY,rfl,hY⟩:=h;have u:=zae w2 (.cells #[.int .i64 2,(),(Y,m,cY),(),.int .i64 (O:Int)] 76);have aB:=un (zad u bO.o);have ab:=un (zad u bP.o);have bz:=un (b9.o.below u);have bx:=un (db.o.below u);have aC:=un (aA.o.trans ((u).mono aA.o.size));obtain⟨cx,cu,cy,cv⟩:=bc2 aB.o;obtain⟨aV,aP,cM,cA,aW,aQ,cK,cB,aX,aS,cL,cG,aY,aU,cN,cI,aZ,aT,cO,cJ,a3,a0,cV,cU,aN,aL,cr,cm,aO,aM,ct,cn⟩:=bf8 ab.o
  have KR:=un (zal w2 #[.int .i64 2,(),(Y,m,cY),(),.int .i64 (O:Int)] 76);obtain⟨cZ,cQ,c0,cS,c3,cT,c6,cW,da,cX⟩:=bc5 KR.o;go_wp2;refine bodyPost_ret (v:=.tuple #[.agg #[false,(),(),false,(),(),false,false],.iface 73 (.int .i64 210)]) (by simp[results,results28,go_sem,aV,aP,aW,aQ,aX,aS,aY,aU,aZ,aT,a3,a0,aN,aL,aO,aM]) rfl ?_
  have z:=zYl ab.o false () () false () () false false;exact⟨bsc (bsc (bsc (bsc (bsc (bsc (bsc (bsc aC.o))))))),rfl⟩
 | best cols O =>
  obtain⟨P,cP,Y,cY,rfl,hP,hY⟩:=h;have u:=zae w2 (.cells #[.int .i64 1,(P,nC,cP),(Y,m,cY),(),.int .i64 (O:Int)] 76);have aB:=un (zad u bO.o);have ab:=un (zad u bP.o);have bz:=un (b9.o.below u);have bx:=un (db.o.below u);have aC:=un (aA.o.trans ((u).mono aA.o.size));obtain⟨cx,cu,cy,cv⟩:=bc2 aB.o;obtain⟨aV,aP,cM,cA,aW,aQ,cK,cB,aX,aS,cL,cG,aY,aU,cN,cI,aZ,aT,cO,cJ,a3,a0,cV,cU,aN,aL,cr,cm,aO,aM,ct,cn⟩:=bf8 ab.o
  have KR:=un (zal w2 #[.int .i64 1,(P,nC,cP),(Y,m,cY),(),.int .i64 (O:Int)] 76);obtain⟨cZ,cQ,c0,cS,c3,cT,c6,cW,da,cX⟩:=bc5 KR.o;have kf:=un (fun q hq=>Nat.le_trans (yLR (cols:=cols) (n:=O) (B:=B) HG.o aD.o.symm gM.o.symm hso q hq) kl.o);have jZ:=un hP.len;have gK:=un (kj.o cols O rfl);generalize hof:yJF (yLD rows).length (yJH (yLD rows) k) (yJL (yLD rows) rows cost++[yJI (yLD rows) rows (dot cost (yJA nC rows cols))]) B=o;have dg:=un hof
  rw[ka.o,yMU]at hof gK;have kb:=un hof;clear hof;have ke:=un ((hP.base (Nat.zero_le _)).alloc (.cells #[.int .i64 1,(P,nC,cP),(Y,m,cY),(),.int .i64 (O:Int)] 76));clear hP hY;generalize (zh1 (nC+cnt rows m+m) cols (za5 (zt0 (zc3 rows) (zg8 rows)) (zwh (zg8 rows)) cols)).take nC=pt at *
  go_wp2_with fail
  with_reducible refine(zPu C nC M R m I cost rows P nC cP pt _ bz.o bx.o ke.o (by rw[←aD.o];exact jZ.o) (by omega) kn.o kf.o).mono ?_
  rintro e w3 ⟨g9,A9,m9,c9,D9,md9,cd9,rfl,hn,d⟩;have jf:=un (zad d aB.o);have jg:=un (zad d ab.o);have oW:=un (zad d KR.o);have lZ:=un (bz.o.below d);have pP:=un (bx.o.below d);have HV:=un (show RatS w3 g9 (A9,m9,c9) (D9,md9,cd9) (dot cost pt)from hn);have jk:=un (aC.o.trans ((d).mono aC.o.size));obtain⟨n6,nO,n7,nP⟩:=bc2 jf.o;obtain⟨oe,nW,oa,nZ,og,nX,oc,n1,o9,oo,ou,ok,pg,oG,oD,oh,ph,oH,oE,n9,pC,zip,pe,oC,mB,mt,my,mu,mC,mx,mA,mv⟩:=bf8 jg.o
  obtain⟨pa,op,pb,oq,pi,oI,pB,oP,pk,oQ⟩:=bc5 oW.o;clear hn d;generalize dot cost pt=vv at *
  have a9:=zae w3 (.cells #[g9,(A9,m9,c9),(D9,md9,cd9)] 41);have jh:=un (zad a9 jf.o);have ji:=un (zad a9 jg.o);have mc:=un (lZ.o.below a9);have b8:=un (pP.o.below a9);have pD:=un (HV.o.below a9);have jl:=un (jk.o.trans ((a9).mono jk.o.size));obtain⟨bc,nU,bd,nV⟩:=bc2 jh.o;obtain⟨o7,ol,oR,os,o8,om,oS,ot,pf,oF,oT,ov,ps,oJ,pc,oA,px,oL,pd,oB,pK,pE,pF,pj,m3,mR,m6,mG,mX,mN,nd,mK⟩:=bf8 ji.o;have KV:=un (zal w3 #[g9,(A9,m9,c9),(D9,md9,cd9)] 41)
  obtain⟨py,oM,pz,oN,pA,oO⟩:=bc3 KV.o
  clear nj nu nk nv nI ns n4 nA nM nf n0 nG nz nR od n2 pH pq pm oZ pJ pv po o6 lV pR lQ pN mZ mP mM mE mV mT nb mI np nh nr ni nJ nt nx nN nK ne n5 nB nS nE oz oj pr oX oU ow pw oK oV ox lW pS lR pO m0 mQ m5 mF mW mU nc mJ cx cu cy cv aV aP cM cA aW aQ cK cB aX aS cL cG aY aU cN cI aZ aT cO cJ a3 a0 cV cU aN aL cr cm aO aM ct cn cZ cQ c0 cS c3 cT c6 cW da cX n6 nO n7 nP oe nW oa nZ og nX oc n1 o9 oo ou ok pg oG oD oh ph oH oE n9 pC zip pe oC mB mt my mu mC mx mA mv pa op pb oq pi oI pB oP pk oQ
  go_upto_region 12 with fail
  generalize hwV:(w3.alloc (.cells #[g9,(A9,m9,c9),(D9,md9,cd9)] 41))=V at *
  clear hwV;generalize hwa:yLD rows=U at *
  have dq:=un hwa;clear hwa;go_cut[13] (fun q wz=>∃(bw:Nat) (A:OA) (c:Nat) (B:OA) (c':Nat),q=.pointer (some ⟨bw,0,none⟩)∧wz.heap[bw]? = some (.cells #[(A,U.length,c),(B,U.length,c')] 136 (0,0))∧WorS wz A U.length c B c' m U∧Below V V wz)
  case first=>as_aux_lemma =>
   refine zaS (S:=fun w'=>w'.cell? ⟨w,0,none⟩=some (C,nC,M)∧w'.cell? ⟨w,1,none⟩=some (R,m,I)) [7] (h:=fun hHeld=>?_);refine zaw [0,1,2,3] ?_;repeat refine tkL (hS:=hHeld) (h:=?_)
   refine zao ?_;refine zme (i:=4) (j:=6) rfl rfl (by kernel_rfl) (fun K r=>?_) (fun K r=>?_)
   ·skip
    (refine yKe rfl _ _ rfl m _ rfl rfl rfl (by omega) ?_;intro u1 ho d;have t:Below V V u1:=It.bdrew0' d;have bT:=un (show BoolsS u1 0 (V.heap.size,m,m) (List.replicate m false)from(by simpa using ho.base (Nat.zero_le _)));have L:=un t;have s0:=zab t bc;have s1:=zab t bd;clear ho d t)
    refine yYK r fun hHeld=>?_
    clear r K;refine zme (i:=5) (j:=6) rfl rfl (by kernel_rfl) (fun K r=>?_) (fun K r=>?_)
    ·skip
     go_simp
     (go_at_call 66;(with_reducible refine(yLE C nC M R m I rows _ m (List.replicate m false) _ (b8.o.below L.o) bT.o b1 HG.o.kd).mono ?_);rw[HU.o];rintro e u2 ⟨A,c,B,c',rfl,ha,hb2,d⟩;have t:Below V V u2:=L.o.trans (d.mono L.o.size);have H:=un (WorS.mk ha hb2 bg.o bh.o);have ae:=un t;have t0:=zab t bc;have t1:=zab t bd;clear ha hb2 d t)
     (try go_wp2_with fail)
     refine yYK r fun hHeld=>?_
     clear r K;refine zaB 6 (h:=fun K r=>?_);go_simp;refine yYK r fun hHeld=>?_
     clear r K;refine zay 7 (h:=fun K r=>?_);go_simp;refine yYL r ?_;clear r K;refine zaM (h:=?_);go_wp2;go_meet
     case rel=>exact⟨u2.heap.size,A,c,B,c',rfl,zal _ _ _,H.o.alloc _,ae.o.alloc ae.o.size _⟩
    ·skip
     go_simp;refine yYK r fun hHeld=>?_
     clear r K;refine zaB 5 (h:=fun K r=>?_);go_simp
     (go_at_call 66;(with_reducible refine(yLE C nC M R m I rows _ m (List.replicate m false) _ ((b8.o.below L.o).alloc _) (bT.o.alloc _) b1 HG.o.kd).mono ?_);rw[HU.o];rintro e u2 ⟨A,c,B,c',rfl,ha,hb2,d⟩;have t:Below V V u2:=(Below.alloc L.o L.o.size (.cells #[(),()] 136)).trans (d.mono (Below.alloc L.o L.o.size (.cells #[(),()] 136)).size);have H:=un (WorS.mk ha hb2 bg.o bh.o);have ae:=un t;have t0:=zab t bc;have t1:=zab t bd;have aq:=un (zad d (zal u1 #[(),()] 136));obtain⟨o0,hu,hz,hA,o1,hy,of1,hC⟩:=bf2 aq.o;clear ha hb2 d t)
     (try go_wp2_with fail)
     refine yYK r fun hHeld=>?_
     clear r K;refine zay 7 (h:=fun K r=>?_);go_simp;refine yYL r ?_;clear r K;refine zaM (h:=?_);go_wp2;go_meet;have z:TKeep 136 u2 (u2.setCell ⟨u1,0,none⟩ (A,U.length,c)):=TKeep.set aq.o _;have k2:TKeep 136 _ ((u2.setCell ⟨u1,0,none⟩ (A,U.length,c)).setCell ⟨u1,1,none⟩ (B,U.length,c')):=TKeep.set (zar _ aq.o) _
     case rel=>exact⟨u1.heap.size,A,c,B,c',rfl,zar _ (zar _ aq.o),⟨(H.o.row.tk z (by decide)).tk k2 (by decide),(H.o.sg.tk z (by decide)).tk k2 (by decide),H.o.lt,H.o.one⟩,bsc (p:=⟨u1,1,none⟩) (bsc (p:=⟨u1,0,none⟩) ae.o L.o.size) L.o.size⟩
   ·skip
    go_simp;refine yYK r fun hHeld=>?_
    clear r K;refine zaB 4 (h:=fun K r=>?_)
    (refine yKe rfl _ _ rfl m _ rfl rfl rfl (by omega) ?_;intro u1 ho d;have t:Below V V u1:=((zap V 1).trans ((zae _ _).mono (Nat.le_refl _))).trans (d.mono (by simp));have bT:=un (show BoolsS u1 0 (V.heap.size+1,m,m) (List.replicate m false)from(by simpa using ho.base (Nat.zero_le _)));have L:=un t;have s0:=zab t bc;have s1:=zab t bd;have kt:=un (show u1.heap[V.heap.size]? = some (.cells #[(),()] 136 (0,0))from zad d (zal V.drew #[(),()] 136));clear ho d t)
    refine yYK r fun hHeld=>?_
    clear r K;refine zaB 5 (h:=fun K r=>?_);go_simp
    (go_at_call 66;(with_reducible refine(yLE C nC M R m I rows _ m (List.replicate m false) _ (b8.o.below L.o) bT.o b1 HG.o.kd).mono ?_);rw[HU.o];rintro e u2 ⟨A,c,B,c',rfl,ha,hb2,d⟩;have t:Below V V u2:=L.o.trans (d.mono L.o.size);have H:=un (WorS.mk ha hb2 bg.o bh.o);have ae:=un t;have t0:=zab t bc;have t1:=zab t bd;have aq:=un (zad d kt.o);obtain⟨o0,hu,hz,hA,o1,hy,of1,hC⟩:=bf2 aq.o;clear ha hb2 d t)
    (try go_wp2_with fail)
    refine yYK r fun hHeld=>?_
    clear r K;refine zay 7 (h:=fun K r=>?_);go_simp;refine yYL r ?_;clear r K;refine zaM (h:=?_);go_wp2;go_meet;have z:TKeep 136 u2 (u2.setCell ⟨V,0,none⟩ (A,U.length,c)):=TKeep.set aq.o _;have k2:TKeep 136 _ ((u2.setCell ⟨V,0,none⟩ (A,U.length,c)).setCell ⟨V,1,none⟩ (B,U.length,c')):=TKeep.set (zar _ aq.o) _
    case rel=>exact⟨V.heap.size,A,c,B,c',rfl,zar _ (zar _ aq.o),⟨(H.o.row.tk z (by decide)).tk k2 (by decide),(H.o.sg.tk z (by decide)).tk k2 (by decide),H.o.lt,H.o.one⟩,bsc (p:=⟨V,1,none⟩) (bsc (p:=⟨V,0,none⟩) ae.o (Nat.le_refl _)) (Nat.le_refl _)⟩
  case rest =>
   rename World=>wz
   obtain⟨bw,A,c,B',c',rfl,hO,g1,f⟩:=hcut;have bW:=un hO;have gF:=un (show 4*(S+1)+8≤LIM by rw[zaP];have:=HG.o.hS;omega);have cw:=un (zad f jh.o);have bQ:=un (zad f ji.o);have cH:=un (zad f KV.o);have bA:=un (mc.o.below f);have eC:=un (b8.o.below f);have dS:=un (pD.o.below f);have H:=un (show WorS wz A U.length c B' c' m U from g1);have be:=un (jl.o.trans ((f).mono jl.o.size));obtain⟨jo,jn,jp,jm⟩:=bc2 cw.o
   obtain⟨jD,jq,jJ,jv,jE,jr,jK,jw,jP,jA,jL,jx,jQ,jB,jM,jy,jR,jC,jN,jz,jU,jT,jS,jO,i9,i6,ja,i3,i7,i5,jb,i4⟩:=bf8 bQ.o;obtain⟨jF,js,jG,jt,jH,ju⟩:=bc3 cH.o;obtain⟨ij,ih,ik,ii⟩:=bc2 bW.o;have p7:=(Array.getElem?_eq_some_iff.1 hO).1;have p8:=(Array.getElem?_eq_some_iff.1 bQ.o).1;clear hO g1 f;clear bc nU bd nV o7 ol oR os o8 om oS ot pf oF oT ov ps oJ pc oA px oL pd oB pK pE pF pj m3 mR m6 mG mX mN nd mK py oM pz oN pA oO;go_wp2_with fail
   go_loopw [14,71] (fun rv i wr=>∃(j:Nat) (E:OA) (cE:Nat) (l:List RR),i=.int .i64 j∧rv=(E,j,cE)∧j≤nC∧RowsL wr wz.heap.size (E,j,cE) l ((yJL U rows cost).take j)∧Below wz.heap.size wz wr)
    (fun _ i _=>nC-(intOf i).toNat)
   case atStart=>exact⟨0,none,0,[],rfl,rfl,Nat.zero_le _,RowsL.nil _ _,Below.refl _ _⟩
   case round =>
    obtain⟨j,E,cE,l,rfl,rfl,hj,hl,f⟩:=hrel;by_cases bn:j<nC
    ·obtain⟨Z,rfl,_,p3⟩:=bA.o.has (by omega);have kp:=un (yMY (U:=U) (rows:=rows) (show j<cost.length by rw[←aD.o];exact bn));have dj:=un (show((yJL U rows cost).take j).length=j by rw[List.length_take,yKO,←aD.o];omega);obtain⟨ga,Aa,ma,ca,Da,ao,ah,y0,y1,y2,gZ⟩:=bA.o.at_ (show cost[j]? = some (el cost j)from zaH (by rw[←aD.o];exact bn));generalize el cost j=q at *
     have aR:=un (zad f cw.o);have a4:=un (zad f bQ.o);have a5:=un (zad f cH.o);have aJ:=un (zad f bW.o);have bB:=un (bA.o.below f);have az:=un (eC.o.below f);have bN:=un (dS.o.below f);have ap:=un (H.o.below f);have HW:=un (show Bel wz wr from Bel.mk f);have HQ:=un (show RatS wr ga (Aa,ma,ca) (Da,ao,ah) q from(gZ.below f));have HL:=un (show RowsL wr wz.heap.size (E,j,cE) l ((yJL U rows cost).take j)from hl)
     have au:=un (be.o.trans ((f).mono be.o.size));obtain⟨f8,f6,f9,f7⟩:=bc2 aR.o;obtain⟨ea,gr,d4,ge,ec,gt,d5,gf,ee,gv,d6,gg,eg,gx,d7,gi,ei,gA,d8,gj,ek,gC,d9,gm,fW,fQ,fS,fV,fX,fR,fT,fU⟩:=bf8 a4.o;obtain⟨em,gD,en,gn,eo,gq⟩:=bc3 a5.o;obtain⟨ce,fz,fy,fB⟩:=bc2 aJ.o;have pL:wr.cell? ⟨Z,j*3,none⟩=some (.bool ga):=zab f y0;have kX:=zaa pL;have lS:wr.cell? ⟨Z,j*3+1,none⟩=some (Aa,ma,ca):=zab f y1;have k5:=zaa lS;have lT:wr.cell? ⟨Z,j*3+2,none⟩=some (Da,ao,ah):=zab f y2
     have k9:=zaa lT;clear hl f y0 y1 y2 gZ;clear jo jn jp jm jD jq jJ jv jE jr jK jw jP jA jL jx jQ jB jM jy jR jC jN jz jU jT jS jO i9 i6 ja i3 i7 i5 jb i4 jF js jG jt jH ju ij ih ik ii;have qg:(0:Int)≤(j:Int):=Int.natCast_nonneg _;have qh:(j:Int)<(nC:Int):=by omega
     go_upto_region 17 with fail
     refine za2 (S:=fun w'=>w'.cell? ⟨w,0,none⟩=some (Z,nC,M)∧w'.cell? ⟨w,1,none⟩=some (R,m,I)∧w'.cell? ⟨bw,0,none⟩=some (A,U.length,c)∧w'.cell? ⟨bw,1,none⟩=some (B',U.length,c')∧w'.cell? ⟨Z,j*3,none⟩=some (.bool ga)∧w'.cell? ⟨Z,j*3+1,none⟩=some (Aa,ma,ca)∧w'.cell? ⟨Z,j*3+2,none⟩=some (Da,ao,ah)) 13 (h:=fun hHeld=>?_);refine zaw [0,1,2,3,4,5,6,7,8] ?_;repeat refine tkE (hS:=hHeld) (h:=?_)
     refine zao ?_;refine zaN 9 (h:=fun K r=>?_);go_simp
     (go_at_call 67;(with_reducible refine(column S gF.o A U.length c B' c' U (some ⟨Z,0,none⟩) nC M R m I rows j none 0 0 [] _ ap.o.drew az.o.drew (VecS.nil _ _) bn HG.o.sh.co (fun p hp=>(HG.o.rw_ p hp).2.1) (by omega) (by omega) (by omega)).mono ?_);rintro e v1 ⟨D3,d3,rfl,hv,d⟩;have gb:=un (zad d aR.o);have ep:=un (zad d a4.o);have eq:=un (zad d a5.o);have fD:=un (zad d aJ.o);have l9:=un (bB.o.drew.below d);have mb:=un (az.o.drew.below d);have me:=un (bN.o.drew.below d);have lh:=un (ap.o.drew.below d);have io:=un (HW.o.drew.below d);have lI:=un (HQ.o.drew.below d);have hT:=un (HL.o.drew.below d);have HD:=un (show VecS v1 0 (D3,U.length,d3) (yJC U rows j)from(by simpa using hv.base (Nat.zero_le _)));have l1:=un (au.o.trans ((It.bdrew0' d).mono au.o.size));obtain⟨c4,gc,c5,gd⟩:=bc2 gb.o;obtain⟨eb,gs,e3,et,ed,gu,e5,ew,ef,gw,e7,ey,eh,gy,fa,eJ,ej,gB,fd,eL,fq,eQ,ff,eN,f3,f1,f4,fY,f2,f0,f5,fZ⟩:=bf8 ep.o;obtain⟨fs,eS,fu,eU,fw,fh⟩:=bc3 eq.o;obtain⟨cf,fA,cg,fC⟩:=bc2 fD.o;have jV:=zab d kX;have qQ:=zaa jV;have il:=zab d k5;have qS:=zaa il;have im:=zab d k9;have qU:=zaa im;clear hv d)
     (try go_wp2_with fail)
     refine yYK r fun hHeld=>?_
     clear r K;refine zaw [10] ?_;repeat refine tkE (hS:=hHeld) (h:=?_)
     refine zao ?_;refine zaN 11 (h:=fun K r=>?_);go_simp;refine yYK r fun hHeld=>?_
     clear r K;refine zaN 12 (h:=fun K r=>?_)
     ((refine zKn (by rfl) _ _ (by rfl) (by rfl) (hT.o.alloc _) (by rfl) (zal _ _ _) ⟨HD.o.alloc _,rfl,lI.o.alloc _⟩ (n:=j) (p:=⟨yJC U rows j,1,q⟩) dj.o (by omega) (by have:=io.o.b.size;simp;omega) ?_);intro X e9 v9 bj aH G;have di:=un bj;have a6:=un ((io.o.alloc _).b.trans G);have t0:=zKh G (show w.heap.size<wz.heap.size by omega) (cell_al (ob:=.cells #[(D3,U.length,d3),.int .i64 1,ga,(Aa,ma,ca),(Da,ao,ah)] 43) c4);have t1:=zKh G (show w.heap.size<wz.heap.size by omega) (cell_al (ob:=.cells #[(D3,U.length,d3),.int .i64 1,ga,(Aa,ma,ca),(Da,ao,ah)] 43) c5);have t2:=zKh G (show bw<wz.heap.size by omega) (cell_al (ob:=.cells #[(D3,U.length,d3),.int .i64 1,ga,(Aa,ma,ca),(Da,ao,ah)] 43) cf);have t3:=zKh G (show bw<wz.heap.size by omega) (cell_al (ob:=.cells #[(D3,U.length,d3),.int .i64 1,ga,(Aa,ma,ca),(Da,ao,ah)] 43) cg);have t4:=zKh G (show Z<wz.heap.size by omega) (cell_al (ob:=.cells #[(D3,U.length,d3),.int .i64 1,ga,(Aa,ma,ca),(Da,ao,ah)] 43) jV);have t5:=zKh G (show Z<wz.heap.size by omega) (cell_al (ob:=.cells #[(D3,U.length,d3),.int .i64 1,ga,(Aa,ma,ca),(Da,ao,ah)] 43) il);have t6:=zKh G (show Z<wz.heap.size by omega) (cell_al (ob:=.cells #[(D3,U.length,d3),.int .i64 1,ga,(Aa,ma,ca),(Da,ao,ah)] 43) im);clear bj aH G)
     refine yYK r fun hHeld=>?_
     clear r K;refine zba (h:=fun K r=>?_);go_simp;refine yYL r ?_;clear r K;refine za1 (h:=?_)
     all_goals
      go_wp2;go_roundw
      case rel=>exact⟨j+1,X,e9,_,by go_num,rfl,by omega,by rw[kp.o];exact di.o,a6.o⟩
      case measure=>simp[intOf];omega
    ·obtain rfl:j=nC:=by omega
     have ko:=un (show(yJL U rows cost).take j=yJL U rows cost from List.take_of_length_le (by rw[yKO,←aD.o];exact Nat.le_refl _));rw[ko.o]at hl;have aR:=un (zad f cw.o);have a4:=un (zad f bQ.o);have a5:=un (zad f cH.o);have aJ:=un (zad f bW.o);have bB:=un (bA.o.below f);have az:=un (eC.o.below f);have bN:=un (dS.o.below f);have ap:=un (H.o.below f);have HL:=un (show RowsL wr wz.heap.size (E,j,cE) l (yJL U rows cost)from hl)
     have au:=un (be.o.trans ((f).mono be.o.size));obtain⟨f8,f6,f9,f7⟩:=bc2 aR.o;obtain⟨ea,gr,d4,ge,ec,gt,d5,gf,ee,gv,d6,gg,eg,gx,d7,gi,ei,gA,d8,gj,ek,gC,d9,gm,fW,fQ,fS,fV,fX,fR,fT,fU⟩:=bf8 a4.o;obtain⟨em,gD,en,gn,eo,gq⟩:=bc3 a5.o;obtain⟨ce,fz,fy,fB⟩:=bc2 aJ.o;have p6:=f.size;have gI:=un f;clear hl f;clear jo jn jp jm jD jq jJ jv jE jr jK jw jP jA jL jx jQ jB jM jy jR jC jN jz jU jT jS jO i9 i6 ja i3 i7 i5 jb i4 jF js jG jt jH ju ij ih ik ii;go_upto_region 20 with fail
     have al:=zae wr (.cells #[(),.int .i64 3,g9,(A9,m9,c9),(D9,md9,cd9)] 43);have gb:=un (zad al aR.o);have ep:=un (zad al a4.o);have eq:=un (zad al a5.o);have fD:=un (zad al aJ.o);have l9:=un (bB.o.below al);have mb:=un (az.o.below al);have me:=un (bN.o.below al);have lh:=un (ap.o.below al);have hT:=un (HL.o.below al);have l1:=un (au.o.trans ((al).mono au.o.size));obtain⟨c4,gc,c5,gd⟩:=bc2 gb.o
     obtain⟨eb,gs,e3,et,ed,gu,e5,ew,ef,gw,e7,ey,eh,gy,fa,eJ,ej,gB,fd,eL,fq,eQ,ff,eN,f3,f1,f4,fY,f2,f0,f5,fZ⟩:=bf8 ep.o;obtain⟨fs,eS,fu,eU,fw,fh⟩:=bc3 eq.o;obtain⟨cf,fA,cg,fC⟩:=bc2 fD.o;have KL:=un (zal wr #[(),.int .i64 3,g9,(A9,m9,c9),(D9,md9,cd9)] 43);obtain⟨hM,h9,hG,ia,hH,ib,hI,ic,hJ,ie⟩:=bc5 KL.o;have de:=un (zae wr (.cells #[(),.int .i64 3,g9,(A9,m9,c9),(D9,md9,cd9)] 43))
     go_wp2_with (at_make;go_must (refine zdv rfl _ _ rfl U.length _ rfl rfl rfl (by omega) (wr.heap.size+1) (by simp) ?_;intro w5 hi dF;have dl:=un (show VecS w5 wr.heap.size _ _ from hi.base (by simp));have dd:=un (de.o.trans (dF.mono de.o.size));have gS:=un (zad dF KL.o);have b0:=zKh dd.o (show bw<wr.heap.size by omega) ce;clear hi dF))
     clear b0;rw[←yMb (U:=U) (k:=k)]at dl
     go_loopw [97] (fun i wy=>∃(s:Nat) (F:OA) (cF:Nat),i=.int .i64 s∧s≤U.length∧yXl wr wy U rows k s F cF g9 (A9,m9,c9) (D9,md9,cd9))
      (fun i _=>U.length-(intOf i).toNat)
     case atStart=>exact⟨0,none,0,rfl,Nat.zero_le _,gS.o,VecS.nil _ _,dl.o,(fun g h=>by cases h),dd.o⟩
     case round =>
      rename World=>wy
      clear dl gS dd KL de;obtain⟨s,F,cF,rfl,g6,hO,hF,hV,dD,f⟩:=hrel;by_cases bn:s<U.length
      ·obtain⟨x,hx⟩:∃x,U[s]? = some x:=⟨U[s],List.getElem?_eq_getElem _⟩
       have dJ:=List.mem_of_getElem? hx;have dr:=un (bg.o x dJ);have km:=un (bh.o x dJ);obtain⟨p,hp⟩:∃p,rows[x.1]? = some p:=⟨rows[x.1]'(by rw[←gM.o];exact dr.o),List.getElem?_eq_getElem _⟩
       have hf:=List.mem_of_getElem? hp;have j5:=un (fun h=>yMa (k:=k) hx h);have j6:=un (fun h=>yMS (k:=k) hx h);have j7:=un (show yJZ U rows (s+1)=yJZ U rows s++[(x.2:Rat)*p.rhs]by rw[yMd hx,List.getD_eq_getElem?_getD,hp];rfl);have dj:=un (yMV (rows:=rows) g6);obtain⟨ba,rfl,_,p4⟩:=ap.o.row.has (by omega);obtain⟨bb,rfl,_,p5⟩:=ap.o.sg.has (by omega);have g3:=(ap.o.row.at_ (k:=s) (x:=(x.1:Int)) (by simp[hx]))
       have g4:=(ap.o.sg.at_ (k:=s) (x:=x.2) (by simp[hx]))
       obtain⟨b,rfl,p1,p2⟩:=az.o.has (by have:=dr.o;omega);obtain⟨Q,nq,cq,gp,Ap,mp,cp,Dp,b2,bX,_,_,k2,k3,k4,_,hh⟩:=az.o.at_ hp;have dh:=un (show I64 x.2 by rcases km.o with e | e<;>rw[e]<;>exact⟨by decide,by decide⟩);have j2:=un (zu9 _ dh.o);have kg:=un (HG.o.rw_ p hf).2.2;generalize p.rhs=q at *
       obtain⟨T,sg⟩:=x;have qi:T<m:=dr.o;have HF:=un hF;have dm:=un hV;have gG:=un dD;have bV:=un hO;have cb:=un (zad f aR.o);have cc:=un (zad f a4.o);have cd:=un (zad f a5.o);have ch:=un (zad f aJ.o);have iJ:=un (bB.o.below f);have iK:=un (az.o.below f);have fM:=un (bN.o.below f);have h4:=un (ap.o.below f);have h6:=un (HL.o.below f);have HW:=un (show Bel wr wy from Bel.mk f);have HQ:=un (show RatS wy gp (Ap,mp,cp) (Dp,b2,bX) q from(hh.below f))
       have fI:=un (au.o.trans ((f).mono au.o.size));obtain⟨fj,eW,fk,eX⟩:=bc2 cb.o;obtain⟨fl,eY,e4,eu,fm,eZ,e6,ex,fn,e0,e8,eI,fo,e1,fc,eK,fp,eP,fe,eM,fr,eR,fg,eO,dV,dT,dQ,dO,dW,dU,dR,dP⟩:=bf8 cc.o;obtain⟨ft,eT,fv,eV,fx,fi⟩:=bc3 cd.o;obtain⟨fG,fE,fH,fF⟩:=bc2 ch.o;have eD:wy.cell? ⟨ba,s,none⟩=some (.int .i64 (T:Int)):=zab f g3;have kY:=zaa eD;have eE:wy.cell? ⟨bb,s,none⟩=some (.int .i64 sg):=zab f g4;have k6:=zaa eE;have eF:wy.cell? ⟨b,T*5+2,none⟩=some (.bool gp):=zab f k2
       have la:=zaa eF;have eG:wy.cell? ⟨b,T*5+3,none⟩=some (Ap,mp,cp):=zab f k3;have ld:=zaa eG;have eH:wy.cell? ⟨b,T*5+4,none⟩=some (Dp,b2,bX):=zab f k4;have lg:=zaa eH;clear hF hV dD hO f g3 g4 k2 k3 k4 hh hp hx dJ hf
       clear f8 f6 f9 f7 ea gr d4 ge ec gt d5 gf ee gv d6 gg eg gx d7 gi ei gA d8 gj ek gC d9 gm fW fQ fS fV fX fR fT fU em gD en gn eo gq ce fz fy fB c4 gc c5 gd eb gs e3 et ed gu e5 ew ef gw e7 ey eh gy fa eJ ej gB fd eL fq eQ ff eN f3 f1 f4 fY f2 f0 f5 fZ fs eS fu eU fw fh cf fA cg fC hM h9 hG ia hH ib hI ic hJ ie;have qc:(0:Int)≤(s:Int):=Int.natCast_nonneg _;have qd:(s:Int)<(U.length:Int):=by omega
       have qe:(0:Int)≤(T:Int):=Int.natCast_nonneg _;have qf:(T:Int)<(m:Int):=by omega
       obtain⟨fN,fJ,ly,lo,fO,fK,lz,lq,fP,fL,lA,ls,d0,dY,lB,lv,dX,dZ,lC,lx⟩:=bf5 bV.o;go_wp2_with fail
       with_reducible refine(Rt.int sg dh.o.1 dh.o.2 _).mono ?_
       rintro e u1 ⟨g7,A7,m7,c7,D7,md7,cd7,rfl,hn,d⟩;have ck:=un (zad d cb.o);have aK:=un (zad d cc.o);have cl:=un (zad d cd.o);have cj:=un (zad d ch.o);have iL:=un (zad d bV.o);have mh:=un (iJ.o.below d);have mi:=un (iK.o.below d);have mj:=un (fM.o.below d);have lD:=un (h4.o.below d);have lY:=un (HW.o.below d);have lJ:=un (HQ.o.below d);have h5:=un (HF.o.below d);have h8:=un (dm.o.below d)
       have j3:=un (show RatS u1 g7 (A7,m7,c7) (D7,md7,cd7) ((sg:Int):Rat)from hn);have ci:=un (fI.o.trans ((d).mono fI.o.size));obtain⟨iu,iC,iv,iD⟩:=bc2 ck.o;obtain⟨bD,bF,iX,iS,bE,bG,iY,iT,bH,bK,iZ,iU,bI,bL,i1,iV,bJ,bM,i2,iW,br,bq,hX,hN,bv,bt,hZ,hQ,bu,bs,h0,hR⟩:=bf8 aK.o;obtain⟨iw,iE,iy,iF,iz,iG⟩:=bc3 cl.o;obtain⟨iA,iH,iN,iI⟩:=bc2 cj.o;obtain⟨mn,mq,ln,li,ml,mr,lp,lj,mm,ms,lr,lk,lN,lL,lu,ll,lO,lM,lw,lm⟩:=bf5 iL.o;have es:=zab d eD;have kV:=zaa es;have er:=zab d eE
       have kZ:=zaa er;have ez:=zab d eF;have k7:=zaa ez;have eA:=zab d eG;have lb:=zaa eA;have eB:=zab d eH;have le:=zaa eB;clear hn d;have J:=zae u1 (.cells #[g7,(A7,m7,c7),(D7,md7,cd7)] 41);have ip:=un (zad J ck.o);have iq:=un (zad J aK.o);have ir:=un (zad J cl.o);have iB:=un (zad J cj.o);have iM:=un (zad J iL.o);have lX:=un (lY.o.below J);have lK:=un (lJ.o.below J);have lG:=un (h5.o.below J);have lE:=un (h8.o.below J);have h7:=un (j3.o.below J)
       obtain⟨sI,sM,sJ,sN⟩:=bc2 ip.o;obtain⟨sK,sO,rU,tj,sL,sP,rW,tm,sd,rK,rY,tp,sf,rE,rO,tr,sj,rG,rQ,tt,sl,rI,rS,tv,sn,rZ,r7,tf,sq,r4,r9,th⟩:=bf8 iq.o;obtain⟨sF,sQ,sG,sR,sH,sS⟩:=bc3 ir.o;obtain⟨sT,sX,sV,sZ⟩:=bc2 iB.o;obtain⟨ta,tb,rn,rd,s4,td,rp,rf,s6,s8,rr,rh,rB,rz,rt,rj,rC,rA,rx,rl⟩:=bf5 iM.o;have l2:=zab J es;have kW:=zaa l2;have l3:=zab J er;have k0:=zaa l3;have l4:=zab J ez;have k8:=zaa l4;have l5:=zab J eA;have lc:=zaa l5;have l0:=zab J eB;have lf:=zaa l0
       have KG:=un (zal u1 #[g7,(A7,m7,c7),(D7,md7,cd7)] 41);obtain⟨q5,qZ,q9,q1,rb,q3⟩:=bc3 KG.o
       clear fj eW fk eX fl eY e4 eu fm eZ e6 ex fn e0 e8 eI fo e1 fc eK fp eP fe eM fr eR fg eO dV dT dQ dO dW dU dR dP ft eT fv eV fx fi fG fE fH fF eD kY eE k6 eF la eG ld eH lg fN fJ ly lo fO fK lz lq fP fL lA ls d0 dY lB lv dX dZ lC lx iu iC iv iD bD bF iX iS bE bG iY iT bH bK iZ iU bI bL i1 iV bJ bM i2 iW br bq hX hN bv bt hZ hQ bu bs h0 hR iw iE iy iF iz iG iA iH iN iI mn mq ln li ml mr lp lj mm ms lr lk lN lL lu ll lO lM lw lm es kV er kZ ez k7 eA lb eB le;go_upto_region 25 with fail
       have j0:=un (show ∀g,(Value.slice F s cF).ownBlock=some g→g<u1.heap.size from fun g e=>(h5.o.lt e).2);have j1:=un (show wr.heap.size+1<u1.heap.size from(h8.o.lt rfl).2);generalize hwu:(u1.alloc (.cells #[g7,(A7,m7,c7),(D7,md7,cd7)] 41))=u2 at *
       have qo:u1.heap.size+1=u2.heap.size:=by rw[←hwu];simp
       clear hwu
       go_cut[] (fun wq=>∃(X:OA) (e9:Nat),wq.heap[wr.heap.size]? = some (.cells #[(X,s+1,e9),.int .i64 3,g9,(A9,m9,c9),(D9,md9,cd9)] 43 (0,0))∧VecS wq wr.heap.size (X,s+1,e9) (yJZ U rows (s+1))∧VecS wq wr.heap.size (.slice (some ⟨wr.heap.size+1,0,none⟩) U.length U.length) (yJY U k s)∧(∀g,(Value.slice X (s+1) e9).ownBlock=some g→g≠wr.heap.size+1)∧Below wr.heap.size wr wq∧wq.heap[u1.heap.size]? = some (.cells #[g7,(A7,m7,c7),(D7,md7,cd7)] 41 (0,0))∧RatS wq g7 (A7,m7,c7) (D7,md7,cd7) ((sg:Int):Rat))
       case first=>as_aux_lemma =>
        have L1:=un (show 4*(mw ((sg:Int):Rat)+mw q)+8≤LIM by have h1:mw ((sg:Int):Rat)≤1:=j2.o;have h2:=kg.o;have h3:=gF.o;omega)
        refine zaS (S:=fun w'=>w'.cell? ⟨wr.heap.size,0,none⟩=some (F,s,cF)∧w'.cell? ⟨w,1,none⟩=some (b,m,I)∧w'.cell? ⟨u1,0,none⟩=some (.bool g7)∧w'.cell? ⟨u1,1,none⟩=some (A7,m7,c7)∧w'.cell? ⟨u1,2,none⟩=some (D7,md7,cd7)∧w'.cell? ⟨b,T*5+2,none⟩=some (.bool gp)∧w'.cell? ⟨b,T*5+3,none⟩=some (Ap,mp,cp)∧w'.cell? ⟨b,T*5+4,none⟩=some (Dp,b2,bX)) [13] (h:=fun hHeld=>?_);refine zaw [0,1,2,3,4,5,6,7,8] ?_
        repeat refine tkL (hS:=hHeld) (h:=?_)
        refine zao ?_;refine zaB 9 (h:=fun K r=>?_);go_simp
        (go_at_call 15;(with_reducible refine(Rt.mul g7 A7 m7 c7 D7 md7 cd7 ((sg:Int):Rat) gp Ap mp cp Dp b2 bX q _ h7.o.drew lK.o.drew L1.o).mono ?_);rintro e v1 ⟨g8,A8,m8,c8,D8,md8,cd8,rfl,hn8,d⟩;have l6:=un (zad d ip.o);have l7:=un (zad d iq.o);have l8:=un (zad d ir.o);have mo:=un (zad d iB.o);have iQ:=un (zad d iM.o);have hL:=un (zad d KG.o);have ig:=un (lX.o.drew.below d);have lH:=un (lG.o.drew.below d);have i8:=un (lE.o.drew.below d);have lF:=un (h7.o.drew.below d);have j8:=un (show RatS v1 g8 (A8,m8,c8) (D8,md8,cd8) (((sg:Int):Rat)*q)from hn8);obtain⟨sA,st,md,su⟩:=bc2 l6.o;obtain⟨sB,sv,rV,tl,sC,sw,rX,tn,se,rL,rN,tq,si,rF,rP,ts,sk,rH,rR,tu,sm,rJ,rT,tw,sp,r3,r8,tg,sr,r5,sa,ti⟩:=bf8 l7.o;obtain⟨sD,sx,sE,sy,ss,sz⟩:=bc3 l8.o;obtain⟨sU,sY,sW,s2⟩:=bc2 mo.o;obtain⟨s3,tc,ro,re,s5,te,rq,rg,s7,s9,rs,ri,q7,qX,ru,rk,q8,qY,ry,rm⟩:=bf5 iQ.o;obtain⟨q6,q0,ra,q2,rc,q4⟩:=bc3 hL.o;have mf:=zab d kW;have qP:=zaa mf;have mg:=zab d k0;have qR:=zaa mg;have iO:=zab d k8;have qT:=zaa iO;have iP:=zab d lc;have qV:=zaa iP;have iR:=zab d lf;have qW:=zaa iR;have qp:=It.bdrew0' d |>.size;clear hn8;clear d)
        (try go_wp2_with fail)
        refine yYK r fun hHeld=>?_
        clear r K;refine zaB 10 (h:=fun K r=>?_);go_simp;refine yYK r fun hHeld=>?_
        clear r K;refine zaB 11 (h:=fun K r=>?_)
        ((refine zTC (by rfl) _ _ (by rfl) (by rfl) (lH.o.alloc _) (by rfl) (zal _ _ _) (j8.o.alloc _) (N:=s) dj.o (by omega) (by have:=ig.o.b.size;simp;omega) ?_);intro X e9 v9 ak aH G dI dG he;have kr:=un ak;have a6:=un ((ig.o.alloc _).b.trans G);have dt:=un (aH.blk (zak iQ.o) (by decide));have dn:=un ((i8.o.alloc (.cells #[g8,(A8,m8,c8),(D8,md8,cd8)] 41)).keepAll (fun k_ e_=>dG k_ ((i8.o.alloc (.cells #[g8,(A8,m8,c8),(D8,md8,cd8)] 41)).lt e_).2 fun e2=>by cases e_;exact gG.o _ e2.symm rfl) fun _ _ _ _ y=>y.keepT dI);have gR:=un ((dG u1.heap.size (by simp;omega) fun e_=>by have:=j0.o _ e_.symm;omega).trans (zak hL.o));have j4:=un ((lF.o.alloc _).keepT dI);have j9:=un he;obtain⟨o0,hu,hz,hA,o1,hy,of1,hC,o2,qt,qy,qz,o3,qv,qA,qB,o4,qx,qC,qD⟩:=bf5 dt.o;obtain⟨r0,qF,r1,qH,r2,qI⟩:=bc3 gR.o;have t0:=zKh G (show w.heap.size<wr.heap.size by omega) (cell_al (ob:=.cells #[g8,(A8,m8,c8),(D8,md8,cd8)] 41) md);have t1:=zKh G (show b<wr.heap.size by omega) (cell_al (ob:=.cells #[g8,(A8,m8,c8),(D8,md8,cd8)] 41) iO);have t2:=zKh G (show b<wr.heap.size by omega) (cell_al (ob:=.cells #[g8,(A8,m8,c8),(D8,md8,cd8)] 41) iP);have t3:=zKh G (show b<wr.heap.size by omega) (cell_al (ob:=.cells #[g8,(A8,m8,c8),(D8,md8,cd8)] 41) iR);clear ak aH G dI dG he)
        refine yYK r fun hHeld=>?_
        clear r K;refine zaw [12] ?_;repeat refine tkL (hS:=hHeld) (h:=?_)
        refine zao ?_;refine zay 13 (h:=fun K r=>?_);go_simp;refine yYL r ?_;clear r K;refine zaM (h:=?_);go_wp2;go_meet;have z:TKeep 43 v9 (v9.setCell ⟨wr.heap.size,0,none⟩ (X,s+1,e9)):=TKeep.set dt.o _
        case rel=>exact⟨X,e9,zar _ dt.o,by rw[j7.o];exact kr.o.tk z (by decide) (by decide),dn.o.tk z (by decide) (by decide),(fun g e=>j9.o.elim (fun h=>gG.o g (by rw[←h];exact e)) fun h=>by have h1:=h g e;have h2:=j1.o;simp at h1;omega),bsc (p:=⟨wr.heap.size,0,none⟩) a6.o (Nat.le_refl _),z.blk gR.o (by decide),j4.o.tk z (by decide)⟩
       case rest =>
        rename World=>wq
        obtain⟨X,e9,gY,gX,ak,dE,gW,kD,kE⟩:=hcut;obtain⟨w0,qM,w1,qN,w2,qO⟩:=bc3 kD;by_cases hm:T=k
        ·have kM:(T:Int)=(k:Int):=by omega
         obtain⟨cs,kH⟩:=ak.blkOf;have p9:=ak.fro (s*3);have qa:=ak.fro (s*3+1);have qb:=ak.fro (s*3+2);obtain⟨gz,Az,mz,cz,Dz,qq,pV,z0,z1,z2,_⟩:=ak.at_ (zaH (show s<(yJY U k s).length by rw[yMR g6];exact bn));have gN:=un (ak.store s kE);rw[j6.o hm]at gN;go_wp2;go_roundw
         have kJ:=rk3 kH (s*3) (s*3+1) (s*3+2) g7 (A7,m7,c7) (D7,md7,cd7);have hd:∀n,n≠wr.heap.size+1→(((wq.setCell ⟨wr.heap.size+1,s*3,none⟩ g7).setCell ⟨wr.heap.size+1,s*3+1,none⟩ (A7,m7,c7)).setCell ⟨wr.heap.size+1,s*3+2,none⟩ (D7,md7,cd7)).heap[n]? = wq.heap[n]?:=fun n e=>by rw[Below.heap_setCell _ _ _ _ (by exact e),Below.heap_setCell _ _ _ _ (by exact e),Below.heap_setCell _ _ _ _ (by exact e)]
         case rel=>exact⟨s+1,X,e9,by go_num,by omega,(hd _ (by omega)).trans gY,gX.keepAll (fun n_ e_=>hd _ (dE n_ e_)) (fun _ _ _ _ y=>y.keepT kJ),gN.o,dE,bsc (p:=⟨wr.heap.size+1,s*3+2,none⟩) (bsc (p:=⟨wr.heap.size+1,s*3+1,none⟩) (bsc (p:=⟨wr.heap.size+1,s*3,none⟩) (gW) (Nat.le_succ _)) (Nat.le_succ _)) (Nat.le_succ _)⟩
         case measure=>simp[intOf];omega
        ·have kM:¬(T:Int)=(k:Int):=by omega
         go_wp2;go_roundw
         case rel=>exact⟨s+1,X,e9,by go_num,by omega,gY,gX,by rw[j5.o hm];exact ak,dE,gW⟩
         case measure=>simp[intOf];omega
      ·obtain rfl:s=U.length:=by omega
       rw[yMQ]at hV;have ae:=un (gI.o.trans (f.mono gI.o.size));have bV:=un hO;have cb:=un (zad f aR.o);have cc:=un (zad f a4.o);have cd:=un (zad f a5.o);have ch:=un (zad f aJ.o);have iJ:=un (bB.o.below f);have iK:=un (az.o.below f);have fM:=un (bN.o.below f);have h4:=un (ap.o.below f);have h6:=un (HL.o.below f);have HF:=un (show VecS wy 0 (F,U.length,cF) (yJZ U rows U.length)from(hF.base (Nat.zero_le _)))
       have dm:=un (show VecS wy 0 (.slice (some ⟨wr.heap.size+1,0,none⟩) U.length U.length) (yJH U k)from(hV.base (Nat.zero_le _)));have fI:=un (au.o.trans ((f).mono au.o.size));obtain⟨fj,eW,fk,eX⟩:=bc2 cb.o;obtain⟨fl,eY,e4,eu,fm,eZ,e6,ex,fn,e0,e8,eI,fo,e1,fc,eK,fp,eP,fe,eM,fr,eR,fg,eO,dV,dT,dQ,dO,dW,dU,dR,dP⟩:=bf8 cc.o;obtain⟨ft,eT,fv,eV,fx,fi⟩:=bc3 cd.o;obtain⟨fG,fE,fH,fF⟩:=bc2 ch.o;obtain⟨fN,fJ,fO,fK,fP,fL,d0,dY,dX,dZ⟩:=bc5 bV.o;clear hO hF hV dD f
       clear f8 f6 f9 f7 ea gr d4 ge ec gt d5 gf ee gv d6 gg eg gx d7 gi ei gA d8 gj ek gC d9 gm fW fQ fS fV fX fR fT fU em gD en gn eo gq ce fz fy fB c4 gc c5 gd eb gs e3 et ed gu e5 ew ef gw e7 ey eh gy fa eJ ej gB fd eL fq eQ ff eN f3 f1 f4 fY f2 f0 f5 fZ fs eS fu eU fw fh cf fA cg fC hM h9 hG ia hH ib hI ic hJ ie;have kh:=un (show(yJL U rows cost).length=j by rw[yKO,←aD.o])
       go_wp2_with (at_builtin;refine yJR rfl _ _ rfl rfl (h6.o.alloc _) rfl (zal _ _ _) ⟨HF.o.alloc _,rfl,fM.o.alloc _⟩ (n:=j) (p:=⟨yJZ U rows U.length,3,vv⟩) kh.o (by omega) (by have:=ae.o.size;simp;omega) ?_;intro G9 kB v9 bj aH G;have di:=un bj;have a6:=un ((Below.alloc ae.o ae.o.size (.cells #[(F,U.length,cF),.int .i64 3,g9,(A9,m9,c9),(D9,md9,cd9)] 43)).trans G);have dn:=un ((dm.o.alloc (.cells #[(F,U.length,cF),.int .i64 3,g9,(A9,m9,c9),(D9,md9,cd9)] 43)).keepR aH);clear bj aH G)
       with_reducible refine(ends S2 G9 (j+1) kB (some ⟨wr.heap.size+1,0,none⟩) U.length U.length (yJL U rows cost++[⟨yJZ U rows U.length,3,vv⟩]) (yJH U k) B _ (di.o.base' (Nat.zero_le _)).toS dn.o gK.o gH.o).mono ?_
       rintro e w6 ⟨d,h⟩;have aj:Below wz.heap.size wz w6:=a6.o.trans (d.mono a6.o.size);rw[kb.o]at h;have ck:=un (zad aj cw.o);have aK:=un (zad aj bQ.o);have cl:=un (zad aj cH.o);have cj:=un (zad aj bW.o);have mh:=un (bA.o.below aj);have mi:=un (eC.o.below aj);have mj:=un (dS.o.below aj);have lD:=un (H.o.below aj);have ci:=un (be.o.trans ((aj).mono be.o.size));obtain⟨iu,iC,iv,iD⟩:=bc2 ck.o
       obtain⟨bD,bF,iX,iS,bE,bG,iY,iT,bH,bK,iZ,iU,bI,bL,i1,iV,bJ,bM,i2,iW,br,bq,hX,hN,bv,bt,hZ,hQ,bu,bs,h0,hR⟩:=bf8 aK.o;obtain⟨iw,iE,iy,iF,iz,iG⟩:=bc3 cl.o;obtain⟨iA,iH,iN,iI⟩:=bc2 cj.o;clear aj d;clear fj eW fk eX fl eY e4 eu fm eZ e6 ex fn e0 e8 eI fo e1 fc eK fp eP fe eM fr eR fg eO dV dT dQ dO dW dU dR dP ft eT fv eV fx fi fG fE fH fF fN fJ fO fK fP fL d0 dY dX dZ;cases o with
       | spent kk =>
        obtain⟨fb,ev,rfl,bl,kA,num,rfl,dH,kI⟩:=h;go_wp2;refine bodyPost_ret (v:=.tuple #[.agg #[false,(),(),false,(),(),false,false],.iface 224 (.pointer (some ⟨fb,0,none⟩))]) (by simp[results,results28,go_sem,bD,bF,bE,bG,bH,bK,bI,bL,bJ,bM,br,bq,bv,bt,bu,bs]) rfl ?_;have z:=zYl aK.o false () () false () () false false
        show yJX _ _ (yJF _ _ _ _) _ _
        rw[dq.o,dg.o];exact⟨bsc (bsc (bsc (bsc (bsc (bsc (bsc (bsc ci.o))))))),fb,_,rfl,z.blk bl (by decide),kA,num,rfl,dH,z.blk kI (by decide)⟩
       | none kk =>
        obtain⟨fb,rfl,bl⟩:=h;go_wp2;refine bodyPost_ret (v:=.tuple #[.agg #[false,(),(),false,(),(),false,false],.iface 224 (.pointer (some ⟨fb,0,none⟩))]) (by simp[results,results28,go_sem,bD,bF,bE,bG,bH,bK,bI,bL,bJ,bM,br,bq,bv,bt,bu,bs]) rfl ?_;have z:=zYl aK.o false () () false () () false false
        show yJX _ _ (yJF _ _ _ _) _ _
        rw[dq.o,dg.o];exact⟨bsc (bsc (bsc (bsc (bsc (bsc (bsc (bsc ci.o))))))),fb,rfl,z.blk bl (by decide)⟩
       | ends a b =>
        obtain⟨gl,a1,m1,c1,d1,dM,dy,gh,a2,m2,c2,d2,dN,dz,rfl,kK,kL⟩:=h;go_wp2;refine bodyPost_ret (v:=.tuple #[.agg #[gl,(a1,m1,c1),(d1,dM,dy),gh,(a2,m2,c2),(d2,dN,dz),.bool a.isSome,.bool b.isSome],.nilIface]) (by simp[results,results28,go_sem,bD,bF,bE,bG,bH,bK,bI,bL,bJ,bM,br,bq,bv,bt,bu,bs]) rfl ?_;have z:=zYl aK.o gl (a1,m1,c1) (d1,dM,dy) gh (a2,m2,c2) (d2,dN,dz) (.bool a.isSome) (.bool b.isSome)
        show yJX _ _ (yJF _ _ _ _) _ _
        rw[dq.o,dg.o];exact⟨bsc (bsc (bsc (bsc (bsc (bsc (bsc (bsc ci.o))))))),gl,a1,m1,c1,d1,dM,dy,gh,a2,m2,c2,d2,dN,dz,rfl,kK.tk z (by decide),kL.tk z (by decide)⟩
 | falls cols jj O =>
  obtain⟨P,cP,D,cD,rfl,hP,hD⟩:=h;have u:=zae w2 (.cells #[.int .i64 3,(P,nC,cP),(),(D,nC,cD),.int .i64 (O:Int)] 76);have aB:=un (zad u bO.o);have ab:=un (zad u bP.o);have bz:=un (b9.o.below u);have bx:=un (db.o.below u);have aC:=un (aA.o.trans ((u).mono aA.o.size));obtain⟨cx,cu,cy,cv⟩:=bc2 aB.o;obtain⟨aV,aP,cM,cA,aW,aQ,cK,cB,aX,aS,cL,cG,aY,aU,cN,cI,aZ,aT,cO,cJ,a3,a0,cV,cU,aN,aL,cr,cm,aO,aM,ct,cn⟩:=bf8 ab.o
  have KR:=un (zal w2 #[.int .i64 3,(P,nC,cP),(),(D,nC,cD),.int .i64 (O:Int)] 76);obtain⟨cZ,cQ,c0,cS,c3,cT,c6,cW,da,cX⟩:=bc5 KR.o;go_wp2;refine bodyPost_ret (v:=.tuple #[.agg #[false,(),(),false,(),(),false,false],.iface 73 (.int .i64 210)]) (by simp[results,results28,go_sem,aV,aP,aW,aQ,aX,aS,aY,aU,aZ,aT,a3,a0,aN,aL,aO,aM]) rfl ?_
  have z:=zYl ab.o false () () false () () false false;exact⟨bsc (bsc (bsc (bsc (bsc (bsc (bsc (bsc aC.o))))))),rfl⟩
end Ra
end Go.Proofs.YtbhfhkcdfmmmiaaGreat
namespace Go.Proofs.YtbhfhkcdfmmmiaaGreat
open Go.RowKit Am Go.Proofs.Tryz
open Pb (may fits over)
attribute [local go_sem ↓] Go.wp_at_zero Go.wp_at_succ
def yWT (x:List Rat) (p:PRow):Bool := !zr (zdp p x)
def yLU (rows:List PRow) (x:List Rat):List Bool:=rows.map (yWT x)
def yKD (rows:List PRow) (x:List Rat) (k:Nat):List Bool:=(yLU rows x).take k++List.replicate (rows.length-k) false
def yKS (rows:List PRow) (x:List Rat):List (Nat × Int):=wTo rows (yLU rows x) rows.length
def yOd (nC:Nat) (cost:List Rat) (rows:List PRow) (x:List Rat) (j B:Nat):RangeO:=yJF ((yKS rows x).length+2) (yJG (yKS rows x)) (yJK (yKS rows x) rows cost x j) B
section
variable {rows:List PRow} {x cost:List Rat} {k j:Nat} {p:PRow} {U:List (Nat × Int)}
theorem yNA(h:k≤rows.length):(yKD rows x k).length=rows.length:=by
 unfold yKD yLU;rw[List.length_append,List.length_take,List.length_map,List.length_replicate];omega
theorem yMW:yKD rows x 0=List.replicate rows.length false:=by unfold yKD;rfl
theorem yNz:yKD rows x rows.length=yLU rows x:=by
 unfold yKD;rw[Nat.sub_self,List.replicate_zero,List.append_nil,List.take_of_length_le (by unfold yLU;rw[List.length_map];exact Nat.le_refl _)]
theorem yNB(h:rows[k]? = some p):(yKD rows x k).set k (yWT x p)=yKD rows x (k+1):=by
 have c:=(List.getElem?_eq_some_iff.1 h).1;have a:((yLU rows x).take k).length=k:=by unfold yLU;rw[List.length_take,List.length_map];omega
 have b:(yLU rows x).take (k+1)=(yLU rows x).take k++[yWT x p]:=by unfold yLU;rw[List.take_add_one,List.getElem?_map,h];rfl
 unfold yKD;rw[b,List.set_append_right _ _ (by rw[a];exact Nat.le_refl _),a,Nat.sub_self,show rows.length-k=(rows.length-(k+1))+1 by omega,List.replicate_succ,List.set_cons_zero,List.append_assoc];rfl
theorem yLT:(yJK U rows cost x j).length=cost.length:=by simp[yJK]
theorem yMX(h:k<cost.length):(yJK U rows cost x j).take (k+1)=(yJK U rows cost x j).take k++[yJJ U rows cost x j k]:=by
 unfold yJK;rw[List.take_add_one,List.getElem?_map,List.getElem?_range h];rfl
end
theorem RowsL.setAt{w:World}{H:Nat}{v:Value}{l:List RR}{ps:List PRow}(h:RowsL w H v l ps){b o:Nat}{u:Value}{cs:Array Value}(c:w.heap[b]? = some (.cells cs 43 (0,0)))(d:∀g,v.ownBlock=some g→g≠b):RowsL (w.setCell ⟨b,o,none⟩ u) H v l ps:=by
 have hk:zij w (w.setCell ⟨b,o,none⟩ u):=fun k _ f=>by
  have e:k≠b:=by rintro rfl;exact f _ c
  exact Below.heap_setCell _ _ _ _ (by exact e)
 exact⟨h.len,fun k r p h1 a=>(h.each k r p h1 a).keepR hk,zc9 h.own fun k e=>Below.heap_setCell _ _ _ _ (by exact d k e)⟩
namespace Ra
theorem cost(S:Nat)(C:OA)(nC L:Nat)(R:OA)(m M:Nat)(cost:List Rat)(rows:List PRow)(X:OA)(nx cX:Nat)(x:List Rat)(w:World)(hc:VecS w 0 (C,nC,L) cost)(hr:RowsS w 0 (R,m,M) rows)(hx:VecS w 0 (X,nx,cX) x)(hg:GoodS S nC m cost rows)(zx:Sm x)(j B S2:Nat)(hj:j<nC)(hf:znD cost rows x=true)(r:B≤1000000)(iT:GoodS S2 ((yKS rows x).length+2) nC (yJG (yKS rows x)) (yJK (yKS rows x) rows cost x j)) :
  Calls prog 25 #[.agg #[(C,nC,L),(R,m,M)],(X,nx,cX),(j:Int),(B:Int)] w (yJX w B (yOd nC cost rows x j B)):=by
 have i1:x.length=cost.length:=by
  have h:=hf;unfold znD at h;simp only[Bool.and_eq_true]at h;exact of_decide_eq_true h.1.1
 obtain rfl:nC=nx:=by rw[hc.len,hx.len,i1]
 have iH:=un hx.len;have cD:=un hc.len;have eM:=un hr.len;have N:=un hg;have kr:=un r;have kv:=un iT;have ku:=un hf;have iI:=un zx;have iW:=hg.hr;have kZ:=hg.hc;have cB:=un (show 4*(S+1)+8≤LIM by rw[zaP];have:=hg.hS;omega);have iD:=un (show Rows nC rows from fun p H=>⟨(hg.rw_ p H).1,fun q hq=>Nat.le_trans ((hg.rw_ p H).2.1 q hq) hg.hS,Nat.le_trans (hg.rw_ p H).2.2 hg.hS⟩);have hU:=yJy rows (yLU rows x) rows.length;have iF:=un (yJB rows (yLU rows x) rows.length)
 have kO:=un (yJz rows (yLU rows x) rows.length);have o7:(yKS rows x).length≤2*rows.length:=hU;have HU:=un (show wTo rows (yLU rows x) m=yKS rows x by unfold yKS;rw[←hr.len]);generalize hoo:yOd nC cost rows x j B=o;have kE:=un (show yJF ((yKS rows x).length+2) (yJG (yKS rows x)) (yJK (yKS rows x) rows cost x j) B=o from hoo);clear hoo hU hg zx hf r iT i1;have iX:rows.length=m:=eM.o.symm;have oV:¬(j:Int)<0:=by omega
 have oW:(j:Int)<(nC:Int):=by omega
 have oX:¬(nC:Int)≤(j:Int):=by omega
 have oY:¬nC≤j:=by omega
 obtain⟨W,hW⟩:∃W,((w.alloc (.cells #[(C,nC,L),(R,m,M)] 31)).alloc (.cells #[false,(),(),false,(),(),false,false] 62))=W:=⟨_,rfl⟩
 have iJ:=un (show W.heap[w.heap.size]? = some (.cells #[(C,nC,L),(R,m,M)] 31 (0,0))by rw[←hW];exact zak (zam (by simp)));have iK:=un (show W.heap[w.heap.size+1]? = some (.cells #[false,(),(),false,(),(),false,false] 62 (0,0))by rw[←hW];exact zam (by simp));have BB:=un (show Below w w W by rw[←hW];exact(zae w _).alloc (by simp) _);have HZ:=un (show w.heap.size+2≤W.heap.size by rw[←hW];simp)
 have HC:=un (show VecS W 0 (C,nC,L) cost by rw[←hW];exact((hc).alloc _).alloc _);have HR:=un (show RowsS W 0 (R,m,M) rows by rw[←hW];exact((hr).alloc _).alloc _);have HX:=un (show VecS W 0 (X,nC,cX) x by rw[←hW];exact((hx).alloc _).alloc _);obtain⟨nj,np,nk,ng⟩:=bc2 iJ.o;obtain⟨nA,ny,nL,nu,nv,nD,nF,nr,nG,nJ,nQ,nN,ol,oc,n7,nW,oo,oe,n9,nY,mc,ov,l8,ot,na,m0,mY,mU,nc,m4,nd,mW⟩:=bf8 iK.o;clear hc hr hx;go_enter func25,ntmps25;go_wp2_with fail
 clear hW;have o8:=HZ.o;with_reducible refine(may C nC L R m M cost rows _ HC.o HR.o kZ iW iD.o N.o.kd).mono ?_
 rintro e w1 ⟨rfl,f⟩;have jZ:=un (zad f iJ.o);have jS:=un (zad f iK.o);have ko:=un (HC.o.below f);have kl:=un (HR.o.below f);have kh:=un (HX.o.below f);have jW:=un (BB.o.trans ((f).mono BB.o.size));obtain⟨nh,nm,ni,nn⟩:=bc2 jZ.o;obtain⟨nz,nl,nK,nt,nB,nf,nH,nw,ns,nE,nM,nI,om,od,n8,nX,op,og,oa,nZ,md,ow,l9,ou,nb,m3,mZ,mV,m6,m5,ne,mX⟩:=bf8 jS.o;clear f;go_wp2_with fail
 with_reducible refine(fits C nC L R m M cost rows X nC cX x _ ko.o kl.o kh.o (by omega) iD.o iI.o (by omega)).mono ?_
 rintro e w2 ⟨rfl,f⟩;have gy:=un (zad f jZ.o);have gC:=un (zad f jS.o);have jn:=un (ko.o.below f);have eD:=un (kl.o.below f);have kq:=un (kh.o.below f);have dz:=un (jW.o.trans ((f).mono jW.o.size));obtain⟨jX,jU,gz,jV⟩:=bc2 gy.o;obtain⟨j3,jY,j0,j5,j4,jT,j7,j1,j6,j2,kb,j8,ki,kg,ke,j9,kj,kc,kf,ka,jm,kp,jl,km,jP,jM,jQ,jK,jO,jN,jR,jL⟩:=bf8 gC.o;clear f;rw[ku.o]
 clear nj np nk ng nA ny nL nu nv nD nF nr nG nJ nQ nN ol oc n7 nW oo oe n9 nY mc ov l8 ot na m0 mY mU nc m4 nd mW nh nm ni nn nz nl nK nt nB nf nH nw ns nE nM nI om od n8 nX op og oa nZ md ow l9 ou nb m3 mZ mV m6 m5 ne mX;go_upto_region 6 with fail
 go_wp2_with (at_make;go_must (refine zf8 rfl _ _ rfl m _ rfl rfl rfl (by omega) w2.heap.size rfl ?_;intro w3 ho f;have iz:=un ho;have a4:=un f;have b0:=zab f gz;clear ho f))
 clear b0;have iA:=un (show BoolsS w3 w2 (w2.heap.size,m,m) (yKD rows x 0)by rw[yMW,←eM.o];exact iz.o)
 go_loopw [50] (fun i wr=>∃k:Nat,i=.int .i64 k∧k≤m∧BoolsS wr w2 (w2.heap.size,m,m) (yKD rows x k)∧Below w2 w2 wr)
  (fun i _=>m-(intOf i).toNat)
 case atStart=>exact⟨0,rfl,Nat.zero_le _,iA.o,a4.o⟩
 case round =>
  clear iz a4 iA;obtain⟨k,rfl,hk,hO,r⟩:=hrel;by_cases am:k<m
  ·obtain⟨p,H⟩:∃p,rows[k]? = some p:=⟨rows[k]'(by rw[←eM.o];exact am),List.getElem?_eq_getElem _⟩
   have kK:=un (yNB (x:=x) H);have iZ:=List.mem_of_getElem? H;have cF:=un (N.o.rw_ p iZ);obtain⟨bR,rfl,_,_⟩:=eD.o.has (by omega);obtain⟨Q,nq,cq,gp,Ap,mp,cp,Dp,bx,bp,k0,F,k2,k3,k4,e6,i0⟩:=eD.o.at_ H;obtain rfl:nC=nq:=by rw[e6.len,cF.o.1]
   obtain⟨kd,e3⟩:∃kd:Int,p.kind=kd:=⟨_,rfl⟩
   rw[e3]at F;have kw:=un e3;have kF:=un hO;have b8:=un (zad r gy.o);have ce:=un (zad r gC.o);have fB:=un (jn.o.below r);have cT:=un (eD.o.below r);have fR:=un (kq.o.below r);have HW:=un (show Bel w2 wr from Bel.mk r);have HQ:=un (show RatS wr gp (Ap,mp,cp) (Dp,bx,bp) p.rhs from(i0.below r));have kQ:=un (show VecS wr 0 (Q,nC,cq) p.coef from(e6.below r));have cc:=un (dz.o.trans ((r).mono dz.o.size));obtain⟨gT,gA,gU,gB⟩:=bc2 b8.o
   obtain⟨hJ,gW,h0,g5,hL,gX,hN,g6,hT,hh,hP,hd,h4,hC,h2,hD,h5,hu,h3,hE,ik,ie,ic,ib,gg,f3,gc,f6,gj,f5,ge,f8⟩:=bf8 ce.o;have gP:wr.cell? ⟨bR,k*5,none⟩=some (Q,nC,cq):=zab r k0;have lB:=zaa gP;have he:wr.cell? ⟨bR,k*5+1,none⟩=some (.int .i64 kd):=zab r F;have lE:=zaa he;have hw:wr.cell? ⟨bR,k*5+2,none⟩=some (.bool gp):=zab r k2;have lH:=zaa hw;have hs:wr.cell? ⟨bR,k*5+3,none⟩=some (Ap,mp,cp):=zab r k3;have lK:=zaa hs;have hH:wr.cell? ⟨bR,k*5+4,none⟩=some (Dp,bx,bp):=zab r k4
   have lN:=zaa hH;clear r hO k0 F k2 k3 k4 i0 e6 H e3 iZ;clear jX jU gz jV j3 jY j0 j5 j4 jT j7 j1 j6 j2 kb j8 ki kg ke j9 kj kc kf ka jm kp jl km jP jM jQ jK jO jN jR jL;have oR:(0:Int)≤(k:Int):=Int.natCast_nonneg _;have oS:(k:Int)<(m:Int):=by omega
   have I:=zae wr (.cells #[(Q,nC,cq),.int .i64 kd,gp,(Ap,mp,cp),(Dp,bx,bp)] 43);have b9:=un (zad I b8.o);have cb:=un (zad I ce.o);have fQ:=un (fB.o.below I);have il:=un (cT.o.below I);have cS:=un (fR.o.below I);have n0:=un (HW.o.below I);have jo:=un (HQ.o.below I);have l4:=un (kQ.o.below I);have l1:=un (kF.o.below I);have cd:=un (cc.o.trans ((I).mono cc.o.size));obtain⟨gJ,gD,gK,gE⟩:=bc2 b9.o
   obtain⟨gQ,gF,gN,gH,gR,gG,gO,gI,hM,gY,gZ,gV,hX,hi,g1,gS,hY,hm,g3,gL,h6,zip,hQ,g0,gi,f4,gd,f7,gm,gb,gf,f9⟩:=bf8 cb.o;have gM:=zab I gP;have lC:=zaa gM;have g4:=zab I he;have lF:=zaa g4;have hA:=zab I hw;have lI:=zaa hA;have hG:=zab I hs;have lL:=zaa hG;have hI:=zab I hH;have lO:=zaa hI;have iM:=un (zal wr #[(Q,nC,cq),.int .i64 kd,gp,(Ap,mp,cp),(Dp,bx,bp)] 43);obtain⟨n1,nO,n2,nP,n3,nR,oi,nT,n6,nU⟩:=bc5 iM.o;go_wp2_with fail
   with_reducible refine(over Q nC cq gp Ap mp cp Dp bx bp kd p kw.o X nC cX x _ l4.o jo.o cS.o (by rw[cF.o.1];exact iH.o) (by omega) (fun q hq=>Nat.le_trans (cF.o.2.1 q hq) N.o.hS) (Nat.le_trans cF.o.2.2 N.o.hS) iI.o).mono ?_
   rintro e v1 ⟨g9,A9,m9,c9,D9,md9,cd9,rfl,hn,f⟩;have aU:=un (zad f b9.o);have aD:=un (zad f cb.o);have nV:=un (zad f iM.o);have aT:=un (fQ.o.below f);have bI:=un (il.o.below f);have aO:=un (cS.o.below f);have oq:=un (n0.o.below f);have l2:=un (jo.o.below f);have l3:=un (l1.o.below f);have HV:=un (show RatS v1 g9 (A9,m9,c9) (D9,md9,cd9) (zdp p x)from hn);have aq:=un (cd.o.trans ((f).mono cd.o.size));obtain⟨dC,dA,dD,dB⟩:=bc2 aU.o
   obtain⟨dV,dF,dS,dH,dW,dG,dT,dI,dZ,dN,dU,dJ,ee,dO,dX,dL,eg,dP,dY,dM,eB,en,et,ec,dt,dp,dv,di,dr,dm,dx,dk⟩:=bf8 aD.o;obtain⟨ei,dQ,ej,dR,oh,nS,oj,n4,ok,n5⟩:=bc5 nV.o;have hZ:=zab f gM;have lD:=zaa hZ;have h7:=zab f g4;have lG:=zaa h7;have h8:=zab f hA;have lJ:=zaa h8;have h9:=zab f hG;have lM:=zaa h9;have ia:=zab f hI;have lP:=zaa ia;clear hn f;have J:=zae v1 (.cells #[g9,(A9,m9,c9),(D9,md9,cd9)] 41);have ap:=un (zad J aU.o);have ar:=un (zad J aD.o)
   have bf:=un (aT.o.below J);have an:=un (bI.o.below J);have ba:=un (aO.o.below J);have mv:=un (oq.o.below J);have mb:=un (l2.o.below J);have l5:=un (l3.o.below J);have l6:=un (HV.o.below J);have ae:=un (aq.o.trans ((J).mono aq.o.size));obtain⟨aV,dK,aW,dE⟩:=bc2 ap.o;obtain⟨ek,d0,eo,d7,em,d4,ep,d8,ew,ed,eq,d9,ex,ef,er,ea,ey,eh,es,eb,eC,eA,ez,eu,du,dq,dw,dj,ds,dn,dy,dl⟩:=bf8 ar.o;have af:=zab J hZ;have i5:=zaa af;have ai:=zab J h7;have i7:=zaa ai;have aj:=zab J h8
   have i9:=zaa aj;have a0:=zab J h9;have ja:=zaa a0;have a3:=zab J ia;have jb:=zaa a3;have KV:=un (zal v1 #[g9,(A9,m9,c9),(D9,md9,cd9)] 41);obtain⟨aX,d5,aY,d6,pB,pA⟩:=bc3 KV.o
   clear gT gA gU gB hJ gW h0 g5 hL gX hN g6 hT hh hP hd h4 hC h2 hD h5 hu h3 hE ik ie ic ib gg f3 gc f6 gj f5 ge f8 gP lB he lE hw lH hs lK hH lN gJ gD gK gE gQ gF gN gH gR gG gO gI hM gY gZ gV hX hi g1 gS hY hm g3 gL h6 zip hQ g0 gi f4 gd f7 gm gb gf f9 gM lC g4 lF hA lI hG lL hI lO n1 nO n2 nP n3 nR oi nT n6 nU dC dA dD dB dV dF dS dH dW dG dT dI dZ dN dU dJ ee dO dX dL eg dP dY dM eB en et ec dt dp dv di dr dm dx dk ei dQ ej dR oh nS oj n4 ok n5 hZ lD h7 lG h8 lJ h9 lM ia lP;go_wp2_with fail
   with_reducible refine(Rt.zero g9 A9 m9 c9 D9 md9 cd9 (zdp p x) _ l6.o).mono ?_
   rintro e v2 ⟨rfl,f⟩;have ad:=un (zad f ap.o);have ag:=un (zad f ar.o);have ah:=un (zad f KV.o);have bg:=un (bf.o.below f);have be:=un (an.o.below f);have a9:=un (ba.o.below f);have bT:=un (mv.o.below f);have fS:=un (mb.o.below f);have f2:=un (l5.o.below f);have au:=un (ae.o.trans ((f).mono ae.o.size));obtain⟨ch,cf,ci,cg⟩:=bc2 ad.o;obtain⟨bK,ct,bB,cj,bL,cu,bD,ck,bM,cv,bE,cl,bN,cw,bF,cm,bO,cy,bG,cn,bP,cz,bH,cr,b6,bU,bW,b5,b7,bV,bY,bZ⟩:=bf8 ag.o
   obtain⟨bQ,cA,bS,cs,pn,pC⟩:=bc3 ah.o;have aZ:=zab f af;have fl:=zaa aZ;have aQ:=zab f ai;have fm:=zaa aQ;have aR:=zab f aj;have fn:=zaa aR;have aS:=zab f a0;have fo:=zaa aS;have aP:=zab f a3;have fp:=zaa aP;clear f;have iE:=un (f2.o.store k (yWT x p));rw[kK.o]at iE;have oQ:=f2.o.fro k;have oP:=f2.o.at_ (show(yKD rows x k)[k]? = some _ from List.getElem?_eq_getElem (by rw[yNA (by omega)];omega));go_wp2;go_roundw
   case rel=>exact⟨k+1,by go_num,by omega,iE.o,bsc (p:=⟨w2,k,none⟩) bT.o.b (Nat.le_refl _)⟩
   case measure=>simp[intOf];omega
  ·obtain rfl:m=k:=by omega
   have kG:=un (show BoolsS wr 0 (w2.heap.size,m,m) (yLU rows x)by have h:=hO.base (Nat.zero_le _);rw[←iX,yNz]at h;rw[←iX];exact h);have b8:=un (zad r gy.o);have ce:=un (zad r gC.o);have fB:=un (jn.o.below r);have cT:=un (eD.o.below r);have fR:=un (kq.o.below r);have cc:=un (dz.o.trans ((r).mono dz.o.size));obtain⟨gT,gA,gU,gB⟩:=bc2 b8.o;obtain⟨hJ,gW,h0,g5,hL,gX,hN,g6,hT,hh,hP,hd,h4,hC,h2,hD,h5,hu,h3,hE,ik,ie,ic,ib,gg,f3,gc,f6,gj,f5,ge,f8⟩:=bf8 ce.o
   clear r hO;clear jX jU gz jV j3 jY j0 j5 j4 jT j7 j1 j6 j2 kb j8 ki kg ke j9 kj kc kf ka jm kp jl km jP jM jQ jK jO jN jR jL;go_wp2_with fail
   with_reducible refine(yLE C nC L R m M rows _ m (yLU rows x) _ cT.o kG.o iW N.o.kd).mono ?_
   rw[HU.o];rintro e w4 ⟨A,c,B',c',rfl,ha,hb2,f⟩;have kA:=un iF.o;have iV:WorS w4 A (yKS rows x).length c B' c' m (yKS rows x):=⟨ha,hb2,fun y hy=>by have:=iF.o y hy;omega,kO.o⟩
   generalize hwa:yKS rows x=U at *
   clear hwa ha hb2 kA;have b9:=un (zad f b8.o);have cb:=un (zad f ce.o);have fQ:=un (fB.o.below f);have il:=un (cT.o.below f);have cS:=un (fR.o.below f);have kN:=un (show WorS w4 A U.length c B' c' m U from iV);have cd:=un (cc.o.trans ((f).mono cc.o.size));obtain⟨gJ,gD,gK,gE⟩:=bc2 b9.o;obtain⟨gQ,gF,gN,gH,gR,gG,gO,gI,hM,gY,gZ,gV,hX,hi,g1,gS,hY,hm,g3,gL,h6,zip,hQ,g0,gi,f4,gd,f7,gm,gb,gf,f9⟩:=bf8 cb.o;clear f iV
   have aL:=zae w4 (.cells #[(A,U.length,c),(B',U.length,c')] 136);have aU:=un (zad aL b9.o);have aD:=un (zad aL cb.o);have aT:=un (fQ.o.below aL);have bI:=un (il.o.below aL);have aO:=un (cS.o.below aL);have fr:=un (kN.o.below aL);have aq:=un (cd.o.trans ((aL).mono cd.o.size));obtain⟨dC,dA,dD,dB⟩:=bc2 aU.o;obtain⟨dV,dF,dS,dH,dW,dG,dT,dI,dZ,dN,dU,dJ,ee,dO,dX,dL,eg,dP,dY,dM,eB,en,et,ec,dt,dp,dv,di,dr,dm,dx,dk⟩:=bf8 aD.o
   have cH:=un (zal w4 #[(A,U.length,c),(B',U.length,c')] 136);obtain⟨ei,dQ,ej,dR⟩:=bc2 cH.o;clear gT gA gU gB hJ gW h0 g5 hL gX hN g6 hT hh hP hd h4 hC h2 hD h5 hu h3 hE ik ie ic ib gg f3 gc f6 gj f5 ge f8 gJ gD gK gE gQ gF gN gH gR gG gO gI hM gY gZ gV hX hi g1 gS hY hm g3 gL h6 zip hQ g0 gi f4 gd f7 gm gb gf f9;go_upto_region 14 with fail
   generalize hwz:(w4.alloc (.cells #[(A,U.length,c),(B',U.length,c')] 136))=wz at *
   have o9:w4.heap.size+1=wz.heap.size:=by rw[←hwz];simp
   clear hwz;have oO:=(Array.getElem?_eq_some_iff.1 aD.o).1;go_wp2_with fail
   go_loopw [17,74] (fun rv i wy=>∃(t:Nat) (E:OA) (cE:Nat) (l:List RR),i=.int .i64 t∧rv=(E,t,cE)∧t≤nC∧RowsL wy wz (E,t,cE) l ((yJK U rows cost x j).take t)∧Below wz wz wy)
    (fun _ i _=>nC-(intOf i).toNat)
   case atStart=>exact⟨0,none,0,[],rfl,rfl,Nat.zero_le _,RowsL.nil _ _,Below.refl _ _⟩
   case round =>
    rename World=>wy
    obtain⟨t,E,cE,l,rfl,rfl,ht,hl,r⟩:=hrel;by_cases am:t<nC
    ·obtain⟨O,rfl,_,oL⟩:=aT.o.has (by omega);obtain⟨bX,rfl,_,oM⟩:=aO.o.has (by omega);have bm:=un (yMX (U:=U) (rows:=rows) (x:=x) (j:=j) (show t<cost.length by rw[←cD.o];exact am));have iy:=un (show((yJK U rows cost x j).take t).length=t by rw[List.length_take,yLT,←cD.o];omega);obtain⟨ga,Aa,ma,ca,Da,aC,ay,y0,y1,y2,iR⟩:=aT.o.at_ (show cost[t]? = some (el cost t)from zaH (by rw[←cD.o];exact am))
     obtain⟨gx,Ax,mx,cx,Dx,fa,eU,x0,x1,x2,iS⟩:=aO.o.at_ (show x[t]? = some (el x t)from zaH (by rw[←iH.o];exact am));have kI:=un (show yJJ U rows cost x j t=⟨yJC U rows t++rats (if t=j then [-1,1]else [0,0]),if el x t=0 then 1 else 3,if t=j then 0 else el cost t⟩from rfl);generalize yJJ U rows cost x j t=PR at *
     generalize el cost t=q at *
     generalize el x t=qx at *
     have eL:=un hl;have a5:=un r;have ap:=un (zad r aU.o);have ar:=un (zad r aD.o);have bh:=un (zad r cH.o);have bf:=un (aT.o.below r);have an:=un (bI.o.below r);have ba:=un (aO.o.below r);have aN:=un (fr.o.below r);have HQ:=un (show RatS wy ga (Aa,ma,ca) (Da,aC,ay) q from(iR.below r));have iB:=un (show RatS wy gx (Ax,mx,cx) (Dx,fa,eU) qx from(iS.below r));have ae:=un (aq.o.trans ((r).mono aq.o.size));obtain⟨aV,dK,aW,dE⟩:=bc2 ap.o
     obtain⟨ek,d0,eo,d7,em,d4,ep,d8,ew,ed,eq,d9,ex,ef,er,ea,ey,eh,es,eb,eC,eA,ez,eu,du,dq,dw,dj,ds,dn,dy,dl⟩:=bf8 ar.o;obtain⟨aX,d5,aY,d6⟩:=bc2 bh.o;have af:wy.cell? ⟨O,t*3,none⟩=some (.bool ga):=zab r y0;have i5:=zaa af;have ai:wy.cell? ⟨O,t*3+1,none⟩=some (Aa,ma,ca):=zab r y1;have i7:=zaa ai;have aj:wy.cell? ⟨O,t*3+2,none⟩=some (Da,aC,ay):=zab r y2;have i9:=zaa aj;have a0:wy.cell? ⟨bX,t*3,none⟩=some (.bool gx):=zab r x0;have ja:=zaa a0
     have a3:wy.cell? ⟨bX,t*3+1,none⟩=some (Ax,mx,cx):=zab r x1;have jb:=zaa a3;have eE:wy.cell? ⟨bX,t*3+2,none⟩=some (Dx,fa,eU):=zab r x2;have lQ:=zaa eE;have kY:=r.size;clear hl r y0 y1 y2 iR x0 x1 x2 iS;clear dC dA dD dB dV dF dS dH dW dG dT dI dZ dN dU dJ ee dO dX dL eg dP dY dM eB en et ec dt dp dv di dr dm dx dk ei dQ ej dR;have iG:=un (Bel.mk (Below.refl wy.heap.size wy));have oT:(0:Int)≤(t:Int):=Int.natCast_nonneg _;have oU:(t:Int)<(nC:Int):=by omega
     go_upto_region 18 with fail
     have ox:rats [0,0]=[0,0]:=rfl;have oK:w4.heap.size<wy.heap.size:=by omega
     go_cut[19] (fun q_ wq=>∃(G:Nat) (D:OA) (d:Nat),q_=.pointer (some ⟨G,0,none⟩)∧wy.heap.size≤G∧wq.heap[G]? = some (.cells #[(D,U.length+2,d),.int .i64 1,ga,(Aa,ma,ca),(Da,aC,ay)] 43 (0,0))∧VecS wq 0 (D,U.length+2,d) (yJC U rows t++[0,0])∧Below wy.heap.size wy wq)
     case first =>
      refine zaS (S:=fun w'=>w'.cell? ⟨w,0,none⟩=some (O,nC,L)∧w'.cell? ⟨w,1,none⟩=some (R,m,M)∧w'.cell? ⟨w4,0,none⟩=some (A,U.length,c)∧w'.cell? ⟨w4,1,none⟩=some (B',U.length,c')∧w'.cell? ⟨O,t*3,none⟩=some (.bool ga)∧w'.cell? ⟨O,t*3+1,none⟩=some (Aa,ma,ca)∧w'.cell? ⟨O,t*3+2,none⟩=some (Da,aC,ay)) [14] (h:=fun hHeld=>?_);refine zaw [0,1,2,3,4,5,6,7,8,9] ?_;repeat refine tkL (hS:=hHeld) (h:=?_)
      refine zao ?_;refine zme (i:=10) (j:=13) rfl rfl (by kernel_rfl) (fun K s=>?_) (fun K s=>?_)
      ·skip
       go_simp;refine yYK s fun hHeld=>?_
       clear s K;refine zme (i:=11) (j:=13) rfl rfl (by kernel_rfl) (fun K s=>?_) (fun K s=>?_)
       ·skip
        go_simp
        (go_at_call 67;(with_reducible refine(column S cB.o A U.length c B' c' U (some ⟨O,0,none⟩) nC L R m M rows t (some ⟨wy.heap.size,0,none⟩) 2 2 [0,0] _ (((aN.o).alloc _).drew) (((an.o).alloc _).drew) ((z6g (u:=wy) (b:=wy.heap.size) rfl (RatS.zero _) (RatS.zero _)).drew) am N.o.sh.co (fun p H=>(N.o.rw_ p H).2.1) (by omega) (by omega) (by omega)).mono ?_);rintro e v1 ⟨D,d,rfl,hv,f⟩;have z:Below wy.heap.size wy v1:=(bdrew (Below.alloc (Below.refl wy.heap.size wy) (Nat.le_refl _) (.cells #[false,(),(),false,(),()] 41))).trans (f.mono (by simp<;>omega));have bn:=un (hv.base (Nat.zero_le _));have aH:=un z;have t0:=zab z aV;have t1:=zab z aW;have t2:=zab z aX;have t3:=zab z aY;have t4:=zab z af;have t5:=zab z ai;have t6:=zab z aj;clear hv f z)
        (try go_wp2_with fail)
        refine yYK s fun hHeld=>?_
        clear s K;refine zaw [12] ?_;repeat refine tkL (hS:=hHeld) (h:=?_)
        refine zao ?_;refine zaB 13 (h:=fun K s=>?_);go_simp;refine yYK s fun hHeld=>?_
        clear s K;refine zay 14 (h:=fun K s=>?_);go_simp;refine yYL s ?_;clear s K;refine zaM (h:=?_);go_wp2;go_meet
        case rel=>exact⟨v1.heap.size,D,d,rfl,aH.o.size,zal _ _ _,bn.o.alloc _,aH.o.alloc aH.o.size _⟩
       ·skip
        go_simp;refine yYK s fun hHeld=>?_
        clear s K;refine zaB 11 (h:=fun K s=>?_);go_simp
        (go_at_call 67;(with_reducible refine(column S cB.o A U.length c B' c' U (some ⟨O,0,none⟩) nC L R m M rows t (some ⟨wy.heap.size,0,none⟩) 2 2 [0,0] _ ((((aN.o).alloc _).alloc _).drew) ((((an.o).alloc _).alloc _).drew) (((z6g (u:=wy) (b:=wy.heap.size) rfl (RatS.zero _) (RatS.zero _)).alloc _).drew) am N.o.sh.co (fun p H=>(N.o.rw_ p H).2.1) (by omega) (by omega) (by omega)).mono ?_);rintro e v1 ⟨D,d,rfl,hv,f⟩;have z:Below wy.heap.size wy v1:=(bdrew (Below.alloc (Below.alloc (Below.refl wy.heap.size wy) (Nat.le_refl _) (.cells #[false,(),(),false,(),()] 41)) (by simp) (.cells #[(),.int .i64 0,false,(),()] 43))).trans (f.mono (by simp<;>omega));have bn:=un (hv.base (Nat.zero_le _));have aH:=un z;have t0:=zab z aV;have t1:=zab z aW;have t2:=zab z aX;have t3:=zab z aY;have t4:=zab z af;have t5:=zab z ai;have t6:=zab z aj;have aI:=un (show v1.heap[wy.heap.size+1]? = some (.cells #[(),.int .i64 0,false,(),()] 43 (0,0))from zad f (zbD wy (.cells #[false,(),(),false,(),()] 41) #[(),.int .i64 0,false,(),()] 43));obtain⟨o0,lc,ll,lm,o1,le,of1,ln,o2,lg,lo,lp,o3,li,lq,lr,o4,lk,ls,lu⟩:=bf5 aI.o;clear hv f z)
        (try go_wp2_with fail)
        refine yYK s fun hHeld=>?_
        clear s K;refine zaw [12] ?_;repeat refine tkL (hS:=hHeld) (h:=?_)
        refine zao ?_;refine zay 14 (h:=fun K s=>?_);go_simp;refine yYL s ?_;clear s K;refine zaM (h:=?_);go_wp2;go_meet;have F:=zqy aI.o (D,U.length+2,d) (.int .i64 1) ga (Aa,ma,ca) (Da,aC,ay)
        case rel=>exact⟨wy.heap.size+1,D,d,rfl,Nat.le_succ _,zar _ (zar _ (zar _ (zar _ (zar _ aI.o)))),bn.o.tk F (by decide) (by decide),bsc (p:=⟨wy.heap.size+1,4,none⟩) (bsc (p:=⟨wy.heap.size+1,3,none⟩) (bsc (p:=⟨wy.heap.size+1,2,none⟩) (bsc (p:=⟨wy.heap.size+1,1,none⟩) (bsc (p:=⟨wy.heap.size+1,0,none⟩) (aH.o) (Nat.le_succ _)) (Nat.le_succ _)) (Nat.le_succ _)) (Nat.le_succ _)) (Nat.le_succ _)⟩
      ·skip
       go_simp;refine yYK s fun hHeld=>?_
       clear s K;refine zaB 10 (h:=fun K s=>?_);go_simp;refine yYK s fun hHeld=>?_
       clear s K;refine zaB 11 (h:=fun K s=>?_);go_simp
       (go_at_call 67;(with_reducible refine(column S cB.o A U.length c B' c' U (some ⟨O,0,none⟩) nC L R m M rows t (some ⟨wy.heap.size+1,0,none⟩) 2 2 [0,0] _ ((((aN.o).alloc _).alloc _).drew) ((((an.o).alloc _).alloc _).drew) ((z6g (u:=wy.alloc (.cells #[(),.int .i64 0,false,(),()] 43)) (b:=wy.heap.size+1) (by simp) (RatS.zero _) (RatS.zero _)).drew) am N.o.sh.co (fun p H=>(N.o.rw_ p H).2.1) (by omega) (by omega) (by omega)).mono ?_);rintro e v1 ⟨D,d,rfl,hv,f⟩;have z:Below wy.heap.size wy v1:=(bdrew (Below.alloc (Below.alloc (Below.refl wy.heap.size wy) (Nat.le_refl _) (.cells #[(),.int .i64 0,false,(),()] 43)) (by simp) (.cells #[false,(),(),false,(),()] 41))).trans (f.mono (by simp<;>omega));have bn:=un (hv.base (Nat.zero_le _));have aH:=un z;have t0:=zab z aV;have t1:=zab z aW;have t2:=zab z aX;have t3:=zab z aY;have t4:=zab z af;have t5:=zab z ai;have t6:=zab z aj;have aI:=un (show v1.heap[wy.heap.size]? = some (.cells #[(),.int .i64 0,false,(),()] 43 (0,0))from zad f (zak (zal wy #[(),.int .i64 0,false,(),()] 43)));obtain⟨o0,lc,ll,lm,o1,le,of1,ln,o2,lg,lo,lp,o3,li,lq,lr,o4,lk,ls,lu⟩:=bf5 aI.o;clear hv f z)
       (try go_wp2_with fail)
       refine yYK s fun hHeld=>?_
       clear s K;refine zaw [12] ?_;repeat refine tkL (hS:=hHeld) (h:=?_)
       refine zao ?_;refine zay 14 (h:=fun K s=>?_);go_simp;refine yYL s ?_;clear s K;refine zaM (h:=?_);go_wp2;go_meet;have F:=zqy aI.o (D,U.length+2,d) (.int .i64 1) ga (Aa,ma,ca) (Da,aC,ay)
       case rel=>exact⟨wy.heap.size,D,d,rfl,Nat.le_refl _,zar _ (zar _ (zar _ (zar _ (zar _ aI.o)))),bn.o.tk F (by decide) (by decide),bsc (p:=⟨wy.heap.size,4,none⟩) (bsc (p:=⟨wy.heap.size,3,none⟩) (bsc (p:=⟨wy.heap.size,2,none⟩) (bsc (p:=⟨wy.heap.size,1,none⟩) (bsc (p:=⟨wy.heap.size,0,none⟩) (aH.o) (Nat.le_refl _)) (Nat.le_refl _)) (Nat.le_refl _)) (Nat.le_refl _)) (Nat.le_refl _)⟩
     case rest =>
      rename World=>wq
      obtain⟨G,D,d,rfl,cJ,hO,hV,r⟩:=hcut;have aJ:=un hO;have eJ:=un r;have ad:=un (zad r ap.o);have ag:=un (zad r ar.o);have ah:=un (zad r bh.o);have bg:=un (bf.o.below r);have be:=un (an.o.below r);have a9:=un (ba.o.below r);have a8:=un (aN.o.below r);have fS:=un (HQ.o.below r);have jj:=un (iB.o.below r);have bT:=un (iG.o.below r);have HD:=un (show VecS wq 0 (D,U.length+2,d) (yJC U rows t++[0,0])from hV)
      have au:=un (ae.o.trans ((r).mono ae.o.size));obtain⟨ch,cf,ci,cg⟩:=bc2 ad.o;obtain⟨bK,ct,bB,cj,bL,cu,bD,ck,bM,cv,bE,cl,bN,cw,bF,cm,bO,cy,bG,cn,bP,cz,bH,cr,b6,bU,bW,b5,b7,bV,bY,bZ⟩:=bf8 ag.o;obtain⟨bQ,cA,bS,cs⟩:=bc2 ah.o;have aZ:=zab r af;have fl:=zaa aZ;have aQ:=zab r ai;have fm:=zaa aQ;have aR:=zab r aj;have fn:=zaa aR;have aS:=zab r a0;have fo:=zaa aS;have aP:=zab r a3;have fp:=zaa aP;have bJ:=zab r eE;have jc:=zaa bJ
      obtain⟨dd,df,jH,jE,de,dg,jI,jF,jv,jw,jJ,jG,jA,jx,jh,jf,jB,jy,ji,jg⟩:=bf5 aJ.o;clear hO hV r;have oZ:=eJ.o.size;go_upto_if 92 with fail
      go_cut[] (fun wx=>∃(D2:OA) (V:Nat) (g2:Bool) (A2:OA) (Y P:Nat) (E2:OA) (Z T:Nat),wx.heap[G]? = some (.cells #[(D2,U.length+2,V),.int .i64 1,g2,(A2,Y,P),(E2,Z,T)] 43 (0,0))∧VecS wx 0 (D2,U.length+2,V) (yJC U rows t++rats (if t=j then [-1,1]else [0,0]))∧RatS wx g2 (A2,Y,P) (E2,Z,T) (if t=j then 0 else q)∧Below wy.heap.size wy wx)
      case first =>
       by_cases e5:t=j
       ·subst e5;go_upto_region 20 with fail
        refine zaS (S:=fun w'=>w'.cell? ⟨w,0,none⟩=some (O,nC,L)∧w'.cell? ⟨w,1,none⟩=some (R,m,M)∧w'.cell? ⟨w4,0,none⟩=some (A,U.length,c)∧w'.cell? ⟨w4,1,none⟩=some (B',U.length,c')∧w'.cell? ⟨G,0,none⟩=some (D,U.length+2,d)∧w'.cell? ⟨G,2,none⟩=some (.bool ga)∧w'.cell? ⟨G,3,none⟩=some (Aa,ma,ca)∧w'.cell? ⟨G,4,none⟩=some (Da,aC,ay)) [9,10,11] (h:=fun hHeld=>?_);refine zaw [0,1,2] ?_
        repeat refine tkL (hS:=hHeld) (h:=?_)
        refine zao ?_;refine zaw [7] ?_;repeat refine tkX (h:=?_)
        refine zao ?_;refine zaB 3 (h:=fun K s=>?_);go_simp
        (go_at_call 13;(with_reducible refine(Rt.int (-1) (by decide) (by decide) _).mono ?_);rintro e v1 ⟨g7,A7,m7,c7,D7,md7,cd7,rfl,hn7,f⟩;have bi:=un (zad f ad.o);have bb:=un (zad f ag.o);have bc:=un (zad f ah.o);have ao:=un (zad f aJ.o);have f0:=un (bg.o.drew.below f);have f1:=un (be.o.drew.below f);have fs:=un (a9.o.drew.below f);have fq:=un (a8.o.drew.below f);have jr:=un (bT.o.drew.below f);have kC:=un (show RatS v1 g7 (A7,m7,c7) (D7,md7,cd7) ((-1:Int):Rat)from hn7);have c3:=un (au.o.trans ((It.bdrew0' f).mono au.o.size));obtain⟨ig,ih,ii,ij⟩:=bc2 bi.o;obtain⟨ft,im,fK,fy,fu,io,fL,fz,fv,ip,fM,fA,fw,iq,fN,fC,fx,ir,fO,fD,fT,fF,fP,fE,gu,gs,gv,gn,gt,gr,gw,gq⟩:=bf8 bb.o;obtain⟨fU,fG,fV,fH⟩:=bc2 bc.o;obtain⟨fW,fY,mR,mO,fX,fZ,mS,mP,mD,mE,mT,mQ,mL,mF,lY,lW,mM,mG,lZ,lX⟩:=bf5 ao.o;clear hn7 f)
        (try go_wp2_with fail)
        refine yYK s fun hHeld=>?_
        clear s K;refine zaB 4 (h:=fun K s=>?_);go_simp
        (go_at_call 13;(with_reducible refine(Rt.int 1 (by decide) (by decide) _).mono ?_);rintro e v2 ⟨g8,A8,m8,c8,D8,md8,cd8,rfl,hn8,f⟩;have fI:=un (zad f bi.o);have bd:=un (zad f bb.o);have fJ:=un (zad f bc.o);have jz:=un (zad f ao.o);have mN:=un (f0.o.below f);have jC:=un (f1.o.below f);have l7:=un (fs.o.below f);have je:=un (fq.o.below f);have js:=un (jr.o.below f);have l0:=un (kC.o.below f);have kD:=un (show RatS v2 g8 (A8,m8,c8) (D8,md8,cd8) ((1:Int):Rat)from hn8);have dh:=un (c3.o.trans ((f).mono c3.o.size));obtain⟨jp,mt,jq,mu⟩:=bc2 fI.o;obtain⟨c4,cW,mw,mf,c5,cY,my,mg,c6,cZ,mz,mm,da,c0,mA,mn,db,cU,mB,mo,dc,cV,mC,mq,cP,cN,lT,lR,cQ,cO,lU,lS⟩:=bf8 bd.o;obtain⟨jt,mr,ju,ms⟩:=bc2 fJ.o;obtain⟨mH,po,px,pu,pt,pp,py,pv,mI,pq,pz,pw,mJ,pr,pl,pj,mK,ps,pm,pk⟩:=bf5 jz.o;clear hn8 f)
        (try go_wp2_with fail)
        refine yYK s fun hHeld=>?_
        clear s K;refine zaB 5 (h:=fun K s=>?_);go_simp;refine yYK s fun hHeld=>?_
        clear s K;refine zaB 6 (h:=fun K s=>?_);go_simp
        (go_at_call 67;(with_reducible refine(column S cB.o A U.length c B' c' U (some ⟨O,0,none⟩) nC L R m M rows t (some ⟨v2,0,none⟩) 2 2 [((-1:Int):Rat),((1:Int):Rat)] _ (je.o.alloc _) (jC.o.alloc _) (z6g rfl l0.o kD.o) am N.o.sh.co (fun p H=>(N.o.rw_ p H).2.1) (by omega) (by omega) (by omega)).mono ?_);rintro e v3 ⟨D3,d3,rfl,hv,f⟩;have eO:=un (hv.base (Nat.zero_le _));have z:Below (v2.alloc (.cells #[g7,(A7,m7,c7),(D7,md7,cd7),g8,(A8,m8,c8),(D8,md8,cd8)] 41)).heap.size (v2.alloc (.cells #[g7,(A7,m7,c7),(D7,md7,cd7),g8,(A8,m8,c8),(D8,md8,cd8)] 41)) v3:=f;have ks:=un ((js.o.alloc (.cells #[g7,(A7,m7,c7),(D7,md7,cd7),g8,(A8,m8,c8),(D8,md8,cd8)] 41)).b.trans (f.mono (js.o.alloc (.cells #[g7,(A7,m7,c7),(D7,md7,cd7),g8,(A8,m8,c8),(D8,md8,cd8)] 41)).b.size));have a6:=un (zad f (zak jz.o));have r0:=(zag a6.o 0);have r2:=(zag a6.o 2);have r3:=(zag a6.o 3);have r4:=(zag a6.o 4);have t0:=zab z (cell_al (ob:=.cells #[g7,(A7,m7,c7),(D7,md7,cd7),g8,(A8,m8,c8),(D8,md8,cd8)] 41) jp);have t1:=zab z (cell_al (ob:=.cells #[g7,(A7,m7,c7),(D7,md7,cd7),g8,(A8,m8,c8),(D8,md8,cd8)] 41) jq);have t2:=zab z (cell_al (ob:=.cells #[g7,(A7,m7,c7),(D7,md7,cd7),g8,(A8,m8,c8),(D8,md8,cd8)] 41) jt);have t3:=zab z (cell_al (ob:=.cells #[g7,(A7,m7,c7),(D7,md7,cd7),g8,(A8,m8,c8),(D8,md8,cd8)] 41) ju);have t4:=zab z (cell_al (ob:=.cells #[g7,(A7,m7,c7),(D7,md7,cd7),g8,(A8,m8,c8),(D8,md8,cd8)] 41) mH);have t5:=zab z (cell_al (ob:=.cells #[g7,(A7,m7,c7),(D7,md7,cd7),g8,(A8,m8,c8),(D8,md8,cd8)] 41) mI);have t6:=zab z (cell_al (ob:=.cells #[g7,(A7,m7,c7),(D7,md7,cd7),g8,(A8,m8,c8),(D8,md8,cd8)] 41) mJ);have t7:=zab z (cell_al (ob:=.cells #[g7,(A7,m7,c7),(D7,md7,cd7),g8,(A8,m8,c8),(D8,md8,cd8)] 41) mK);clear hv f z)
        (try go_wp2_with fail)
        refine yYK s fun hHeld=>?_
        clear s K;refine zaw [8] ?_;repeat refine tkL (hS:=hHeld) (h:=?_)
        refine zao ?_;refine zay 9 (h:=fun K s=>?_);go_simp;refine yYL s ?_;clear s K;refine zay 10 (h:=fun K s=>?_);go_simp;refine yYL s ?_;clear s K;refine zay 11 (h:=fun K s=>?_);go_simp;refine yYL s ?_;clear s K;refine zaM (h:=?_);go_wp2;go_meet;have F:=yMe a6.o 0 2 3 4 (D3,U.length+2,d3) false () ()
        case rel=>simp only[if_true];exact⟨D3,d3,false,none,0,0,none,0,0,zar _ (zar _ (zar _ (zar _ a6.o))),eO.o.tk F (by decide) (by decide),RatS.zero _,bsc (p:=⟨G,4,none⟩) (bsc (p:=⟨G,3,none⟩) (bsc (p:=⟨G,2,none⟩) (bsc (p:=⟨G,0,none⟩) (ks.o) cJ) cJ) cJ) cJ⟩
       ·have o6:¬(t:Int)=(j:Int):=by omega
        go_wp2;go_meet
        case rel=>rw[if_neg e5,if_neg e5];exact⟨D,d,ga,Aa,ma,ca,Da,aC,ay,aJ.o,HD.o,fS.o,eJ.o⟩
      case rest =>
       clear aJ eJ;rename World=>wx
       obtain⟨D2,V,g2,A2,Y,P,E2,Z,T,hO,hV,hR,r⟩:=hcut;have aJ:=un hO;have oy:=un r;have kB:=un (eL.o.below r);have kz:=un (show ∀g,(Value.slice E t cE).ownBlock=some g→g<wy.heap.size from fun g e=>(eL.o.own.lt g e).2);have iw:=un (a5.o.trans (r.mono kY));have ad:=un (zad r ap.o);have ag:=un (zad r ar.o);have ah:=un (zad r bh.o);have bg:=un (bf.o.below r);have be:=un (an.o.below r);have a9:=un (ba.o.below r);have a8:=un (aN.o.below r);have fS:=un (HQ.o.below r)
       have jj:=un (iB.o.below r);have bT:=un (iG.o.below r);have HV:=un (show VecS wx 0 (D2,U.length+2,V) (yJC U rows t++rats (if t=j then [-1,1]else [0,0]))from hV);have kJ:=un (show RatS wx g2 (A2,Y,P) (E2,Z,T) (if t=j then 0 else q)from hR);have au:=un (ae.o.trans ((r).mono ae.o.size));obtain⟨ch,cf,ci,cg⟩:=bc2 ad.o;obtain⟨bK,ct,bB,cj,bL,cu,bD,ck,bM,cv,bE,cl,bN,cw,bF,cm,bO,cy,bG,cn,bP,cz,bH,cr,b6,bU,bW,b5,b7,bV,bY,bZ⟩:=bf8 ag.o
       obtain⟨bQ,cA,bS,cs⟩:=bc2 ah.o;have aZ:=zab r af;have fl:=zaa aZ;have aQ:=zab r ai;have fm:=zaa aQ;have aR:=zab r aj;have fn:=zaa aR;have aS:=zab r a0;have fo:=zaa aS;have aP:=zab r a3;have fp:=zaa aP;have bJ:=zab r eE;have jc:=zaa bJ;obtain⟨dd,df,jH,jE,de,dg,jI,jF,jv,jw,jJ,jG,jA,jx,jh,jf,jB,jy,ji,jg⟩:=bf5 aJ.o;have oN:=r.size;clear hO hV hR r eL
       clear aV dK aW dE ek d0 eo d7 em d4 ep d8 ew ed eq d9 ex ef er ea ey eh es eb eC eA ez eu du dq dw dj ds dn dy dl aX d5 aY d6 af i5 ai i7 aj i9 a0 ja a3 jb eE lQ;rw[kI.o]at bm;generalize rats (if t=j then [-1,1]else [0,0])=mor at *
       generalize (if t=j then 0 else q)=rh at *
       go_wp2_with fail
       with_reducible refine(Rt.zero gx Ax mx cx Dx fa eU qx _ jj.o).mono ?_
       rintro e v4 ⟨rfl,f⟩;have bi:=un (zad f ad.o);have bb:=un (zad f ag.o);have bc:=un (zad f ah.o);have ao:=un (zad f aJ.o);have f0:=un (bg.o.below f);have f1:=un (be.o.below f);have fs:=un (a9.o.below f);have fq:=un (a8.o.below f);have jr:=un (bT.o.below f);have jD:=un (HV.o.below f);have jk:=un (kJ.o.below f);have cM:=un (kB.o.below f);have c3:=un (au.o.trans ((f).mono au.o.size));obtain⟨ig,ih,ii,ij⟩:=bc2 bi.o
       obtain⟨ft,im,fK,fy,fu,io,fL,fz,fv,ip,fM,fA,fw,iq,fN,fC,fx,ir,fO,fD,fT,fF,fP,fE,gu,gs,gv,gn,gt,gr,gw,gq⟩:=bf8 bb.o;obtain⟨fU,fG,fV,fH⟩:=bc2 bc.o;obtain⟨fW,fY,mR,mO,fX,fZ,mS,mP,mD,mE,mT,mQ,mL,mF,lY,lW,mM,mG,lZ,lX⟩:=bf5 ao.o;have os:=zab f aZ;have pd:=zaa os;have me:=zab f aQ;have pe:=zaa me;have mh:=zab f aR;have pf:=zaa mh;have mi:=zab f aS;have pg:=zaa mi;have mj:=zab f aP;have ph:=zaa mj;have ml:=zab f bJ;have pi:=zaa ml;have bl:=un (iw.o.trans (f.mono iw.o.size));clear f
       have oJ:=bl.o.size;clear ch cf ci cg bK ct bB cj bL cu bD ck bM cv bE cl bN cw bF cm bO cy bG cn bP cz bH cr b6 bU bW b5 b7 bV bY bZ bQ cA bS cs aZ fl aQ fm aR fn aS fo aP fp bJ jc dd df jH jE de dg jI jF jv jw jJ jG jA jx jh jf jB jy ji jg;by_cases cI:qx=0
       ·have hz:zr qx=true:=decide_eq_true cI;rw[if_pos cI]at bm;rw[hz];have la:=bl.o.size;go_wp2_with (at_builtin;refine yJR rfl _ _ rfl rfl (cM.o.alloc _) rfl (zal _ _ _) ⟨jD.o.alloc _,rfl,jk.o.alloc _⟩ (n:=t) (p:=⟨yJC U rows t++mor,1,rh⟩) iy.o (by omega) (by simp;omega) ?_;intro G9 eX v9 bt e2 bv;have eK:=un bt;have eI:=un ((Below.alloc bl.o bl.o.size (.cells #[(D2,U.length+2,V),.int .i64 1,g2,(A2,Y,P),(E2,Z,T)] 43)).trans bv);clear bt e2 bv)
        go_roundw
        case rel=>exact⟨t+1,G9,eX,_,by go_num,rfl,by omega,by rw[bm.o];exact eK.o,eI.o⟩
        case measure=>simp[intOf];omega
       ·have hz:zr qx=false:=decide_eq_false cI;rw[if_neg cI]at bm;rw[hz];go_upto_region 23 with fail
        have F:TKeep 43 v4 (v4.setCell ⟨G,1,none⟩ (.int .i64 3)):=TKeep.set ao.o _;have kU:=un (show(v4.setCell ⟨G,1,none⟩ (.int .i64 3)).heap[G]? = some (.cells #[(D2,U.length+2,V),.int .i64 3,g2,(A2,Y,P),(E2,Z,T)] 43 (0,0))from zar _ ao.o);have a4:=un (bsc (u:=.int .i64 3) (p:=⟨G,1,none⟩) bl.o (show wz.heap.size≤G by omega));have ky:=un (RowsL.setAt cM.o (b:=G) (u:=.int .i64 3) (o:=1) ao.o (fun g_ e_=>by have h1:=kz.o g_ e_;omega))
        have eO:=un (jD.o.tk F (by decide) (by decide));have kH:=un (jk.o.tk F (by decide));obtain⟨b0,oz,b1,oB,b2,oD,b3,oF,b4,oH⟩:=bc5 kU.o;generalize v4.setCell ⟨G,1,none⟩ (.int .i64 3)=v5 at *
        have la:=a4.o.size;go_wp2_with (at_builtin;refine yJR rfl _ _ rfl rfl (ky.o.alloc _) rfl (zal _ _ _) ⟨eO.o.alloc _,rfl,kH.o.alloc _⟩ (n:=t) (p:=⟨yJC U rows t++mor,3,rh⟩) iy.o (by omega) (by simp;omega) ?_;intro G9 eX v9 bt e2 bv;have eK:=un bt;have eI:=un ((Below.alloc a4.o a4.o.size (.cells #[(D2,U.length+2,V),.int .i64 3,g2,(A2,Y,P),(E2,Z,T)] 43)).trans bv);clear bt e2 bv)
        go_roundw
        case rel=>exact⟨t+1,G9,eX,_,by go_num,rfl,by omega,by rw[bm.o];exact eK.o,eI.o⟩
        case measure=>simp[intOf];omega
    ·obtain rfl:nC=t:=by omega
     have kL:=un (show(yJK U rows cost x j).take nC=yJK U rows cost x j from List.take_of_length_le (by rw[yLT,←cD.o];exact Nat.le_refl _));rw[kL.o]at hl;have a5:=un r;have ap:=un (zad r aU.o);have ar:=un (zad r aD.o);have bh:=un (zad r cH.o);have bf:=un (aT.o.below r);have an:=un (bI.o.below r);have ba:=un (aO.o.below r);have aN:=un (fr.o.below r);have HL:=un (show RowsL wy wz (E,nC,cE) l (yJK U rows cost x j)from hl)
     have ae:=un (aq.o.trans ((r).mono aq.o.size));obtain⟨aV,dK,aW,dE⟩:=bc2 ap.o;obtain⟨ek,d0,eo,d7,em,d4,ep,d8,ew,ed,eq,d9,ex,ef,er,ea,ey,eh,es,eb,eC,eA,ez,eu,du,dq,dw,dj,ds,dn,dy,dl⟩:=bf8 ar.o;obtain⟨aX,d5,aY,d6⟩:=bc2 bh.o;clear hl r;clear dC dA dD dB dV dF dS dH dW dG dT dI dZ dN dU dJ ee dO dX dL eg dP dY dM eB en et ec dt dp dv di dr dm dx dk ei dQ ej dR;go_wp2_with fail
     have al:=zae wy (.cells #[.int .i64 1,.int .i64 (-1)] 3);have ad:=un (zad al ap.o);have ag:=un (zad al ar.o);have ah:=un (zad al bh.o);have bg:=un (bf.o.below al);have be:=un (an.o.below al);have a9:=un (ba.o.below al);have a8:=un (aN.o.below al);have lV:=un (HL.o.below al);have au:=un (ae.o.trans ((al).mono ae.o.size));obtain⟨ch,cf,ci,cg⟩:=bc2 ad.o
     obtain⟨bK,ct,bB,cj,bL,cu,bD,ck,bM,cv,bE,cl,bN,cw,bF,cm,bO,cy,bG,cn,bP,cz,bH,cr,b6,bU,bW,b5,b7,bV,bY,bZ⟩:=bf8 ag.o;obtain⟨bQ,cA,bS,cs⟩:=bc2 ah.o;have KI:=un (zal wy #[.int .i64 1,.int .i64 (-1)] 3);obtain⟨dd,df,de,dg⟩:=bc2 KI.o;with_reducible refine(goal A U.length c B' c' m U wy.heap.size 2 2 [1, -1] _ a8.o (by omega) rfl (zqg wy 1 (-1)) (by decide) (by decide) (by decide)).mono ?_
     rintro e v1 ⟨D,d,rfl,hv,f⟩;have bi:=un (zad f ad.o);have bb:=un (zad f ag.o);have bc:=un (zad f ah.o);have ao:=un (zad f KI.o);have f0:=un (bg.o.below f);have f1:=un (be.o.below f);have fs:=un (a9.o.below f);have fq:=un (a8.o.below f);have cM:=un (lV.o.below f);have kP:=un (show VecS v1 0 (D,U.length+2,d) (yJG U)from(hv.base (Nat.zero_le _)));have c3:=un (au.o.trans ((f).mono au.o.size));obtain⟨ig,ih,ii,ij⟩:=bc2 bi.o
     obtain⟨ft,im,fK,fy,fu,io,fL,fz,fv,ip,fM,fA,fw,iq,fN,fC,fx,ir,fO,fD,fT,fF,fP,fE,gu,gs,gv,gn,gt,gr,gw,gq⟩:=bf8 bb.o;obtain⟨fU,fG,fV,fH⟩:=bc2 bc.o;obtain⟨fW,fY,fX,fZ⟩:=bc2 ao.o;have iv:=un ((Below.alloc a5.o a5.o.size (.cells #[.int .i64 1,.int .i64 (-1)] 3)).trans (f.mono (Below.alloc a5.o a5.o.size (.cells #[.int .i64 1,.int .i64 (-1)] 3)).size));clear hv f;go_wp2_with fail
     with_reducible refine(ends S2 E nC cE D (U.length+2) d (yJK U rows cost x j) (yJG U) B _ (cM.o.base' (Nat.zero_le _)).toS kP.o kv.o kr.o).mono ?_
     rintro e w6 ⟨f,h⟩;have ak:Below wz wz w6:=iv.o.trans (f.mono iv.o.size);rw[kE.o]at h;have fI:=un (zad ak aU.o);have bd:=un (zad ak aD.o);have fJ:=un (zad ak cH.o);have mN:=un (aT.o.below ak);have jC:=un (bI.o.below ak);have l7:=un (aO.o.below ak);have je:=un (fr.o.below ak);have dh:=un (aq.o.trans ((ak).mono aq.o.size));obtain⟨jp,mt,jq,mu⟩:=bc2 fI.o
     obtain⟨c4,cW,mw,mf,c5,cY,my,mg,c6,cZ,mz,mm,da,c0,mA,mn,db,cU,mB,mo,dc,cV,mC,mq,cP,cN,lT,lR,cQ,cO,lU,lS⟩:=bf8 bd.o;obtain⟨jt,mr,ju,ms⟩:=bc2 fJ.o;clear ak f
     clear aV dK aW dE ek d0 eo d7 em d4 ep d8 ew ed eq d9 ex ef er ea ey eh es eb eC eA ez eu du dq dw dj ds dn dy dl aX d5 aY d6 ch cf ci cg bK ct bB cj bL cu bD ck bM cv bE cl bN cw bF cm bO cy bG cn bP cz bH cr b6 bU bW b5 b7 bV bY bZ bQ cA bS cs dd df de dg ig ih ii ij ft im fK fy fu io fL fz fv ip fM fA fw iq fN fC fx ir fO fD fT fF fP fE gu gs gv gn gt gr gw gq fU fG fV fH fW fY fX fZ;cases o with
     | spent kk =>
      obtain⟨fb,ev,rfl,e1,kW,num,rfl,k6,k5⟩:=h;go_wp2;refine bodyPost_ret (v:=.tuple #[.agg #[false,(),(),false,(),(),false,false],.iface 224 (.pointer (some ⟨fb,0,none⟩))]) (by simp[results,results25,go_sem,c4,cW,c5,cY,c6,cZ,da,c0,db,cU,dc,cV,cP,cN,cQ,cO]) rfl ?_;have F:=zYl bd.o false () () false () () false false
      exact⟨bsc (bsc (bsc (bsc (bsc (bsc (bsc (bsc dh.o))))))),fb,_,rfl,F.blk e1 (by decide),kW,num,rfl,k6,F.blk k5 (by decide)⟩
     | none kk =>
      obtain⟨fb,rfl,e1⟩:=h;go_wp2;refine bodyPost_ret (v:=.tuple #[.agg #[false,(),(),false,(),(),false,false],.iface 224 (.pointer (some ⟨fb,0,none⟩))]) (by simp[results,results25,go_sem,c4,cW,c5,cY,c6,cZ,da,c0,db,cU,dc,cV,cP,cN,cQ,cO]) rfl ?_;have F:=zYl bd.o false () () false () () false false
      exact⟨bsc (bsc (bsc (bsc (bsc (bsc (bsc (bsc dh.o))))))),fb,rfl,F.blk e1 (by decide)⟩
     | ends a b =>
      obtain⟨gl,a1,m1,c1,d1,e9,eT,gh,a2,Y,P,V,Z,T,rfl,k7,k8⟩:=h;go_wp2;refine bodyPost_ret (v:=.tuple #[.agg #[gl,(a1,m1,c1),(d1,e9,eT),gh,(a2,Y,P),(V,Z,T),.bool a.isSome,.bool b.isSome],.nilIface]) (by simp[results,results25,go_sem,c4,cW,c5,cY,c6,cZ,da,c0,db,cU,dc,cV,cP,cN,cQ,cO]) rfl ?_;have F:=zYl bd.o gl (a1,m1,c1) (d1,e9,eT) gh (a2,Y,P) (V,Z,T) (.bool a.isSome) (.bool b.isSome)
      exact⟨bsc (bsc (bsc (bsc (bsc (bsc (bsc (bsc dh.o))))))),gl,a1,m1,c1,d1,e9,eT,gh,a2,Y,P,V,Z,T,rfl,k7.tk F (by decide),k8.tk F (by decide)⟩
end Ra
end Go.Proofs.YtbhfhkcdfmmmiaaGreat
namespace Go.Proofs.YtbhfhkcdfmmmiaaGreat
open Go.RowKit Am Go.Proofs.Tryz
open Lw (z6u)
variable {w:World}
def yJ1:List Rat:=rats [1,1]
def yJQ:List PRow:=[⟨rats [1,2],2,((4:Int):Rat)⟩,⟨rats [3,1],1,((9:Int):Rat)⟩]
def rX:List Rat:=rats [0,2]
def yLS (o:RangeO) (a b:Option Rat):Bool:=match o with | .ends x y=>decide (x=a)&&decide (y=b) | _=>false
theorem yKN{o:RangeO}{a b:Option Rat}(h:yLS o a b=true):o=.ends a b:=by
 unfold yLS at h;split at h
 ·rw[Bool.and_eq_true]at h;rw[of_decide_eq_true h.1,of_decide_eq_true h.2]
 ·cases h
def yK4 (nC m:Nat) (cost:List Rat) (rows:List PRow):Bool:=decide (nC≤5)&&decide (m≤4)&&cost.all (fun q=>decide (mw q≤1))&&rows.all fun p=>decide (p.coef.length=nC)&&p.coef.all (fun q=>decide (mw q≤1))&&decide (mw p.rhs≤1)&&decide (1≤p.kind)&&decide (p.kind≤3)
theorem yJ0{nC m:Nat}{cost:List Rat}{rows:List PRow}(h:yK4 nC m cost rows=true):Good1 nC m cost rows:=by
 unfold yK4 at h;simp only[Bool.and_eq_true,List.all_eq_true,decide_eq_true_eq]at h;obtain⟨⟨⟨h1,c⟩,d⟩,b⟩:=h;exact⟨h1,c,d,fun p a=>⟨(b p a).1.1.1.1,(b p a).1.1.1.2,(b p a).1.1.2⟩,fun p a=>⟨(b p a).1.2,(b p a).2⟩⟩
theorem yNC:yK4 2 2 yJ1 yJQ=true:=by decide +kernel
theorem yPF:znD yJ1 yJQ rX=true:=by decide +kernel
theorem yYa:Sm rX:=fun q a=>Nat.le_trans ((show ∀q∈rX,mw q≤1 by decide +kernel) q a) (by decide)
theorem yYA:yLS (yOd 2 yJ1 yJQ rX 0 100) (some (Rat.divInt 1 2)) none=true:=by decide +kernel
theorem yYC:yK4 ((yKS yJQ rX).length+2) 2 (yJG (yKS yJQ rX)) (yJK (yKS yJQ rX) yJQ yJ1 rX 0)=true:=by decide +kernel
theorem yYB:yLS (yOd 2 yJ1 yJQ rX 1 100) (some 0) (some (Rat.divInt 2 1))=true:=by decide +kernel
theorem yYD:yK4 ((yKS yJQ rX).length+2) 2 (yJG (yKS yJQ rX)) (yJK (yKS yJQ rX) yJQ yJ1 rX 1)=true:=by decide +kernel
def yMc (o:RhsO) (a b:Option Rat):Bool:=match o with | .range r=>yLS r a b | _=>false
theorem yMT{o:RhsO}{a b:Option Rat}(h:yMc o a b=true):o=.range (.ends a b):=by
 unfold yMc at h;split at h
 ·rw[yKN h]
 ·cases h
theorem yYF:yMc (yWU 2 yJ1 yJQ 0 100) (some (Rat.divInt 1 2)) (some (Rat.divInt 1 2))=true:=by decide +kernel
def yXm (o:Out) (f:List Nat→Bool):Bool:=match o with | .best cols _=>f cols | _=>true
theorem yYE:yXm (zSA (2+cnt yJQ 2) 2 (zc3 yJQ) (zg8 yJQ) (zjD yJ1 yJQ) 100) (fun cols=>yK4 (yLD yJQ).length 3 (yJH (yLD yJQ) 0) (yJL (yLD yJQ) yJQ yJ1++[yJI (yLD yJQ) yJQ (dot yJ1 (yJA 2 yJQ cols))]))=true:=by decide +kernel
def yuz (w:World) (a b:Option Rat) (e:Ending) (w':World):Prop:=∃(g:Bool) (A:OA) (m c:Nat) (D:OA) (md cd:Nat) (g':Bool) (A':OA) (m' c':Nat) (D':OA) (md' cd':Nat),
  e=.returned (.tuple #[.agg #[g,(A,m,c),(D,md,cd),g',(A',m',c'),(D',md',cd'),.bool a.isSome,.bool b.isSome],.nilIface])∧RatS w' g (A,m,c) (D,md,cd) (a.getD 0)∧RatS w' g' (A',m',c') (D',md',cd') (b.getD 0)∧Below w w w'
theorem yJX.x{B:Nat}{o:RangeO}{a b:Option Rat}(p:o=.ends a b)(e:Ending)(w':World)(h:yJX w B o e w'):yuz w a b e w':=by
 subst p;obtain⟨l,g,A,m,c,D,q,i,g',d,m',c',f,r,j,n,h1,k⟩:=h;exact⟨g,A,m,c,D,q,i,g',d,m',c',f,r,j,n,h1,k,l⟩
namespace Lw
section
variable (C:OA) (cC:Nat) (R:OA) (cR:Nat) (X:OA) (cX:Nat) (w:World)
theorem yPC(hc:VecS w 0 (.slice C 2 cC) yJ1)(hr:RowsS w 0 (.slice R 2 cR) yJQ)(a:VecS w 0 (.slice X 2 cX) rX):Calls prog 25 #[.agg #[.slice C 2 cC,.slice R 2 cR],.slice X 2 cX,.int .i64 0,.int .i64 100] w (yuz w (some (Rat.divInt 1 2)) none) :=
 (Ra.cost 1 C 2 cC R 2 cR yJ1 yJQ X 2 cX rX w hc hr a (yJ0 yNC).toS yYa 0 100 1 (by decide) yPF (by decide) (yJ0 yYC).toS).mono (yJX.x (yKN yYA))
theorem yPD(hc:VecS w 0 (.slice C 2 cC) yJ1)(hr:RowsS w 0 (.slice R 2 cR) yJQ)(a:VecS w 0 (.slice X 2 cX) rX):Calls prog 25 #[.agg #[.slice C 2 cC,.slice R 2 cR],.slice X 2 cX,.int .i64 1,.int .i64 100] w (yuz w (some 0) (some (Rat.divInt 2 1))) :=
 (Ra.cost 1 C 2 cC R 2 cR yJ1 yJQ X 2 cX rX w hc hr a (yJ0 yNC).toS yYa 1 100 1 (by decide) yPF (by decide) (yJ0 yYD).toS).mono (yJX.x (yKN yYB))
theorem yVT(hc:VecS w 0 (.slice C 2 cC) yJ1)(hr:RowsS w 0 (.slice R 2 cR) yJQ):Calls prog 28 #[.agg #[.slice C 2 cC,.slice R 2 cR],.int .i64 0,.int .i64 100] w (yuz w (some (Rat.divInt 1 2)) (some (Rat.divInt 1 2))) :=
 (Ra.rhs 1 C 2 cC R 2 cR yJ1 yJQ w hc hr (yJ0 yNC).toS 0 100 1 (by decide) (by decide) fun cols a h=>(yJ0 (by have g:=yYE;rw[h]at g;exact g)).toS).mono fun e w' h=>by
  rw[yMT yYF]at h;exact yJX.x (B:=100) rfl e w' h
end
theorem yVS(p q:Int)(f:q≠0)(d:I64 p)(i:I64 q)(hm:mw (Rat.divInt p q)≤1000000)(g:Bool)(A:OA)(m c:Nat)(D:OA)(b a:Nat)(w:World)(h:RatS w g (A,m,c) (D,b,a) (Rat.divInt p q)) :
  Calls prog 41 #[.agg #[g,(A,m,c),(D,b,a)],.int .i64 p,.int .i64 q] w fun e w'=>e=.returned true∧Below w w w' :=
 z6u g A m c D b a (Rat.divInt p q) p q w h f d i rfl hm
end Lw
open Lw (yPC yPD yVT yVS)
attribute [local go_sem ↓] Go.wp_at_zero Go.wp_at_succ
theorem RowsS.setX{H:Nat}{v:Value}{ps:List PRow}(h:RowsS w H v ps){a:Addr}{t:TypeId}{cs:Array Value}(hg:w.heap[a.block]? = some (.cells cs t (0,0)))(h1:165≠t)(e:41≠t)(f:43≠t)(u:Value):RowsS (w.setCell a u) H v ps:=by
 obtain⟨l,b,c,d⟩:=h.row;exact(RowsL.setT (l:=l) ⟨b,c,d⟩ hg h1 e f u).toS
namespace Lw
theorem yKJ(w:World):Calls prog 60 #[] w fun e w'=>∃(C:OA) (cC:Nat) (R:OA) (cR:Nat),e=.returned (.agg #[.slice C 2 cC,.slice R 2 cR])∧VecS w' 0 (.slice C 2 cC) yJ1∧RowsS w' 0 (.slice R 2 cR) yJQ∧Below w w w':=by
 obtain⟨W,f⟩:∃W,(w.alloc (.cells #[(),()] 31))=W:=⟨_,rfl⟩
 have l:=un (show W.heap[w.heap.size]? = some (.cells #[(),()] 31 (0,0))by rw[←f];exact zam (by simp));have k:=un (show Below w w W by rw[←f];exact zae w _);have J:=un (show w.heap.size+1≤W.heap.size by rw[←f];simp);obtain⟨ao,ax,aU,aO,ap,aj,aV,aQ⟩:=bf2 l.o;go_enter func60,ntmps60;go_wp2_with fail
 clear f;have ah:=J.o;have m:=zae W (.cells #[.int .i64 1,.int .i64 1] 3);have o:=un (zad m l.o);have g:=un (k.o.trans ((m).mono k.o.size));obtain⟨am,av,aA,aF,an,aw,aB,aG⟩:=bf2 o.o;with_reducible refine(Vc.of W.heap.size 2 2 [1,1] _ rfl (zqg W (1) (1)) (by decide) (by decide) (by decide)).mono ?_
 rintro e w1 ⟨S1,ns1,cs1,rfl,hv,hb⟩;have n:=un (show(w1.alloc (.cells #[.int .i64 1,.int .i64 2] 3)).heap[w.heap.size]? = some (.cells #[(),()] 31 (0,0))from zak (zad hb o.o));have G:=un (show VecS (w1.alloc (.cells #[.int .i64 1,.int .i64 2] 3)) 0 (S1,ns1,cs1) (rats [1,1])from((hv.base (Nat.zero_le _))).alloc _)
 have q:=un (show Below w w (w1.alloc (.cells #[.int .i64 1,.int .i64 2] 3))from((g.o.trans ((hb).mono g.o.size))).alloc ((g.o.trans ((hb).mono g.o.size))).size _);have N:=un (show(w1.alloc (.cells #[.int .i64 1,.int .i64 2] 3)).heap[w1.heap.size]? = some (.cells #[.int .i64 1,.int .i64 2] 3 (0,0))from zam (by simp));obtain⟨aq,ak,aP,aC,ar,al,aR,aD⟩:=bf2 n.o;obtain⟨aE,au,aH,ai⟩:=bc2 N.o;clear hv hb;go_wp2_with fail
 with_reducible refine(Vc.of w1.heap.size 2 2 [1,2] _ rfl (zqg w1 (1) (2)) (by decide) (by decide) (by decide)).mono ?_
 rintro e L ⟨S2,ns2,cs2,rfl,hv,hb⟩;have s:=un (zad hb n.o);have ad:=un (G.o.below hb);have H:=un (show VecS L 0 (S2,ns2,cs2) (rats [1,2])from(hv.base (Nat.zero_le _)));have i:=un (q.o.trans ((hb).mono q.o.size));obtain⟨a4,ay,bc,a0,a5,az,bd,a1⟩:=bf2 s.o;clear hv hb;go_wp2_with fail
 with_reducible refine(Rt.int 4 (by decide) (by decide) _).mono ?_
 rintro e b ⟨g3,A3,m3,c3,D3,md3,cd3,rfl,hn,hb⟩;have t:=un (show(b.alloc (.cells #[.int .i64 3,.int .i64 1] 3)).heap[w.heap.size]? = some (.cells #[(),()] 31 (0,0))from zak (zad hb s.o));have ae:=un (show VecS (b.alloc (.cells #[.int .i64 3,.int .i64 1] 3)) 0 (S1,ns1,cs1) (rats [1,1])from(ad.o.below hb).alloc _);have V:=un (show VecS (b.alloc (.cells #[.int .i64 3,.int .i64 1] 3)) 0 (S2,ns2,cs2) (rats [1,2])from(H.o.below hb).alloc _)
 have D:=un (show RatS (b.alloc (.cells #[.int .i64 3,.int .i64 1] 3)) g3 (A3,m3,c3) (D3,md3,cd3) ((4:Int):Rat)from(hn).alloc _);have y:=un (show Below w w (b.alloc (.cells #[.int .i64 3,.int .i64 1] 3))from((i.o.trans ((hb).mono i.o.size))).alloc ((i.o.trans ((hb).mono i.o.size))).size _);have O:=un (show(b.alloc (.cells #[.int .i64 3,.int .i64 1] 3)).heap[b.heap.size]? = some (.cells #[.int .i64 3,.int .i64 1] 3 (0,0))from zam (by simp))
 obtain⟨aS,aI,a9,a2,aT,aJ,ba,a3⟩:=bf2 t.o;obtain⟨aY,aM,aZ,aN⟩:=bc2 O.o;clear hn hb;go_wp2_with fail
 with_reducible refine(Vc.of b.heap.size 2 2 [3,1] _ rfl (zqg b (3) (1)) (by decide) (by decide) (by decide)).mono ?_
 rintro e M ⟨S4,ns4,cs4,rfl,hv,hb⟩;have u:=un (zad hb t.o);have af:=un (ae.o.below hb);have Y:=un (V.o.below hb);have ab:=un (D.o.below hb);have I:=un (show VecS M 0 (S4,ns4,cs4) (rats [3,1])from(hv.base (Nat.zero_le _)));have z:=un (y.o.trans ((hb).mono y.o.size));obtain⟨aW,aK,be,a7,aX,aL,bf,a8⟩:=bf2 u.o;clear hv hb;go_wp2_with fail
 with_reducible refine(Rt.int 9 (by decide) (by decide) _).mono ?_
 rintro e c ⟨g5,A5,m5,c5,D5,md5,cd5,rfl,hn,hb⟩;have x:=un (zad hb u.o);have B:=un (af.o.below hb);have Z:=un (Y.o.below hb);have ac:=un (ab.o.below hb);have aa:=un (I.o.below hb);have E:=un (show RatS c g5 (A5,m5,c5) (D5,md5,cd5) ((9:Int):Rat)from hn);have A:=un (z.o.trans ((hb).mono z.o.size));obtain⟨bi,bb,bk,bg,bj,a6,bl,bh⟩:=bf2 x.o;clear hn hb;obtain rfl:2=ns1:=B.o.len.symm
 have j:=zae c (.cells #[(S2,ns2,cs2),.int .i64 2,g3,(A3,m3,c3),(D3,md3,cd3),(S4,ns4,cs4),.int .i64 1,g5,(A5,m5,c5),(D5,md5,cd5)] 43);have d:=un (zad j x.o);have ag:=un (B.o.below j)
 have F:=un (show RowsS (c.alloc (.cells #[(S2,ns2,cs2),.int .i64 2,g3,(A3,m3,c3),(D3,md3,cd3),(S4,ns4,cs4),.int .i64 1,g5,(A5,m5,c5),(D5,md5,cd5)] 43)) 0 (.slice (some ⟨c,0,none⟩) 2 2) yJQ from(zoX rfl (r:=⟨.slice S2 ns2 cs2,2,g3,.slice A3 m3 c3,.slice D3 md3 cd3⟩) (r':=⟨.slice S4 ns4 cs4,1,g5,.slice A5 m5 c5,.slice D5 md5 cd5⟩) (p:=⟨rats [1,2],2,((4:Int):Rat)⟩) (p':=⟨rats [3,1],1,((9:Int):Rat)⟩) ⟨Z.o,rfl,ac.o⟩ ⟨aa.o,rfl,E.o⟩))
 have U:=un (A.o.trans ((j).mono A.o.size));obtain⟨S,P,bo,bm,T,Q,bp,bn⟩:=bf2 d.o;go_wp2;refine bodyPost_ret (v:=.agg #[.slice S1 2 cs1,.slice (some ⟨c,0,none⟩) 2 2]) (by simp[results,results60,go_sem,S,P,T,Q]) rfl ?_;have h1:=(ag.o.setT (p:=⟨w,0,none⟩) d.o (by decide) (by decide) (.slice S1 2 cs1)).setT (p:=⟨w,1,none⟩) (zar _ d.o) (by decide) (by decide) (.slice (some ⟨c,0,none⟩) 2 2)
 have K:=(F.o.setX (a:=⟨w,0,none⟩) d.o (by decide) (by decide) (by decide) (.slice S1 2 cs1)).setX (a:=⟨w,1,none⟩) (zar _ d.o) (by decide) (by decide) (by decide) (.slice (some ⟨c,0,none⟩) 2 2);exact⟨S1,cs1,some ⟨c,0,none⟩,2,rfl,h1,K,bsc (bsc U.o)⟩
theorem yM7(w:World):Calls prog 18 #[] w fun e w'=>e=.returned true∧Below w w w':=by
 have l:=un (Below.refl w.heap.size w);have hW:w=w:=rfl;go_enter func18,ntmps18;go_wp2_with fail
 clear hW;with_reducible refine(yKJ _).mono ?_
 rintro e u1 ⟨C1,cC1,R1,cR1,rfl,hc,hr,hb⟩;have b:=un (show VecS u1 0 (.slice C1 2 cC1) yJ1 from hc);have c:=un (show RowsS u1 0 (.slice R1 2 cR1) yJQ from hr);have Y:=un (l.o.trans ((hb).mono l.o.size));clear hc hr hb;go_wp2_with fail
 have k:=zae u1 (.cells #[.int .i64 0,.int .i64 2] 3);have aZ:=un (b.o.below k);have a7:=un (c.o.below k);have Z:=un (Y.o.trans ((k).mono Y.o.size));with_reducible refine(Vc.of u1.heap.size 2 2 [0,2] _ rfl (zqg u1 (0) (2)) (by decide) (by decide) (by decide)).mono ?_
 rintro e x1 ⟨X1,nX1,cX1,rfl,hv,hb⟩;have a0:=un (aZ.o.below hb);have aY:=un (a7.o.below hb);have d:=un (show VecS x1 0 (X1,nX1,cX1) rX from(hv.base (Nat.zero_le _)));have aa:=un (Z.o.trans ((hb).mono Z.o.size));clear hv hb;obtain rfl:2=nX1:=d.o.len.symm;go_wp2_with fail
 with_reducible refine(yPC C1 cC1 R1 cR1 X1 cX1 _ a0.o aY.o d.o).mono ?_
 rintro e v1 ⟨g1,A1,m1,c1,D1,md1,cd1,h1,B1,n1,e1,E1,ne1,ce1,rfl,hq,hp,hb⟩;have al:=un (show RatS v1 g1 (A1,m1,c1) (D1,md1,cd1) (Rat.divInt 1 2)from hq);have ac:=un (aa.o.trans ((hb).mono aa.o.size));clear hq hp hb;have p:=zae v1 (.cells #[g1,(A1,m1,c1),(D1,md1,cd1),h1,(B1,n1,e1),(E1,ne1,ce1),true,false] 62);have aR:=un (al.o.below p);have ad:=un (ac.o.trans ((p).mono ac.o.size))
 have m:=un (zal v1 #[g1,(A1,m1,c1),(D1,md1,cd1),h1,(B1,n1,e1),(E1,ne1,ce1),true,false] 62);obtain⟨ir,ip,iu,iq,iE,iD,iL,iF,iM,iG,e8,iY,hT,hH,hV,hz⟩:=bc8 m.o;go_wp2_with fail
 with_reducible refine(yKJ _).mono ?_
 rintro e u2 ⟨C2,cC2,R2,cR2,rfl,hc,hr,hb⟩;have ab:=un (zad hb m.o);have aS:=un (aR.o.below hb);have b:=un (show VecS u2 0 (.slice C2 2 cC2) yJ1 from hc);have c:=un (show RowsS u2 0 (.slice R2 2 cR2) yJQ from hr);have af:=un (ad.o.trans ((hb).mono ad.o.size));obtain⟨iz,iw,iA,iv,e9,i5,e4,i8,e6,jb,hE,ht,hU,hI,hX,hA⟩:=bc8 ab.o;clear hc hr hb;go_wp2_with fail
 have g:=zae u2 (.cells #[.int .i64 0,.int .i64 2] 3);have ae:=un (zad g ab.o);have aT:=un (aS.o.below g);have a4:=un (b.o.below g);have a1:=un (c.o.below g);have ai:=un (af.o.trans ((g).mono af.o.size));obtain⟨iB,ix,iC,iy,fa,i6,e5,i9,e7,iW,hG,hu,im,ii,io,ij⟩:=bc8 ae.o;with_reducible refine(Vc.of u2.heap.size 2 2 [0,2] _ rfl (zqg u2 (0) (2)) (by decide) (by decide) (by decide)).mono ?_
 rintro e x2 ⟨X2,nX2,cX2,rfl,hv,hb⟩;have ag:=un (zad hb ae.o);have aU:=un (aT.o.below hb);have a2:=un (a4.o.below hb);have a3:=un (a1.o.below hb);have d:=un (show VecS x2 0 (X2,nX2,cX2) rX from(hv.base (Nat.zero_le _)));have y:=un (ai.o.trans ((hb).mono ai.o.size));obtain⟨iH,iI,iJ,iK,iT,i7,iU,ja,iV,iX,h9,hS,eM,dT,eO,dV⟩:=bc8 ag.o;clear hv hb;obtain rfl:2=nX2:=d.o.len.symm;go_wp2_with fail
 with_reducible refine(yPD C2 cC2 R2 cR2 X2 cX2 _ a2.o a3.o d.o).mono ?_
 rintro e i ⟨g2,A2,m2,c2,D2,md2,cd2,h2,B2,n2,e2,E2,ne2,ce2,rfl,hq,hp,hb⟩;have x:=un (zad hb ag.o);have aV:=un (aU.o.below hb);have am:=un (show RatS i g2 (A2,m2,c2) (D2,md2,cd2) (0)from hq);have aj:=un (show RatS i h2 (B2,n2,e2) (E2,ne2,ce2) (Rat.divInt 2 1)from hp);have D:=un (y.o.trans ((hb).mono y.o.size));obtain⟨fJ,fw,fK,fz,hy,d4,eJ,ea,eK,eg,eL,dS,eN,dU,eP,dW⟩:=bc8 x.o;clear hq hp hb
 have f:=zae i (.cells #[g2,(A2,m2,c2),(D2,md2,cd2),h2,(B2,n2,e2),(E2,ne2,ce2),true,true] 62);have W:=un (zad f x.o);have aM:=un (aV.o.below f);have aQ:=un (am.o.below f);have aB:=un (aj.o.below f);have V:=un (D.o.trans ((f).mono D.o.size));obtain⟨g5,g9,g6,ha,hw,b2,cD,cx,cE,cy,cF,cz,be,bc,bf,bd⟩:=bc8 W.o
 have n:=un (zal i #[g2,(A2,m2,c2),(D2,md2,cd2),h2,(B2,n2,e2),(E2,ne2,ce2),true,true] 62);obtain⟨g7,hd,g8,he,hM,hY,hO,h0,hQ,h5,b4,b3,cG,cA,cB,cw⟩:=bc8 n.o;go_wp2_with fail
 with_reducible refine(yKJ _).mono ?_
 rintro e q ⟨C3,cC3,R3,cR3,rfl,hc,hr,hb⟩;have O:=un (zad hb W.o);have P:=un (zad hb n.o);have aN:=un (aM.o.below hb);have ar:=un (aQ.o.below hb);have aC:=un (aB.o.below hb);have b:=un (show VecS q 0 (.slice C3 2 cC3) yJ1 from hc);have c:=un (show RowsS q 0 (.slice R3 2 cR3) yJQ from hr);have G:=un (V.o.trans ((hb).mono V.o.size));obtain⟨gw,gI,gz,gL,dZ,dz,d5,da,eb,dg,eh,dm,bI,bg,bP,bn⟩:=bc8 O.o;obtain⟨gC,gO,gF,gR,el,dv,eo,cT,er,cW,eu,c0,ez,dD,eE,dI⟩:=bc8 P.o
 clear hc hr hb;go_wp2_with fail
 with_reducible refine(yVT C3 cC3 R3 cR3 _ b.o c.o).mono ?_
 rintro e j ⟨g3,A3,m3,c3,D3,md3,cd3,h3,B3,n3,e3,E3,ne3,ce3,rfl,hq,hp,hb⟩;have A:=un (zad hb O.o);have B:=un (zad hb P.o);have aO:=un (aN.o.below hb);have au:=un (ar.o.below hb);have aD:=un (aC.o.below hb);have an:=un (show RatS j g3 (A3,m3,c3) (D3,md3,cd3) (Rat.divInt 1 2)from hq);have ak:=un (show RatS j h3 (B3,n3,e3) (E3,ne3,ce3) (Rat.divInt 1 2)from hp);have M:=un (G.o.trans ((hb).mono G.o.size))
 obtain⟨fT,fP,fU,fQ,d0,dA,d6,db,ec,dh,ei,dn,bJ,bh,bQ,bo⟩:=bc8 A.o;obtain⟨fV,fR,fW,fS,em,dw,ep,cU,es,cY,ev,c4,eA,dE,eF,dJ⟩:=bc8 B.o;clear hq hp hb;have a:=zae j (.cells #[g3,(A3,m3,c3),(D3,md3,cd3),h3,(B3,n3,e3),(E3,ne3,ce3),true,true] 62);have E:=un (zad a A.o);have z:=un (zad a B.o);have aP:=un (aO.o.below a);have av:=un (au.o.below a);have aE:=un (aD.o.below a);have ax:=un (an.o.below a);have aH:=un (ak.o.below a)
 have N:=un (M.o.trans ((a).mono M.o.size));obtain⟨f3,fL,f4,fM,eU,eQ,bV,eV,bX,b0,cv,cq,bK,bi,bR,bp⟩:=bc8 E.o;obtain⟨f5,fN,f6,fO,b9,b5,hx,b7,b6,b8,ce,ch,ct,cr,cu,cs⟩:=bc8 z.o;have o:=un (zal j #[g3,(A3,m3,c3),(D3,md3,cd3),h3,(B3,n3,e3),(E3,ne3,ce3),true,true] 62);obtain⟨f7,fX,f8,fY,f9,fZ,ga,f0,gb,f1,gc,f2,cf,ci,ca,cc⟩:=bc8 o.o;go_wp2_with fail
 with_reducible refine(yVS 1 2 (by decide) (by constructor<;>decide) (by constructor<;>decide) (by decide +kernel) g1 A1 m1 c1 D1 md1 cd1 _ aP.o).mono ?_
 rintro e y1 ⟨rfl,hb⟩;have r:=un (zad hb E.o);have t:=un (zad hb z.o);have u:=un (zad hb o.o);have aw:=un (av.o.below hb);have aF:=un (aE.o.below hb);have ay:=un (ax.o.below hb);have aI:=un (aH.o.below hb);have H:=un (N.o.trans ((hb).mono N.o.size));obtain⟨fu,fb,fx,fd,bZ,eX,bW,eW,bY,b1,cn,ck,bL,bj,bS,bq⟩:=bc8 r.o;obtain⟨fA,ff,fB,fg,fC,fh,fD,fi,fE,fj,fr,fk,co,cl,cp,cm⟩:=bc8 t.o;obtain⟨fs,fl,ft,fm,fF,fn,fG,fo,fH,fp,fI,fq,cg,cj,cb,cd⟩:=bc8 u.o;clear hb
 go_wp2_with fail
 with_reducible refine(Rt.zero g2 A2 m2 c2 D2 md2 cd2 0 _ aw.o).mono ?_
 rintro e y2 ⟨rfl,hb⟩;have s:=un (zad hb r.o);have ah:=un (zad hb t.o);have K:=un (zad hb u.o);have aG:=un (aF.o.below hb);have az:=un (ay.o.below hb);have aJ:=un (aI.o.below hb);have v:=un (H.o.trans ((hb).mono H.o.size));obtain⟨fv,fc,fy,fe,d1,c6,d7,dc,ed,di,dP,dp,bM,bk,bT,br⟩:=bc8 s.o;obtain⟨iZ,iN,i0,iO,i1,iP,i2,iQ,i3,iR,i4,iS,ik,h7,il,h8⟩:=bc8 ah.o;obtain⟨gd,gU,gg,gX,gj,g0,hh,gm,hk,gq,hn,gt,ej,dN,ek,dO⟩:=bc8 K.o;clear hb;rw[show zr 0=true from rfl]
 go_wp2_with fail
 with_reducible refine(yVS 2 1 (by decide) (by constructor<;>decide) (by constructor<;>decide) (by decide +kernel) h2 B2 n2 e2 E2 ne2 ce2 _ aG.o).mono ?_
 rintro e y3 ⟨rfl,hb⟩;have I:=un (zad hb s.o);have J:=un (zad hb ah.o);have L:=un (zad hb K.o);have aA:=un (az.o.below hb);have aK:=un (aJ.o.below hb);have F:=un (v.o.trans ((hb).mono v.o.size));obtain⟨gx,gJ,gA,gM,d2,c7,d8,dd,ee,dj,dQ,dq,bN,bl,bU,bs⟩:=bc8 I.o;obtain⟨gD,gP,gG,gS,hB,hJ,hC,hK,hD,hL,ew,c5,eB,dF,eG,dK⟩:=bc8 J.o;obtain⟨ge,gV,gh,gY,hf,g4,hi,gn,hl,gr,ho,gu,bC,bu,bF,bx⟩:=bc8 L.o;clear hb;go_wp2_with fail
 with_reducible refine(yVS 1 2 (by decide) (by constructor<;>decide) (by constructor<;>decide) (by decide +kernel) g3 A3 m3 c3 D3 md3 cd3 _ aA.o).mono ?_
 rintro e y4 ⟨rfl,hb⟩;have S:=un (zad hb I.o);have T:=un (zad hb J.o);have U:=un (zad hb L.o);have aL:=un (aK.o.below hb);have Q:=un (F.o.trans ((hb).mono F.o.size));obtain⟨gy,gK,gB,gN,d3,c8,d9,de,ef,dk,dR,dr,bO,bm,bB,bt⟩:=bc8 S.o;obtain⟨gE,gQ,gH,gT,hN,hZ,hP,h4,hR,h6,ex,dB,eC,dG,eH,dL⟩:=bc8 T.o;obtain⟨gf,gW,gi,gZ,hg,gl,hj,gp,hm,gs,hs,gv,bD,bv,bG,bz⟩:=bc8 U.o;clear hb;go_wp2_with fail
 with_reducible refine(yVS 1 2 (by decide) (by constructor<;>decide) (by constructor<;>decide) (by decide +kernel) h3 B3 n3 e3 E3 ne3 ce3 _ aL.o).mono ?_
 rintro e y5 ⟨rfl,hb⟩;have a6:=un (zad hb S.o);have a5:=un (zad hb T.o);have aW:=un (zad hb U.o);have aX:=un (Q.o.trans ((hb).mono Q.o.size));obtain⟨ia,dx,ib,dy,ic,c9,ie,df,ig,dl,ih,ds,cH,cJ,cI,cK⟩:=bc8 a6.o;obtain⟨dX,dt,dY,du,en,cS,eq,cV,et,cZ,ey,dC,eD,dH,eI,dM⟩:=bc8 a5.o;obtain⟨eY,eS,eZ,eT,e0,eR,cL,cO,cM,cP,cN,cQ,bE,bw,bH,bA⟩:=bc8 aW.o;clear hb;go_wp2;go_ret
 exact⟨rfl,aX.o⟩
end Lw
def yJO (s t:Bool) (lo hi x:Rat):Bool := !(s&&decide (x<lo)) && !(t&&decide (hi<x))
theorem yNp(a b:Rat):zlX a b<0↔a<b:=by
 unfold zlX;by_cases h:a<b
 ·rw[if_pos h];exact⟨fun _=>h,fun _=>by decide⟩
 ·rw[if_neg h];refine⟨fun e=>?_,fun e=>absurd e h⟩;split at e<;>omega
theorem yKt(a b:Rat):0<zlX a b↔b<a:=by
 unfold zlX;by_cases h:a<b
 ·rw[if_pos h];exact⟨fun e=>by omega,fun e=>absurd (Rat.le_of_lt e) (Rat.not_le.2 h)⟩
 ·rw[if_neg h];by_cases c:b<a
  ·rw[if_pos c];exact⟨fun _=>c,fun _=>by decide⟩
  ·rw[if_neg c];exact⟨fun e=>by omega,fun e=>absurd e c⟩
namespace Ra
theorem holds(g:Bool)(A:OA)(m c:Nat)(D:OA)(B y:Nat)(g':Bool)(o:OA)(m' c':Nat)(p:OA)(u q:Nat)(s t:Bool)(k:Bool)(d:OA)(n j:Nat)(f:OA)(l i:Nat)(lo a x:Rat)(w:World)(P:RatS w g (A,m,c) (D,B,y) lo)(O:RatS w g' (o,m',c') (p,u,q) a)(Q:RatS w k (d,n,j) (f,l,i) x)(S:4*(mw x+mw lo)+8≤LIM)(T:4*(mw x+mw a)+8≤LIM) :
  Calls prog 22 #[.agg #[g,(A,m,c),(D,B,y),g',(o,m',c'),(p,u,q),s,t],.agg #[k,(d,n,j),(f,l,i)]] w fun e w'=>e=.returned (.bool (yJO s t lo a x))∧Below w w w':=by
 have Z:=un S;have N:=un T;clear S T;obtain⟨W,r⟩:∃W,((w.alloc (.cells #[g,(A,m,c),(D,B,y),g',(o,m',c'),(p,u,q),s,t] 62)).alloc (.cells #[k,(d,n,j),(f,l,i)] 41))=W:=⟨_,rfl⟩
 have K:=un (show W.heap[w.heap.size]? = some (.cells #[g,(A,m,c),(D,B,y),g',(o,m',c'),(p,u,q),s,t] 62 (0,0))by rw[←r];exact zak (zam (by simp)));have L:=un (show W.heap[w.heap.size+1]? = some (.cells #[k,(d,n,j),(f,l,i)] 41 (0,0))by rw[←r];exact zam (by simp));have E:=un (show Below w w W by rw[←r];exact(zae w _).alloc (by simp) _)
 have J:=un (show RatS W g (A,m,c) (D,B,y) lo by rw[←r];exact((P).alloc _).alloc _);have I:=un (show RatS W g' (o,m',c') (p,u,q) a by rw[←r];exact((O).alloc _).alloc _);have F:=un (show RatS W k (d,n,j) (f,l,i) x by rw[←r];exact((Q).alloc _).alloc _);obtain⟨aU,aZ,aV,aR,a1,a7,bk,bi,bl,bj,aG,aE,aM,aK,aI,aL⟩:=bc8 K.o;obtain⟨a6,a3,a2,a8,ba,bb⟩:=bc3 L.o;clear P O Q;go_enter func22,ntmps22;go_upto_region 1 with fail
 clear r;cases s
 ·skip
  cases t
  ·skip
   go_wp2;go_ret
   exact⟨by simp[yJO],E.o⟩
  ·skip
   go_wp2_with fail
   with_reducible refine(Rt.cmpr k d n j f l i x g' o m' c' p u q a _ F.o I.o N.o).mono ?_
   rintro e aC ⟨rfl,hb⟩;have H:=un (zad hb K.o);have G:=un (zad hb L.o);have az:=un (J.o.below hb);have U:=un (I.o.below hb);have Y:=un (F.o.below hb);have v:=un (E.o.trans ((hb).mono E.o.size));obtain⟨aj,am,ak,an,ap,au,aA,ax,aB,ay,ac,ab,af,ad,ag,ae⟩:=bc8 H.o;obtain⟨ar,al,av,ah,ao,aw⟩:=bc3 G.o;clear hb;by_cases b:a<x
   ·have M:decide (0<zlX x a)=true:=decide_eq_true ((yKt _ _).2 b);go_wp2;go_ret
    exact⟨by simp[yJO,b],v.o⟩
   ·have M:decide (0<zlX x a)=false:=decide_eq_false fun e=>b ((yKt _ _).1 e)
    go_wp2;go_ret
    exact⟨by simp[yJO,b],v.o⟩
 ·skip
  go_wp2_with fail
  with_reducible refine(Rt.cmpr k d n j f l i x g A m c D B y lo _ F.o J.o Z.o).mono ?_
  rintro e v1 ⟨rfl,hb⟩;have H:=un (zad hb K.o);have G:=un (zad hb L.o);have az:=un (J.o.below hb);have U:=un (I.o.below hb);have Y:=un (F.o.below hb);have v:=un (E.o.trans ((hb).mono E.o.size));obtain⟨aj,am,ak,an,ap,au,aA,ax,aB,ay,ac,ab,af,ad,ag,ae⟩:=bc8 H.o;obtain⟨ar,al,av,ah,ao,aw⟩:=bc3 G.o;clear hb;by_cases z:x<lo
  ·have aa:decide (zlX x lo<0)=true:=decide_eq_true ((yNp _ _).2 z);go_wp2;go_ret
   exact⟨by simp[yJO,z],v.o⟩
  ·have aa:decide (zlX x lo<0)=false:=decide_eq_false fun e=>z ((yNp _ _).1 e)
   cases t
   ·skip
    go_wp2;go_ret
    exact⟨by simp[yJO,z],v.o⟩
   ·skip
    go_wp2_with fail
    with_reducible refine(Rt.cmpr k d n j f l i x g' o m' c' p u q a _ Y.o U.o N.o).mono ?_
    rintro e aD ⟨rfl,hb⟩;have ai:=un (zad hb H.o);have aq:=un (zad hb G.o);have V:=un (v.o.trans ((hb).mono v.o.size));obtain⟨aW,aS,aX,aT,bd,bc,bg,bf,bh,be,aH,aF,aO,aN,aP,aJ⟩:=bc8 ai.o;obtain⟨a4,aY,a5,aQ,a9,a0⟩:=bc3 aq.o;clear hb;by_cases b:a<x
    ·have M:decide (0<zlX x a)=true:=decide_eq_true ((yKt _ _).2 b);go_wp2;go_ret
     exact⟨by simp[yJO,b,z],V.o⟩
    ·have M:decide (0<zlX x a)=false:=decide_eq_false fun e=>b ((yKt _ _).1 e)
     go_wp2;go_ret
     exact⟨by simp[yJO,b,z],V.o⟩
end Ra
end Go.Proofs.YtbhfhkcdfmmmiaaGreat
namespace Go.Proofs.YtbhfhkcdfmmmiaaGreat
open Go.RowKit Am
open Lw (yM7)
attribute [local go_sem ↓] Go.wp_at_zero Go.wp_at_succ
variable {i:Nat}{x y:Rat}
section
variable {P:Program} {md:Region.Mode} {ops:Array Oper} {Q:Exit→Act→World→Prop} {S:World→Prop}
theorem yKw{f:List Nat}{j n:Nat}{g l on:Oper}{fuel:Nat}{e:Array Bool}{a:Act}{w:World}(p:ops[i]? = some g)(q:ops[j]? = some l)(r:ops[n]? = some on)(hr:Region.ready md ops e=[i,j,n])
  (h1:∀b:Act→World→Prop,Shut (∀a w,S w→(S w→zcp P md ops Q S f.contains fuel (e.setIfInBounds i true) a w)→b a w)→if Region.wanted g (yielded ops a.tmps)=true then Oper.wp P g a w b Q else b (a.put g.dst undef) w)
  (m:∀b:Act→World→Prop,Shut (∀a w,S w→(S w→zcp P md ops Q S f.contains fuel (e.setIfInBounds j true) a w)→b a w)→if Region.wanted l (yielded ops a.tmps)=true then Oper.wp P l a w b Q else b (a.put l.dst undef) w)
  (o:∀b:Act→World→Prop,Shut (∀a w,S w→(S w→zcp P md ops Q S f.contains fuel (e.setIfInBounds n true) a w)→b a w)→if Region.wanted on (yielded ops a.tmps)=true then Oper.wp P on a w b Q else b (a.put on.dst undef) w) :
  zcp P md ops Q S f.contains (fuel+1) e a w :=
 ⟨fun h0=>(by rw[hr]at h0;cases h0),fun k hk=>by
  rw[hr]at hk;rcases List.mem_cons.1 hk with rfl | hk
  ·exact wpOp_step p fun b c=>h1 b fun a w hS d=>c a w ⟨fun _ _=>hS,d hS⟩
  ·rcases List.mem_cons.1 hk with rfl | hk
   ·exact wpOp_step q fun b c=>m b fun a w hS d=>c a w ⟨fun _ _=>hS,d hS⟩
   ·rcases List.mem_cons.1 hk with rfl | hk
    ·exact wpOp_step r fun b c=>o b fun a w hS d=>c a w ⟨fun _ _=>hS,d hS⟩
    ·cases hk⟩
end
def yLP (w:World) (b:Nat) (q:Rat):Prop:=∃(g:Bool) (A:OA) (m c:Nat) (D:OA) (md cd:Nat),w.heap[b]? = some (.cells #[g,(A,m,c),(D,md,cd)] 41 (0,0))∧RatS w g (A,m,c) (D,md,cd) q
def yNS (w:World) (b:Nat) (lo hi:Rat) (s t:Bool):Prop:=∃(g:Bool) (A:OA) (m c:Nat) (D:OA) (md cd:Nat) (g':Bool) (A':OA) (m' c':Nat) (D':OA) (md' cd':Nat),
  w.heap[b]? = some (.cells #[g,(A,m,c),(D,md,cd),g',(A',m',c'),(D',md',cd'),s,t] 62 (0,0))∧RatS w g (A,m,c) (D,md,cd) lo∧RatS w g' (A',m',c') (D',md',cd') hi
theorem yNy{s t:Bool}{lo d:Rat}(f:yJO s t lo d x=true)(g:yJO s t lo d y=true):yJO s t lo d (Rat.divInt 1 2*(x+y))=true:=by
 have i:Rat.divInt 1 2*2=1:=by decide +kernel
 generalize Rat.divInt 1 2=h at *
 simp only[yJO,Bool.and_eq_true,Bool.not_eq_true',Bool.and_eq_false_imp,decide_eq_false_iff_not,Rat.not_lt]at f g ⊢;have e:∀z:Rat,h*(z+z)=z:=fun z=>by grind
 have h0:0≤h:=by grind
 refine⟨fun c=>?_,fun c=>?_⟩
 ·have a:=f.1 c;have b:=g.1 c;have:h*(lo+lo)≤h*(x+y):=Rat.mul_le_mul_of_nonneg_left (by grind) h0;rw[e]at this;exact this
 ·have a:=f.2 c;have b:=g.2 c;have:h*(x+y)≤h*(d+d):=Rat.mul_le_mul_of_nonneg_left (by grind) h0;rw[e]at this;exact this
theorem yKs{u:World}{bx by_:Nat}{g:Bool}{A:OA}{m c:Nat}{D:OA}{md a:Nat}{g':Bool}{d:OA}{m' c':Nat}{e:OA}{f:Nat}
  (j:u.heap[bx]? = some (.cells #[false,(),()] 41 (0,0))) (p:u.heap[by_]? = some (.cells #[false,(),()] 41 (0,0))) (b:bx≠by_) (q:RatS u g (A,m,c) (D,md,a) x) (r:RatS u g' (d,m',c') (e,i,f) y) :
  yLP ((((((u.setCell ⟨bx,0,none⟩ g).setCell ⟨bx,1,none⟩ (A,m,c)).setCell ⟨bx,2,none⟩ (D,md,a)).setCell ⟨by_,0,none⟩ g').setCell ⟨by_,1,none⟩ (d,m',c')).setCell ⟨by_,2,none⟩ (e,i,f)) bx x ∧
  yLP ((((((u.setCell ⟨bx,0,none⟩ g).setCell ⟨bx,1,none⟩ (A,m,c)).setCell ⟨bx,2,none⟩ (D,md,a)).setCell ⟨by_,0,none⟩ g').setCell ⟨by_,1,none⟩ (d,m',c')).setCell ⟨by_,2,none⟩ (e,i,f)) by_ y:=by
 have l:=rk3 j 0 1 2 g (A,m,c) (D,md,a);have n:=zar (o:=2) (D,md,a) (zar (o:=1) (A,m,c) (zar (o:=0) g j));have k:(((u.setCell ⟨bx,0,none⟩ g).setCell ⟨bx,1,none⟩ (A,m,c)).setCell ⟨bx,2,none⟩ (D,md,a)).heap[by_]? = some (.cells #[false,(),()] 41 (0,0)):=by
  rw[Below.heap_setCell _ _ _ _ (by exact b.symm),Below.heap_setCell _ _ _ _ (by exact b.symm),Below.heap_setCell _ _ _ _ (by exact b.symm)];exact p
 have k2:=rk3 k 0 1 2 g' (d,m',c') (e,i,f);refine⟨⟨g,A,m,c,D,md,a,?_,(q.keepT l).keepT k2⟩,⟨g',d,m',c',e,i,f,zar _ (zar _ (zar _ k)),(r.keepT l).keepT k2⟩⟩;rw[Below.heap_setCell _ _ _ _ (by exact b),Below.heap_setCell _ _ _ _ (by exact b),Below.heap_setCell _ _ _ _ (by exact b)];exact n
namespace Lw
theorem holds22(s t:Bool)(p0 d0:Int)(p1 d1:Int)(p3 d3:Int)(J H:Int)(e2:I64 p0)(eY:I64 d0)(e3:I64 p1)(eZ:I64 d1)(e4:I64 p3)(e0:I64 d3)(e5:I64 J)(e1:I64 H)(w:World) :
  Calls Tryz.prog 4 #[.agg #[.int .i64 p0,.int .i64 d0],.agg #[.int .i64 p1,.int .i64 d1],.agg #[s,t],.agg #[.int .i64 p3,.int .i64 d3],.agg #[.int .i64 J,.int .i64 H]] w fun e w'=>e=.returned true∧Below w w w':=by
 have dR:=un e2;have dO:=un eY;clear e2 eY;have cx:=un e3;have cw:=un eZ;clear e3 eZ;have b4:=un e4;have b3:=un e0;clear e4 e0;have aD:=un e5;have aC:=un e1;clear e5 e1;obtain⟨W,hW⟩:∃W,(((((w.alloc (.cells #[.int .i64 p0,.int .i64 d0] 58)).alloc (.cells #[.int .i64 p1,.int .i64 d1] 58)).alloc (.cells #[s,t] 59)).alloc (.cells #[.int .i64 p3,.int .i64 d3] 58)).alloc (.cells #[.int .i64 J,.int .i64 H] 58))=W:=⟨_,rfl⟩
 have eC:=un (show W.heap[w.heap.size]? = some (.cells #[.int .i64 p0,.int .i64 d0] 58 (0,0))by rw[←hW];exact zak (zak (zak (zak (zam (by simp))))));have eD:=un (show W.heap[w.heap.size+1]? = some (.cells #[.int .i64 p1,.int .i64 d1] 58 (0,0))by rw[←hW];exact zak (zak (zak (zam (by simp)))));have eE:=un (show W.heap[w.heap.size+1+1]? = some (.cells #[s,t] 59 (0,0))by rw[←hW];exact zak (zak (zam (by simp))))
 have eF:=un (show W.heap[w.heap.size+1+1+1]? = some (.cells #[.int .i64 p3,.int .i64 d3] 58 (0,0))by rw[←hW];exact zak (zam (by simp)));have eG:=un (show W.heap[w.heap.size+1+1+1+1]? = some (.cells #[.int .i64 J,.int .i64 H] 58 (0,0))by rw[←hW];exact zam (by simp));have BB:=un (show Below w w W by rw[←hW];exact((((zae w _).alloc (by simp) _).alloc (by simp;omega) _).alloc (by simp;omega) _).alloc (by simp;omega) _);obtain⟨n0,n8,n1,nX⟩:=bc2 eC.o;obtain⟨oh,od,oc,ok⟩:=bc2 eD.o
 obtain⟨o7,oN,o9,oP⟩:=bc2 eE.o;obtain⟨kJ,h5,kK,h6⟩:=bc2 eF.o;obtain⟨kL,h7,lx,ig⟩:=bc2 eG.o;go_enter Tryz.func4,Tryz.ntmps4;go_wp2_with fail
 clear hW;with_reducible refine(yM7 _).mono ?_
 rintro e w1 ⟨rfl,hb⟩;have gD:=un (zad hb eC.o);have gA:=un (zad hb eD.o);have gL:=un (zad hb eE.o);have ga:=un (zad hb eF.o);have fT:=un (zad hb eG.o);have gC:=un (BB.o.trans ((hb).mono BB.o.size));obtain⟨cl,n6,cm,n7⟩:=bc2 gD.o;obtain⟨cn,n4,co,nW⟩:=bc2 gA.o;obtain⟨cp,oq,cq,os⟩:=bc2 gL.o;obtain⟨nm,ng,np,nj⟩:=bc2 ga.o;obtain⟨kM,h8,ly,i3⟩:=bc2 fT.o;clear hb;clear n0 n8 n1 nX oh od oc ok o7 oN o9 oP kJ h5 kK h6 kL h7 lx ig;go_upto_region 3 with fail
 skip
 go_cut[11] (fun q wz=>∃b,q=.pointer (some ⟨b,0,none⟩)∧yNS wz b (fr p0 d0) (fr p1 d1) s t∧Below w1 w1 wz)
 case first =>
  refine zaS (S:=fun w'=>w'.cell? ⟨w,0,none⟩=some (.int .i64 p0)∧w'.cell? ⟨w,1,none⟩=some (.int .i64 d0)∧w'.cell? ⟨w.heap.size+1,0,none⟩=some (.int .i64 p1)∧w'.cell? ⟨w.heap.size+1,1,none⟩=some (.int .i64 d1)∧w'.cell? ⟨w.heap.size+1+1,0,none⟩=some (.bool s)∧w'.cell? ⟨w.heap.size+1+1,1,none⟩=some (.bool t)) [10] (h:=fun hHeld=>?_);refine zaw [0,2,4,5,6,7] ?_;repeat refine tkL (hS:=hHeld) (h:=?_)
  refine zao ?_;refine zme (i:=1) (j:=9) rfl rfl (by kernel_rfl) (fun K a=>?_) (fun K a=>?_)
  ·skip
   go_simp
   (go_at_call 19;(with_reducible refine(one p0 d0 dR.o dO.o _).mono ?_);rintro e u1 ⟨g1,V,m1,Y,X,ac,Z,rfl,hn,hb⟩;have d:Below w1 w1 u1:=(bdrew (Below.refl w1.heap.size w1)).trans (hb.mono (by have f:=0;(try simp)<;>omega));have l:=un d;have I:=d.size;have bl:=zab d cl;have bm:=zab d cm;have bn:=zab d cn;have bo:=zab d co;have ed:=zab d cp;have ee:=zab d cq;have z:=un (hn);clear hb d)
   (try go_wp2_with fail)
   refine yYK a fun hHeld=>?_
   clear a K;refine zme (i:=3) (j:=9) rfl rfl (by kernel_rfl) (fun K a=>?_) (fun K a=>?_)
   ·skip
    go_simp
    (go_at_call 19;(with_reducible refine(one p1 d1 cx.o cw.o _).mono ?_);rintro e u2 ⟨R,L,T,N,M,U,O,rfl,hn,hb⟩;have c:Below w1 w1 u2:=l.o.trans (hb.mono (by have f:=I;(try simp)<;>omega));have m:=un c;have av:=c.size;have au:u1.heap.size+0≤u2.heap.size:=(by have f:=hb.size;(try simp at f);omega);have aw:=zab c cl;have ax:=zab c cm;have ay:=zab c cn;have az:=zab c co;have cs:=zab c cp;have ct:=zab c cq;have r:=un (hn);have v:=un (z.o.below hb);clear hb c)
    (try go_wp2_with fail)
    refine yYK a fun hHeld=>?_
    clear a K;refine zaw [8] ?_;repeat refine tkL (hS:=hHeld) (h:=?_)
    refine zao ?_;refine zaB 9 (h:=fun K a=>?_);go_simp;refine yYK a fun hHeld=>?_
    clear a K;refine zay 10 (h:=fun K a=>?_);go_simp;refine yYL a ?_;clear a K;refine zaM (h:=?_);go_wp2;go_meet
    case rel=>exact⟨u2.heap.size,rfl,⟨g1,V,m1,Y,X,ac,Z,R,L,T,N,M,U,O,zal _ _ _,v.o.alloc _,r.o.alloc _⟩,Below.alloc m.o m.o.size _⟩
   ·skip
    go_simp;refine yYK a fun hHeld=>?_
    clear a K;refine zaB 3 (h:=fun K a=>?_);go_simp
    (go_at_call 19;(with_reducible refine(one p1 d1 cx.o cw.o _).mono ?_);rintro e u2 ⟨R,L,T,N,M,U,O,rfl,hn,hb⟩;have c:Below w1 w1 u2:=(Below.alloc l.o l.o.size _).trans (hb.mono (by have f:=I;(try simp)<;>omega));have m:=un c;have av:=c.size;have au:u1.heap.size+1≤u2.heap.size:=(by have f:=hb.size;(try simp at f);omega);have aw:=zab c cl;have ax:=zab c cm;have ay:=zab c cn;have az:=zab c co;have cs:=zab c cp;have ct:=zab c cq;have r:=un (hn);have v:=un ((z.o.alloc _).below hb);have a8:=un (show u2.heap[u1.heap.size]? = some (.cells #[false,(),(),false,(),(),false,false] 62 (0,0))from zad hb (zam (by simp)));obtain⟨lZ,kH,kr,ii,l0,kI,ks,ij,l1,kl,kt,ik,l2,km,ku,il,l3,kn,kR,im,l4,ko,kS,io,l5,kp,kT,ip,l6,kq,kU,iq⟩:=bf8 a8.o;have mG:=(Array.getElem?_eq_some_iff.1 a8.o).1;clear hb c)
    (try go_wp2_with fail)
    refine yYK a fun hHeld=>?_
    clear a K;refine zaw [8] ?_;repeat refine tkL (hS:=hHeld) (h:=?_)
    refine zao ?_;refine zay 10 (h:=fun K a=>?_);go_simp;refine yYL a ?_;clear a K;refine zaM (h:=?_);go_wp2;go_meet;have k1:=zYl a8.o g1 (V,m1,Y) (X,ac,Z) R (L,T,N) (M,U,O) s t
    case rel=>exact⟨u1.heap.size,rfl,⟨g1,V,m1,Y,X,ac,Z,R,L,T,N,M,U,O,zar _ (zar _ (zar _ (zar _ (zar _ (zar _ (zar _ (zar _ (a8.o)))))))),v.o.tk k1 (by decide),r.o.tk k1 (by decide)⟩,(bsc (p:=⟨u1,7,none⟩) (bsc (p:=⟨u1,6,none⟩) (bsc (p:=⟨u1,5,none⟩) (bsc (p:=⟨u1,4,none⟩) (bsc (p:=⟨u1,3,none⟩) (bsc (p:=⟨u1,2,none⟩) (bsc (p:=⟨u1,1,none⟩) (bsc (p:=⟨u1,0,none⟩) m.o l.o.size) l.o.size) l.o.size) l.o.size) l.o.size) l.o.size) l.o.size) l.o.size)⟩
  ·skip
   go_simp;refine yYK a fun hHeld=>?_
   clear a K;refine zaB 1 (h:=fun K a=>?_);go_simp
   (go_at_call 19;(with_reducible refine(one p0 d0 dR.o dO.o _).mono ?_);rintro e u1 ⟨g1,V,m1,Y,X,ac,Z,rfl,hn,hb⟩;have d:Below w1 w1 u1:=(bdrew (Below.alloc (Below.refl w1.heap.size w1) (Nat.le_refl _) _)).trans (hb.mono (by have f:=0;(try simp)<;>omega));have l:=un d;have I:=d.size;have cr:w1.heap.size+1≤u1.heap.size:=(by have f:=hb.size;(try simp at f);omega);have bl:=zab d cl;have bm:=zab d cm;have bn:=zab d cn;have bo:=zab d co;have ed:=zab d cp;have ee:=zab d cq;have z:=un (hn);have ih:=un (show u1.heap[w1.heap.size]? = some (.cells #[false,(),(),false,(),(),false,false] 62 (0,0))from zad hb (show(w1.alloc (.cells #[false,(),(),false,(),(),false,false] 62)).heap[w1.heap.size]? = _ from zam (by simp)));clear hb d)
   (try go_wp2_with fail)
   refine yYK a fun hHeld=>?_
   clear a K;refine zaB 3 (h:=fun K a=>?_);go_simp
   (go_at_call 19;(with_reducible refine(one p1 d1 cx.o cw.o _).mono ?_);rintro e u2 ⟨R,L,T,N,M,U,O,rfl,hn,hb⟩;have c:Below w1 w1 u2:=l.o.trans (hb.mono (by have f:=I;(try simp)<;>omega));have m:=un c;have av:=c.size;have au:u1.heap.size+0≤u2.heap.size:=(by have f:=hb.size;(try simp at f);omega);have aw:=zab c cl;have ax:=zab c cm;have ay:=zab c cn;have az:=zab c co;have cs:=zab c cp;have ct:=zab c cq;have r:=un (hn);have v:=un (z.o.below hb);have a8:=un (zad hb (ih.o));obtain⟨lZ,kH,kr,ii,l0,kI,ks,ij,l1,kl,kt,ik,l2,km,ku,il,l3,kn,kR,im,l4,ko,kS,io,l5,kp,kT,ip,l6,kq,kU,iq⟩:=bf8 a8.o;have mG:=(Array.getElem?_eq_some_iff.1 a8.o).1;clear hb c)
   (try go_wp2_with fail)
   refine yYK a fun hHeld=>?_
   clear a K;refine zaw [8] ?_;repeat refine tkL (hS:=hHeld) (h:=?_)
   refine zao ?_;refine zay 10 (h:=fun K a=>?_);go_simp;refine yYL a ?_;clear a K;refine zaM (h:=?_);go_wp2;go_meet;have k1:=zYl a8.o g1 (V,m1,Y) (X,ac,Z) R (L,T,N) (M,U,O) s t
   case rel=>exact⟨w1.heap.size,rfl,⟨g1,V,m1,Y,X,ac,Z,R,L,T,N,M,U,O,zar _ (zar _ (zar _ (zar _ (zar _ (zar _ (zar _ (zar _ (a8.o)))))))),v.o.tk k1 (by decide),r.o.tk k1 (by decide)⟩,(bsc (p:=⟨w1,7,none⟩) (bsc (p:=⟨w1,6,none⟩) (bsc (p:=⟨w1,5,none⟩) (bsc (p:=⟨w1,4,none⟩) (bsc (p:=⟨w1,3,none⟩) (bsc (p:=⟨w1,2,none⟩) (bsc (p:=⟨w1,1,none⟩) (bsc (p:=⟨w1,0,none⟩) m.o (Nat.le_refl _)) (Nat.le_refl _)) (Nat.le_refl _)) (Nat.le_refl _)) (Nat.le_refl _)) (Nat.le_refl _)) (Nat.le_refl _)) (Nat.le_refl _))⟩
 case rest =>
  rename World=>w2
  obtain⟨pn,rfl,hG,g⟩:=hcut;obtain⟨g1,V,m1,Y,X,ac,Z,R,L,T,N,M,U,O,hG,hL,hH⟩:=hG;have KG:=un hG;have gB:=un (zad g gD.o);have gE:=un (zad g gA.o);have gS:=un (zad g gL.o);have gd:=un (zad g ga.o);have d6:=un (zad g fT.o);have HL:=un (show RatS w2 g1 (V,m1,Y) (X,ac,Z) (fr p0 d0)from hL);have HH:=un (show RatS w2 R (L,T,N) (M,U,O) (fr p1 d1)from hH);have gF:=un (gC.o.trans ((g).mono gC.o.size));obtain⟨n2,nY,n3,nZ⟩:=bc2 gB.o
  obtain⟨oe,n5,og,nV⟩:=bc2 gE.o;obtain⟨oD,oB,oE,oC⟩:=bc2 gS.o;obtain⟨aq,nh,ar,nk⟩:=bc2 gd.o;obtain⟨ao,h9,ap,i4⟩:=bc2 d6.o;obtain⟨lD,i9,lJ,jf,lP,jl,lV,js,la,iJ,lg,iQ,lm,iX,lt,iu⟩:=bc8 KG.o;clear hG hL hH g;clear cl n6 cm n7 cn n4 co nW cp oq cq os nm ng np nj kM h8 ly i3;go_upto_region 4 with fail
  have pp:=(Array.getElem?_eq_some_iff.1 d6.o).1;go_cut[12,13] (fun q q' wz=>∃b b',q=.pointer (some ⟨b,0,none⟩)∧q'=.pointer (some ⟨b',0,none⟩)∧yLP wz b (fr p3 d3)∧yLP wz b' (fr J H)∧Below w2 w2 wz)
  case first =>
   refine zaS (S:=fun w'=>w'.cell? ⟨w.heap.size+1+1+1,0,none⟩=some (.int .i64 p3)∧w'.cell? ⟨w.heap.size+1+1+1,1,none⟩=some (.int .i64 d3)∧w'.cell? ⟨w.heap.size+1+1+1+1,0,none⟩=some (.int .i64 J)∧w'.cell? ⟨w.heap.size+1+1+1+1,1,none⟩=some (.int .i64 H)) [] (h:=fun hHeld=>?_);refine zaw [0,2] ?_;repeat refine tkL (hS:=hHeld) (h:=?_)
   refine zao ?_;refine yKw (i:=1) (j:=4) (n:=5) rfl rfl rfl (by kernel_rfl) (fun K a=>?_) (fun K a=>?_) (fun K a=>?_)
   ·skip
    go_simp
    (go_at_call 19;(with_reducible refine(one p3 d3 b4.o b3.o _).mono ?_);rintro e u1 ⟨g3,A3,m3,c3,D3,al,ag,rfl,hn,hb⟩;have d:Below w2 w2 u1:=(bdrew (Below.refl w2.heap.size w2)).trans (hb.mono (by have f:=0;(try simp)<;>omega));have l:=un d;have I:=d.size;have bl:=zab d aq;have bm:=zab d ar;have bn:=zab d ao;have bo:=zab d ap;have z:=un (hn);clear hb d)
    (try go_wp2_with fail)
    refine yYK a fun hHeld=>?_
    clear a K;refine yKw (i:=3) (j:=4) (n:=5) rfl rfl rfl (by kernel_rfl) (fun K a=>?_) (fun K a=>?_) (fun K a=>?_)
    ·skip
     go_simp
     (go_at_call 19;(with_reducible refine(one J H aD.o aC.o _).mono ?_);rintro e u2 ⟨E,A,F,C,B,G,D,rfl,hn,hb⟩;have c:Below w2 w2 u2:=l.o.trans (hb.mono (by have f:=I;(try simp)<;>omega));have m:=un c;have av:=c.size;have au:u1.heap.size+0≤u2.heap.size:=(by have f:=hb.size;(try simp at f);omega);have aw:=zab c aq;have ax:=zab c ar;have ay:=zab c ao;have az:=zab c ap;have r:=un (hn);have v:=un (z.o.below hb);clear hb c)
     (try go_wp2_with fail)
     refine yYK a fun hHeld=>?_
     clear a K;refine zme (i:=4) (j:=5) rfl rfl (by kernel_rfl) (fun K a=>?_) (fun K a=>?_)
     ·skip
      go_simp;refine yYK a fun hHeld=>?_
      clear a K;refine zaB 5 (h:=fun K a=>?_);go_simp;refine yYK a fun hHeld=>?_
      clear a K;refine zaB 6 (h:=fun K a=>?_);go_simp;refine yYK a fun hHeld=>?_
      clear a K;refine zaB 7 (h:=fun K a=>?_);go_simp;refine yYK a fun hHeld=>?_
      clear a K;refine zaM (h:=?_);go_wp2;go_meet
      case rel=>exact⟨u2.heap.size,u2.heap.size+1,rfl,rfl,⟨g3,A3,m3,c3,D3,al,ag,zak (zal _ _ _),(v.o.alloc _).alloc _⟩,⟨E,A,F,C,B,G,D,zbD _ _ _ _,(r.o.alloc _).alloc _⟩,Below.alloc (Below.alloc m.o m.o.size _) (by simp;omega) _⟩
     ·skip
      go_simp;refine yYK a fun hHeld=>?_
      clear a K;refine zaB 4 (h:=fun K a=>?_);go_simp;refine yYK a fun hHeld=>?_
      clear a K;refine zaB 6 (h:=fun K a=>?_);go_simp;refine yYK a fun hHeld=>?_
      clear a K;refine zaB 7 (h:=fun K a=>?_);go_simp;refine yYK a fun hHeld=>?_
      clear a K;refine zaM (h:=?_);go_wp2;go_meet
      case rel=>exact⟨u2.heap.size+1,u2.heap.size,rfl,rfl,⟨g3,A3,m3,c3,D3,al,ag,zbD _ _ _ _,(v.o.alloc _).alloc _⟩,⟨E,A,F,C,B,G,D,zak (zal _ _ _),(r.o.alloc _).alloc _⟩,Below.alloc (Below.alloc m.o m.o.size _) (by simp;omega) _⟩
    ·skip
     go_simp;refine yYK a fun hHeld=>?_
     clear a K;refine zme (i:=3) (j:=5) rfl rfl (by kernel_rfl) (fun K a=>?_) (fun K a=>?_)
     ·skip
      go_simp
      (go_at_call 19;(with_reducible refine(one J H aD.o aC.o _).mono ?_);rintro e u2 ⟨E,A,F,C,B,G,D,rfl,hn,hb⟩;have c:Below w2 w2 u2:=(Below.alloc l.o l.o.size _).trans (hb.mono (by have f:=I;(try simp)<;>omega));have m:=un c;have av:=c.size;have au:u1.heap.size+1≤u2.heap.size:=(by have f:=hb.size;(try simp at f);omega);have aw:=zab c aq;have ax:=zab c ar;have ay:=zab c ao;have az:=zab c ap;have r:=un (hn);have v:=un ((z.o.alloc _).below hb);have o:=un (show u2.heap[u1.heap.size]? = some (.cells #[false,(),()] 41 (0,0))from zad hb (zam (by simp)));obtain⟨bD,bG,bJ,bA,bE,bH,bK,bB,bF,bI,bL,bC⟩:=bf3 o.o;have bR:=(Array.getElem?_eq_some_iff.1 o.o).1;obtain⟨l9,kv,kB,hP,ma,kw,kC,hQ,mb,kx,kD,hR⟩:=bf3 (zak (ob:=.cells #[false,(),()] 41) o.o);clear hb c)
      (try go_wp2_with fail)
      refine yYK a fun hHeld=>?_
      clear a K;refine zaB 5 (h:=fun K a=>?_);go_simp;refine yYK a fun hHeld=>?_
      clear a K;refine zaB 6 (h:=fun K a=>?_);go_simp;refine yYK a fun hHeld=>?_
      clear a K;refine zaB 7 (h:=fun K a=>?_);go_simp;refine yYK a fun hHeld=>?_
      clear a K;refine zaM (h:=?_);go_wp2;go_meet;have k1:=rk3 o.o 0 1 2 g3 (A3,m3,c3) (D3,al,ag);have aT:=(bsc (u:=(D3,al,ag)) (p:=⟨u1,2,none⟩) (bsc (u:=(A3,m3,c3)) (p:=⟨u1,1,none⟩) (bsc (u:=g3) (p:=⟨u1,0,none⟩) m.o (show w2.heap.size≤u1.heap.size by omega)) (show w2.heap.size≤u1.heap.size by omega)) (show w2.heap.size≤u1.heap.size by omega))
      case rel=>exact⟨u1.heap.size,u2.heap.size,rfl,rfl,⟨g3,A3,m3,c3,D3,al,ag,zak (zar _ (zar _ (zar _ o.o))),(v.o.keepT k1).alloc _⟩,⟨E,A,F,C,B,G,D,zam (by simp),(r.o.keepT k1).alloc _⟩,Below.alloc aT aT.size _⟩
     ·skip
      go_simp;refine yYK a fun hHeld=>?_
      clear a K;refine zaB 3 (h:=fun K a=>?_);go_simp
      (go_at_call 19;(with_reducible refine(one J H aD.o aC.o _).mono ?_);rintro e u2 ⟨E,A,F,C,B,G,D,rfl,hn,hb⟩;have c:Below w2 w2 u2:=(Below.alloc (Below.alloc l.o l.o.size _) (by simp<;>omega) _).trans (hb.mono (by have f:=I;(try simp)<;>omega));have m:=un c;have av:=c.size;have au:u1.heap.size+2≤u2.heap.size:=(by have f:=hb.size;(try simp at f);omega);have aw:=zab c aq;have ax:=zab c ar;have ay:=zab c ao;have az:=zab c ap;have r:=un (hn);have v:=un (((z.o.alloc _).alloc _).below hb);have o:=un (show u2.heap[u1.heap.size]? = some (.cells #[false,(),()] 41 (0,0))from zad hb (zak (zam (by simp))));obtain⟨bD,bG,bJ,bA,bE,bH,bK,bB,bF,bI,bL,bC⟩:=bf3 o.o;have k:=un (show u2.heap[u1.heap.size+1]? = some (.cells #[false,(),()] 41 (0,0))from zad hb (zam (by simp)));obtain⟨ba,a0,a3,a5,bb,a1,a4,a6,bc,a2,a9,a7⟩:=bf3 k.o;have bR:=(Array.getElem?_eq_some_iff.1 o.o).1;have bd:=(Array.getElem?_eq_some_iff.1 k.o).1;clear hb c)
      (try go_wp2_with fail)
      refine yYK a fun hHeld=>?_
      clear a K;refine zaB 6 (h:=fun K a=>?_);go_simp;refine yYK a fun hHeld=>?_
      clear a K;refine zaB 7 (h:=fun K a=>?_);go_simp;refine yYK a fun hHeld=>?_
      clear a K;refine zaM (h:=?_);go_wp2;go_meet;have h2:=yKs (x:=fr p3 d3) (y:=fr J H) (bx:=u1.heap.size) (by_:=u1.heap.size+1) o.o k.o (by omega) v.o r.o
      case rel=>exact⟨u1.heap.size,u1.heap.size+1,rfl,rfl,h2.1,h2.2,(bsc (p:=⟨u1.heap.size+1,2,none⟩) (bsc (p:=⟨u1.heap.size+1,1,none⟩) (bsc (p:=⟨u1.heap.size+1,0,none⟩) (bsc (p:=⟨u1,2,none⟩) (bsc (p:=⟨u1,1,none⟩) (bsc (p:=⟨u1,0,none⟩) m.o (show w2.heap.size≤u1.heap.size by omega)) (show w2.heap.size≤u1.heap.size by omega)) (show w2.heap.size≤u1.heap.size by omega)) (show w2.heap.size≤u1.heap.size+1 by omega)) (show w2.heap.size≤u1.heap.size+1 by omega)) (show w2.heap.size≤u1.heap.size+1 by omega))⟩
    ·skip
     go_simp;refine yYK a fun hHeld=>?_
     clear a K;refine zme (i:=3) (j:=4) rfl rfl (by kernel_rfl) (fun K a=>?_) (fun K a=>?_)
     ·skip
      go_simp
      (go_at_call 19;(with_reducible refine(one J H aD.o aC.o _).mono ?_);rintro e u2 ⟨E,A,F,C,B,G,D,rfl,hn,hb⟩;have c:Below w2 w2 u2:=(Below.alloc l.o l.o.size _).trans (hb.mono (by have f:=I;(try simp)<;>omega));have m:=un c;have av:=c.size;have au:u1.heap.size+1≤u2.heap.size:=(by have f:=hb.size;(try simp at f);omega);have aw:=zab c aq;have ax:=zab c ar;have ay:=zab c ao;have az:=zab c ap;have r:=un (hn);have v:=un ((z.o.alloc _).below hb);have k:=un (show u2.heap[u1.heap.size]? = some (.cells #[false,(),()] 41 (0,0))from zad hb (zam (by simp)));obtain⟨ba,a0,a3,a5,bb,a1,a4,a6,bc,a2,a9,a7⟩:=bf3 k.o;have bd:=(Array.getElem?_eq_some_iff.1 k.o).1;obtain⟨mc,ky,kE,hT,lX,kz,kF,hU,lY,kA,kG,hV⟩:=bf3 (zak (ob:=.cells #[false,(),()] 41) k.o);clear hb c)
      (try go_wp2_with fail)
      refine yYK a fun hHeld=>?_
      clear a K;refine zaB 4 (h:=fun K a=>?_);go_simp;refine yYK a fun hHeld=>?_
      clear a K;refine zaB 6 (h:=fun K a=>?_);go_simp;refine yYK a fun hHeld=>?_
      clear a K;refine zaB 7 (h:=fun K a=>?_);go_simp;refine yYK a fun hHeld=>?_
      clear a K;refine zaM (h:=?_);go_wp2;go_meet;have k1:=rk3 k.o 0 1 2 E (A,F,C) (B,G,D);have aT:=(bsc (u:=(B,G,D)) (p:=⟨u1,2,none⟩) (bsc (u:=(A,F,C)) (p:=⟨u1,1,none⟩) (bsc (u:=E) (p:=⟨u1,0,none⟩) m.o (show w2.heap.size≤u1.heap.size by omega)) (show w2.heap.size≤u1.heap.size by omega)) (show w2.heap.size≤u1.heap.size by omega))
      case rel=>exact⟨u2.heap.size,u1.heap.size,rfl,rfl,⟨g3,A3,m3,c3,D3,al,ag,zam (by simp),(v.o.keepT k1).alloc _⟩,⟨E,A,F,C,B,G,D,zak (zar _ (zar _ (zar _ k.o))),(r.o.keepT k1).alloc _⟩,Below.alloc aT aT.size _⟩
     ·skip
      go_simp;refine yYK a fun hHeld=>?_
      clear a K;refine zaB 3 (h:=fun K a=>?_);go_simp
      (go_at_call 19;(with_reducible refine(one J H aD.o aC.o _).mono ?_);rintro e u2 ⟨E,A,F,C,B,G,D,rfl,hn,hb⟩;have c:Below w2 w2 u2:=(Below.alloc (Below.alloc l.o l.o.size _) (by simp<;>omega) _).trans (hb.mono (by have f:=I;(try simp)<;>omega));have m:=un c;have av:=c.size;have au:u1.heap.size+2≤u2.heap.size:=(by have f:=hb.size;(try simp at f);omega);have aw:=zab c aq;have ax:=zab c ar;have ay:=zab c ao;have az:=zab c ap;have r:=un (hn);have v:=un (((z.o.alloc _).alloc _).below hb);have k:=un (show u2.heap[u1.heap.size]? = some (.cells #[false,(),()] 41 (0,0))from zad hb (zak (zam (by simp))));obtain⟨ba,a0,a3,a5,bb,a1,a4,a6,bc,a2,a9,a7⟩:=bf3 k.o;have o:=un (show u2.heap[u1.heap.size+1]? = some (.cells #[false,(),()] 41 (0,0))from zad hb (zam (by simp)));obtain⟨bD,bG,bJ,bA,bE,bH,bK,bB,bF,bI,bL,bC⟩:=bf3 o.o;have bd:=(Array.getElem?_eq_some_iff.1 k.o).1;have bR:=(Array.getElem?_eq_some_iff.1 o.o).1;clear hb c)
      (try go_wp2_with fail)
      refine yYK a fun hHeld=>?_
      clear a K;refine zaB 6 (h:=fun K a=>?_);go_simp;refine yYK a fun hHeld=>?_
      clear a K;refine zaB 7 (h:=fun K a=>?_);go_simp;refine yYK a fun hHeld=>?_
      clear a K;refine zaM (h:=?_);go_wp2;go_meet;have h2:=yKs (x:=fr p3 d3) (y:=fr J H) (bx:=u1.heap.size+1) (by_:=u1.heap.size) o.o k.o (by omega) v.o r.o
      case rel=>exact⟨u1.heap.size+1,u1.heap.size,rfl,rfl,h2.1,h2.2,(bsc (p:=⟨u1,2,none⟩) (bsc (p:=⟨u1,1,none⟩) (bsc (p:=⟨u1,0,none⟩) (bsc (p:=⟨u1.heap.size+1,2,none⟩) (bsc (p:=⟨u1.heap.size+1,1,none⟩) (bsc (p:=⟨u1.heap.size+1,0,none⟩) m.o (show w2.heap.size≤u1.heap.size+1 by omega)) (show w2.heap.size≤u1.heap.size+1 by omega)) (show w2.heap.size≤u1.heap.size+1 by omega)) (show w2.heap.size≤u1.heap.size by omega)) (show w2.heap.size≤u1.heap.size by omega)) (show w2.heap.size≤u1.heap.size by omega))⟩
   ·skip
    go_simp;refine yYK a fun hHeld=>?_
    clear a K;refine zme (i:=1) (j:=5) rfl rfl (by kernel_rfl) (fun K a=>?_) (fun K a=>?_)
    ·skip
     go_simp
     (go_at_call 19;(with_reducible refine(one p3 d3 b4.o b3.o _).mono ?_);rintro e u1 ⟨g3,A3,m3,c3,D3,al,ag,rfl,hn,hb⟩;have d:Below w2 w2 u1:=(bdrew (Below.alloc (Below.refl w2.heap.size w2) (Nat.le_refl _) _)).trans (hb.mono (by have f:=0;(try simp)<;>omega));have l:=un d;have I:=d.size;have cr:w2.heap.size+1≤u1.heap.size:=(by have f:=hb.size;(try simp at f);omega);have bl:=zab d aq;have bm:=zab d ar;have bn:=zab d ao;have bo:=zab d ap;have z:=un (hn);have ca:=un (show u1.heap[w2.heap.size]? = some (.cells #[false,(),()] 41 (0,0))from zad hb (show(w2.alloc (.cells #[false,(),()] 41)).heap[w2.heap.size]? = _ from zam (by simp)));clear hb d)
     (try go_wp2_with fail)
     refine yYK a fun hHeld=>?_
     clear a K;refine zme (i:=3) (j:=5) rfl rfl (by kernel_rfl) (fun K a=>?_) (fun K a=>?_)
     ·skip
      go_simp
      (go_at_call 19;(with_reducible refine(one J H aD.o aC.o _).mono ?_);rintro e u2 ⟨E,A,F,C,B,G,D,rfl,hn,hb⟩;have c:Below w2 w2 u2:=l.o.trans (hb.mono (by have f:=I;(try simp)<;>omega));have m:=un c;have av:=c.size;have au:u1.heap.size+0≤u2.heap.size:=(by have f:=hb.size;(try simp at f);omega);have aw:=zab c aq;have ax:=zab c ar;have ay:=zab c ao;have az:=zab c ap;have r:=un (hn);have v:=un (z.o.below hb);have o:=un (zad hb (ca.o));obtain⟨bD,bG,bJ,bA,bE,bH,bK,bB,bF,bI,bL,bC⟩:=bf3 o.o;have bR:=(Array.getElem?_eq_some_iff.1 o.o).1;obtain⟨l9,kv,kB,hP,ma,kw,kC,hQ,mb,kx,kD,hR⟩:=bf3 (zak (ob:=.cells #[false,(),()] 41) o.o);clear hb c)
      (try go_wp2_with fail)
      refine yYK a fun hHeld=>?_
      clear a K;refine zaB 5 (h:=fun K a=>?_);go_simp;refine yYK a fun hHeld=>?_
      clear a K;refine zaB 6 (h:=fun K a=>?_);go_simp;refine yYK a fun hHeld=>?_
      clear a K;refine zaB 7 (h:=fun K a=>?_);go_simp;refine yYK a fun hHeld=>?_
      clear a K;refine zaM (h:=?_);go_wp2;go_meet;have k1:=rk3 o.o 0 1 2 g3 (A3,m3,c3) (D3,al,ag);have aT:=(bsc (u:=(D3,al,ag)) (p:=⟨w2,2,none⟩) (bsc (u:=(A3,m3,c3)) (p:=⟨w2,1,none⟩) (bsc (u:=g3) (p:=⟨w2,0,none⟩) m.o (show w2.heap.size≤w2.heap.size by omega)) (show w2.heap.size≤w2.heap.size by omega)) (show w2.heap.size≤w2.heap.size by omega))
      case rel=>exact⟨w2.heap.size,u2.heap.size,rfl,rfl,⟨g3,A3,m3,c3,D3,al,ag,zak (zar _ (zar _ (zar _ o.o))),(v.o.keepT k1).alloc _⟩,⟨E,A,F,C,B,G,D,zam (by simp),(r.o.keepT k1).alloc _⟩,Below.alloc aT aT.size _⟩
     ·skip
      go_simp;refine yYK a fun hHeld=>?_
      clear a K;refine zaB 3 (h:=fun K a=>?_);go_simp
      (go_at_call 19;(with_reducible refine(one J H aD.o aC.o _).mono ?_);rintro e u2 ⟨E,A,F,C,B,G,D,rfl,hn,hb⟩;have c:Below w2 w2 u2:=(Below.alloc l.o l.o.size _).trans (hb.mono (by have f:=I;(try simp)<;>omega));have m:=un c;have av:=c.size;have au:u1.heap.size+1≤u2.heap.size:=(by have f:=hb.size;(try simp at f);omega);have aw:=zab c aq;have ax:=zab c ar;have ay:=zab c ao;have az:=zab c ap;have r:=un (hn);have v:=un ((z.o.alloc _).below hb);have k:=un (show u2.heap[u1.heap.size]? = some (.cells #[false,(),()] 41 (0,0))from zad hb (zam (by simp)));obtain⟨ba,a0,a3,a5,bb,a1,a4,a6,bc,a2,a9,a7⟩:=bf3 k.o;have o:=un (zad hb (zak (ca.o)));obtain⟨bD,bG,bJ,bA,bE,bH,bK,bB,bF,bI,bL,bC⟩:=bf3 o.o;have bR:=(Array.getElem?_eq_some_iff.1 o.o).1;have bd:=(Array.getElem?_eq_some_iff.1 k.o).1;clear hb c)
      (try go_wp2_with fail)
      refine yYK a fun hHeld=>?_
      clear a K;refine zaB 6 (h:=fun K a=>?_);go_simp;refine yYK a fun hHeld=>?_
      clear a K;refine zaB 7 (h:=fun K a=>?_);go_simp;refine yYK a fun hHeld=>?_
      clear a K;refine zaM (h:=?_);go_wp2;go_meet;have h2:=yKs (x:=fr p3 d3) (y:=fr J H) (bx:=w2.heap.size) (by_:=u1.heap.size) o.o k.o (by omega) v.o r.o
      case rel=>exact⟨w2.heap.size,u1.heap.size,rfl,rfl,h2.1,h2.2,(bsc (p:=⟨u1,2,none⟩) (bsc (p:=⟨u1,1,none⟩) (bsc (p:=⟨u1,0,none⟩) (bsc (p:=⟨w2,2,none⟩) (bsc (p:=⟨w2,1,none⟩) (bsc (p:=⟨w2,0,none⟩) m.o (show w2.heap.size≤w2.heap.size by omega)) (show w2.heap.size≤w2.heap.size by omega)) (show w2.heap.size≤w2.heap.size by omega)) (show w2.heap.size≤u1.heap.size by omega)) (show w2.heap.size≤u1.heap.size by omega)) (show w2.heap.size≤u1.heap.size by omega))⟩
    ·skip
     go_simp;refine yYK a fun hHeld=>?_
     clear a K;refine zaB 1 (h:=fun K a=>?_);go_simp
     (go_at_call 19;(with_reducible refine(one p3 d3 b4.o b3.o _).mono ?_);rintro e u1 ⟨g3,A3,m3,c3,D3,al,ag,rfl,hn,hb⟩;have d:Below w2 w2 u1:=(bdrew (Below.alloc (Below.alloc (Below.refl w2.heap.size w2) (Nat.le_refl _) _) (by simp<;>omega) _)).trans (hb.mono (by have f:=0;(try simp)<;>omega));have l:=un d;have I:=d.size;have cr:w2.heap.size+2≤u1.heap.size:=(by have f:=hb.size;(try simp at f);omega);have bl:=zab d aq;have bm:=zab d ar;have bn:=zab d ao;have bo:=zab d ap;have z:=un (hn);have ca:=un (show u1.heap[w2.heap.size]? = some (.cells #[false,(),()] 41 (0,0))from zad hb (show((w2.alloc (.cells #[false,(),()] 41)).alloc (.cells #[false,(),()] 41)).heap[w2.heap.size]? = _ from zak (zam (by simp))));have be:=un (show u1.heap[w2.heap.size+1]? = some (.cells #[false,(),()] 41 (0,0))from zad hb (show((w2.alloc (.cells #[false,(),()] 41)).alloc (.cells #[false,(),()] 41)).heap[w2.heap.size+1]? = _ from zam (by simp)));clear hb d)
     (try go_wp2_with fail)
     refine yYK a fun hHeld=>?_
     clear a K;refine zaB 3 (h:=fun K a=>?_);go_simp
     (go_at_call 19;(with_reducible refine(one J H aD.o aC.o _).mono ?_);rintro e u2 ⟨E,A,F,C,B,G,D,rfl,hn,hb⟩;have c:Below w2 w2 u2:=l.o.trans (hb.mono (by have f:=I;(try simp)<;>omega));have m:=un c;have av:=c.size;have au:u1.heap.size+0≤u2.heap.size:=(by have f:=hb.size;(try simp at f);omega);have aw:=zab c aq;have ax:=zab c ar;have ay:=zab c ao;have az:=zab c ap;have r:=un (hn);have v:=un (z.o.below hb);have o:=un (zad hb (ca.o));obtain⟨bD,bG,bJ,bA,bE,bH,bK,bB,bF,bI,bL,bC⟩:=bf3 o.o;have k:=un (zad hb (be.o));obtain⟨ba,a0,a3,a5,bb,a1,a4,a6,bc,a2,a9,a7⟩:=bf3 k.o;have bR:=(Array.getElem?_eq_some_iff.1 o.o).1;have bd:=(Array.getElem?_eq_some_iff.1 k.o).1;clear hb c)
     (try go_wp2_with fail)
     refine yYK a fun hHeld=>?_
     clear a K;refine zaB 6 (h:=fun K a=>?_);go_simp;refine yYK a fun hHeld=>?_
     clear a K;refine zaB 7 (h:=fun K a=>?_);go_simp;refine yYK a fun hHeld=>?_
     clear a K;refine zaM (h:=?_);go_wp2;go_meet;have h2:=yKs (x:=fr p3 d3) (y:=fr J H) (bx:=w2.heap.size) (by_:=w2.heap.size+1) o.o k.o (by omega) v.o r.o
     case rel=>exact⟨w2.heap.size,w2.heap.size+1,rfl,rfl,h2.1,h2.2,(bsc (p:=⟨w2.heap.size+1,2,none⟩) (bsc (p:=⟨w2.heap.size+1,1,none⟩) (bsc (p:=⟨w2.heap.size+1,0,none⟩) (bsc (p:=⟨w2,2,none⟩) (bsc (p:=⟨w2,1,none⟩) (bsc (p:=⟨w2,0,none⟩) m.o (show w2.heap.size≤w2.heap.size by omega)) (show w2.heap.size≤w2.heap.size by omega)) (show w2.heap.size≤w2.heap.size by omega)) (show w2.heap.size≤w2.heap.size+1 by omega)) (show w2.heap.size≤w2.heap.size+1 by omega)) (show w2.heap.size≤w2.heap.size+1 by omega))⟩
   ·skip
    go_simp;refine yYK a fun hHeld=>?_
    clear a K;refine zme (i:=1) (j:=4) rfl rfl (by kernel_rfl) (fun K a=>?_) (fun K a=>?_)
    ·skip
     go_simp
     (go_at_call 19;(with_reducible refine(one p3 d3 b4.o b3.o _).mono ?_);rintro e u1 ⟨g3,A3,m3,c3,D3,al,ag,rfl,hn,hb⟩;have d:Below w2 w2 u1:=(bdrew (Below.alloc (Below.refl w2.heap.size w2) (Nat.le_refl _) _)).trans (hb.mono (by have f:=0;(try simp)<;>omega));have l:=un d;have I:=d.size;have cr:w2.heap.size+1≤u1.heap.size:=(by have f:=hb.size;(try simp at f);omega);have bl:=zab d aq;have bm:=zab d ar;have bn:=zab d ao;have bo:=zab d ap;have z:=un (hn);have be:=un (show u1.heap[w2.heap.size]? = some (.cells #[false,(),()] 41 (0,0))from zad hb (show(w2.alloc (.cells #[false,(),()] 41)).heap[w2.heap.size]? = _ from zam (by simp)));clear hb d)
     (try go_wp2_with fail)
     refine yYK a fun hHeld=>?_
     clear a K;refine zme (i:=3) (j:=4) rfl rfl (by kernel_rfl) (fun K a=>?_) (fun K a=>?_)
     ·skip
      go_simp
      (go_at_call 19;(with_reducible refine(one J H aD.o aC.o _).mono ?_);rintro e u2 ⟨E,A,F,C,B,G,D,rfl,hn,hb⟩;have c:Below w2 w2 u2:=l.o.trans (hb.mono (by have f:=I;(try simp)<;>omega));have m:=un c;have av:=c.size;have au:u1.heap.size+0≤u2.heap.size:=(by have f:=hb.size;(try simp at f);omega);have aw:=zab c aq;have ax:=zab c ar;have ay:=zab c ao;have az:=zab c ap;have r:=un (hn);have v:=un (z.o.below hb);have k:=un (zad hb (be.o));obtain⟨ba,a0,a3,a5,bb,a1,a4,a6,bc,a2,a9,a7⟩:=bf3 k.o;have bd:=(Array.getElem?_eq_some_iff.1 k.o).1;obtain⟨mc,ky,kE,hT,lX,kz,kF,hU,lY,kA,kG,hV⟩:=bf3 (zak (ob:=.cells #[false,(),()] 41) k.o);clear hb c)
      (try go_wp2_with fail)
      refine yYK a fun hHeld=>?_
      clear a K;refine zaB 4 (h:=fun K a=>?_);go_simp;refine yYK a fun hHeld=>?_
      clear a K;refine zaB 6 (h:=fun K a=>?_);go_simp;refine yYK a fun hHeld=>?_
      clear a K;refine zaB 7 (h:=fun K a=>?_);go_simp;refine yYK a fun hHeld=>?_
      clear a K;refine zaM (h:=?_);go_wp2;go_meet;have k1:=rk3 k.o 0 1 2 E (A,F,C) (B,G,D);have aT:=(bsc (u:=(B,G,D)) (p:=⟨w2,2,none⟩) (bsc (u:=(A,F,C)) (p:=⟨w2,1,none⟩) (bsc (u:=E) (p:=⟨w2,0,none⟩) m.o (show w2.heap.size≤w2.heap.size by omega)) (show w2.heap.size≤w2.heap.size by omega)) (show w2.heap.size≤w2.heap.size by omega))
      case rel=>exact⟨u2.heap.size,w2.heap.size,rfl,rfl,⟨g3,A3,m3,c3,D3,al,ag,zam (by simp),(v.o.keepT k1).alloc _⟩,⟨E,A,F,C,B,G,D,zak (zar _ (zar _ (zar _ k.o))),(r.o.keepT k1).alloc _⟩,Below.alloc aT aT.size _⟩
     ·skip
      go_simp;refine yYK a fun hHeld=>?_
      clear a K;refine zaB 3 (h:=fun K a=>?_);go_simp
      (go_at_call 19;(with_reducible refine(one J H aD.o aC.o _).mono ?_);rintro e u2 ⟨E,A,F,C,B,G,D,rfl,hn,hb⟩;have c:Below w2 w2 u2:=(Below.alloc l.o l.o.size _).trans (hb.mono (by have f:=I;(try simp)<;>omega));have m:=un c;have av:=c.size;have au:u1.heap.size+1≤u2.heap.size:=(by have f:=hb.size;(try simp at f);omega);have aw:=zab c aq;have ax:=zab c ar;have ay:=zab c ao;have az:=zab c ap;have r:=un (hn);have v:=un ((z.o.alloc _).below hb);have o:=un (show u2.heap[u1.heap.size]? = some (.cells #[false,(),()] 41 (0,0))from zad hb (zam (by simp)));obtain⟨bD,bG,bJ,bA,bE,bH,bK,bB,bF,bI,bL,bC⟩:=bf3 o.o;have k:=un (zad hb (zak (be.o)));obtain⟨ba,a0,a3,a5,bb,a1,a4,a6,bc,a2,a9,a7⟩:=bf3 k.o;have bd:=(Array.getElem?_eq_some_iff.1 k.o).1;have bR:=(Array.getElem?_eq_some_iff.1 o.o).1;clear hb c)
      (try go_wp2_with fail)
      refine yYK a fun hHeld=>?_
      clear a K;refine zaB 6 (h:=fun K a=>?_);go_simp;refine yYK a fun hHeld=>?_
      clear a K;refine zaB 7 (h:=fun K a=>?_);go_simp;refine yYK a fun hHeld=>?_
      clear a K;refine zaM (h:=?_);go_wp2;go_meet;have h2:=yKs (x:=fr p3 d3) (y:=fr J H) (bx:=u1.heap.size) (by_:=w2.heap.size) o.o k.o (by omega) v.o r.o
      case rel=>exact⟨u1.heap.size,w2.heap.size,rfl,rfl,h2.1,h2.2,(bsc (p:=⟨w2,2,none⟩) (bsc (p:=⟨w2,1,none⟩) (bsc (p:=⟨w2,0,none⟩) (bsc (p:=⟨u1,2,none⟩) (bsc (p:=⟨u1,1,none⟩) (bsc (p:=⟨u1,0,none⟩) m.o (show w2.heap.size≤u1.heap.size by omega)) (show w2.heap.size≤u1.heap.size by omega)) (show w2.heap.size≤u1.heap.size by omega)) (show w2.heap.size≤w2.heap.size by omega)) (show w2.heap.size≤w2.heap.size by omega)) (show w2.heap.size≤w2.heap.size by omega))⟩
    ·skip
     go_simp;refine yYK a fun hHeld=>?_
     clear a K;refine zaB 1 (h:=fun K a=>?_);go_simp
     (go_at_call 19;(with_reducible refine(one p3 d3 b4.o b3.o _).mono ?_);rintro e u1 ⟨g3,A3,m3,c3,D3,al,ag,rfl,hn,hb⟩;have d:Below w2 w2 u1:=(bdrew (Below.alloc (Below.alloc (Below.refl w2.heap.size w2) (Nat.le_refl _) _) (by simp<;>omega) _)).trans (hb.mono (by have f:=0;(try simp)<;>omega));have l:=un d;have I:=d.size;have cr:w2.heap.size+2≤u1.heap.size:=(by have f:=hb.size;(try simp at f);omega);have bl:=zab d aq;have bm:=zab d ar;have bn:=zab d ao;have bo:=zab d ap;have z:=un (hn);have be:=un (show u1.heap[w2.heap.size]? = some (.cells #[false,(),()] 41 (0,0))from zad hb (show((w2.alloc (.cells #[false,(),()] 41)).alloc (.cells #[false,(),()] 41)).heap[w2.heap.size]? = _ from zak (zam (by simp))));have ca:=un (show u1.heap[w2.heap.size+1]? = some (.cells #[false,(),()] 41 (0,0))from zad hb (show((w2.alloc (.cells #[false,(),()] 41)).alloc (.cells #[false,(),()] 41)).heap[w2.heap.size+1]? = _ from zam (by simp)));clear hb d)
     (try go_wp2_with fail)
     refine yYK a fun hHeld=>?_
     clear a K;refine zaB 3 (h:=fun K a=>?_);go_simp
     (go_at_call 19;(with_reducible refine(one J H aD.o aC.o _).mono ?_);rintro e u2 ⟨E,A,F,C,B,G,D,rfl,hn,hb⟩;have c:Below w2 w2 u2:=l.o.trans (hb.mono (by have f:=I;(try simp)<;>omega));have m:=un c;have av:=c.size;have au:u1.heap.size+0≤u2.heap.size:=(by have f:=hb.size;(try simp at f);omega);have aw:=zab c aq;have ax:=zab c ar;have ay:=zab c ao;have az:=zab c ap;have r:=un (hn);have v:=un (z.o.below hb);have k:=un (zad hb (be.o));obtain⟨ba,a0,a3,a5,bb,a1,a4,a6,bc,a2,a9,a7⟩:=bf3 k.o;have o:=un (zad hb (ca.o));obtain⟨bD,bG,bJ,bA,bE,bH,bK,bB,bF,bI,bL,bC⟩:=bf3 o.o;have bd:=(Array.getElem?_eq_some_iff.1 k.o).1;have bR:=(Array.getElem?_eq_some_iff.1 o.o).1;clear hb c)
     (try go_wp2_with fail)
     refine yYK a fun hHeld=>?_
     clear a K;refine zaB 6 (h:=fun K a=>?_);go_simp;refine yYK a fun hHeld=>?_
     clear a K;refine zaB 7 (h:=fun K a=>?_);go_simp;refine yYK a fun hHeld=>?_
     clear a K;refine zaM (h:=?_);go_wp2;go_meet;have h2:=yKs (x:=fr p3 d3) (y:=fr J H) (bx:=w2.heap.size+1) (by_:=w2.heap.size) o.o k.o (by omega) v.o r.o
     case rel=>exact⟨w2.heap.size+1,w2.heap.size,rfl,rfl,h2.1,h2.2,(bsc (p:=⟨w2,2,none⟩) (bsc (p:=⟨w2,1,none⟩) (bsc (p:=⟨w2,0,none⟩) (bsc (p:=⟨w2.heap.size+1,2,none⟩) (bsc (p:=⟨w2.heap.size+1,1,none⟩) (bsc (p:=⟨w2.heap.size+1,0,none⟩) m.o (show w2.heap.size≤w2.heap.size+1 by omega)) (show w2.heap.size≤w2.heap.size+1 by omega)) (show w2.heap.size≤w2.heap.size+1 by omega)) (show w2.heap.size≤w2.heap.size by omega)) (show w2.heap.size≤w2.heap.size by omega)) (show w2.heap.size≤w2.heap.size by omega))⟩
  case rest =>
   rename World=>w3
   obtain⟨dU,dV,rfl,rfl,⟨g3,A3,m3,c3,D3,al,ag,hX,eU⟩,⟨E,A,F,C,B,G,D,hY,eV⟩,g⟩:=hcut;have KX:=un hX;have KY:=un hY;have gG:=un (zad g gB.o);have gP:=un (zad g gE.o);have gT:=un (zad g gS.o);have fS:=un (zad g gd.o);have fU:=un (zad g d6.o);have fX:=un (zad g KG.o);have mQ:=un (HL.o.below g);have mN:=un (HH.o.below g);have HX:=un (show RatS w3 g3 (A3,m3,c3) (D3,al,ag) (fr p3 d3)from eU)
   have HY:=un (show RatS w3 E (A,F,C) (B,G,D) (fr J H)from eV);have gJ:=un (gF.o.trans ((g).mono gF.o.size));obtain⟨oz,n9,oA,oa⟩:=bc2 gG.o;obtain⟨oV,oG,oX,oI⟩:=bc2 gP.o;obtain⟨ph,pf,pi,pg⟩:=bc2 gT.o;obtain⟨mU,mW,mV,mX⟩:=bc2 fS.o;obtain⟨kN,ia,lz,i5⟩:=bc2 fU.o;obtain⟨lE,ja,lK,jg,lQ,jm,lW,iD,lb,iK,lh,iR,ln,iY,lu,iv⟩:=bc8 fX.o;obtain⟨kX,iB,k2,jZ,me,j5⟩:=bc3 KX.o;obtain⟨mi,kb,mn,kh,mr,jx⟩:=bc3 KY.o;clear hX hY eU eV g
   clear n2 nY n3 nZ oe n5 og nV oD oB oE oC aq nh ar nk ao h9 ap i4 lD i9 lJ jf lP jl lV js la iJ lg iQ lm iX lt iu;go_wp2_with fail
   with_reducible refine(Rt.of 1 2 (by decide) (by decide) (by decide) (by decide) (by decide) _).mono ?_
   rintro e w4 ⟨g5,A5,m5,c5,D5,md5,cd5,rfl,hn,hb⟩;have gH:=un (zad hb gG.o);have gI:=un (zad hb gP.o);have gQ:=un (zad hb gT.o);have f7:=un (zad hb fS.o);have fV:=un (zad hb fU.o);have fY:=un (zad hb fX.o);have f0:=un (zad hb KX.o);have f2:=un (zad hb KY.o);have mR:=un (mQ.o.below hb);have mO:=un (mN.o.below hb);have na:=un (HX.o.below hb);have nb:=un (HY.o.below hb);have HF:=un (show RatS w4 g5 (A5,m5,c5) (D5,md5,cd5) (Rat.divInt 1 2)from hn)
   have gN:=un (gJ.o.trans ((hb).mono gJ.o.size));obtain⟨ot,oi,ou,oj⟩:=bc2 gH.o;obtain⟨ox,oo,oy,op⟩:=bc2 gI.o;obtain⟨oZ,oK,o0,oL⟩:=bc2 gQ.o;obtain⟨nn,ni,nr,nl⟩:=bc2 f7.o;obtain⟨kO,ib,lA,i6⟩:=bc2 fV.o;obtain⟨lF,jb,lL,jh,lR,jn,k6,iE,lc,iL,li,iS,lp,iZ,lv,iw⟩:=bc8 fY.o;obtain⟨kY,iC,k3,j0,mf,j6⟩:=bc3 f0.o;obtain⟨mj,kc,mo,ki,ms,jy⟩:=bc3 f2.o;clear hn hb;have aA:=zae w4 (.cells #[g5,(A5,m5,c5),(D5,md5,cd5)] 41);have gK:=un (zad aA gH.o)
   have gM:=un (zad aA gI.o);have gR:=un (zad aA gQ.o);have gz:=un (zad aA f7.o);have fW:=un (zad aA fV.o);have fZ:=un (zad aA fY.o);have f1:=un (zad aA f0.o);have fP:=un (zad aA f2.o);have mS:=un (mR.o.below aA);have mP:=un (mO.o.below aA);have cv:=un (na.o.below aA);have cu:=un (nb.o.below aA);have ec:=un (HF.o.below aA);have gO:=un (gN.o.trans ((aA).mono gN.o.size));obtain⟨ov,ol,ow,om⟩:=bc2 gK.o;obtain⟨oW,oH,oY,oJ⟩:=bc2 gM.o
   obtain⟨o8,oO,pa,oQ⟩:=bc2 gR.o;obtain⟨nT,nR,nU,nS⟩:=bc2 gz.o;obtain⟨kP,ic,lB,i7⟩:=bc2 fW.o;obtain⟨lG,jc,lM,ji,lS,jo,k7,iF,ld,iM,lj,iT,lq,i0,lw,ix⟩:=bc8 fZ.o;obtain⟨cb,jV,cc,j1,cd,j7⟩:=bc3 f1.o;obtain⟨ce,kd,cf,kj,cg,jz⟩:=bc3 fP.o;have KF:=un (zal w4 #[g5,(A5,m5,c5),(D5,md5,cd5)] 41);obtain⟨b7,jD,b8,jH,b9,jL⟩:=bc3 KF.o
   clear oz n9 oA oa oV oG oX oI ph pf pi pg mU mW mV mX kN ia lz i5 lE ja lK jg lQ jm lW iD lb iK lh iR ln iY lu iv kX iB k2 jZ me j5 mi kb mn kh mr jx ot oi ou oj ox oo oy op oZ oK o0 oL nn ni nr nl kO ib lA i6 lF jb lL jh lR jn k6 iE lc iL li iS lp iZ lv iw kY iC k3 j0 mf j6 mj kc mo ki ms jy;go_upto_region 6 with fail
   generalize hwv:(w4.alloc (.cells #[g5,(A5,m5,c5),(D5,md5,cd5)] 41))=v5 at *
   clear hwv;have dP:=un (zH7 b4.o b3.o);have dQ:=un (zH7 aD.o aC.o);have ew:=un (zH7 dR.o dO.o);have ex:=un (zH7 cx.o cw.o);generalize fr p0 d0=lo at *
   generalize fr p1 d1=hi at *
   generalize fr p3 d3=x at *
   generalize fr J H=y at *
   have eA:=un (show mw (x+y)≤3 by have h0:=zrI x y;have h1:=dP.o;have h2:=dQ.o;omega);have ey:=un (show mw (Rat.divInt 1 2)≤1 by decide +kernel);have LA:=un (show 4*(mw x+mw y)+8≤LIM by rw[zaP];have h1:=dP.o;have h2:=dQ.o;omega);have LB:=un (show 4*(mw (Rat.divInt 1 2)+mw (x+y))+8≤LIM by rw[zaP];have h1:=eA.o;have h2:=ey.o;omega);have ez:=un (show mw (Rat.divInt 1 2*(x+y))≤4 by have h0:=zdI (Rat.divInt 1 2) (x+y);have h1:=eA.o;have h2:=ey.o;omega)
   go_cut[16] (fun q_ wz=>∃b,q_=.pointer (some ⟨b,0,none⟩)∧yLP wz b (Rat.divInt 1 2*(x+y))∧Below v5 v5 wz)
   case first =>
    refine zaS (S:=fun w'=>w'.cell? ⟨dU,0,none⟩=some (.bool g3)∧w'.cell? ⟨dU,1,none⟩=some (A3,m3,c3)∧w'.cell? ⟨dU,2,none⟩=some (D3,al,ag)∧w'.cell? ⟨dV,0,none⟩=some (.bool E)∧w'.cell? ⟨dV,1,none⟩=some (A,F,C)∧w'.cell? ⟨dV,2,none⟩=some (B,G,D)∧w'.cell? ⟨w4,0,none⟩=some (.bool g5)∧w'.cell? ⟨w4,1,none⟩=some (A5,m5,c5)∧w'.cell? ⟨w4,2,none⟩=some (D5,md5,cd5)) [6] (h:=fun hHeld=>?_);refine zaw [0,1,2] ?_
    repeat refine tkL (hS:=hHeld) (h:=?_)
    refine zao ?_;refine zme (i:=3) (j:=5) rfl rfl (by kernel_rfl) (fun K a=>?_) (fun K a=>?_)
    ·skip
     go_simp
     (go_at_call 21;(with_reducible refine(Rt.add g3 A3 m3 c3 D3 al ag x E A F C B G D y _ (cv.o.drew) (cu.o.drew) LA.o).mono ?_);rintro e u1 ⟨g6,A6,m6,c6,D6,md6,cd6,rfl,hn,hb⟩;have d:Below v5 v5 u1:=(bdrew (Below.refl v5.heap.size v5)).trans (hb.mono (by have f:=0;(try simp)<;>omega));have l:=un d;have I:=d.size;have bl:=zab d cb;have bm:=zab d cc;have bn:=zab d cd;have bo:=zab d ce;have ed:=zab d cf;have ee:=zab d cg;have mK:=zab d b7;have mL:=zab d b8;have mM:=zab d b9;have z:=un (hn);have dF:=un ((cv.o.drew).below hb);have dL:=un ((cu.o.drew).below hb);have b1:=un ((ec.o.drew).below hb);clear hb d)
     (try go_wp2_with fail)
     refine yYK a fun hHeld=>?_
     clear a K;refine zme (i:=4) (j:=5) rfl rfl (by kernel_rfl) (fun K a=>?_) (fun K a=>?_)
     ·skip
      go_simp
      (go_at_call 15;(with_reducible refine(Rt.mul g5 A5 m5 c5 D5 md5 cd5 (Rat.divInt 1 2) g6 A6 m6 c6 D6 md6 cd6 (x+y) _ b1.o z.o LB.o).mono ?_);rintro e u2 ⟨g7,A7,m7,c7,D7,md7,cd7,rfl,hn,hb⟩;have c:Below v5 v5 u2:=l.o.trans (hb.mono (by have f:=I;(try simp)<;>omega));have m:=un c;have av:=c.size;have au:u1.heap.size+0≤u2.heap.size:=(by have f:=hb.size;(try simp at f);omega);have aw:=zab c cb;have ax:=zab c cc;have ay:=zab c cd;have az:=zab c ce;have cs:=zab c cf;have ct:=zab c cg;have f4:=zab c b7;have f5:=zab c b8;have f6:=zab c b9;have r:=un (hn);have gU:=un (dF.o.below hb);have f9:=un (dL.o.below hb);have gu:=un (b1.o.below hb);have v:=un (z.o.below hb);clear hb c)
      (try go_wp2_with fail)
      refine yYK a fun hHeld=>?_
      clear a K;refine zaB 5 (h:=fun K a=>?_);go_simp;refine yYK a fun hHeld=>?_
      clear a K;refine zay 6 (h:=fun K a=>?_);go_simp;refine yYL a ?_;clear a K;refine zaM (h:=?_);go_wp2;go_meet
      case rel=>exact⟨u2.heap.size,rfl,⟨g7,A7,m7,c7,D7,md7,cd7,zal _ _ _,r.o.alloc _⟩,Below.alloc m.o m.o.size _⟩
     ·skip
      go_simp;refine yYK a fun hHeld=>?_
      clear a K;refine zaB 4 (h:=fun K a=>?_);go_simp
      (go_at_call 15;(with_reducible refine(Rt.mul g5 A5 m5 c5 D5 md5 cd5 (Rat.divInt 1 2) g6 A6 m6 c6 D6 md6 cd6 (x+y) _ (b1.o.alloc _) (z.o.alloc _) LB.o).mono ?_);rintro e u2 ⟨g7,A7,m7,c7,D7,md7,cd7,rfl,hn,hb⟩;have c:Below v5 v5 u2:=(Below.alloc l.o l.o.size _).trans (hb.mono (by have f:=I;(try simp)<;>omega));have m:=un c;have av:=c.size;have au:u1.heap.size+1≤u2.heap.size:=(by have f:=hb.size;(try simp at f);omega);have aw:=zab c cb;have ax:=zab c cc;have ay:=zab c cd;have az:=zab c ce;have cs:=zab c cf;have ct:=zab c cg;have f4:=zab c b7;have f5:=zab c b8;have f6:=zab c b9;have r:=un (hn);have gU:=un ((dF.o.alloc _).below hb);have f9:=un ((dL.o.alloc _).below hb);have gu:=un ((b1.o.alloc _).below hb);have v:=un ((z.o.alloc _).below hb);have k:=un (show u2.heap[u1.heap.size]? = some (.cells #[false,(),()] 41 (0,0))from zad hb (zam (by simp)));obtain⟨ba,a0,a3,a5,bb,a1,a4,a6,bc,a2,a9,a7⟩:=bf3 k.o;have bd:=(Array.getElem?_eq_some_iff.1 k.o).1;clear hb c)
      (try go_wp2_with fail)
      refine yYK a fun hHeld=>?_
      clear a K;refine zay 6 (h:=fun K a=>?_);go_simp;refine yYL a ?_;clear a K;refine zaM (h:=?_);go_wp2;go_meet;have k1:=rk3 k.o 0 1 2 g7 (A7,m7,c7) (D7,md7,cd7)
      case rel=>exact⟨u1.heap.size,rfl,⟨g7,A7,m7,c7,D7,md7,cd7,zar _ (zar _ (zar _ k.o)),r.o.keepT k1⟩,(bsc (p:=⟨u1,2,none⟩) (bsc (p:=⟨u1,1,none⟩) (bsc (p:=⟨u1,0,none⟩) m.o l.o.size) l.o.size) l.o.size)⟩
    ·skip
     go_simp;refine yYK a fun hHeld=>?_
     clear a K;refine zaB 3 (h:=fun K a=>?_);go_simp
     (go_at_call 21;(with_reducible refine(Rt.add g3 A3 m3 c3 D3 al ag x E A F C B G D y _ ((cv.o.alloc _).drew) ((cu.o.alloc _).drew) LA.o).mono ?_);rintro e u1 ⟨g6,A6,m6,c6,D6,md6,cd6,rfl,hn,hb⟩;have d:Below v5 v5 u1:=(bdrew (Below.alloc (Below.refl v5.heap.size v5) (Nat.le_refl _) _)).trans (hb.mono (by have f:=0;(try simp)<;>omega));have l:=un d;have I:=d.size;have cr:v5.heap.size+1≤u1.heap.size:=(by have f:=hb.size;(try simp at f);omega);have bl:=zab d cb;have bm:=zab d cc;have bn:=zab d cd;have bo:=zab d ce;have ed:=zab d cf;have ee:=zab d cg;have mK:=zab d b7;have mL:=zab d b8;have mM:=zab d b9;have z:=un (hn);have dF:=un (((cv.o.alloc _).drew).below hb);have dL:=un (((cu.o.alloc _).drew).below hb);have b1:=un (((ec.o.alloc _).drew).below hb);have be:=un (show u1.heap[v5.heap.size]? = some (.cells #[false,(),()] 41 (0,0))from zad hb (show(v5.alloc (.cells #[false,(),()] 41)).heap[v5.heap.size]? = _ from zam (by simp)));clear hb d)
     (try go_wp2_with fail)
     refine yYK a fun hHeld=>?_
     clear a K;refine zaB 4 (h:=fun K a=>?_);go_simp
     (go_at_call 15;(with_reducible refine(Rt.mul g5 A5 m5 c5 D5 md5 cd5 (Rat.divInt 1 2) g6 A6 m6 c6 D6 md6 cd6 (x+y) _ b1.o z.o LB.o).mono ?_);rintro e u2 ⟨g7,A7,m7,c7,D7,md7,cd7,rfl,hn,hb⟩;have c:Below v5 v5 u2:=l.o.trans (hb.mono (by have f:=I;(try simp)<;>omega));have m:=un c;have av:=c.size;have au:u1.heap.size+0≤u2.heap.size:=(by have f:=hb.size;(try simp at f);omega);have aw:=zab c cb;have ax:=zab c cc;have ay:=zab c cd;have az:=zab c ce;have cs:=zab c cf;have ct:=zab c cg;have f4:=zab c b7;have f5:=zab c b8;have f6:=zab c b9;have r:=un (hn);have gU:=un (dF.o.below hb);have f9:=un (dL.o.below hb);have gu:=un (b1.o.below hb);have v:=un (z.o.below hb);have k:=un (zad hb (be.o));obtain⟨ba,a0,a3,a5,bb,a1,a4,a6,bc,a2,a9,a7⟩:=bf3 k.o;have bd:=(Array.getElem?_eq_some_iff.1 k.o).1;clear hb c)
     (try go_wp2_with fail)
     refine yYK a fun hHeld=>?_
     clear a K;refine zay 6 (h:=fun K a=>?_);go_simp;refine yYL a ?_;clear a K;refine zaM (h:=?_);go_wp2;go_meet;have k1:=rk3 k.o 0 1 2 g7 (A7,m7,c7) (D7,md7,cd7)
     case rel=>exact⟨v5.heap.size,rfl,⟨g7,A7,m7,c7,D7,md7,cd7,zar _ (zar _ (zar _ k.o)),r.o.keepT k1⟩,(bsc (p:=⟨v5,2,none⟩) (bsc (p:=⟨v5,1,none⟩) (bsc (p:=⟨v5,0,none⟩) m.o (Nat.le_refl _)) (Nat.le_refl _)) (Nat.le_refl _))⟩
   case rest =>
    rename World=>w6
    obtain⟨po,rfl,⟨g8,A8,m8,c8,D8,e7,eO,hM,eT⟩,g⟩:=hcut;have KM:=un hM;have ep:=un (zad g gK.o);have er:=un (zad g gM.o);have eq:=un (zad g gR.o);have ei:=un (zad g gz.o);have d7:=un (zad g fW.o);have d8:=un (zad g fZ.o);have d9:=un (zad g f1.o);have ea:=un (zad g fP.o);have eb:=un (zad g KF.o);have eg:=un (mS.o.below g);have ef:=un (mP.o.below g);have eh:=un (cv.o.below g);have f8:=un (cu.o.below g);have f3:=un (ec.o.below g)
    have HM:=un (show RatS w6 g8 (A8,m8,c8) (D8,e7,eO) (Rat.divInt 1 2*(x+y))from eT);have dG:=un (gO.o.trans ((g).mono gO.o.size));obtain⟨oT,oM,oU,oF⟩:=bc2 ep.o;obtain⟨pb,o1,pc,o2⟩:=bc2 er.o;obtain⟨pd,o3,pe,o4⟩:=bc2 eq.o;obtain⟨m0,mY,m9,mZ⟩:=bc2 ei.o;obtain⟨kQ,ie,lC,i8⟩:=bc2 d7.o;obtain⟨lH,jd,lN,jj,lT,jp,k8,iG,le,iN,lk,iU,lr,i1,kV,iy⟩:=bc8 d8.o;obtain⟨kZ,jW,k4,j2,mg,j8⟩:=bc3 d9.o;obtain⟨ml,ke,mp,kk,mt,jA⟩:=bc3 ea.o;obtain⟨mv,jE,my,jI,mA,jM⟩:=bc3 eb.o
    obtain⟨mC,jP,mE,jS,l7,jt⟩:=bc3 KM.o;clear hM eT g;clear ov ol ow om oW oH oY oJ o8 oO pa oQ nT nR nU nS kP ic lB i7 lG jc lM ji lS jo k7 iF ld iM lj iT lq i0 lw ix cb jV cc j1 cd j7 ce kd cf kj cg jz b7 jD b8 jH b9 jL;have LG:=un (show ∀q,mw q≤4→4*(mw q+mw lo)+8≤LIM from fun q h=>by rw[zaP];have h1:=ew.o;omega);have LH:=un (show ∀q,mw q≤4→4*(mw q+mw hi)+8≤LIM from fun q h=>by rw[zaP];have h1:=ex.o;omega);generalize hmm:Rat.divInt 1 2*(x+y)=mid at *
    have gY:=un hmm.symm;clear hmm;have cy:=un (Nat.le_trans dP.o (show 1≤4 by decide));have eB:=un (Nat.le_trans dQ.o (show 1≤4 by decide));have bv:=un (Nat.le_trans ew.o (show 1≤4 by decide));have b5:=un (Nat.le_trans ex.o (show 1≤4 by decide));go_upto_region 7 with fail
    have gZ:=un (Bel.mk (Below.refl w6.heap.size w6));go_cut[55] (fun q_ wz=>q_=false∧Below w6 w6 wz)
    case first =>
     go_wp2_with fail
     with_reducible refine(Ra.holds g1 V m1 Y X ac Z R L T N M U O s t g3 A3 m3 c3 D3 al ag lo hi x _ eg.o ef.o eh.o (LG.o _ cy.o) (LH.o _ cy.o)).mono ?_
     rintro e v1 ⟨rfl,hb⟩;have bs:=un (zad hb ep.o);have bt:=un (zad hb er.o);have bu:=un (zad hb eq.o);have br:=un (zad hb ei.o);have bf:=un (zad hb d7.o);have bg:=un (zad hb d8.o);have bh:=un (zad hb d9.o);have bi:=un (zad hb ea.o);have bj:=un (zad hb eb.o);have bk:=un (zad hb KM.o);have aL:=un (eg.o.below hb);have aK:=un (ef.o.below hb);have bV:=un (eh.o.below hb);have bW:=un (f8.o.below hb);have ci:=un (f3.o.below hb)
     have cj:=un (HM.o.below hb);have fQ:=un (gZ.o.below hb);have aV:=un (dG.o.trans ((hb).mono dG.o.size));obtain⟨o5,oR,o6,oS⟩:=bc2 bs.o;obtain⟨nc,pk,nd,pl⟩:=bc2 bt.o;obtain⟨ne,pm,nf,pj⟩:=bc2 bu.o;obtain⟨ns,nu,nt,nv⟩:=bc2 br.o;obtain⟨hp,hk,hr,hl⟩:=bc2 bf.o;obtain⟨lI,je,lO,jk,lU,jq,k9,iH,lf,iO,ll,iV,ls,i2,kW,iz⟩:=bc8 bg.o;obtain⟨k0,jX,k5,j3,mh,j9⟩:=bc3 bh.o;obtain⟨mm,kf,mq,jv,mu,jB⟩:=bc3 bi.o;obtain⟨mx,jF,mz,jJ,mB,jN⟩:=bc3 bj.o;obtain⟨mD,jQ,mF,jT,l8,ju⟩:=bc3 bk.o
     clear hb;cases hx_:yJO s t lo hi x
     ·skip
      go_wp2;go_meet
      case rel=>exact⟨rfl,fQ.o.b⟩
     ·skip
      go_wp2_with fail
      with_reducible refine(Ra.holds g1 V m1 Y X ac Z R L T N M U O s t E A F C B G D lo hi y _ aL.o aK.o bW.o (LG.o _ eB.o) (LH.o _ eB.o)).mono ?_
      rintro e v2 ⟨rfl,hb⟩;have aQ:=un (zad hb bs.o);have aN:=un (zad hb bt.o);have aO:=un (zad hb bu.o);have aP:=un (zad hb br.o);have aM:=un (zad hb bf.o);have aH:=un (zad hb bg.o);have aI:=un (zad hb bh.o);have aJ:=un (zad hb bi.o);have aE:=un (zad hb bj.o);have aF:=un (zad hb bk.o);have aG:=un (aL.o.below hb);have aZ:=un (aK.o.below hb);have bT:=un (bV.o.below hb);have bU:=un (bW.o.below hb);have bS:=un (ci.o.below hb)
      have bq:=un (cj.o.below hb);have fR:=un (fQ.o.below hb);have aB:=un (aV.o.trans ((hb).mono aV.o.size));obtain⟨dH,dI,dJ,dK⟩:=bc2 aQ.o;obtain⟨du,dM,dv,dN⟩:=bc2 aN.o;obtain⟨dy,dw,dz,dx⟩:=bc2 aO.o;obtain⟨dA,dC,dB,dD⟩:=bc2 aP.o;obtain⟨cB,ds,cA,dt⟩:=bc2 aM.o;obtain⟨dc,cC,dd,cD,de,cE,df,cF,dg,cG,dh,cH,di,cI,dj,cJ⟩:=bc8 aH.o;obtain⟨dk,cK,dl,cL,dm,cM⟩:=bc3 aI.o;obtain⟨dn,cN,cW,cO,cX,cP⟩:=bc3 aJ.o;obtain⟨cY,cQ,cZ,cR,c0,cS⟩:=bc3 aE.o;obtain⟨c9,cT,da,cU,db,cV⟩:=bc3 aF.o
      clear hb;cases hy_:yJO s t lo hi y
      ·skip
       go_wp2;go_meet
       case rel=>exact⟨rfl,fR.o.b⟩
      ·skip
       go_wp2_with fail
       with_reducible refine(Ra.holds g1 V m1 Y X ac Z R L T N M U O s t g8 A8 m8 c8 D8 e7 eO lo hi mid _ aG.o aZ.o bq.o (LG.o _ ez.o) (LH.o _ ez.o)).mono ?_
       rintro e v3 ⟨rfl,hb⟩;have bX:=un (zad hb aQ.o);have bY:=un (zad hb aN.o);have bZ:=un (zad hb aO.o);have b0:=un (zad hb aP.o);have b2:=un (zad hb aM.o);have bM:=un (zad hb aH.o);have bN:=un (zad hb aI.o);have bO:=un (zad hb aJ.o);have bP:=un (zad hb aE.o);have bQ:=un (zad hb aF.o);have ch:=un (aG.o.below hb);have bp:=un (aZ.o.below hb);have dr:=un (bT.o.below hb);have dq:=un (bU.o.below hb);have dp:=un (bS.o.below hb)
       have dE:=un (bq.o.below hb);have mJ:=un (fR.o.below hb);have ck:=un (aB.o.trans ((hb).mono aB.o.size));obtain⟨gi,ge,gj,gf⟩:=bc2 bX.o;obtain⟨gl,gg,gm,gh⟩:=bc2 bY.o;obtain⟨gn,gb,gp,gc⟩:=bc2 bZ.o;obtain⟨gs,gq,gt,gr⟩:=bc2 b0.o;obtain⟨gx,gv,gy,gw⟩:=bc2 b2.o;obtain⟨fd,fa,fe,fb,ff,fc,fA,fg,fB,fh,fC,fi,fD,fj,fE,fk⟩:=bc8 bM.o;obtain⟨fF,fl,fG,fm,fH,fn⟩:=bc3 bN.o;obtain⟨fI,fo,fJ,fp,fK,fq⟩:=bc3 bO.o;obtain⟨fL,fs,fM,ft,fN,fu⟩:=bc3 bP.o;obtain⟨fO,fv,fy,fw,fz,fx⟩:=bc3 bQ.o
       clear hb;have hc:yJO s t lo hi mid=true:=by rw[gY.o];exact yNy hx_ hy_
       rw[hc];go_wp2;go_meet
       case rel=>exact⟨rfl,mJ.o.b⟩
    case rest =>
     rename World=>w7
     obtain⟨rfl,g⟩:=hcut;have bs:=un (zad g ep.o);have bt:=un (zad g er.o);have bu:=un (zad g eq.o);have br:=un (zad g ei.o);have bf:=un (zad g d7.o);have bg:=un (zad g d8.o);have bh:=un (zad g d9.o);have bi:=un (zad g ea.o);have bj:=un (zad g eb.o);have bk:=un (zad g KM.o);have aL:=un (eg.o.below g);have aK:=un (ef.o.below g);have bV:=un (eh.o.below g);have bW:=un (f8.o.below g);have ci:=un (f3.o.below g);have cj:=un (HM.o.below g)
     have aV:=un (dG.o.trans ((g).mono dG.o.size));obtain⟨o5,oR,o6,oS⟩:=bc2 bs.o;obtain⟨nc,pk,nd,pl⟩:=bc2 bt.o;obtain⟨ne,pm,nf,pj⟩:=bc2 bu.o;obtain⟨ns,nu,nt,nv⟩:=bc2 br.o;obtain⟨hp,hk,hr,hl⟩:=bc2 bf.o;obtain⟨lI,je,lO,jk,lU,jq,k9,iH,lf,iO,ll,iV,ls,i2,kW,iz⟩:=bc8 bg.o;obtain⟨k0,jX,k5,j3,mh,j9⟩:=bc3 bh.o;obtain⟨mm,kf,mq,jv,mu,jB⟩:=bc3 bi.o;obtain⟨mx,jF,mz,jJ,mB,jN⟩:=bc3 bj.o;obtain⟨mD,jQ,mF,jT,l8,ju⟩:=bc3 bk.o;clear g
     clear oT oM oU oF pb o1 pc o2 pd o3 pe o4 m0 mY m9 mZ kQ ie lC i8 lH jd lN jj lT jp k8 iG le iN lk iU lr i1 kV iy kZ jW k4 j2 mg j8 ml ke mp kk mt jA mv jE my jI mA jM mC jP mE jS l7 jt;cases s<;>cases t
     ·skip
      go_wp2_with fail
      with_reducible refine(Ra.holds g1 V m1 Y X ac Z R L T N M U O false false g3 A3 m3 c3 D3 al ag lo hi x _ aL.o aK.o bV.o (LG.o _ cy.o) (LH.o _ cy.o)).mono ?_
      rintro e v1 ⟨rfl,hb⟩;have aQ:=un (zad hb bs.o);have aN:=un (zad hb bt.o);have aO:=un (zad hb bu.o);have aP:=un (zad hb br.o);have aM:=un (zad hb bf.o);have aH:=un (zad hb bg.o);have aI:=un (zad hb bh.o);have aJ:=un (zad hb bi.o);have aE:=un (zad hb bj.o);have aF:=un (zad hb bk.o);have aG:=un (aL.o.below hb);have aZ:=un (aK.o.below hb);have bT:=un (bV.o.below hb);have bU:=un (bW.o.below hb);have bS:=un (ci.o.below hb)
      have bq:=un (cj.o.below hb);have aB:=un (aV.o.trans ((hb).mono aV.o.size));obtain⟨dH,dI,dJ,dK⟩:=bc2 aQ.o;obtain⟨du,dM,dv,dN⟩:=bc2 aN.o;obtain⟨dy,dw,dz,dx⟩:=bc2 aO.o;obtain⟨dA,dC,dB,dD⟩:=bc2 aP.o;obtain⟨cB,ds,cA,dt⟩:=bc2 aM.o;obtain⟨dc,cC,dd,cD,de,cE,df,cF,dg,cG,dh,cH,di,cI,dj,cJ⟩:=bc8 aH.o;obtain⟨dk,cK,dl,cL,dm,cM⟩:=bc3 aI.o;obtain⟨dn,cN,cW,cO,cX,cP⟩:=bc3 aJ.o;obtain⟨cY,cQ,cZ,cR,c0,cS⟩:=bc3 aE.o;obtain⟨c9,cT,da,cU,db,cV⟩:=bc3 aF.o;clear hb
      rw[show yJO false false lo hi x=true from rfl];go_wp2;go_ret
      exact⟨rfl,aB.o⟩
     ·skip
      go_wp2_with fail
      with_reducible refine(Ra.holds g1 V m1 Y X ac Z R L T N M U O false true R L T N M U O lo hi hi _ aL.o aK.o aK.o (LG.o _ b5.o) (LH.o _ b5.o)).mono ?_
      rintro e v1 ⟨rfl,hb⟩;have aQ:=un (zad hb bs.o);have aN:=un (zad hb bt.o);have aO:=un (zad hb bu.o);have aP:=un (zad hb br.o);have aM:=un (zad hb bf.o);have aH:=un (zad hb bg.o);have aI:=un (zad hb bh.o);have aJ:=un (zad hb bi.o);have aE:=un (zad hb bj.o);have aF:=un (zad hb bk.o);have aG:=un (aL.o.below hb);have aZ:=un (aK.o.below hb);have bT:=un (bV.o.below hb);have bU:=un (bW.o.below hb);have bS:=un (ci.o.below hb)
      have bq:=un (cj.o.below hb);have aB:=un (aV.o.trans ((hb).mono aV.o.size));obtain⟨dH,dI,dJ,dK⟩:=bc2 aQ.o;obtain⟨du,dM,dv,dN⟩:=bc2 aN.o;obtain⟨dy,dw,dz,dx⟩:=bc2 aO.o;obtain⟨dA,dC,dB,dD⟩:=bc2 aP.o;obtain⟨cB,ds,cA,dt⟩:=bc2 aM.o;obtain⟨dc,cC,dd,cD,de,cE,df,cF,dg,cG,dh,cH,di,cI,dj,cJ⟩:=bc8 aH.o;obtain⟨dk,cK,dl,cL,dm,cM⟩:=bc3 aI.o;obtain⟨dn,cN,cW,cO,cX,cP⟩:=bc3 aJ.o;obtain⟨cY,cQ,cZ,cR,c0,cS⟩:=bc3 aE.o;obtain⟨c9,cT,da,cU,db,cV⟩:=bc3 aF.o;clear hb
      rw[show yJO false true lo hi hi=true by simp[yJO,Rat.lt_irrefl]];go_wp2;go_ret
      exact⟨rfl,aB.o⟩
     ·skip
      go_wp2_with fail
      with_reducible refine(Ra.holds g1 V m1 Y X ac Z R L T N M U O true false g1 V m1 Y X ac Z lo hi lo _ aL.o aK.o aL.o (LG.o _ bv.o) (LH.o _ bv.o)).mono ?_
      rintro e v1 ⟨rfl,hb⟩;have aQ:=un (zad hb bs.o);have aN:=un (zad hb bt.o);have aO:=un (zad hb bu.o);have aP:=un (zad hb br.o);have aM:=un (zad hb bf.o);have aH:=un (zad hb bg.o);have aI:=un (zad hb bh.o);have aJ:=un (zad hb bi.o);have aE:=un (zad hb bj.o);have aF:=un (zad hb bk.o);have aG:=un (aL.o.below hb);have aZ:=un (aK.o.below hb);have bT:=un (bV.o.below hb);have bU:=un (bW.o.below hb);have bS:=un (ci.o.below hb)
      have bq:=un (cj.o.below hb);have aB:=un (aV.o.trans ((hb).mono aV.o.size));obtain⟨dH,dI,dJ,dK⟩:=bc2 aQ.o;obtain⟨du,dM,dv,dN⟩:=bc2 aN.o;obtain⟨dy,dw,dz,dx⟩:=bc2 aO.o;obtain⟨dA,dC,dB,dD⟩:=bc2 aP.o;obtain⟨cB,ds,cA,dt⟩:=bc2 aM.o;obtain⟨dc,cC,dd,cD,de,cE,df,cF,dg,cG,dh,cH,di,cI,dj,cJ⟩:=bc8 aH.o;obtain⟨dk,cK,dl,cL,dm,cM⟩:=bc3 aI.o;obtain⟨dn,cN,cW,cO,cX,cP⟩:=bc3 aJ.o;obtain⟨cY,cQ,cZ,cR,c0,cS⟩:=bc3 aE.o;obtain⟨c9,cT,da,cU,db,cV⟩:=bc3 aF.o;clear hb
      rw[show yJO true false lo hi lo=true by simp[yJO,Rat.lt_irrefl]];go_wp2;go_ret
      exact⟨rfl,aB.o⟩
     ·skip
      go_wp2_with fail
      with_reducible refine(Rt.cmpr g1 V m1 Y X ac Z lo R L T N M U O hi _ aL.o aK.o (LH.o _ bv.o)).mono ?_
      rintro e v1 ⟨rfl,hb⟩;have aQ:=un (zad hb bs.o);have aN:=un (zad hb bt.o);have aO:=un (zad hb bu.o);have aP:=un (zad hb br.o);have aM:=un (zad hb bf.o);have aH:=un (zad hb bg.o);have aI:=un (zad hb bh.o);have aJ:=un (zad hb bi.o);have aE:=un (zad hb bj.o);have aF:=un (zad hb bk.o);have aG:=un (aL.o.below hb);have aZ:=un (aK.o.below hb);have bT:=un (bV.o.below hb);have bU:=un (bW.o.below hb);have bS:=un (ci.o.below hb)
      have bq:=un (cj.o.below hb);have aB:=un (aV.o.trans ((hb).mono aV.o.size));obtain⟨dH,dI,dJ,dK⟩:=bc2 aQ.o;obtain⟨du,dM,dv,dN⟩:=bc2 aN.o;obtain⟨dy,dw,dz,dx⟩:=bc2 aO.o;obtain⟨dA,dC,dB,dD⟩:=bc2 aP.o;obtain⟨cB,ds,cA,dt⟩:=bc2 aM.o;obtain⟨dc,cC,dd,cD,de,cE,df,cF,dg,cG,dh,cH,di,cI,dj,cJ⟩:=bc8 aH.o;obtain⟨dk,cK,dl,cL,dm,cM⟩:=bc3 aI.o;obtain⟨dn,cN,cW,cO,cX,cP⟩:=bc3 aJ.o;obtain⟨cY,cQ,cZ,cR,c0,cS⟩:=bc3 aE.o;obtain⟨c9,cT,da,cU,db,cV⟩:=bc3 aF.o;clear hb;by_cases hq:hi<lo
      ·have hd:decide (zlX lo hi≤0)=false:=decide_eq_false fun e=>by have f:=(yKt lo hi).2 hq;omega
       go_wp2_with fail
       with_reducible refine(Ra.holds g1 V m1 Y X ac Z R L T N M U O true true g1 V m1 Y X ac Z lo hi lo _ aG.o aZ.o aG.o (LG.o _ bv.o) (LH.o _ bv.o)).mono ?_
       rintro e v2 ⟨rfl,hb⟩;have bX:=un (zad hb aQ.o);have bY:=un (zad hb aN.o);have bZ:=un (zad hb aO.o);have b0:=un (zad hb aP.o);have b2:=un (zad hb aM.o);have bM:=un (zad hb aH.o);have bN:=un (zad hb aI.o);have bO:=un (zad hb aJ.o);have bP:=un (zad hb aE.o);have bQ:=un (zad hb aF.o);have ch:=un (aG.o.below hb);have bp:=un (aZ.o.below hb);have dr:=un (bT.o.below hb);have dq:=un (bU.o.below hb);have dp:=un (bS.o.below hb)
       have dE:=un (bq.o.below hb);have ck:=un (aB.o.trans ((hb).mono aB.o.size));obtain⟨gi,ge,gj,gf⟩:=bc2 bX.o;obtain⟨gl,gg,gm,gh⟩:=bc2 bY.o;obtain⟨gn,gb,gp,gc⟩:=bc2 bZ.o;obtain⟨gs,gq,gt,gr⟩:=bc2 b0.o;obtain⟨gx,gv,gy,gw⟩:=bc2 b2.o;obtain⟨fd,fa,fe,fb,ff,fc,fA,fg,fB,fh,fC,fi,fD,fj,fE,fk⟩:=bc8 bM.o;obtain⟨fF,fl,fG,fm,fH,fn⟩:=bc3 bN.o;obtain⟨fI,fo,fJ,fp,fK,fq⟩:=bc3 bO.o;obtain⟨fL,fs,fM,ft,fN,fu⟩:=bc3 bP.o;obtain⟨fO,fv,fy,fw,fz,fx⟩:=bc3 bQ.o;clear hb
       rw[show yJO true true lo hi lo=false by simp[yJO,Rat.lt_irrefl,hq]];go_wp2_with fail
       with_reducible refine(Ra.holds g1 V m1 Y X ac Z R L T N M U O true true R L T N M U O lo hi hi _ ch.o bp.o bp.o (LG.o _ b5.o) (LH.o _ b5.o)).mono ?_
       rintro e v3 ⟨rfl,hb⟩;have el:=un (zad hb bX.o);have em:=un (zad hb bY.o);have en:=un (zad hb bZ.o);have ek:=un (zad hb b0.o);have eo:=un (zad hb b2.o);have dX:=un (zad hb bM.o);have dY:=un (zad hb bN.o);have dZ:=un (zad hb bO.o);have d2:=un (zad hb bP.o);have d5:=un (zad hb bQ.o);have mI:=un (ch.o.below hb);have mH:=un (bp.o.below hb);have hs:=un (dr.o.below hb);have mT:=un (dq.o.below hb);have hE:=un (dp.o.below hb)
       have nN:=un (dE.o.below hb);have ej:=un (ck.o.trans ((hb).mono ck.o.size));obtain⟨nw,nD,nx,nE⟩:=bc2 el.o;obtain⟨ny,nF,nz,nG⟩:=bc2 em.o;obtain⟨nA,nH,nB,nI⟩:=bc2 en.o;obtain⟨nC,nJ,nL,nK⟩:=bc2 ek.o;obtain⟨nO,nP,nM,nQ⟩:=bc2 eo.o;obtain⟨hj,hf,hm,hg,ho,hh,jr,hI,iI,hJ,iP,hN,iW,hO,ir,ht⟩:=bc8 dX.o;obtain⟨iA,hu,jY,hv,j4,hw⟩:=bc3 dY.o;obtain⟨ka,hx,kg,hy,jw,hz⟩:=bc3 dZ.o;obtain⟨jC,hA,jG,hC,jK,hD⟩:=bc3 d2.o;obtain⟨jO,hZ,jR,h3,jU,h4⟩:=bc3 d5.o;clear hb
       rw[show yJO true true lo hi hi=false by simp[yJO,Rat.lt_irrefl,hq]];go_wp2;go_ret
       exact⟨rfl,ej.o⟩
      ·have hd:decide (zlX lo hi≤0)=true:=decide_eq_true (by have f:¬0<zlX lo hi:=fun e=>hq ((yKt lo hi).1 e);omega);go_wp2_with fail
       with_reducible refine(Ra.holds g1 V m1 Y X ac Z R L T N M U O true true g1 V m1 Y X ac Z lo hi lo _ aG.o aZ.o aG.o (LG.o _ bv.o) (LH.o _ bv.o)).mono ?_
       rintro e v2 ⟨rfl,hb⟩;have bX:=un (zad hb aQ.o);have bY:=un (zad hb aN.o);have bZ:=un (zad hb aO.o);have b0:=un (zad hb aP.o);have b2:=un (zad hb aM.o);have bM:=un (zad hb aH.o);have bN:=un (zad hb aI.o);have bO:=un (zad hb aJ.o);have bP:=un (zad hb aE.o);have bQ:=un (zad hb aF.o);have ch:=un (aG.o.below hb);have bp:=un (aZ.o.below hb);have dr:=un (bT.o.below hb);have dq:=un (bU.o.below hb);have dp:=un (bS.o.below hb)
       have dE:=un (bq.o.below hb);have ck:=un (aB.o.trans ((hb).mono aB.o.size));obtain⟨gi,ge,gj,gf⟩:=bc2 bX.o;obtain⟨gl,gg,gm,gh⟩:=bc2 bY.o;obtain⟨gn,gb,gp,gc⟩:=bc2 bZ.o;obtain⟨gs,gq,gt,gr⟩:=bc2 b0.o;obtain⟨gx,gv,gy,gw⟩:=bc2 b2.o;obtain⟨fd,fa,fe,fb,ff,fc,fA,fg,fB,fh,fC,fi,fD,fj,fE,fk⟩:=bc8 bM.o;obtain⟨fF,fl,fG,fm,fH,fn⟩:=bc3 bN.o;obtain⟨fI,fo,fJ,fp,fK,fq⟩:=bc3 bO.o;obtain⟨fL,fs,fM,ft,fN,fu⟩:=bc3 bP.o;obtain⟨fO,fv,fy,fw,fz,fx⟩:=bc3 bQ.o;clear hb
       rw[show yJO true true lo hi lo=true by simp[yJO,Rat.lt_irrefl,hq]];go_wp2_with fail
       with_reducible refine(Ra.holds g1 V m1 Y X ac Z R L T N M U O true true R L T N M U O lo hi hi _ ch.o bp.o bp.o (LG.o _ b5.o) (LH.o _ b5.o)).mono ?_
       rintro e v3 ⟨rfl,hb⟩;have el:=un (zad hb bX.o);have em:=un (zad hb bY.o);have en:=un (zad hb bZ.o);have ek:=un (zad hb b0.o);have eo:=un (zad hb b2.o);have dX:=un (zad hb bM.o);have dY:=un (zad hb bN.o);have dZ:=un (zad hb bO.o);have d2:=un (zad hb bP.o);have d5:=un (zad hb bQ.o);have mI:=un (ch.o.below hb);have mH:=un (bp.o.below hb);have hs:=un (dr.o.below hb);have mT:=un (dq.o.below hb);have hE:=un (dp.o.below hb)
       have nN:=un (dE.o.below hb);have ej:=un (ck.o.trans ((hb).mono ck.o.size));obtain⟨nw,nD,nx,nE⟩:=bc2 el.o;obtain⟨ny,nF,nz,nG⟩:=bc2 em.o;obtain⟨nA,nH,nB,nI⟩:=bc2 en.o;obtain⟨nC,nJ,nL,nK⟩:=bc2 ek.o;obtain⟨nO,nP,nM,nQ⟩:=bc2 eo.o;obtain⟨hj,hf,hm,hg,ho,hh,jr,hI,iI,hJ,iP,hN,iW,hO,ir,ht⟩:=bc8 dX.o;obtain⟨iA,hu,jY,hv,j4,hw⟩:=bc3 dY.o;obtain⟨ka,hx,kg,hy,jw,hz⟩:=bc3 dZ.o;obtain⟨jC,hA,jG,hC,jK,hD⟩:=bc3 d2.o;obtain⟨jO,hZ,jR,h3,jU,h4⟩:=bc3 d5.o;clear hb
       rw[show yJO true true lo hi hi=true by simp[yJO,Rat.lt_irrefl,hq]];go_wp2;go_ret
       exact⟨rfl,ej.o⟩
