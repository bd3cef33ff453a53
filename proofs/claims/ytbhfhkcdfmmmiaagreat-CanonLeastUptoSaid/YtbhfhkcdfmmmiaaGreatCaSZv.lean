/- Contracts and lemmas: CaS CaF. Conditions: as each says. -/
import Derived.Test.YtbhfhkcdfmmmiaaGreatCaAZv
set_option linter.all false
set_option maxHeartbeats 2000000
set_option maxRecDepth 100000
namespace Go.Proofs.YtbhfhkcdfmmmiaaGreat
open Go.RowKit Am Go.Proofs.Tryz
open Pr (zYk pfeasible pmay prun)
attribute [local go_sem ↓] Go.wp_at_zero Go.wp_at_succ
variable {A:List (List Rat)}{b c:List Rat}{B N own:Nat}{r:RunOut}
theorem ytr{m a n:Nat}{s:RunOut}{d:(List Nat × Nat) × Bool}{l:LexOut}(hN:N+m=a)(hr:pivs (zBX a (zt0 A b) (zwh b) (zJG N m) (zKc N m)) B (zKa N m)=r)
  (k:zSz N a (zt0 A b) (B-r.n) m 0 (r.cols,0)=d) (p:r.n+d.1.2=n) (q:pivs (zBX a (zt0 A b) (zwh b) (zKb m c) (zKc N m)) (B-n) d.1.1=s)
  (o:ys2 a (zt0 A b) (zwh b) (B-(n+s.n)) (ys5 a own 0) (ys7 (zaC a (zt0 A b) s.cols (zKb m c)) (zKc N m)) s.cols 0=l) :
  (r.err=true→ys3 N m own A b c B=.spent r.n)∧(r.err=false→0<zSB N m A b r.cols→ys3 N m own A b c B=.none r.n) ∧
  (r.err=false→¬0<zSB N m A b r.cols→(d.2=true→ys3 N m own A b c B=.spent n)∧(d.2=false→(s.err=true→ys3 N m own A b c B=.spent (n+s.n)) ∧
   (∀j,s.err=false→s.at_=some j→ys3 N m own A b c B=.falls (n+s.n))∧(s.err=false→s.at_=none→ys3 N m own A b c B=yth (n+s.n) s.cols l))):=by
 subst hN p;unfold ys3;simp only[hr,k,q,o];exact⟨fun h=>by rw[if_pos h],fun h e=>by rw[h,if_pos e];rfl,fun h e=>⟨fun f=>by rw[h,if_neg e,if_pos f];rfl,fun f=>⟨fun g=>by rw[h,if_neg e,f,if_pos g];rfl,fun j g i=>by rw[h,if_neg e,f,g,i];rfl,fun g i=>by rw[h,if_neg e,f,g,i];rfl⟩⟩⟩
namespace Ca
theorem solve(S:Nat)(C:OA)(nC H:Nat)(R:OA)(m I:Nat)(cost:List Rat)(rows:List PRow)(N a B:Nat)(w:World)(hc:VecS w 0 (C,nC,H) cost)(hr:RowsS w 0 (R,m,I) rows)(hg:GoodS S nC m cost rows)(hN:nC+cnt rows m=N)(ad:N+m=a)(t:B≤1000000) :
  Calls prog 16 #[.agg #[(C,nC,H),(R,m,I)],(B:Int)] w (ytb w nC a (zt0 (zc3 rows) (zg8 rows)) (zwh (zg8 rows)) cost B (ytJ N) (ys3 N m nC (zc3 rows) (zg8 rows) (zjD cost rows) B)):=by
 have Z:=un hg;have HN:=un hN;have T:=un ad;have jF:=zgO rows m;have jH:=hg.hr;have jE:=hg.hc;have ba:a≤64:=by omega
 have bW:=un (show Rows nC rows from fun p x=>⟨(hg.rw_ p x).1,fun q hq=>Nat.le_trans ((hg.rw_ p x).2.1 q hq) hg.hS,Nat.le_trans (hg.rw_ p x).2.2 hg.hS⟩);have aA:=un hg.cap;have a4:=un hg.sb;have bP:=un (show zsn a N=zKc N m by rw[←ad,zUB]);have bY:=un (show Sm cost from fun q hq=>Nat.le_trans (hg.sc q hq) hg.hS);have H8:=un (show 8*S+8≤LIM by rw[zaP];have:=hg.hS;omega);have aY:=un t
 have bU:=un (show Rect m N (zc3 rows)by have:=zlk (n:=nC) (rows:=rows) fun k hk=>(hg.rw_ _ (List.mem_of_getElem? (zaO hk))).1;rw[←hr.len,hN]at this;exact this);have bN:=un (show(zg8 rows).length=m by rw[zxG,←hr.len]);obtain⟨r,af⟩:∃r,pivs (zBX a (zt0 (zc3 rows) (zg8 rows)) (zwh (zg8 rows)) (zJG N m) (zKc N m)) B (zKa N m)=r:=⟨_,rfl⟩
 obtain⟨d,ae⟩:∃d,zSz N a (zt0 (zc3 rows) (zg8 rows)) (B-r.n) m 0 (r.cols,0)=d:=⟨_,rfl⟩
 obtain⟨n,Q⟩:∃n,r.n+d.1.2=n:=⟨_,rfl⟩
 obtain⟨s,ag⟩:∃s,pivs (zBX a (zt0 (zc3 rows) (zg8 rows)) (zwh (zg8 rows)) (zKb m (zjD cost rows)) (zKc N m)) (B-n) d.1.1=s:=⟨_,rfl⟩
 obtain⟨l,aF⟩:∃l,ys2 a (zt0 (zc3 rows) (zg8 rows)) (zwh (zg8 rows)) (B-(n+s.n)) (ys5 a nC 0) (ys7 (zaC a (zt0 (zc3 rows) (zg8 rows)) s.cols (zKb m (zjD cost rows))) (zKc N m)) s.cols 0=l:=⟨_,rfl⟩
 have aa:=un (ytr ad af ae Q ag aF);have bT:=un af;have bH:=un ae;have bX:=un ag;have bM:=un aF;have bR:=un Q;have bV:=un (show r.n≤B by rw[←af];exact zLj _ _ _);have bI:=un (show d.1.2≤B-r.n by have h:=zSH m 0 (r.cols,0) (own:=N) (N:=a) (A:=zt0 (zc3 rows) (zg8 rows)) (B:=B-r.n);rw[ae]at h;exact h.2 (Nat.zero_le _));have bQ:=un (show n≤B by have:=bV.o;have:=bI.o;omega);have ab:=un (show s.n≤B-n by rw[←ag];exact zLj _ _ _)
 generalize hoo:ys3 N m nC (zc3 rows) (zg8 rows) (zjD cost rows) B=o at *
 clear hg hN ad t af ae ag Q aF hoo;obtain⟨W,J⟩:∃W,((w.alloc (.cells #[(C,nC,H),(R,m,I)] 31)).alloc (.cells #[.int .i64 0,false,(),(),()] 49))=W:=⟨_,rfl⟩
 have a7:=un (show W.heap[w.heap.size]? = some (.cells #[(C,nC,H),(R,m,I)] 31 (0,0))by rw[←J];exact zak (zam (by simp)));have a8:=un (show W.heap[w.heap.size+1]? = some (.cells #[.int .i64 0,false,(),(),()] 49 (0,0))by rw[←J];exact zam (by simp));have BB:=un (show Below w w W by rw[←J];exact(zae w _).alloc (by simp) _)
 have HC:=un (show VecS W 0 (C,nC,H) cost by rw[←J];exact((hc).alloc _).alloc _);have HR:=un (show RowsS W 0 (R,m,I) rows by rw[←J];exact((hr).alloc _).alloc _);obtain⟨ft,_,fu,_⟩:=bc2 a7.o;clear hc hr;go_enter func16,ntmps16;go_wp2_with fail
 clear J;with_reducible refine(Pb.standardN S Z.o.h1 C nC H R m I cost rows N HN.o _ HC.o HR.o (by omega) (by omega) bW.o Z.o.kd Z.o.sc (fun p x=>(Z.o.rw_ p x).2)).mono ?_
 rintro e w1 ⟨rA,rc,lA,bA,bc_,kA,kc,eA,ec,rfl,hst,hb⟩;have br:=un (zad hb a7.o);have bo:=un (zad hb a8.o);have jv:=un (HC.o.below hb);have iZ:=un (HR.o.below hb);have b0:=un (hst);have bq:=un (BB.o.trans ((hb).mono BB.o.size));clear hst hb
 have O:=zae w1 (.cells #[(rA,m,rc),(N:Int),(bA,m,bc_),(kA,N,kc),(nC:Int),(eA,m,ec)] 113);have bp:=un (zad O br.o);have bs:=un (zad O bo.o);have dx:=un (jv.o.below O);have ju:=un (iZ.o.below O);have jo:=un (b0.o.below O);have bt:=un (bq.o.trans ((O).mono bq.o.size))
 have KS:=un (zal w1 #[(rA,m,rc),(N:Int),(bA,m,bc_),(kA,N,kc),(nC:Int),(eA,m,ec)] 113);obtain⟨gB,_,gC,_,g3,_,iJ,_,jq,_,js,_⟩:=bc6 KS.o;go_wp2_with fail
 with_reducible refine(zYk rA rc lA bA bc_ kA kc eA ec m N a S nC (zc3 rows) (zg8 rows) (zjD cost rows) (zca nC rows m) _ jo.o ba T.o (zsk _ _ _) H8.o).mono ?_
 rintro e V ⟨rA2,rc2,lA2,bA2,bz2,kA2,kc2,eA2,ec2,gA,gc,rfl,hst,hz,hb⟩;have bu:=un (zad hb bp.o);have bx:=un (zad hb bs.o);have bB:=un (zad hb KS.o);have dy:=un (dx.o.below hb);have dw:=un (ju.o.below hb);have bZ:=un (hst);have bJ:=un (hz)
 have bv:=un (bt.o.trans ((hb).mono bt.o.size));clear hst hz hb;have D:=zae V (.cells #[(rA2,m,rc2),(a:Int),(bA2,m,bz2),(kA2,a,kc2),(nC:Int),(eA2,m,ec2),(gA,m,gc),(N:Int)] 117);have ak:=un (zad D bu.o);have al:=un (zad D bx.o);have ar:=un (zad D bB.o)
 have dE:=un (dy.o.below D);have jw:=un (dw.o.below D);have aU:=un (bZ.o.below D);have e4:=un (bJ.o.below D);have L:=un (bv.o.trans ((D).mono bv.o.size))
 have KT:=un (zal V #[(rA2,m,rc2),(a:Int),(bA2,m,bz2),(kA2,a,kc2),(nC:Int),(eA2,m,ec2),(gA,m,gc),(N:Int)] 117);obtain⟨dI,_,dJ,_,dF,_,dG,_,dH,_,e5,_,e7,_,e9,_⟩:=bc8 KT.o
 clear ft fu gB gC g3 iJ jq js;go_wp2_with fail
 have bG:=un L.o;have ca:=bG.o.size;generalize hwS:(V.alloc (.cells #[(rA2,m,rc2),(a:Int),(bA2,m,bz2),(kA2,a,kc2),(nC:Int),(eA2,m,ec2),(gA,m,gc),(N:Int)] 117))=wS at *
 clear hwS;with_reducible refine(pfeasible rA2 rc2 bA2 bz2 kA2 kc2 eA2 ec2 gA gc m a nC N lA2 S (zc3 rows) (zg8 rows) (zKb m (zjD cost rows)) (zca nC rows m) 0 _ aU.o e4.o T.o bU.o bN.o aA.o a4.o B aY.o).mono ?_
 rintro e w3 ⟨t,h⟩;rw[bT.o,bH.o,bR.o]at h;have aX:=un t;have X:=un (zad t al.o);have bm:=un (zad t KT.o);have c4:=un (aU.o.below t);have aV:=un (L.o.trans ((t).mono L.o.size));obtain⟨au,am,hh,_,av,an,hj,_,aw,ao,hl,_,ax,ap,hR,_,ay,aq,hU,_⟩:=bf5 X.o;obtain⟨eY,_,eZ,_,e0,_,e1,_,e2,_,e6,_,e8,_,fa,_⟩:=bc8 bm.o;clear t
 rcases h with ⟨b,ev,rfl,i,num,rfl,K,u⟩ | ⟨b,E,Y,cY,rfl,hY⟩ | ⟨b,E,U,ev,rfl,i,num,rfl,K,u⟩ | ⟨b,E,U,wn,q,tA,tc,rfl,hT,bb,b7⟩
 ·have c:=un (aa.o.1 b);have F:=un u;have G:=un K;clear b u K;go_wp2;refine bodyPost_ret (v:=.tuple #[.agg #[.int .i64 0,false,(),(),()],.int .i64 (r.n:Int),(),.iface 224 (.pointer (some ⟨i,0,none⟩))]) (by simp[results,results16,go_sem,au,am,av,an,aw,ao,ax,ap,ay,aq]) rfl ?_;have f:=zqy X.o (.int .i64 0) false () () ();rw[c.o]
  exact⟨bsc (bsc (bsc (bsc (bsc aV.o)))),i,num,rfl,G.o,f.blk F.o (by decide)⟩
 ·have c:=un (aa.o.2.1 b E);clear b E hY;go_wp2;refine bodyPost_ret (v:=.tuple #[.agg #[.int .i64 2,false,(),(),()],.int .i64 (r.n:Int),(),.nilIface]) (by simp[results,results16,go_sem,au,am,av,an,aw,ao,ax,ap,ay,aq]) rfl ?_;have f:=zqy X.o (.int .i64 2) false () () ();rw[c.o];exact⟨bsc (bsc (bsc (bsc (bsc aV.o)))),rfl⟩
 ·have c:=un ((aa.o.2.2 b E).1 U);have F:=un u;have G:=un K;clear b E U u K;go_wp2;refine bodyPost_ret (v:=.tuple #[.agg #[.int .i64 0,false,(),(),()],.int .i64 (n:Int),(),.iface 224 (.pointer (some ⟨i,0,none⟩))]) (by simp[results,results16,go_sem,au,am,av,an,aw,ao,ax,ap,ay,aq]) rfl ?_;have f:=zqy X.o (.int .i64 0) false () () ();rw[c.o]
  exact⟨bsc (bsc (bsc (bsc (bsc aV.o)))),i,num,rfl,G.o,f.blk F.o (by decide)⟩
 ·have aC:=un ((aa.o.2.2 b E).2 U);have HT:=un hT;have a6:=un bb;have bK:=un hT.hle;clear b E U hT bb b7;clear dI dJ dF dG dH e5 e7 e9;have jJ:=bQ.o;have jD:=aY.o;go_wp2_with fail
  with_reducible refine(pmay rA2 rc2 bA2 bz2 kA2 kc2 eA2 ec2 gA gc m a nC N _ (by have:=T.o;omega) ba).mono ?_
  rintro e w4 ⟨M,cM,rfl,hm,hb⟩;have c3:=un (zad hb bm.o);have bn:=un (c4.o.below hb);have c5:=un (HT.o.below hb);have HM:=un ((by have h:=hm;rw[bP.o]at h;exact h))
  obtain⟨_,_,_,_,_,_,dm,_⟩:=bc8 c3.o;have bE:=un (aX.o.trans (hb.mono aX.o.size));clear hm hb;go_wp2_with fail
  rw[show(B:Int)-(n:Int)=((B-n:Nat):Int)by omega];with_reducible refine(prun c5.o kA2 kc2 0 (zKb m (zjD cost rows)) bn.o.C bn.o.zc M a cM w3.heap.size (zKc N m) HM.o aA.o ((B-n:Nat):Int) (by omega)).mono ?_
  rintro e w5 ⟨ev,rfl,hev,hT5,hb5,hk5⟩;rw[show(((B-n:Nat):Int)).toNat=B-n from Int.toNat_natCast _,bX.o]at hev hT5 ⊢;have a5:=un hT5;have bO:=un (HM.o.kept hk5 (by decide));have z:=bE.o.trans (hb5.mono a6.o);have az:=un z;have b3:=un (show ∀g,(Value.slice tA m tc).ownBlock=some g→g<w5.heap.size by
   intro g hg;obtain⟨_,_,_,hP⟩:=hT5;exact(hP.colsI.own.lt g hg).2)
  clear hT5 hb5 hk5;have ai:=un (zad z al.o);have bg:=un (zad z ar.o);have bj:=un (zad z KT.o);have ch:=un (aU.o.below z);have be:=un (L.o.trans ((z).mono L.o.size));obtain⟨aP,aS,cU,_,aQ,aT,cW,_,aM,aL,cZ,_,aN,aJ,cO,_,aO,aK,cS,_⟩:=bf5 ai.o;obtain⟨_,_,_,_,_,_,_,_,_,_,_,_,_,_,cB,_⟩:=bc8 bj.o;clear z
  clear au am hh av an hj aw ao hl ax ap hR ay aq hU eY eZ e0 e1 e2 e6 e8 fa dm;have jK:n+s.n≤1000000:=by have:=ab.o;omega
  rcases hev with ⟨b,rfl⟩ | ⟨b,i,rfl,u⟩
  ·cases hat:s.at_ with
   | some j =>
    have x:zbh (some j)=(j:Int):=rfl;rw[x];have c:=un (aC.o.2.1 j b hat);have jG:(0:Int)≤(j:Int):=Int.natCast_nonneg _;clear b hat x;go_wp2;refine bodyPost_ret (v:=.tuple #[.agg #[.int .i64 3,false,(),(),()],.int .i64 ((n+s.n:Nat):Int),(),.nilIface]) (by simp[results,results16,go_sem,aP,aS,aQ,aT,aM,aL,aN,aJ,aO,aK]) rfl ?_;have f:=zqy ai.o (.int .i64 3) false () () ();rw[c.o]
    exact⟨bsc (bsc (bsc (bsc (bsc be.o)))),rfl⟩
   | none =>
    have x:zbh none = -1:=rfl;rw[x];have a2:=un (aC.o.2.2 b hat);clear b hat x;go_wp2_with fail
    with_reducible refine(yui a5.o N).mono ?_
    rintro e w6 ⟨Bo,ko,cBo,rfl,hi,hb⟩;have dM:=un (zad hb bg.o);have eG:=un (zad hb bj.o);have bd:=un (ch.o.below hb);have cf:=un (a5.o.below hb);have cg:=un (bO.o.below hb);have HI:=un (hi);obtain⟨_,_,_,_,_,_,_,_,dP,_⟩:=bc6 dM.o
    obtain⟨_,_,_,_,_,_,cj,_,_,_,_,_,_,cs,_⟩:=bc8 eG.o;have bF:=un (az.o.trans (hb.mono az.o.size));clear hi hb;go_wp2_with fail
    rw[show(B:Int)-((n:Int)+(s.n:Int))=((B-(n+s.n):Nat):Int)by have:=ab.o;omega];with_reducible refine(least cf.o kA2 kc2 0 (zKb m (zjD cost rows)) bd.o.C bd.o.zc M cM w3.heap.size (zKc N m) cg.o bK.o aA.o nC (B-(n+s.n)) (by have:=HN.o;have:=T.o;omega) (by omega)).mono ?_
    rintro e w7 ⟨ev,rfl,hev,hln,hT7,hb7,hk7⟩;rw[bM.o]at hev hln hT7 ⊢;have b2:=un hT7;have bL:=un (hk7.ints (by decide) HI.o fun g hg e=>by have h1:=(HI.o.own.lt g hg).1;have h2:=b3.o g e.symm;omega);have y:=bF.o.trans (hb7.mono a6.o);have jL:n+s.n+l.n≤1000000:=by have:=ab.o;omega
    clear hT7 hb7 hk7 hln;have bh:=un (zad y ak.o);have aR:=un (zad y al.o);have dv:=un (dE.o.below y);have cd:=un (jw.o.below y);have aj:=un (L.o.trans ((y).mono L.o.size));obtain⟨kN,_,kO,_⟩:=bc2 bh.o;obtain⟨eg,ek,k3,_,eh,el,k4,_,eH,eK,k5,_,eI,eL,k6,_,eJ,eM,k7,_⟩:=bf5 aR.o;clear y
    clear aP aS cU aQ aT cW aM aL cZ aN aJ cO aO aK cS cB dP cj cs;rcases hev with ⟨b,rfl⟩ | ⟨b,i,num,rfl,K,u⟩
    ·have c:=un (show o=.best s.cols l.cols (n+s.n+l.n)from a2.o.trans (by unfold yth;rw[b];rfl));clear b;go_wp2_with fail
     with_reducible refine(answer b2.o C nC H R m I cost rows dv.o cd.o (by have:=HN.o;have:=T.o;omega) bY.o a4.o).mono ?_
     rintro e w8 ⟨g2,A2,m2,c2,D2,md2,cd2,P,cP,rfl,Q,hv,hb⟩;have bk:=un (zad hb aR.o);have cv:=un (bL.o.below hb);have HA:=un (Q);have bS:=un (hv)
     have du:=un (aj.o.trans ((hb).mono aj.o.size));obtain⟨c0,cJ,km,_,c1,cK,kn,_,de,cE,ke,_,dg,cG,kf,_,di,cI,kg,_⟩:=bf5 bk.o;clear Q hv hb;have b9:=(aj).o.size;have b8:=Nat.le_trans ca az.o.size;go_wp2
     refine bodyPost_ret (v:=.tuple #[.agg #[.int .i64 1,g2,(A2,m2,c2),(D2,md2,cd2),(P,nC,cP)],.int .i64 ((n+s.n+l.n:Nat):Int),(Bo,ko,cBo),.nilIface]) (by simp[results,results16,go_sem,c0,cJ,c1,cK,de,cE,dg,cG,di,cI]) rfl ?_;have f:=zqy bk.o (.int .i64 1) g2 (A2,m2,c2) (D2,md2,cd2) (P,nC,cP);rw[c.o]
     exact⟨bsc (bsc (bsc (bsc (bsc du.o)))),g2,A2,m2,c2,D2,md2,cd2,P,cP,Bo,ko,cBo,rfl,HA.o.tk f (by decide),(bS.o.base b9).tk f (by decide) (by decide),(cv.o.base b8).tk f (by decide)⟩
    ·have c:=un (a2.o.trans (by unfold yth;rw[if_pos b]));have F:=un u;have G:=un (show num≤B by omega);clear b u K;go_wp2;refine bodyPost_ret (v:=.tuple #[.agg #[.int .i64 0,false,(),(),()],.int .i64 ((n+s.n+l.n:Nat):Int),(),.iface 224 (.pointer (some ⟨i,0,none⟩))]) (by simp[results,results16,go_sem,eg,ek,eh,el,eH,eK,eI,eL,eJ,eM]) rfl ?_
     have f:=zqy aR.o (.int .i64 0) false () () ();rw[c.o];exact⟨bsc (bsc (bsc (bsc (bsc aj.o)))),i,num,rfl,G.o,f.blk F.o (by decide)⟩
  ·have c:=un (aC.o.1 b);have F:=un u;have G:=un (show s.n≤B by have:=ab.o;omega);clear b u;go_wp2;refine bodyPost_ret (v:=.tuple #[.agg #[.int .i64 0,false,(),(),()],.int .i64 ((n+s.n:Nat):Int),(),.iface 224 (.pointer (some ⟨i,0,none⟩))]) (by simp[results,results16,go_sem,aP,aS,aQ,aT,aM,aL,aN,aJ,aO,aK]) rfl ?_;have f:=zqy ai.o (.int .i64 0) false () () ();rw[c.o]
   exact⟨bsc (bsc (bsc (bsc (bsc be.o)))),i,s.n,rfl,G.o,f.blk F.o (by decide)⟩
end Ca
def yts (N own:Nat) (A:List (List Rat)) (b c:List Rat) (B:Nat) (cols:List Nat):COut :=
  let r:=pivs (zbE N A b c (List.replicate N true)) B cols
  if r.err then .spent r.n
  else match r.at_ with
    | some _=>.none r.n
    | .none=>yth r.n r.cols (ys2 N A b (B-r.n) (ys5 N own 0) (ys7 (zaC N A r.cols c) (List.replicate N true)) r.cols 0)
theorem ytz{cols:List Nat}{l:LexOut}(hr:pivs (zbE N A b c (List.replicate N true)) B cols=r)(d:ys2 N A b (B-r.n) (ys5 N own 0) (ys7 (zaC N A r.cols c) (List.replicate N true)) r.cols 0=l) :
  (r.err=true→yts N own A b c B cols=.spent r.n)∧(∀k,r.err=false→r.at_=some k→yts N own A b c B cols=.none r.n)∧(r.err=false→r.at_=none→yts N own A b c B cols=yth r.n r.cols l):=by
 unfold yts;simp only[hr,d];exact⟨fun h=>by rw[if_pos h],fun k h a=>by rw[h,a];rfl,fun h a=>by rw[h,a];rfl⟩
namespace Ca
theorem yuw(S:Nat)(C:OA)(nC k:Nat)(R:OA)(m s:Nat)(cost:List Rat)(rows:List PRow)(N B:Nat)(tA:OA)(tc X:Nat)(cols:List Nat)(w:World)(hc:VecS w 0 (C,nC,k) cost)(hr:RowsS w 0 (R,m,s) rows)(hg:GoodS S nC m cost rows)(hN:nC+cnt rows m=N)(hB:B≤1000000)(z:IntsS w X (tA,m,tc) cols)(aB:Basis m N (zc3 rows) cols)(hR:zdi (zaC N (zc3 rows) cols (zjD cost rows)) (List.replicate N true)=none) :
  Calls prog 40 #[.agg #[(C,nC,k),(R,m,s)],(tA,m,tc),(B:Int)] w (ytb w nC N (zc3 rows) (zg8 rows) cost B id (yts N nC (zc3 rows) (zg8 rows) (zjD cost rows) B cols)):=by
 have D:=un hg;have T:=un hN;have fN:=zgO rows m;have fP:=hg.hr;have fM:=hg.hc;have be:N≤64:=by omega
 have a6:=un (show Rows nC rows from fun p b=>⟨(hg.rw_ p b).1,fun q Z=>Nat.le_trans ((hg.rw_ p b).2.1 q Z) hg.hS,Nat.le_trans (hg.rw_ p b).2.2 hg.hS⟩);have O:=un hg.cap;have a7:=un hg.sb;have a8:=un (show Sm cost from fun q Z=>Nat.le_trans (hg.sc q Z) hg.hS);have aW:=un hB;have aV:=un aB;have a5:=un hR;obtain⟨r,F⟩:∃r,pivs (zbE N (zc3 rows) (zg8 rows) (zjD cost rows) (List.replicate N true)) B cols=r:=⟨_,rfl⟩
 obtain⟨l,Y⟩:∃l,ys2 N (zc3 rows) (zg8 rows) (B-r.n) (ys5 N nC 0) (ys7 (zaC N (zc3 rows) r.cols (zjD cost rows)) (List.replicate N true)) r.cols 0=l:=⟨_,rfl⟩
 have V:=un (ytz F Y);have a4:=un F;have a1:=un Y;have av:=un (show r.n≤B by rw[←F];exact zLj _ _ _);generalize hoo:yts N nC (zc3 rows) (zg8 rows) (zjD cost rows) B cols=o at *
 clear hg hN hB F Y hoo aB hR;obtain⟨W,d⟩:∃W,((w.alloc (.cells #[(C,nC,k),(R,m,s)] 31)).alloc (.cells #[.int .i64 0,false,(),(),()] 49))=W:=⟨_,rfl⟩
 have ay:=un (show W.heap[w.heap.size]? = some (.cells #[(C,nC,k),(R,m,s)] 31 (0,0))by rw[←d];exact zak (zam (by simp)));have az:=un (show W.heap[w.heap.size+1]? = some (.cells #[.int .i64 0,false,(),(),()] 49 (0,0))by rw[←d];exact zam (by simp));have BB:=un (show Below w w W by rw[←d];exact(zae w _).alloc (by simp) _)
 have HC:=un (show VecS W 0 (C,nC,k) cost by rw[←d];exact((hc).alloc _).alloc _);have HR:=un (show RowsS W 0 (R,m,s) rows by rw[←d];exact((hr).alloc _).alloc _);have a0:=un (show IntsS W X (tA,m,tc) cols by rw[←d];exact((z).alloc _).alloc _);obtain⟨cX,_,cY,_⟩:=bc2 ay.o;clear hc hr z;go_enter func40,ntmps40;go_wp2_with fail
 clear d;with_reducible refine(Pb.standardN S D.o.h1 C nC k R m s cost rows N T.o _ HC.o HR.o (by omega) (by omega) a6.o D.o.kd D.o.sc (fun p b=>(D.o.rw_ p b).2)).mono ?_
 rintro e w1 ⟨rA,rc,lA,bA,bc_,kA,kc,eA,ec,rfl,hst,hb⟩;have aO:=un (zad hb ay.o);have aM:=un (zad hb az.o);have fC:=un (HC.o.below hb);have fd:=un (HR.o.below hb);have bp:=un (a0.o.below hb);have a9:=un (hst);have aN:=un (BB.o.trans ((hb).mono BB.o.size))
 clear hst hb;have u:=zae w1 (.cells #[(rA,m,rc),(N:Int),(bA,m,bc_),(kA,N,kc),(nC:Int),(eA,m,ec)] 113);have K:=un (zad u aO.o);have L:=un (zad u aM.o);have bv:=un (fC.o.below u);have fw:=un (fd.o.below u);have bq:=un (bp.o.below u);have aF:=un (a9.o.below u);have A:=un (aN.o.trans ((u).mono aN.o.size))
 have E:=un (zal w1 #[(rA,m,rc),(N:Int),(bA,m,bc_),(kA,N,kc),(nC:Int),(eA,m,ec)] 113);obtain⟨d0,_,d1,_,el,_,e7,_,fs,_,fu,_⟩:=bc6 E.o;clear cX cY;go_wp2_with fail
 have aX:=un A.o;have bi:=aX.o.size;generalize hwS:(w1.alloc (.cells #[(rA,m,rc),(N:Int),(bA,m,bc_),(kA,N,kc),(nC:Int),(eA,m,ec)] 113))=wS at *
 clear hwS;with_reducible refine(Tb.new rA rc lA bA bc_ kA kc eA ec m N S nC (zc3 rows) (zg8 rows) (zjD cost rows) (zca nC rows m) tA tc cols X _ aF.o bq.o aV.o O.o).mono ?_
 rintro e G ⟨q,tB,tbc,rfl,hT,hb⟩;have aR:=un (zad hb E.o);have HT:=un (hT);obtain⟨_,_,_,_,_,_,fr,_⟩:=bc6 aR.o;have an:=un hb;clear hT hb;have aY:=un (HT.o).hle
 go_wp2_with fail
 with_reducible refine(Du.all N be _).mono ?_
 rintro e w4 ⟨MA,rfl,hm,hb⟩;have eu:=un (zad hb aR.o);have bs:=un (HT.o.below hb);have HM:=un (hm);obtain⟨_,_,_,_,_,_,e8,_⟩:=bc6 eu.o;have aT:=un (an.o.trans (hb.mono an.o.size));clear hm hb;go_wp2_with fail
 have fL:=aW.o;with_reducible refine(Du.run bs.o MA N G.heap.size HM.o O.o (B:Int) (by omega) a5.o).mono ?_
 rintro e H ⟨ev,rfl,hev,hT5,hb5,hk5⟩;rw[show((B:Int)).toNat=B from Int.toNat_natCast _,a4.o]at hev hT5 ⊢;have ax:=un hT5;have a2:=un (HM.o.kept hk5 (by decide));have t:=aT.o.trans hb5;have M:=un t;have bb:=un (show ∀g,(Value.slice tB m tbc).ownBlock=some g→g<H.heap.size by
  intro g hg;obtain⟨_,_,_,hP⟩:=hT5;exact(hP.colsI.own.lt g hg).2)
 clear hT5 hb5 hk5;have J:=un (zad t L.o);have aI:=un (zad t E.o);have bo:=un (aF.o.below t);have aJ:=un (A.o.trans ((t).mono A.o.size));obtain⟨ag,ac,bF,_,ah,ad,bG,_,ai,ae,bH,_,aj,af,bI,_,ak,ab,bJ,_⟩:=bf5 J.o;clear t
 clear d0 d1 el e7 fs fu fr e8;have fR:=av.o;rcases hev with ⟨a,rfl⟩ | ⟨a,x,rfl,y⟩
 ·cases hat:r.at_ with
  | some j =>
   have b:zbh (some j)=(j:Int):=rfl;rw[b];have i:=un (V.o.2.1 j a hat);have fO:(0:Int)≤(j:Int):=Int.natCast_nonneg _;clear a hat b;go_wp2;refine bodyPost_ret (v:=.tuple #[.agg #[.int .i64 2,false,(),(),()],.int .i64 (r.n:Int),(),.nilIface]) (by simp[results,results40,go_sem,ag,ac,ah,ad,ai,ae,aj,af,ak,ab]) rfl ?_;have f:=zqy J.o (.int .i64 2) false () () ();rw[i.o]
   exact⟨bsc (bsc (bsc (bsc (bsc aJ.o)))),rfl⟩
  | none =>
   have b:zbh none = -1:=rfl;rw[b];have ar:=un (V.o.2.2 a hat);clear a hat b;go_wp2_with fail
   with_reducible refine(Tb.basis ax.o).mono ?_
   rintro e w6 ⟨Bo,cBo,rfl,z,hb⟩;have cm:=un (zad hb J.o);have cn:=un (zad hb aI.o);have aE:=un (bo.o.below hb);have bn:=un (ax.o.below hb);have co:=un (a2.o.below hb);have HI:=un (z);obtain⟨_,_,_,_,_,_,_,_,cv,_⟩:=bf5 cm.o;obtain⟨_,_,_,_,_,_,ca,_,cb,_⟩:=bc6 cn.o;have aU:=un (M.o.trans (hb.mono M.o.size))
   clear z hb;go_wp2_with fail
   rw[show(B:Int)-(r.n:Int)=((B-r.n:Nat):Int)by omega];with_reducible refine(least bn.o kA kc 0 (zjD cost rows) aE.o.C aE.o.zc MA N G.heap.size (List.replicate N true) co.o aY.o O.o nC (B-r.n) (by have:=T.o;omega) (by omega)).mono ?_
   rintro e w7 ⟨ev,rfl,hev,hln,hT7,hb7,hk7⟩;rw[a1.o]at hev hln hT7 ⊢;have ba:=un hT7;have aZ:=un (hk7.ints (by decide) HI.o fun g hg e=>by have h1:=(HI.o.own.lt g hg).1;have h2:=bb.o g e.symm;omega);have c:=aU.o.trans hb7;have fS:r.n+l.n≤1000000:=by omega
   clear hT7 hb7 hk7 hln;have aG:=un (zad c K.o);have al:=un (zad c L.o);have bl:=un (bv.o.below c);have bm:=un (fw.o.below c);have I:=un (A.o.trans ((c).mono A.o.size));obtain⟨f6,_,f7,_⟩:=bc2 aG.o;obtain⟨fD,fx,fZ,_,fE,fy,f0,_,fF,fz,f1,_,fG,fA,f4,_,fH,fB,f5,_⟩:=bf5 al.o;clear c
   clear ag ac bF ah ad bG ai ae bH aj af bI ak ab bJ cv ca cb;rcases hev with ⟨a,rfl⟩ | ⟨a,x,num,rfl,bf,y⟩
   ·have i:=un (show o=.best r.cols l.cols (r.n+l.n)from ar.o.trans (by unfold yth;rw[a];rfl));clear a;go_wp2_with fail
    with_reducible refine(answer ba.o C nC k R m s cost rows bl.o bm.o (by have:=T.o;omega) a8.o a7.o).mono ?_
    rintro e w8 ⟨g2,A2,m2,c2,D2,md2,cd2,P,cP,rfl,hn,hv,hb⟩;have aK:=un (zad hb al.o);have br:=un (aZ.o.below hb);have HA:=un (hn);have a3:=un (hv);have bW:=un (I.o.trans ((hb).mono I.o.size))
    obtain⟨bZ,b1,gH,_,b0,b2,gI,_,cp,cs,gJ,_,cq,ct,gK,_,cr,cu,gL,_⟩:=bf5 aK.o;clear hn hv hb;have bh:=(I).o.size;have bg:=Nat.le_trans bi M.o.size;go_wp2
    refine bodyPost_ret (v:=.tuple #[.agg #[.int .i64 1,g2,(A2,m2,c2),(D2,md2,cd2),(P,nC,cP)],.int .i64 ((r.n+l.n:Nat):Int),(Bo,m,cBo),.nilIface]) (by simp[results,results40,go_sem,bZ,b1,b0,b2,cp,cs,cq,ct,cr,cu]) rfl ?_;have f:=zqy aK.o (.int .i64 1) g2 (A2,m2,c2) (D2,md2,cd2) (P,nC,cP);rw[i.o]
    exact⟨bsc (bsc (bsc (bsc (bsc bW.o)))),g2,A2,m2,c2,D2,md2,cd2,P,cP,Bo,m,cBo,rfl,HA.o.tk f (by decide),(a3.o.base bh).tk f (by decide) (by decide),(br.o.base bg).tk f (by decide)⟩
   ·have i:=un (ar.o.trans (by unfold yth;rw[if_pos a]));have Q:=un y;have U:=un (show num≤B by omega);clear a y bf;go_wp2;refine bodyPost_ret (v:=.tuple #[.agg #[.int .i64 0,false,(),(),()],.int .i64 ((r.n+l.n:Nat):Int),(),.iface 224 (.pointer (some ⟨x,0,none⟩))]) (by simp[results,results40,go_sem,fD,fx,fE,fy,fF,fz,fG,fA,fH,fB]) rfl ?_
    have f:=zqy al.o (.int .i64 0) false () () ();rw[i.o];exact⟨bsc (bsc (bsc (bsc (bsc I.o)))),x,num,rfl,U.o,f.blk Q.o (by decide)⟩
 ·have i:=un (V.o.1 a);have Q:=un y;have U:=un av.o;clear a y;go_wp2;refine bodyPost_ret (v:=.tuple #[.agg #[.int .i64 0,false,(),(),()],.int .i64 (r.n:Int),(),.iface 224 (.pointer (some ⟨x,0,none⟩))]) (by simp[results,results40,go_sem,ag,ac,ah,ad,ai,ae,aj,af,ak,ab]) rfl ?_;have f:=zqy J.o (.int .i64 0) false () () ();rw[i.o]
  exact⟨bsc (bsc (bsc (bsc (bsc aJ.o)))),x,r.n,rfl,U.o,f.blk Q.o (by decide)⟩
