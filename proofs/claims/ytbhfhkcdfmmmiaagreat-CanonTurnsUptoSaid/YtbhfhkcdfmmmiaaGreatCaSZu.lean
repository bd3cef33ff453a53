/- Contracts and lemmas: CaS. Conditions: as each says. -/
import Derived.Test.YtbhfhkcdfmmmiaaGreatCaAZu
set_option linter.all false
set_option maxHeartbeats 2000000
set_option maxRecDepth 100000
namespace Go.Proofs.YtbhfhkcdfmmmiaaGreat
open Go.RowKit Am
open Lib (hid)
open Pr (zYk pfeasible pmay prun)
attribute [local go_sem ↓] Go.wp_at_zero Go.wp_at_succ
theorem ytr{N m a own n:Nat}{A:List (List Rat)}{b c:List Rat}{B:Nat}{r s:RunOut}{d:(List Nat × Nat) × Bool}{l:LexOut}(hN:N+m=a)(hr:pivs (zBX a (zt0 A b) (zwh b) (zJG N m) (zKc N m)) B (zKa N m)=r)
  (k:zSz N a (zt0 A b) (B-r.n) m 0 (r.cols,0)=d) (p:r.n+d.1.2=n) (q:pivs (zBX a (zt0 A b) (zwh b) (zKb m c) (zKc N m)) (B-n) d.1.1=s)
  (o:ys2 a (zt0 A b) (zwh b) (B-(n+s.n)) (ys5 a own 0) (ys7 (zaC a (zt0 A b) s.cols (zKb m c)) (zKc N m)) s.cols 0=l) :
  (r.err=true→ys3 N m own A b c B=.spent r.n)∧(r.err=false→0<zSB N m A b r.cols→ys3 N m own A b c B=.none r.n) ∧
  (r.err=false→¬0<zSB N m A b r.cols→(d.2=true→ys3 N m own A b c B=.spent n)∧(d.2=false→(s.err=true→ys3 N m own A b c B=.spent (n+s.n)) ∧
   (∀j,s.err=false→s.at_=some j→ys3 N m own A b c B=.falls (n+s.n))∧(s.err=false→s.at_=none→ys3 N m own A b c B=yth (n+s.n) s.cols l))):=by
 subst hN p;unfold ys3;simp only[hr,k,q,o];exact⟨fun h=>by rw[if_pos h],fun h e=>by rw[h,if_pos e];rfl,fun h e=>⟨fun f=>by rw[h,if_neg e,if_pos f];rfl,fun f=>⟨fun g=>by rw[h,if_neg e,f,if_pos g];rfl,fun j g i=>by rw[h,if_neg e,f,g,i];rfl,fun g i=>by rw[h,if_neg e,f,g,i];rfl⟩⟩⟩
namespace Ca
theorem solve(S:Nat)(C:OA)(nC H:Nat)(R:OA)(m I:Nat)(cost:List Rat)(rows:List PRow)(N a B:Nat)(w:World)(hc:VecS w 0 (C,nC,H) cost)(hr:RowsS w 0 (R,m,I) rows)(hg:GoodS S nC m cost rows)(hN:nC+cnt rows m=N)(ad:N+m=a)(t:B≤1000000) :
  Calls Tryz.prog 16 #[.agg #[(C,nC,H),(R,m,I)],(B:Int)] w (ytb w nC a (zt0 (zc3 rows) (zg8 rows)) (zwh (zg8 rows)) cost B (ytJ N) (ys3 N m nC (zc3 rows) (zg8 rows) (zjD cost rows) B)):=by
 have Z:=hid hg;have HN:=hid hN;have T:=hid ad;have jF:=zgO rows m;have jH:=hg.hr;have jE:=hg.hc;have ba:a≤64:=by omega
 have bW:=hid (show Rows nC rows from fun p x=>⟨(hg.rw_ p x).1,fun q hq=>Nat.le_trans ((hg.rw_ p x).2.1 q hq) hg.hS,Nat.le_trans (hg.rw_ p x).2.2 hg.hS⟩);have aA:=hid hg.cap;have a4:=hid hg.sb;have bP:=hid (show zsn a N=zKc N m by rw[←ad,zUB]);have bY:=hid (show Sm cost from fun q hq=>Nat.le_trans (hg.sc q hq) hg.hS);have H8:=hid (show 8*S+8≤LIM by rw[zaP];have:=hg.hS;omega);have aY:=hid t
 have bU:=hid (show Rect m N (zc3 rows)by have:=zlk (n:=nC) (rows:=rows) fun k hk=>(hg.rw_ _ (List.mem_of_getElem? (zaO hk))).1;rw[←hr.len,hN]at this;exact this);have bN:=hid (show(zg8 rows).length=m by rw[zxG,←hr.len]);obtain⟨r,af⟩:∃r,pivs (zBX a (zt0 (zc3 rows) (zg8 rows)) (zwh (zg8 rows)) (zJG N m) (zKc N m)) B (zKa N m)=r:=⟨_,rfl⟩
 obtain⟨d,ae⟩:∃d,zSz N a (zt0 (zc3 rows) (zg8 rows)) (B-r.n) m 0 (r.cols,0)=d:=⟨_,rfl⟩
 obtain⟨n,Q⟩:∃n,r.n+d.1.2=n:=⟨_,rfl⟩
 obtain⟨s,ag⟩:∃s,pivs (zBX a (zt0 (zc3 rows) (zg8 rows)) (zwh (zg8 rows)) (zKb m (zjD cost rows)) (zKc N m)) (B-n) d.1.1=s:=⟨_,rfl⟩
 obtain⟨l,aF⟩:∃l,ys2 a (zt0 (zc3 rows) (zg8 rows)) (zwh (zg8 rows)) (B-(n+s.n)) (ys5 a nC 0) (ys7 (zaC a (zt0 (zc3 rows) (zg8 rows)) s.cols (zKb m (zjD cost rows))) (zKc N m)) s.cols 0=l:=⟨_,rfl⟩
 have aa:=hid (ytr ad af ae Q ag aF);have bT:=hid af;have bH:=hid ae;have bX:=hid ag;have bM:=hid aF;have bR:=hid Q;have bV:=hid (show r.n≤B by rw[←af];exact zLj _ _ _);have bI:=hid (show d.1.2≤B-r.n by have h:=zSH m 0 (r.cols,0) (own:=N) (N:=a) (A:=zt0 (zc3 rows) (zg8 rows)) (B:=B-r.n);rw[ae]at h;exact h.2 (Nat.zero_le _));have bQ:=hid (show n≤B by have:=bV.out;have:=bI.out;omega);have ab:=hid (show s.n≤B-n by rw[←ag];exact zLj _ _ _)
 generalize hoo:ys3 N m nC (zc3 rows) (zg8 rows) (zjD cost rows) B=o at *
 clear hg hN ad t af ae ag Q aF hoo;obtain⟨W,J⟩:∃W,((w.alloc (.cells #[(C,nC,H),(R,m,I)] 31)).alloc (.cells #[.int .i64 0,false,(),(),()] 49))=W:=⟨_,rfl⟩
 have a7:=hid (show W.heap[w.heap.size]? = some (.cells #[(C,nC,H),(R,m,I)] 31 (0,0))by rw[←J];exact zak (zam (by simp)));have a8:=hid (show W.heap[w.heap.size+1]? = some (.cells #[.int .i64 0,false,(),(),()] 49 (0,0))by rw[←J];exact zam (by simp));have BB:=hid (show Below w.heap.size w W by rw[←J];exact(zae w _).alloc (by simp) _)
 have HC:=hid (show VecS W 0 (C,nC,H) cost by rw[←J];exact((hc).alloc _).alloc _);have HR:=hid (show RowsS W 0 (R,m,I) rows by rw[←J];exact((hr).alloc _).alloc _);obtain⟨ft,_,fu,_⟩:=bc2 a7.out;clear hc hr;go_enter Tryz.func16,Tryz.ntmps16;go_wp2_with fail
 clear J;with_reducible refine(Pb.standardN S Z.out.h1 C nC H R m I cost rows N HN.out _ HC.out HR.out (by omega) (by omega) bW.out Z.out.kd Z.out.sc (fun p x=>(Z.out.rw_ p x).2)).mono ?_
 rintro e w1 ⟨rA,rc,lA,bA,bc_,kA,kc,eA,ec,rfl,hst,hb⟩;have br:=hid (zad hb a7.out);have bo:=hid (zad hb a8.out);have jv:=hid (HC.out.below hb);have iZ:=hid (HR.out.below hb);have b0:=hid (show StdP w1 rA rc lA bA bc_ kA kc eA ec m N S (zc3 rows) (zg8 rows) (zjD cost rows) (zca nC rows m)from hst);have bq:=hid (BB.out.trans ((hb).mono BB.out.size));clear hst hb
 have O:=zae w1 (.cells #[(rA,m,rc),(N:Int),(bA,m,bc_),(kA,N,kc),(nC:Int),(eA,m,ec)] 113);have bp:=hid (zad O br.out);have bs:=hid (zad O bo.out);have dx:=hid (jv.out.below O);have ju:=hid (iZ.out.below O);have jo:=hid (b0.out.below O);have bt:=hid (bq.out.trans ((O).mono bq.out.size))
 have KS:=hid (zal w1 #[(rA,m,rc),(N:Int),(bA,m,bc_),(kA,N,kc),(nC:Int),(eA,m,ec)] 113);obtain⟨gB,_,gC,_,g3,_,iJ,_,jq,_,js,_⟩:=bc6 KS.out;go_wp2_with fail
 with_reducible refine(zYk rA rc lA bA bc_ kA kc eA ec m N a S nC (zc3 rows) (zg8 rows) (zjD cost rows) (zca nC rows m) _ jo.out ba T.out (zsk _ _ _) H8.out).mono ?_
 rintro e V ⟨rA2,rc2,lA2,bA2,bz2,kA2,kc2,eA2,ec2,gA,gc,rfl,hst,hz,hb⟩;have bu:=hid (zad hb bp.out);have bx:=hid (zad hb bs.out);have bB:=hid (zad hb KS.out);have dy:=hid (dx.out.below hb);have dw:=hid (ju.out.below hb);have bZ:=hid (show StdP V rA2 rc2 lA2 bA2 bz2 kA2 kc2 eA2 ec2 m a S (zt0 (zc3 rows) (zg8 rows)) (zwh (zg8 rows)) (zKb m (zjD cost rows)) (zca nC rows m)from hst);have bJ:=hid (show IntsZ V 0 (gA,m,gc) ((zg8 rows).map sgI)from hz)
 have bv:=hid (bt.out.trans ((hb).mono bt.out.size));clear hst hz hb;have D:=zae V (.cells #[(rA2,m,rc2),(a:Int),(bA2,m,bz2),(kA2,a,kc2),(nC:Int),(eA2,m,ec2),(gA,m,gc),(N:Int)] 117);have ak:=hid (zad D bu.out);have al:=hid (zad D bx.out);have ar:=hid (zad D bB.out)
 have dE:=hid (dy.out.below D);have jw:=hid (dw.out.below D);have aU:=hid (bZ.out.below D);have e4:=hid (bJ.out.below D);have L:=hid (bv.out.trans ((D).mono bv.out.size))
 have KT:=hid (zal V #[(rA2,m,rc2),(a:Int),(bA2,m,bz2),(kA2,a,kc2),(nC:Int),(eA2,m,ec2),(gA,m,gc),(N:Int)] 117);obtain⟨dI,_,dJ,_,dF,_,dG,_,dH,_,e5,_,e7,_,e9,_⟩:=bc8 KT.out
 clear ft fu gB gC g3 iJ jq js;go_wp2_with fail
 have bG:=hid L.out;have ca:=bG.out.size;generalize hwS:(V.alloc (.cells #[(rA2,m,rc2),(a:Int),(bA2,m,bz2),(kA2,a,kc2),(nC:Int),(eA2,m,ec2),(gA,m,gc),(N:Int)] 117))=wS at *
 clear hwS;with_reducible refine(pfeasible rA2 rc2 bA2 bz2 kA2 kc2 eA2 ec2 gA gc m a nC N lA2 S (zc3 rows) (zg8 rows) (zKb m (zjD cost rows)) (zca nC rows m) 0 _ aU.out e4.out T.out bU.out bN.out aA.out a4.out B aY.out).mono ?_
 rintro e w3 ⟨t,h⟩;rw[bT.out,bH.out,bR.out]at h;have aX:=hid t;have X:=hid (zad t al.out);have bm:=hid (zad t KT.out);have c4:=hid (aU.out.below t);have aV:=hid (L.out.trans ((t).mono L.out.size));obtain⟨au,am,hh,_,av,an,hj,_,aw,ao,hl,_,ax,ap,hR,_,ay,aq,hU,_⟩:=bf5 X.out;obtain⟨eY,_,eZ,_,e0,_,e1,_,e2,_,e6,_,e8,_,fa,_⟩:=bc8 bm.out;clear t
 rcases h with ⟨b,ev,rfl,i,num,rfl,K,u⟩ | ⟨b,E,Y,cY,rfl,hY⟩ | ⟨b,E,U,ev,rfl,i,num,rfl,K,u⟩ | ⟨b,E,U,wn,q,tA,tc,rfl,hT,bb,b7⟩
 ·have c:=hid (aa.out.1 b);have F:=hid u;have G:=hid K;clear b u K;go_wp2;refine bodyPost_ret (v:=.tuple #[.agg #[.int .i64 0,false,(),(),()],.int .i64 (r.n:Int),(),.iface 224 (.pointer (some ⟨i,0,none⟩))]) (by simp[results,Tryz.results16,go_sem,au,am,av,an,aw,ao,ax,ap,ay,aq]) rfl ?_;have f:=zqy X.out (.int .i64 0) false () () ();rw[c.out]
  exact⟨bsc (bsc (bsc (bsc (bsc aV.out)))),i,num,rfl,G.out,f.blk F.out (by decide)⟩
 ·have c:=hid (aa.out.2.1 b E);clear b E hY;go_wp2;refine bodyPost_ret (v:=.tuple #[.agg #[.int .i64 2,false,(),(),()],.int .i64 (r.n:Int),(),.nilIface]) (by simp[results,Tryz.results16,go_sem,au,am,av,an,aw,ao,ax,ap,ay,aq]) rfl ?_;have f:=zqy X.out (.int .i64 2) false () () ();rw[c.out];exact⟨bsc (bsc (bsc (bsc (bsc aV.out)))),rfl⟩
 ·have c:=hid ((aa.out.2.2 b E).1 U);have F:=hid u;have G:=hid K;clear b E U u K;go_wp2;refine bodyPost_ret (v:=.tuple #[.agg #[.int .i64 0,false,(),(),()],.int .i64 (n:Int),(),.iface 224 (.pointer (some ⟨i,0,none⟩))]) (by simp[results,Tryz.results16,go_sem,au,am,av,an,aw,ao,ax,ap,ay,aq]) rfl ?_;have f:=zqy X.out (.int .i64 0) false () () ();rw[c.out]
  exact⟨bsc (bsc (bsc (bsc (bsc aV.out)))),i,num,rfl,G.out,f.blk F.out (by decide)⟩
 ·have aC:=hid ((aa.out.2.2 b E).2 U);have HT:=hid hT;have a6:=hid bb;have bK:=hid hT.hle;clear b E U hT bb b7;clear dI dJ dF dG dH e5 e7 e9;have jJ:=bQ.out;have jD:=aY.out;go_wp2_with fail
  with_reducible refine(pmay rA2 rc2 bA2 bz2 kA2 kc2 eA2 ec2 gA gc m a nC N _ (by have:=T.out;omega) ba).mono ?_
  rintro e w4 ⟨M,cM,rfl,hm,hb⟩;have c3:=hid (zad hb bm.out);have bn:=hid (c4.out.below hb);have c5:=hid (HT.out.below hb);have HM:=hid (show BoolsS w4 w3.heap.size (M,a,cM) (zKc N m)from(by have h:=hm;rw[bP.out]at h;exact h))
  obtain⟨_,_,_,_,_,_,dm,_⟩:=bc8 c3.out;have bE:=hid (aX.out.trans (hb.mono aX.out.size));clear hm hb;go_wp2_with fail
  rw[show(B:Int)-(n:Int)=((B-n:Nat):Int)by omega];with_reducible refine(prun c5.out kA2 kc2 0 (zKb m (zjD cost rows)) bn.out.C bn.out.zc M a cM w3.heap.size (zKc N m) HM.out aA.out ((B-n:Nat):Int) (by omega)).mono ?_
  rintro e w5 ⟨ev,rfl,hev,hT5,hb5,hk5⟩;rw[show(((B-n:Nat):Int)).toNat=B-n from Int.toNat_natCast _,bX.out]at hev hT5 ⊢;have a5:=hid hT5;have bO:=hid (HM.out.kept hk5 (by decide));have z:Below wS.heap.size wS w5:=bE.out.trans (hb5.mono a6.out);have az:=hid z;have b3:=hid (show ∀g,(Value.slice tA m tc).ownBlock=some g→g<w5.heap.size by
   intro g hg;obtain⟨_,_,_,hP⟩:=hT5;exact(hP.colsI.own.lt g hg).2)
  clear hT5 hb5 hk5;have ai:=hid (zad z al.out);have bg:=hid (zad z ar.out);have bj:=hid (zad z KT.out);have ch:=hid (aU.out.below z);have be:=hid (L.out.trans ((z).mono L.out.size));obtain⟨aP,aS,cU,_,aQ,aT,cW,_,aM,aL,cZ,_,aN,aJ,cO,_,aO,aK,cS,_⟩:=bf5 ai.out;obtain⟨_,_,_,_,_,_,_,_,_,_,_,_,_,_,cB,_⟩:=bc8 bj.out;clear z
  clear au am hh av an hj aw ao hl ax ap hR ay aq hU eY eZ e0 e1 e2 e6 e8 fa dm;have jK:n+s.n≤1000000:=by have:=ab.out;omega
  rcases hev with ⟨b,rfl⟩ | ⟨b,i,rfl,u⟩
  ·cases hat:s.at_ with
   | some j =>
    have x:zbh (some j)=(j:Int):=rfl;rw[x];have c:=hid (aC.out.2.1 j b hat);have jG:(0:Int)≤(j:Int):=Int.natCast_nonneg _;clear b hat x;go_wp2;refine bodyPost_ret (v:=.tuple #[.agg #[.int .i64 3,false,(),(),()],.int .i64 ((n+s.n:Nat):Int),(),.nilIface]) (by simp[results,Tryz.results16,go_sem,aP,aS,aQ,aT,aM,aL,aN,aJ,aO,aK]) rfl ?_;have f:=zqy ai.out (.int .i64 3) false () () ();rw[c.out]
    exact⟨bsc (bsc (bsc (bsc (bsc be.out)))),rfl⟩
   | none =>
    have x:zbh none = -1:=rfl;rw[x];have a2:=hid (aC.out.2.2 b hat);clear b hat x;go_wp2_with fail
    with_reducible refine(yui a5.out N).mono ?_
    rintro e w6 ⟨Bo,ko,cBo,rfl,hi,hb⟩;have dM:=hid (zad hb bg.out);have eG:=hid (zad hb bj.out);have bd:=hid (ch.out.below hb);have cf:=hid (a5.out.below hb);have cg:=hid (bO.out.below hb);have HI:=hid (show IntsS w6 w5.heap.size (Bo,ko,cBo) (ytJ N s.cols)from hi);obtain⟨_,_,_,_,_,_,_,_,dP,_⟩:=bc6 dM.out
    obtain⟨_,_,_,_,_,_,cj,_,_,_,_,_,_,cs,_⟩:=bc8 eG.out;have bF:=hid (az.out.trans (hb.mono az.out.size));clear hi hb;go_wp2_with fail
    rw[show(B:Int)-((n:Int)+(s.n:Int))=((B-(n+s.n):Nat):Int)by have:=ab.out;omega];with_reducible refine(least cf.out kA2 kc2 0 (zKb m (zjD cost rows)) bd.out.C bd.out.zc M cM w3.heap.size (zKc N m) cg.out bK.out aA.out nC (B-(n+s.n)) (by have:=HN.out;have:=T.out;omega) (by omega)).mono ?_
    rintro e w7 ⟨ev,rfl,hev,hln,hT7,hb7,hk7⟩;rw[bM.out]at hev hln hT7 ⊢;have b2:=hid hT7;have bL:=hid (hk7.ints (by decide) HI.out fun g hg e=>by have h1:=(HI.out.own.lt g hg).1;have h2:=b3.out g e.symm;omega);have y:Below wS.heap.size wS w7:=bF.out.trans (hb7.mono a6.out);have jL:n+s.n+l.n≤1000000:=by have:=ab.out;omega
    clear hT7 hb7 hk7 hln;have bh:=hid (zad y ak.out);have aR:=hid (zad y al.out);have dv:=hid (dE.out.below y);have cd:=hid (jw.out.below y);have aj:=hid (L.out.trans ((y).mono L.out.size));obtain⟨kN,_,kO,_⟩:=bc2 bh.out;obtain⟨eg,ek,k3,_,eh,el,k4,_,eH,eK,k5,_,eI,eL,k6,_,eJ,eM,k7,_⟩:=bf5 aR.out;clear y
    clear aP aS cU aQ aT cW aM aL cZ aN aJ cO aO aK cS cB dP cj cs;rcases hev with ⟨b,rfl⟩ | ⟨b,i,num,rfl,K,u⟩
    ·have c:=hid (show o=.best s.cols l.cols (n+s.n+l.n)from a2.out.trans (by unfold yth;rw[b];rfl));clear b;go_wp2_with fail
     with_reducible refine(answer b2.out C nC H R m I cost rows dv.out cd.out (by have:=HN.out;have:=T.out;omega) bY.out a4.out).mono ?_
     rintro e w8 ⟨g2,A2,m2,c2,D2,md2,cd2,P,cP,rfl,Q,hv,hb⟩;have bk:=hid (zad hb aR.out);have cv:=hid (bL.out.below hb);have HA:=hid (show RatS w8 g2 (A2,m2,c2) (D2,md2,cd2) (dot cost (ytf nC a (zt0 (zc3 rows) (zg8 rows)) (zwh (zg8 rows)) l.cols))from Q);have bS:=hid (show VecS w8 w7.heap.size (P,nC,cP) (ytf nC a (zt0 (zc3 rows) (zg8 rows)) (zwh (zg8 rows)) l.cols)from hv)
     have du:=hid (aj.out.trans ((hb).mono aj.out.size));obtain⟨c0,cJ,km,_,c1,cK,kn,_,de,cE,ke,_,dg,cG,kf,_,di,cI,kg,_⟩:=bf5 bk.out;clear Q hv hb;have b9:w.heap.size≤w7.heap.size:=(aj).out.size;have b8:w.heap.size≤w5.heap.size:=Nat.le_trans ca az.out.size;go_wp2
     refine bodyPost_ret (v:=.tuple #[.agg #[.int .i64 1,g2,(A2,m2,c2),(D2,md2,cd2),(P,nC,cP)],.int .i64 ((n+s.n+l.n:Nat):Int),(Bo,ko,cBo),.nilIface]) (by simp[results,Tryz.results16,go_sem,c0,cJ,c1,cK,de,cE,dg,cG,di,cI]) rfl ?_;have f:=zqy bk.out (.int .i64 1) g2 (A2,m2,c2) (D2,md2,cd2) (P,nC,cP);rw[c.out]
     exact⟨bsc (bsc (bsc (bsc (bsc du.out)))),g2,A2,m2,c2,D2,md2,cd2,P,cP,Bo,ko,cBo,rfl,HA.out.tk f (by decide),(bS.out.base b9).tk f (by decide) (by decide),(cv.out.base b8).tk f (by decide)⟩
    ·have c:=hid (show o=.spent (n+s.n+l.n)from a2.out.trans (by unfold yth;rw[if_pos b]));have F:=hid u;have G:=hid (show num≤B by omega);clear b u K;go_wp2;refine bodyPost_ret (v:=.tuple #[.agg #[.int .i64 0,false,(),(),()],.int .i64 ((n+s.n+l.n:Nat):Int),(),.iface 224 (.pointer (some ⟨i,0,none⟩))]) (by simp[results,Tryz.results16,go_sem,eg,ek,eh,el,eH,eK,eI,eL,eJ,eM]) rfl ?_
     have f:=zqy aR.out (.int .i64 0) false () () ();rw[c.out];exact⟨bsc (bsc (bsc (bsc (bsc aj.out)))),i,num,rfl,G.out,f.blk F.out (by decide)⟩
  ·have c:=hid (aC.out.1 b);have F:=hid u;have G:=hid (show s.n≤B by have:=ab.out;omega);clear b u;go_wp2;refine bodyPost_ret (v:=.tuple #[.agg #[.int .i64 0,false,(),(),()],.int .i64 ((n+s.n:Nat):Int),(),.iface 224 (.pointer (some ⟨i,0,none⟩))]) (by simp[results,Tryz.results16,go_sem,aP,aS,aQ,aT,aM,aL,aN,aJ,aO,aK]) rfl ?_;have f:=zqy ai.out (.int .i64 0) false () () ();rw[c.out]
   exact⟨bsc (bsc (bsc (bsc (bsc be.out)))),i,s.n,rfl,G.out,f.blk F.out (by decide)⟩
