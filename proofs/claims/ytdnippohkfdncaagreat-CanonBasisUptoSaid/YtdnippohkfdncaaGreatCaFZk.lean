/- Contracts and lemmas: CaF. Conditions: as each says. -/
import Derived.Test.YtdnippohkfdncaaGreatCaAZk
import Derived.Test.YtdnippohkfdncaaGreatPrSZk
set_option linter.all false
set_option maxHeartbeats 2000000
set_option maxRecDepth 100000
namespace Go.Proofs.YtdnippohkfdncaaGreat
open Go.RowKit Am
open Lib (hid)
attribute [local go_sem ↓] Go.wp_at_zero Go.wp_at_succ
def yts (N own:Nat) (A:List (List Rat)) (b c:List Rat) (B:Nat) (cols:List Nat):COut :=
  let r:=pivs (zbE N A b c (List.replicate N true)) B cols
  if r.err then .spent r.n
  else match r.at_ with
    | some _=>.none r.n
    | .none=>yth r.n r.cols (ys2 N A b (B-r.n) (ys5 N own 0) (ys7 (zaC N A r.cols c) (List.replicate N true)) r.cols 0)
theorem ytz{N own:Nat}{A:List (List Rat)}{b c:List Rat}{B:Nat}{cols:List Nat}{r:RunOut}{l:LexOut}(hr:pivs (zbE N A b c (List.replicate N true)) B cols=r)(d:ys2 N A b (B-r.n) (ys5 N own 0) (ys7 (zaC N A r.cols c) (List.replicate N true)) r.cols 0=l) :
  (r.err=true→yts N own A b c B cols=.spent r.n)∧(∀k,r.err=false→r.at_=some k→yts N own A b c B cols=.none r.n)∧(r.err=false→r.at_=none→yts N own A b c B cols=yth r.n r.cols l):=by
 unfold yts;simp only[hr,d];exact⟨fun h=>by rw[if_pos h],fun k h a=>by rw[h,a];rfl,fun h a=>by rw[h,a];rfl⟩
namespace Ca
theorem yuw(C:OA)(nC k:Nat)(R:OA)(m s:Nat)(cost:List Rat)(rows:List PRow)(N B:Nat)(tA:OA)(tc V:Nat)(cols:List Nat)(w:World)(hc:VecS w 0 (.slice C nC k) cost)(hr:RowsS w 0 (.slice R m s) rows)(hg:Good1 nC m cost rows)(hN:nC+cnt rows m=N)(hB:B≤1000000)(z:IntsS w V (.slice tA m tc) cols)(aA:Basis m N (zc3 rows) cols)(hR:zdi (zaC N (zc3 rows) cols (zjD cost rows)) (List.replicate N true)=none) :
  Calls Tryz.prog 24 #[.agg #[.slice C nC k,.slice R m s],.slice tA m tc,.int .i64 (B:Int)] w (ytb w nC N (zc3 rows) (zg8 rows) cost B id (yts N nC (zc3 rows) (zg8 rows) (zjD cost rows) B cols)):=by
 have fJ:=hid hc.len;have Q:=hid hg;have S:=hid hN;have fN:=zgO rows m;have aC:=hg.hr;have fM:=hg.hc;have be:N≤64:=by omega
 have fP:m≤64:=by omega
 have a6:=hid (show Rows nC rows from fun p b=>⟨(hg.rw_ p b).1,fun q Y=>Nat.le_trans ((hg.rw_ p b).2.1 q Y) (by decide),Nat.le_trans (hg.rw_ p b).2.2 (by decide)⟩);have M:=hid (zWc m aC);have a7:=hid (zVF m aC);have a8:=hid (show Sm cost from fun q Y=>Nat.le_trans (hg.sc q Y) (by decide));have aW:=hid hB;have aV:=hid aA;have a5:=hid hR;obtain⟨r,E⟩:∃r,pivs (zbE N (zc3 rows) (zg8 rows) (zjD cost rows) (List.replicate N true)) B cols=r:=⟨_,rfl⟩
 obtain⟨l,X⟩:∃l,ys2 N (zc3 rows) (zg8 rows) (B-r.n) (ys5 N nC 0) (ys7 (zaC N (zc3 rows) r.cols (zjD cost rows)) (List.replicate N true)) r.cols 0=l:=⟨_,rfl⟩
 have U:=hid (ytz E X);have a4:=hid E;have a1:=hid X;have au:=hid (show r.n≤B by rw[←E];exact zLj _ _ _);generalize hoo:yts N nC (zc3 rows) (zg8 rows) (zjD cost rows) B cols=o at *
 clear hg hN hB E X hoo aA hR;obtain⟨W,d⟩:∃W,((w.alloc (.cells #[.slice C nC k,.slice R m s] 47)).alloc (.cells #[.int .i64 0,.bool false,.slice none 0 0,.slice none 0 0,.slice none 0 0] 39))=W:=⟨_,rfl⟩
 have ax:=hid (show W.heap[w.heap.size]? = some (.cells #[.slice C nC k,.slice R m s] 47 (0,0))by rw[←d];exact zak (zam (by simp)));have ay:=hid (show W.heap[w.heap.size+1]? = some (.cells #[.int .i64 0,.bool false,.slice none 0 0,.slice none 0 0,.slice none 0 0] 39 (0,0))by rw[←d];exact zam (by simp));have BB:=hid (show Below w.heap.size w W by rw[←d];exact(zae w _).alloc (by simp) _);have HZ:=hid (show w.heap.size+2≤W.heap.size by rw[←d];simp)
 have HC:=hid (show VecS W 0 (.slice C nC k) cost by rw[←d];exact((hc).alloc _).alloc _);have HR:=hid (show RowsS W 0 (.slice R m s) rows by rw[←d];exact((hr).alloc _).alloc _);have a0:=hid (show IntsS W V (.slice tA m tc) cols by rw[←d];exact((z).alloc _).alloc _);obtain⟨cX,c6,cY,cS⟩:=bc2 ax.out;obtain⟨dn,di,dK,de,dg,dt,dw,da,dA,dF,ea,dT,fe,eZ,eT,ey,fg,e3,eW,eC⟩:=bf5 ay.out;clear hc hr z;go_enter Tryz.func24,Tryz.ntmps24;go_wp2_with fail
 clear d;with_reducible refine(Pb.standardN 1 (Nat.le_refl _) C nC k R m s cost rows N S.out _ HC.out HR.out (by omega) (by omega) a6.out Q.out.kd Q.out.sc (fun p b=>(Q.out.rw_ p b).2)).mono ?_
 rintro e w1 ⟨rA,rc,lA,bA,bc_,kA,kc,eA,ec,rfl,hst,hb⟩;have aO:=hid (zad hb ax.out);have aM:=hid (zad hb ay.out);have fC:=hid (HC.out.below hb);have fd:=hid (HR.out.below hb);have bp:=hid (a0.out.below hb);have a9:=hid (show StdP w1 rA rc lA bA bc_ kA kc eA ec m N 1 (zc3 rows) (zg8 rows) (zjD cost rows) (zca nC rows m)from hst);have aN:=hid (BB.out.trans ((hb).mono BB.out.size));obtain⟨cV,c4,cW,c5⟩:=bc2 aO.out;obtain⟨dj,c1,dG,dc,dp,cQ,dC,dh,db,du,dP,dE,ff,e0,eU,ez,fh,e4,eX,eD⟩:=bf5 aM.out
 clear hst hb;have u:=zae w1 (.cells #[.slice rA m rc,.int .i64 (N:Int),.slice bA m bc_,.slice kA N kc,.int .i64 (nC:Int),.slice eA m ec] 109);have J:=hid (zad u aO.out);have K:=hid (zad u aM.out);have bv:=hid (fC.out.below u);have fw:=hid (fd.out.below u);have bq:=hid (bp.out.below u);have aF:=hid (a9.out.below u);have A:=hid (aN.out.trans ((u).mono aN.out.size));obtain⟨cZ,cT,c0,cU⟩:=bc2 J.out;obtain⟨dk,c3,c9,dq,dm,cO,dH,dd,dv,df,eb,dU,e1,ew,es,d8,e5,en,et,d9⟩:=bf5 K.out
 have D:=hid (zal w1 #[.slice rA m rc,.int .i64 (N:Int),.slice bA m bc_,.slice kA N kc,.int .i64 (nC:Int),.slice eA m ec] 109);obtain⟨d0,dX,d1,dY,el,dM,e7,fi,fs,fk,fu,fm⟩:=bc6 D.out;clear cX c6 cY cS dn di dK de dg dt dw da dA dF ea dT fe eZ eT ey fg e3 eW eC cV c4 cW c5 dj c1 dG dc dp cQ dC dh db du dP dE ff e0 eU ez fh e4 eX eD;go_wp2_with fail
 have fS:=HZ.out;have aX:=hid A.out;have bi:=aX.out.size;generalize hwS:(w1.alloc (.cells #[.slice rA m rc,.int .i64 (N:Int),.slice bA m bc_,.slice kA N kc,.int .i64 (nC:Int),.slice eA m ec] 109))=wS at *
 clear hwS;with_reducible refine(Tb.new rA rc lA bA bc_ kA kc eA ec m N 1 nC (zc3 rows) (zg8 rows) (zjD cost rows) (zca nC rows m) tA tc cols V _ aF.out bq.out aV.out M.out).mono ?_
 rintro e F ⟨q,tB,tbc,rfl,hT,hb⟩;have aP:=hid (zad hb J.out);have aQ:=hid (zad hb K.out);have aR:=hid (zad hb D.out);have HT:=hid (show zhi wS F wS.heap.size q rA rc lA bA bc_ kA kc eA ec m N 1 nC (zc3 rows) (zg8 rows) (zjD cost rows) (zca nC rows m) tB tbc cols from hT);obtain⟨dV,c7,dW,c8⟩:=bc2 aP.out;obtain⟨eF,d2,eQ,ef,eG,d3,eK,eg,eM,ei,eL,eh,e2,ex,eV,eB,e6,eo,eY,eE⟩:=bf5 aQ.out;obtain⟨fo,e9,fp,fa,fq,fc,fr,fj,ft,fl,fv,fn⟩:=bc6 aR.out;have am:=hid hb;clear hT hb;have aY:=hid (HT.out).hle
 go_wp2_with fail
 with_reducible refine(Du.all N be _).mono ?_
 rintro e w4 ⟨MA,rfl,hm,hb⟩;have dl:=hid (zad hb aP.out);have dx:=hid (zad hb aQ.out);have eu:=hid (zad hb aR.out);have bs:=hid (HT.out.below hb);have HM:=hid (show BoolsS w4 F.heap.size (.slice MA N N) (List.replicate N true)from hm);obtain⟨dI,dr,dJ,ds⟩:=bc2 dl.out;obtain⟨dQ,dy,dN,dB,dR,dz,dO,dD,eH,d4,d7,dZ,eN,ej,ed,dS,eO,ek,ee,dL⟩:=bf5 dx.out;obtain⟨eI,d5,eJ,d6,eP,em,e8,ep,eR,eq,eS,er⟩:=bc6 eu.out;have aT:=hid (am.out.trans (hb.mono am.out.size));clear hm hb;go_wp2_with fail
 have fL:=aW.out;with_reducible refine(Du.run bs.out MA N F.heap.size HM.out M.out (B:Int) (by omega) a5.out).mono ?_
 rintro e G ⟨ev,rfl,hev,hT5,hb5,hk5⟩;rw[show((B:Int)).toNat=B from Int.toNat_natCast _,a4.out]at hev hT5 ⊢;have aw:=hid hT5;have a2:=hid (HM.out.kept hk5 (by decide));have t:Below wS.heap.size wS G:=aT.out.trans hb5;have L:=hid t;have bb:=hid (show ∀g,(Value.slice tB m tbc).ownBlock=some g→g<G.heap.size by
  intro g hg;obtain⟨_,_,_,hP⟩:=hT5;exact(hP.colsI.own.lt g hg).2)
 clear hT5 hb5 hk5;have aH:=hid (zad t J.out);have I:=hid (zad t K.out);have aI:=hid (zad t D.out);have bo:=hid (aF.out.below t);have aJ:=hid (A.out.trans ((t).mono A.out.size));obtain⟨bO,bD,bP,bE⟩:=bc2 aH.out;obtain⟨af,ab,bF,bt,ag,ac,bG,bu,ah,ad,bH,bw,ai,ae,bI,bx,aj,aa,bJ,bz⟩:=bf5 I.out;obtain⟨bQ,bB,bR,bC,bS,bK,bT,bL,bU,bM,bV,bN⟩:=bc6 aI.out;clear t
 clear cZ cT c0 cU dk c3 c9 dq dm cO dH dd dv df eb dU e1 ew es d8 e5 en et d9 d0 dX d1 dY el dM e7 fi fs fk fu fm dV c7 dW c8 eF d2 eQ ef eG d3 eK eg eM ei eL eh e2 ex eV eB e6 eo eY eE fo e9 fp fa fq fc fr fj ft fl fv fn dI dr dJ ds dQ dy dN dB dR dz dO dD eH d4 d7 dZ eN ej ed dS eO ek ee dL eI d5 eJ d6 eP em e8 ep eR eq eS er;have fQ:=au.out;rcases hev with ⟨a,rfl⟩ | ⟨a,x,rfl,y⟩
 ·cases hat:r.at_ with
  | some j =>
   have b:zbh (some j)=(j:Int):=rfl;rw[b];have i:=hid (U.out.2.1 j a hat);have fO:(0:Int)≤(j:Int):=Int.natCast_nonneg _;clear a hat b;go_wp2;refine bodyPost_ret (v:=.tuple #[.agg #[.int .i64 2,.bool false,.slice none 0 0,.slice none 0 0,.slice none 0 0],.int .i64 (r.n:Int),.slice none 0 0,.nilIface]) (by simp[results,Tryz.results24,go_sem,af,ab,ag,ac,ah,ad,ai,ae,aj,aa]) rfl ?_;have f:=zqy I.out (.int .i64 2) (.bool false) (.slice none 0 0) (.slice none 0 0) (.slice none 0 0);rw[i.out]
   exact⟨bsc (bsc (bsc (bsc (bsc aJ.out)))),rfl⟩
  | none =>
   have b:zbh none = -1:=rfl;rw[b];have aq:=hid (U.out.2.2 a hat);clear a hat b;go_wp2_with fail
   with_reducible refine(Tb.basis aw.out).mono ?_
   rintro e w6 ⟨Bo,cBo,rfl,z,hb⟩;have cl:=hid (zad hb aH.out);have cm:=hid (zad hb I.out);have cn:=hid (zad hb aI.out);have aE:=hid (bo.out.below hb);have bn:=hid (aw.out.below hb);have co:=hid (a2.out.below hb);have HI:=hid (show IntsS w6 G.heap.size (.slice Bo m cBo) r.cols from z);obtain⟨b3,cc,b4,cd⟩:=bc2 cl.out;obtain⟨b5,ce,cI,cD,b6,cf,cJ,cE,cv,cy,cK,cF,cw,cz,cL,cG,cx,cA,cM,cH⟩:=bf5 cm.out;obtain⟨b7,cg,b8,ch,b9,ci,ca,cj,cb,ck,cN,cB⟩:=bc6 cn.out;have aU:=hid (L.out.trans (hb.mono L.out.size))
   clear z hb;go_wp2_with fail
   rw[show(B:Int)-(r.n:Int)=((B-r.n:Nat):Int)by omega];with_reducible refine(least bn.out kA kc 0 (zjD cost rows) aE.out.C aE.out.zc MA N F.heap.size (List.replicate N true) co.out aY.out M.out nC (B-r.n) (by have:=S.out;omega) (by omega)).mono ?_
   rintro e Z ⟨ev,rfl,hev,hln,hT7,hb7,hk7⟩;rw[a1.out]at hev hln hT7 ⊢;have ba:=hid hT7;have aZ:=hid (hk7.ints (by decide) HI.out fun g hg e=>by have h1:=(HI.out.own.lt g hg).1;have h2:=bb.out g e.symm;omega);have c:Below wS.heap.size wS Z:=aU.out.trans hb7;have fI:=hid c;have fR:r.n+l.n≤1000000:=by omega
   clear hT7 hb7 hk7 hln;have aG:=hid (zad c J.out);have ak:=hid (zad c K.out);have aL:=hid (zad c D.out);have bl:=hid (bv.out.below c);have bm:=hid (fw.out.below c);have H:=hid (A.out.trans ((c).mono A.out.size));obtain⟨f5,f1,f6,f2⟩:=bc2 aG.out;obtain⟨fD,fx,fY,fT,fE,fy,fZ,fU,fF,fz,f0,fV,fG,fA,f3,fW,fH,fB,f4,fX⟩:=bf5 ak.out;obtain⟨f7,gn,f9,gq,gb,gs,gv,gc,gx,ge,gz,gg⟩:=bc6 aL.out;clear c
   clear bO bD bP bE af ab bF bt ag ac bG bu ah ad bH bw ai ae bI bx aj aa bJ bz bQ bB bR bC bS bK bT bL bU bM bV bN b3 cc b4 cd b5 ce cI cD b6 cf cJ cE cv cy cK cF cw cz cL cG cx cA cM cH b7 cg b8 ch b9 ci ca cj cb ck cN cB;rcases hev with ⟨a,rfl⟩ | ⟨a,x,num,rfl,bf,y⟩
   ·have i:=hid (show o=.best r.cols l.cols (r.n+l.n)from aq.out.trans (by unfold yth;rw[a];rfl));clear a;go_wp2_with fail
    with_reducible refine(answer ba.out C nC k R m s cost rows bl.out bm.out (by have:=S.out;omega) a8.out (Nat.le_trans a7.out (by decide))).mono ?_
    rintro e w8 ⟨g2,A2,m2,c2,D2,md2,cd2,P,cP,rfl,hn,hv,hb⟩;have bX:=hid (zad hb aG.out);have aK:=hid (zad hb ak.out);have bY:=hid (zad hb aL.out);have br:=hid (aZ.out.below hb);have HA:=hid (show RatS w8 g2 (.slice A2 m2 c2) (.slice D2 md2 cd2) (dot cost (ytf nC N (zc3 rows) (zg8 rows) l.cols))from hn);have a3:=hid (show VecS w8 Z.heap.size (.slice P nC cP) (ytf nC N (zc3 rows) (zg8 rows) l.cols)from hv);have bW:=hid (H.out.trans ((hb).mono H.out.size));obtain⟨gi,gl,gj,gm⟩:=bc2 bX.out
    obtain⟨bZ,b1,gG,gB,b0,b2,gH,gC,cp,cs,gI,gD,cq,ct,gJ,gE,cr,cu,gK,gF⟩:=bf5 aK.out;obtain⟨f8,gp,ga,gr,gu,gt,gw,gd,gy,gf,gA,gh⟩:=bc6 bY.out;clear hn hv hb;have bh:w.heap.size≤Z.heap.size:=(H).out.size;have bg:w.heap.size≤G.heap.size:=Nat.le_trans bi L.out.size;go_wp2
    refine bodyPost_ret (v:=.tuple #[.agg #[.int .i64 1,.bool g2,.slice A2 m2 c2,.slice D2 md2 cd2,.slice P nC cP],.int .i64 ((r.n+l.n:Nat):Int),.slice Bo m cBo,.nilIface]) (by simp[results,Tryz.results24,go_sem,bZ,b1,b0,b2,cp,cs,cq,ct,cr,cu]) rfl ?_;have f:=zqy aK.out (.int .i64 1) (.bool g2) (.slice A2 m2 c2) (.slice D2 md2 cd2) (.slice P nC cP);rw[i.out]
    exact⟨bsc (bsc (bsc (bsc (bsc bW.out)))),g2,A2,m2,c2,D2,md2,cd2,P,cP,Bo,m,cBo,rfl,HA.out.tk f (by decide),(a3.out.base bh).tk f (by decide) (by decide),(br.out.base bg).tk f (by decide)⟩
   ·have i:=hid (show o=.spent (r.n+l.n)from aq.out.trans (by unfold yth;rw[if_pos a]));have O:=hid y;have T:=hid (show num≤B by omega);clear a y bf;go_wp2;refine bodyPost_ret (v:=.tuple #[.agg #[.int .i64 0,.bool false,.slice none 0 0,.slice none 0 0,.slice none 0 0],.int .i64 ((r.n+l.n:Nat):Int),.slice none 0 0,.iface 232 (.pointer (some ⟨x,0,none⟩))]) (by simp[results,Tryz.results24,go_sem,fD,fx,fE,fy,fF,fz,fG,fA,fH,fB]) rfl ?_
    have f:=zqy ak.out (.int .i64 0) (.bool false) (.slice none 0 0) (.slice none 0 0) (.slice none 0 0);rw[i.out];exact⟨bsc (bsc (bsc (bsc (bsc H.out)))),x,num,rfl,T.out,f.blk O.out (by decide)⟩
 ·have i:=hid (U.out.1 a);have O:=hid y;have T:=hid au.out;clear a y;go_wp2;refine bodyPost_ret (v:=.tuple #[.agg #[.int .i64 0,.bool false,.slice none 0 0,.slice none 0 0,.slice none 0 0],.int .i64 (r.n:Int),.slice none 0 0,.iface 232 (.pointer (some ⟨x,0,none⟩))]) (by simp[results,Tryz.results24,go_sem,af,ab,ag,ac,ah,ad,ai,ae,aj,aa]) rfl ?_;have f:=zqy I.out (.int .i64 0) (.bool false) (.slice none 0 0) (.slice none 0 0) (.slice none 0 0);rw[i.out]
  exact⟨bsc (bsc (bsc (bsc (bsc aJ.out)))),x,r.n,rfl,T.out,f.blk O.out (by decide)⟩
