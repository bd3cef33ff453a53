/- Contracts and lemmas: PrS. Conditions: as each says. -/
import Derived.Test.YtbhfhkcdfmmmiaaGreatDoorPrFZd
import Derived.Test.YtbhfhkcdfmmmiaaGreatDoorPrBZd
import Derived.Test.YtbhfhkcdfmmmiaaGreatDoorPrYZd
set_option linter.all false
set_option maxHeartbeats 2000000
set_option maxRecDepth 100000
namespace Go.Proofs.YtbhfhkcdfmmmiaaGreatDoor
open Go.RowKit Am
open Lib (hid)
attribute [local go_sem ↓] Go.wp_at_zero Go.wp_at_succ
theorem zTX{N m g:Nat}{A:List (List Rat)}{b c:List Rat}{B:Nat}{r s:RunOut}{d:(List Nat × Nat) × Bool}(hN:N+m=g)(hr:pivs (zBX g (zt0 A b) (zwh b) (zJG N m) (zKc N m)) B (zKa N m)=r)
  (k:zSz N g (zt0 A b) (B-r.n) m 0 (r.cols,0)=d) (l:pivs (zBX g (zt0 A b) (zwh b) (zKb m c) (zKc N m)) (B-(r.n+d.1.2)) d.1.1=s) :
  (r.err=true→zSA N m A b c B=.spent r.n)∧(r.err=false→0<zSB N m A b r.cols→zSA N m A b c B=.none r.cols r.n) ∧
  (r.err=false→¬0<zSB N m A b r.cols→d.2=true→zSA N m A b c B=.spent (r.n+d.1.2)) ∧
  (r.err=false→¬0<zSB N m A b r.cols→d.2=false→s.err=true→zSA N m A b c B=.spent (r.n+d.1.2+s.n)) ∧
  (r.err=false→¬0<zSB N m A b r.cols→d.2=false→s.err=false→s.at_=none→zSA N m A b c B=.best s.cols (r.n+d.1.2+s.n)) ∧
  (∀j,r.err=false→¬0<zSB N m A b r.cols→d.2=false→s.err=false→s.at_=some j→zSA N m A b c B=.falls s.cols j (r.n+d.1.2+s.n)):=by
 subst hN;unfold zSA;simp only[hr,k,l];refine⟨fun h=>by rw[if_pos h],fun h a=>by rw[h,if_pos a];rfl,fun h a e=>by rw[h,if_neg a,if_pos e];rfl,fun h a e f=>by rw[h,if_neg a,e,if_pos f];rfl,fun h a e f i=>by rw[h,if_neg a,e,f,i];rfl,fun j h a e f i=>by rw[h,if_neg a,e,f,i];rfl⟩
def zVM (w:World) (nC m N NN:Nat) (A0:List (List Rat)) (b0 c0:List Rat) (B:Nat) (o:Out) (e:Ending) (w':World):Prop :=
  Below w.heap.size w w'∧match o with
    | .spent _=>∃ev,e=.returned (.tuple #[.agg #[.int .i64 0,(),(),(),.int .i64 0],ev])∧Spent w' B ev
    | .none cols n=>∃(Y:OA) (cY:Nat),e=.returned (.tuple #[.agg #[.int .i64 2,(),(Y,m,cY),(),(n:Int)],.nilIface])∧VecS w' w.heap.size (Y,m,cY) (bkL (b0.map sgI) (zcl (zt0 A0 b0) cols (zJG N m)) m)
    | .best cols n=>∃(P:OA) (cP:Nat) (Y:OA) (cY:Nat),e=.returned (.tuple #[.agg #[.int .i64 1,(P,nC,cP),(Y,m,cY),(),(n:Int)],.nilIface])∧VecS w' w.heap.size (P,nC,cP) ((zh1 NN cols (za5 (zt0 A0 b0) (zwh b0) cols)).take nC)∧VecS w' w.heap.size (Y,m,cY) (bkL (b0.map sgI) (zcl (zt0 A0 b0) cols (zKb m c0)) m)
    | .falls cols j n=>∃(P:OA) (cP:Nat) (D:OA) (cD:Nat),e=.returned (.tuple #[.agg #[.int .i64 3,(P,nC,cP),(),(D,nC,cD),(n:Int)],.nilIface])∧VecS w' w.heap.size (P,nC,cP) ((zh1 NN cols (za5 (zt0 A0 b0) (zwh b0) cols)).take nC)∧VecS w' w.heap.size (D,nC,cD) ((zTj NN cols (zav (zt0 A0 b0) cols j) j m).take nC)
namespace Pr
open Du (zCr)
theorem zYk(rA:OA)(rc:Nat)(lA:List Value)(bA:OA)(bc_:Nat)(kA:OA)(kc:Nat)(eA:OA)(ec m N a S own:Nat)(c:List (List Rat))(b d:List Rat)(left:List Int)(w:World)(hS:StdP w rA rc lA bA bc_ kA kc eA ec m N S c b d left)(l:a≤64)(i:N+m=a)(k:left.length=m)(j:8*S+8≤LIM) :
  Calls Tryz.prog 33 #[.agg #[(rA,m,rc),(N:Int),(bA,m,bc_),(kA,N,kc),(own:Int),(eA,m,ec)]] w fun e w'=>∃(rA:OA) (rc:Nat) (lA:List Value) (bA:OA) (bc_:Nat) (kA:OA) (kc:Nat) (eA:OA) (ec:Nat) (f:OA) (g:Nat),
   e=.returned (.tuple #[.agg #[(rA,m,rc),(a:Int),(bA,m,bc_),(kA,a,kc),(own:Int),(eA,m,ec),(f,m,g),(N:Int)],.nilIface]) ∧
   StdP w' rA rc lA bA bc_ kA kc eA ec m a S (zt0 c b) (zwh b) (zKb m d) left∧IntsZ w' 0 (f,m,g) (b.map sgI)∧Below w.heap.size w w':=by
 subst i;exact pbegin rA rc lA bA bc_ kA kc eA ec m N S own c b d left w hS l k j
theorem psolve(S:Nat)(C:OA)(nC V:Nat)(R:OA)(m X:Nat)(cost:List Rat)(rows:List PRow)(N a B:Nat)(w:World)(hc:VecS w 0 (C,nC,V) cost)(hr:RowsS w 0 (R,m,X) rows)(hg:GoodS S nC m cost rows)(hN:nC+cnt rows m=N)(aX:N+m=a)(E:B≤1000000) :
  Calls Tryz.prog 8 #[.agg #[(C,nC,V),(R,m,X)],(B:Int)] w (zVM w nC m N a (zc3 rows) (zg8 rows) (zjD cost rows) B (zSA N m (zc3 rows) (zg8 rows) (zjD cost rows) B)):=by
 have jv:=hid hc.len;have jw:=hid hr.len;have HG:=hid hg;have HN:=hid hN;have ag:=hid aX;have jz:=zgO rows m;have c7:=hg.hr;have jy:=hg.hc;have bz:a≤64:=by omega
 have c8:m≤64:=by omega
 have cJ:=hid (show Rows nC rows from fun p F=>⟨(hg.rw_ p F).1,fun q hq=>Nat.le_trans ((hg.rw_ p F).2.1 q hq) hg.hS,Nat.le_trans (hg.rw_ p F).2.2 hg.hS⟩);have ax:=hid hg.cap;have cN:=hid hg.sb;have H8:=hid (show 8*S+8≤LIM by rw[zaP];have:=hg.hS;omega);have cL:=hid (show 8*sB m S S+8≤LIM by rw[zaP];have:=hg.sb;omega);have cH:=hid (show 4*(m*(sB m S S+1)+3+sB m S S)+8≤LIM by rw[zaP];have h1:=hg.sb;have h2:m*(sB m S S+1)≤20*(sB m S S+1):=Nat.mul_le_mul_right _ c7;omega);have bf:=hid E
 have cG:=hid (show Rect m N (zc3 rows)by have:=zlk (n:=nC) (rows:=rows) fun k hk=>(hg.rw_ _ (List.mem_of_getElem? (zaO hk))).1;rw[←hr.len,hN]at this;exact this);have cu:=hid (show(zg8 rows).length=m by rw[zxG,←hr.len]);obtain⟨r,aC⟩:∃r,pivs (zBX a (zt0 (zc3 rows) (zg8 rows)) (zwh (zg8 rows)) (zJG N m) (zKc N m)) B (zKa N m)=r:=⟨_,rfl⟩
 obtain⟨d,aB⟩:∃d,zSz N a (zt0 (zc3 rows) (zg8 rows)) (B-r.n) m 0 (r.cols,0)=d:=⟨_,rfl⟩
 obtain⟨s,ac⟩:∃s,pivs (zBX a (zt0 (zc3 rows) (zg8 rows)) (zwh (zg8 rows)) (zKb m (zjD cost rows)) (zKc N m)) (B-(r.n+d.1.2)) d.1.1=s:=⟨_,rfl⟩
 have J:=hid (zTX aX aC aB ac);have cF:=hid aC;have cp:=hid aB;have cI:=hid (show r.n≤B by rw[←aC];exact zLj _ _ _);have cq:=hid (show d.1.2≤B-r.n by have h:=zSH m 0 (r.cols,0) (own:=N) (N:=a) (A:=zt0 (zc3 rows) (zg8 rows)) (B:=B-r.n);rw[aB]at h;exact h.2 (Nat.zero_le _));obtain⟨n,hn⟩:∃n,r.n+d.1.2=n:=⟨_,rfl⟩
 rw[hn]at J ac;have cK:=hid ac;have cy:=hid hn;have cx:=hid (show n≤B by have:=cI.out;have:=cq.out;omega);have bj:=hid (show s.n≤B-n by rw[←ac];exact zLj _ _ _);have cO:=hid (show ∀j,Basis m a (zt0 (zc3 rows) (zg8 rows)) s.cols→s.err=false→s.at_=some j→j<a by
  intro j c3 h1 h2;obtain⟨e1,_,_,e4,_⟩:=zoW (zBX a (zt0 (zc3 rows) (zg8 rows)) (zwh (zg8 rows)) (zKb m (zjD cost rows)) (zKc N m)) (B-n) d.1.1;rw[ac]at e1 e4;have e:=e4 h1;rw[h2,←e1]at e;exact(zSR c3 (by rw[zSS];unfold zjD;rw[List.length_append,List.length_replicate,←hc.len,←hr.len];omega) e).1)
 generalize hoo:zSA N m (zc3 rows) (zg8 rows) (zjD cost rows) B=o at *
 clear hg hN aX E aC aB ac hn hoo;obtain⟨W,Q⟩:∃W,((w.alloc (.cells #[(C,nC,V),(R,m,X)] 31)).alloc (.cells #[.int .i64 0,(),(),(),.int .i64 0] 37))=W:=⟨_,rfl⟩
 have bm:=hid (show W.heap[w.heap.size]? = some (.cells #[(C,nC,V),(R,m,X)] 31 (0,0))by rw[←Q];exact zak (zam (by simp)));have bn:=hid (show W.heap[w.heap.size+1]? = some (.cells #[.int .i64 0,(),(),(),.int .i64 0] 37 (0,0))by rw[←Q];exact zam (by simp));have BB:=hid (show Below w.heap.size w W by rw[←Q];exact(zae w _).alloc (by simp) _);have HZ:=hid (show w.heap.size+2≤W.heap.size by rw[←Q];simp)
 have HC:=hid (show VecS W 0 (C,nC,V) cost by rw[←Q];exact((hc).alloc _).alloc _);have HR:=hid (show RowsS W 0 (R,m,X) rows by rw[←Q];exact((hr).alloc _).alloc _);obtain⟨f0,f8,f1,fV⟩:=bc2 bm.out;obtain⟨gr,gm,gP,gh,gj,gw,gz,gd,gF,gK,hw,g1,i8,iP,iJ,ig,ja,iT,iM,ij⟩:=bf5 bn.out;clear hc hr;go_enter Tryz.func8,Tryz.ntmps8;go_wp2_with fail
 clear Q;with_reducible refine(Pb.standardN S HG.out.h1 C nC V R m X cost rows N HN.out _ HC.out HR.out (by omega) (by omega) cJ.out HG.out.kd HG.out.sc (fun p F=>(HG.out.rw_ p F).2)).mono ?_
 rintro e w1 ⟨rA,rc,lA,bA,bc_,kA,kc,eA,ec,rfl,hst,hb⟩;have cb:=hid (zad hb bm.out);have b8:=hid (zad hb bn.out);have cS:=hid (show StdP w1 rA rc lA bA bc_ kA kc eA ec m N S (zc3 rows) (zg8 rows) (zjD cost rows) (zca nC rows m)from hst);have ca:=hid (BB.out.trans ((hb).mono BB.out.size));obtain⟨fY,f6,fZ,f7⟩:=bc2 cb.out;obtain⟨gn,f4,gL,gf,gs,fU,gH,gl,ge,gx,gV,gJ,i9,iQ,iK,ih,jb,iU,iN,ik⟩:=bf5 b8.out;clear hst hb
 have aA:=zae w1 (.cells #[(rA,m,rc),(N:Int),(bA,m,bc_),(kA,N,kc),(nC:Int),(eA,m,ec)] 80);have b9:=hid (zad aA cb.out);have cc:=hid (zad aA b8.out);have jl:=hid (cS.out.below aA);have cd:=hid (ca.out.trans ((aA).mono ca.out.size));obtain⟨f2,fW,f3,fX⟩:=bc2 b9.out;obtain⟨gp,f5,gb,gt,gq,fT,gM,gg,gy,gi,hx,g2,iR,ic,h9,ht,iV,hU,ia,hu⟩:=bf5 cc.out
 have KS:=hid (zal w1 #[(rA,m,rc),(N:Int),(bA,m,bc_),(kA,N,kc),(nC:Int),(eA,m,ec)] 80);obtain⟨g8,g5,g9,g6,hQ,gS,i0,jc,jn,je,jp,jg⟩:=bc6 KS.out;go_wp2_with fail
 with_reducible refine(zYk rA rc lA bA bc_ kA kc eA ec m N a S nC (zc3 rows) (zg8 rows) (zjD cost rows) (zca nC rows m) _ jl.out bz ag.out (zsk _ _ _) H8.out).mono ?_
 rintro e l ⟨rA2,rc2,lA2,bA2,bz2,kA2,kc2,eA2,ec2,gA,gc,rfl,hst,hz,hb⟩;have ce:=hid (zad hb b9.out);have ch:=hid (zad hb cc.out);have cj:=hid (zad hb KS.out);have cQ:=hid (show StdP l rA2 rc2 lA2 bA2 bz2 kA2 kc2 eA2 ec2 m a S (zt0 (zc3 rows) (zg8 rows)) (zwh (zg8 rows)) (zKb m (zjD cost rows)) (zca nC rows m)from hst);have cs:=hid (show IntsZ l 0 (gA,m,gc) ((zg8 rows).map sgI)from hz);have cf:=hid (cd.out.trans ((hb).mono cd.out.size));obtain⟨g3,f9,g4,ga⟩:=bc2 ce.out
 obtain⟨im,ha,iG,hG,io,hd,iu,hH,iy,hJ,iv,hI,iS,ie,iL,ii,iW,hV,iO,il⟩:=bf5 ch.out;obtain⟨ji,i5,jj,i6,jk,i7,jm,jd,jo,jf,jq,jh⟩:=bc6 cj.out;clear hst hz hb;have ab:=zae l (.cells #[(rA2,m,rc2),(a:Int),(bA2,m,bz2),(kA2,a,kc2),(nC:Int),(eA2,m,ec2),(gA,m,gc),(N:Int)] 95);have ar:=hid (zad ab ce.out);have ae:=hid (zad ab ch.out);have av:=hid (zad ab cj.out);have ba:=hid (cQ.out.below ab);have b5:=hid (cs.out.below ab)
 have U:=hid (cf.out.trans ((ab).mono cf.out.size));obtain⟨gN,gu,gO,gv⟩:=bc2 ar.out;obtain⟨gY,gD,gT,gG,gZ,gE,gU,gI,ip,hf,ho,g7,iz,hL,hD,g0,iA,hM,hE,gQ⟩:=bf5 ae.out;obtain⟨iq,hh,ir,hi,iB,hR,i1,h3,iH,h4,iI,h5⟩:=bc6 av.out;have KT:=hid (zal l #[(rA2,m,rc2),(a:Int),(bA2,m,bz2),(kA2,a,kc2),(nC:Int),(eA2,m,ec2),(gA,m,gc),(N:Int)] 95);obtain⟨dr,di,ds,dj,dn,dk,dp,dl,dq,dm,fN,fy,fP,fC,fR,fc⟩:=bc8 KT.out
 clear f0 f8 f1 fV gr gm gP gh gj gw gz gd gF gK hw g1 i8 iP iJ ig ja iT iM ij fY f6 fZ f7 gn f4 gL gf gs fU gH gl ge gx gV gJ i9 iQ iK ih jb iU iN ik f2 fW f3 fX gp f5 gb gt gq fT gM gg gy gi hx g2 iR ic h9 ht iV hU ia hu g8 g5 g9 g6 hQ gS i0 jc jn je jp jg g3 f9 g4 ga im ha iG hG io hd iu hH iy hJ iv hI iS ie iL ii iW hV iO il ji i5 jj i6 jk i7 jm jd jo jf jq jh;go_upto_region 5 with fail
 have jE:=HZ.out;have cl:=hid U.out;have a4:=cl.out.size;generalize hwS:(l.alloc (.cells #[(rA2,m,rc2),(a:Int),(bA2,m,bz2),(kA2,a,kc2),(nC:Int),(eA2,m,ec2),(gA,m,gc),(N:Int)] 95))=wS at *
 clear hwS;go_wp2_with fail
 with_reducible refine(pfeasible rA2 rc2 bA2 bz2 kA2 kc2 eA2 ec2 gA gc m a nC N lA2 S (zc3 rows) (zg8 rows) (zKb m (zjD cost rows)) (zca nC rows m) 0 _ ba.out b5.out ag.out cG.out cu.out ax.out cN.out B bf.out).mono ?_
 rintro e w3 ⟨E,h⟩;rw[cF.out,cp.out,cy.out]at h;have be:=hid E;have cg:=hid (zad E ar.out);have au:=hid (zad E ae.out);have ci:=hid (zad E av.out);have b4:=hid (zad E KT.out);have dg:=hid (ba.out.below E);have bb:=hid (U.out.trans ((E).mono U.out.size));obtain⟨gW,gB,gX,gC⟩:=bc2 cg.out;obtain⟨aO,aJ,h6,hj,aP,aK,h7,hl,aQ,aL,h8,hs,aR,aM,iw,hA,aS,aN,ix,hC⟩:=bf5 au.out;obtain⟨iX,hX,iY,hZ,iZ,h0,i2,iD,i3,iE,i4,iF⟩:=bc6 ci.out;obtain⟨fG,fl,fH,fn,fI,fp,fJ,fs,fK,fv,fO,fz,fQ,fD,fS,fd⟩:=bc8 b4.out;clear E
 rcases h with ⟨c,ev,rfl,z,num,rfl,al,I⟩ | ⟨c,G,Y,Z,rfl,hY⟩ | ⟨c,G,T,ev,rfl,z,num,rfl,al,I⟩ | ⟨c,G,T,wn,q,tA,tc,rfl,hT,bB,bx⟩
 ·have y:=hid (J.out.1 c);have af:=hid I;have ah:=hid al;clear c I al;go_wp2;refine bodyPost_ret (v:=.tuple #[.agg #[.int .i64 0,(),(),(),.int .i64 0],.iface 119 (.pointer (some ⟨z,0,none⟩))]) (by simp[results,Tryz.results8,go_sem,aO,aJ,aP,aK,aQ,aL,aR,aM,aS,aN]) rfl ?_;have g:=zqy au.out (.int .i64 0) () () () (.int .i64 0);rw[y.out]
  exact⟨bsc (bsc (bsc (bsc (bsc bb.out)))),_,rfl,z,num,rfl,ah.out,g.blk af.out (by decide)⟩
 ·have y:=hid (J.out.2.1 c G);have HY:=hid hY;clear c G hY;go_wp2;refine bodyPost_ret (v:=.tuple #[.agg #[.int .i64 2,(),(Y,m,Z),(),.int .i64 (r.n:Int)],.nilIface]) (by simp[results,Tryz.results8,go_sem,aO,aJ,aP,aK,aQ,aL,aR,aM,aS,aN]) rfl ?_;have g:=zqy au.out (.int .i64 2) () (Y,m,Z) () (.int .i64 (r.n:Int));rw[y.out];exact⟨bsc (bsc (bsc (bsc (bsc bb.out)))),Y,Z,rfl,(HY.out.base a4).tk g (by decide) (by decide)⟩
 ·have y:=hid (J.out.2.2.1 c G T);have af:=hid I;have ah:=hid al;clear c G T I al;go_wp2;refine bodyPost_ret (v:=.tuple #[.agg #[.int .i64 0,(),(),(),.int .i64 0],.iface 119 (.pointer (some ⟨z,0,none⟩))]) (by simp[results,Tryz.results8,go_sem,aO,aJ,aP,aK,aQ,aL,aR,aM,aS,aN]) rfl ?_;have g:=zqy au.out (.int .i64 0) () () () (.int .i64 0);rw[y.out]
  exact⟨bsc (bsc (bsc (bsc (bsc bb.out)))),_,rfl,z,num,rfl,ah.out,g.blk af.out (by decide)⟩
 ·have cz:=hid (J.out.2.2.2.1 c G T);have cA:=hid (J.out.2.2.2.2.1 c G T);have cB:=hid (fun j=>J.out.2.2.2.2.2 j c G T);have HT:=hid hT;have cV:=hid bB;have ju:=hid bx;clear c G T hT bB bx;clear gN gu gO gv gY gD gT gG gZ gE gU gI ip hf ho g7 iz hL hD g0 iA hM hE gQ iq hh ir hi iB hR i1 h3 iH h4 iI h5 dr di ds dj dn dk dp dl dq dm fN fy fP fC fR fc;have jB:=cx.out;have jx:=bf.out;go_upto_region 12 with fail
  go_cut[12,13,7] (fun a1 a2 ev wy=>a1=.int .i64 (zbh s.at_)∧a2=.int .i64 (s.n:Int)∧((s.err=false∧ev=.nilIface)∨(s.err=true∧∃z,ev=.iface 119 (.pointer (some ⟨z,0,none⟩))∧wy.heap[z]? = some (.cells #[.string zve,.int .i64 (s.n:Int),.iface 64 (.int .i64 180)] 123 (0,0))))∧zhi wn wy wn.heap.size q rA2 rc2 lA2 bA2 bz2 kA2 kc2 eA2 ec2 m a S nC (zt0 (zc3 rows) (zg8 rows)) (zwh (zg8 rows)) (zKb m (zjD cost rows)) (zca nC rows m) tA tc s.cols∧Below wS.heap.size wS wy)
  case first=>as_aux_lemma =>
   go_wp2_with fail
   have cw:=hid (show zsn a N=zKc N m by rw[←ag.out,zUB]);have cW:=hid (show IntKind.i64.wrap ((B:Int)-(n:Int))=((B-n:Nat):Int)by rw[IntKind.wrap_i64];omega)
   refine zaS (S:=fun w'=>w'.cell? ⟨l.heap.size,0,none⟩=some (rA2,m,rc2)∧w'.cell? ⟨l.heap.size,1,none⟩=some (.int .i64 (a:Int))∧w'.cell? ⟨l.heap.size,2,none⟩=some (bA2,m,bz2)∧w'.cell? ⟨l.heap.size,3,none⟩=some (kA2,a,kc2)∧w'.cell? ⟨l.heap.size,4,none⟩=some (.int .i64 (nC:Int))∧w'.cell? ⟨l.heap.size,5,none⟩=some (eA2,m,ec2)∧w'.cell? ⟨l.heap.size,6,none⟩=some (gA,m,gc)∧w'.cell? ⟨l.heap.size,7,none⟩=some (.int .i64 (N:Int))) [] (h:=fun hHeld=>?_)
   refine zaw [0,1,2,3,4,6,7,8] ?_;repeat refine tkL (hS:=hHeld) (h:=?_)
   refine zao ?_;rw[cW.out];refine zaB 5 (h:=fun K b=>?_);go_simp
   (go_at_call 36;(with_reducible refine(pmay rA2 rc2 bA2 bz2 kA2 kc2 eA2 ec2 gA gc m a nC N _ (by have:=ag.out;omega) bz).mono ?_);rintro e v1 ⟨M,cM,rfl,hm,hb⟩;have gR:=hid (zad hb cg.out);have iC:=hid (zad hb au.out);have ib:=hid (zad hb ci.out);have dd:=hid (zad hb b4.out);have b6:=hid (dg.out.drew.below hb);have dh:=hid (HT.out.drew.below hb);have HM:=hid (show BoolsS v1 w3.heap.size (M,a,cM) (zKc N m)from(by have h:=hm;rw[cw.out]at h;exact h));obtain⟨mX,mU,mY,mT⟩:=bc2 gR.out;obtain⟨ne,mZ,nm,m4,nf,m0,nn,m5,nt,nb,np,m6,nu,nc,nr,m7,nv,nd,ns,m8⟩:=bf5 iC.out;obtain⟨ng,m1,nh,m2,ni,m3,nw,nj,nx,nk,ny,nl⟩:=bc6 ib.out;obtain⟨lb,kY,lc,k2,ld,k5,le,k8,lf,kN,lg,kQ,li,kU,lk,lo⟩:=bc8 dd.out;have u:Below w3.heap.size w3 v1:=It.bdrew0' hb;clear hm hb)
   (try go_wp2_with fail)
   refine b.out _ _ kp fun hHeld=>?_
   clear b K;try simp only[Act.put,pu1,pu2,pu3,pu4,pu5,pu6]
   refine zaB 9 (h:=fun K b=>?_);go_simp
   (go_at_call 35;(with_reducible refine(prun dh.out kA2 kc2 0 (zKb m (zjD cost rows)) b6.out.C b6.out.zc M a cM w3.heap.size (zKc N m) HM.out ax.out ((B-n:Nat):Int) (by omega)).mono ?_);rintro e v2 ⟨ev,rfl,ak,hT2,hb2,hk2⟩;rw[show(((B-n:Nat):Int)).toNat=B-n from Int.toNat_natCast _,cK.out]at ak hT2 ⊢;have cr:=hid ak;have cU:=hid hT2;have x:=hid (show Below wS.heap.size wS v2 from(be.out.trans (u.mono be.out.size)).trans (hb2.mono cV.out));have hy:=hid (zad x.out ar.out);have jr:=hid (zad x.out ae.out);have js:=hid (zad x.out av.out);have de:=hid (zad x.out KT.out);obtain⟨m9,mV,na,mW⟩:=bc2 hy.out;obtain⟨lI,nQ,lB,nz,lJ,nS,lC,nA,lK,nU,lD,nB,lL,nW,lE,nD,lM,nZ,lF,nE⟩:=bf5 jr.out;obtain⟨lN,n0,lO,nK,lP,nL,lQ,nM,lG,nN,lH,nO⟩:=bc6 js.out;obtain⟨l5,l8,l6,l9,l7,ma,md,mb,me,mc,lh,kR,lj,kV,ll,lp⟩:=bc8 de.out;clear ak hT2 hb2 hk2)
   (try go_wp2_with fail)
   refine b.out _ _ kp fun hHeld=>?_
   clear b K;try simp only[Act.put,pu1,pu2,pu3,pu4,pu5,pu6]
   refine zaw [10,11,12,13,14,15,16] ?_;repeat refine tkL (hS:=hHeld) (h:=?_)
   refine zao ?_;refine zaM (h:=?_);go_wp2;go_meet;exact⟨rfl,rfl,cr.out,cU.out,x.out⟩
  case rest =>
   rename World=>w4
   obtain⟨rfl,rfl,ak,bu,O⟩:=hcut;have d9:=hid (zad O ar.out);have bO:=hid (zad O ae.out);have ea:=hid (zad O av.out);have d8:=hid (zad O KT.out);have d3:=hid (U.out.trans ((O).mono U.out.size));obtain⟨dM,dT,dN,dU⟩:=bc2 d9.out;obtain⟨bK,bM,e6,eN,bL,bN,e7,eO,bV,bY,e8,eP,bW,bZ,e9,eQ,bX,b0,fa,eR⟩:=bf5 bO.out;obtain⟨dO,dV,dP,dW,dQ,dX,dR,dY,a7,dZ,fj,eG⟩:=bc6 ea.out;obtain⟨dS,d0,eb,d1,ed,d2,fq,eK,ft,eM,fw,ew,fA,ey,fE,eB⟩:=bc8 d8.out;have t:=hid O;have L:=hid bu;clear O bu
   rcases ak with ⟨c,rfl⟩ | ⟨c,z,rfl,I⟩
   ·have HE:=hid c;have aw:=hid L.out.basis;clear c;have a3:nC≤a:=by have:=HN.out;have:=ag.out;omega
    have jC:(nC:Int)≤(a:Int):=by omega
    go_upto_region 15 with fail
    go_cut[14] (fun ov wy=>∃(ob:Nat) (P:OA) (f:Nat),ov=.pointer (some ⟨ob,0,none⟩)∧wS.heap.size≤ob∧wy.heap[ob]? = some (.cells #[.int .i64 1,(P,nC,f),(),(),.int .i64 ((n+s.n:Nat):Int)] 37 (0,0))∧VecS wy wS.heap.size (P,nC,f) ((zh1 a s.cols (za5 (zt0 (zc3 rows) (zg8 rows)) (zwh (zg8 rows)) s.cols)).take nC)∧zhi wn wy wn.heap.size q rA2 rc2 lA2 bA2 bz2 kA2 kc2 eA2 ec2 m a S nC (zt0 (zc3 rows) (zg8 rows)) (zwh (zg8 rows)) (zKb m (zjD cost rows)) (zca nC rows m) tA tc s.cols∧Below wS.heap.size wS wy)
    case first =>
     have jD:=bj.out;have bl:=hid (show IntKind.i64.wrap ((n:Int)+(s.n:Int))=((n+s.n:Nat):Int)by rw[IntKind.wrap_i64];omega);go_wp2_with fail
     refine zaS (S:=fun w'=>w'.cell? ⟨w1.heap.size,4,none⟩=some (.int .i64 (nC:Int))) [10] (h:=fun hHeld=>?_);refine zaw [0,2,3,5,6,7] ?_;repeat refine tkL (hS:=hHeld) (h:=?_)
     refine zao ?_;refine zme (i:=1) (j:=9) rfl rfl (by kernel_rfl) (fun K b=>?_) (fun K b=>?_)
     ·skip
      go_simp
      (go_at_call 32;(with_reducible refine(Tb.point L.out.drew).mono ?_);rintro e v1 ⟨P,f,rfl,hv,hb⟩;have u:Below w4.heap.size w4 v1:=It.bdrew0' hb;have z4:=zab u a7;have la:=cell_al (ob:=(.cells #[.int .i64 0,(),(),(),.int .i64 0] 37)) z4;have bk:=hid (L.out.below u);have x:=hid (t.out.trans (u.mono t.out.size));have c4:=hv.form.2.1;have c5:=hv.form.2.2.1;have c6:nC≤f:=(by omega);have aU:=hid ((hv.cut nC a3).base (t.out.size));clear hv;clear hb u)
      (try go_wp2_with fail)
      refine b.out _ _ kp fun hHeld=>?_
      clear b K;try simp only[Act.put,pu1,pu2,pu3,pu4,pu5,pu6]
      refine zaw [4,8] ?_;repeat refine tkL (hS:=hHeld) (h:=?_)
      refine zao ?_;refine zaB 9 (h:=fun K b=>?_);go_simp;refine b.out _ _ kp fun hHeld=>?_
      clear b K;try simp only[Act.put,pu1,pu2,pu3,pu4,pu5,pu6]
      refine zay 10 (h:=fun K b=>?_);go_simp;refine b.out _ _ ?_;clear b K;try simp only[Act.put,pu1,pu2,pu3,pu4,pu5,pu6]
      refine zaM (h:=?_);go_wp2;go_meet;rw[bl.out]
      case rel=>exact⟨v1.heap.size,P,f,rfl,x.out.size,zal _ _ _,aU.out.alloc _,bk.out.alloc _,x.out.alloc x.out.size _⟩
     ·skip
      go_simp;refine b.out _ _ kp fun hHeld=>?_
      clear b K;try simp only[Act.put,pu1,pu2,pu3,pu4,pu5,pu6]
      refine zaB 1 (h:=fun K b=>?_);go_simp
      (go_at_call 32;(first | (with_reducible refine(Tb.point (L.out.drew.alloc _)).mono ?_) | (with_reducible refine(Tb.point ((L.out.alloc _).drew)).mono ?_));rintro e v1 ⟨P,f,rfl,hv,hb⟩;have u:Below w4.heap.size w4 v1:=((zap w4 1).trans ((zae _ _).mono (Nat.le_refl _))).trans (hb.mono (by simp));have aZ:v1.heap[w4.heap.size]? = some (.cells #[.int .i64 0,(),(),(),.int .i64 0] 37 (0,0)):=(zad hb (zal w4.drew #[.int .i64 0,(),(),(),.int .i64 0] 37));have z4:=zab u a7;have bg:=hid aZ;have bk:=hid (L.out.below u);have x:=hid (t.out.trans (u.mono t.out.size));have c4:=hv.form.2.1;have c5:=hv.form.2.2.1;have c6:nC≤f:=(by omega);have aU:=hid ((hv.cut nC a3).base (Nat.le_trans t.out.size (by simp)));clear hv;have cm:=hid u;obtain⟨o0,jH,jP,jQ,o1,jJ,of1,jR,o2,jL,jS,jT,o3,jM,jU,jV,o4,jO,jW,jX⟩:=bf5 aZ;clear hb u aZ)
      (try go_wp2_with fail)
      refine b.out _ _ kp fun hHeld=>?_
      clear b K;try simp only[Act.put,pu1,pu2,pu3,pu4,pu5,pu6]
      refine zaw [4,8] ?_;repeat refine tkL (hS:=hHeld) (h:=?_)
      refine zao ?_;refine zay 10 (h:=fun K b=>?_);go_simp;refine b.out _ _ ?_;clear b K;try simp only[Act.put,pu1,pu2,pu3,pu4,pu5,pu6]
      refine zaM (h:=?_);go_wp2;go_meet;rw[bl.out];have g:=zqy bg.out (.int .i64 1) (P,nC,f) () () (.int .i64 ((n+s.n:Nat):Int))
      case rel=>exact⟨w4.heap.size,P,f,rfl,t.out.size,zar _ (zar _ (zar _ (zar _ (zar _ bg.out)))),aU.out.tk g (by decide) (by decide),L.out.below (((((cm.out.setCell (p:=⟨w4.heap.size,0,none⟩) (Nat.le_refl _) _).setCell (p:=⟨w4.heap.size,1,none⟩) (Nat.le_refl _) _).setCell (p:=⟨w4.heap.size,2,none⟩) (Nat.le_refl _) _).setCell (p:=⟨w4.heap.size,3,none⟩) (Nat.le_refl _) _).setCell (p:=⟨w4.heap.size,4,none⟩) (Nat.le_refl _) _),(((((x.out.setCell (p:=⟨w4.heap.size,0,none⟩) t.out.size _).setCell (p:=⟨w4.heap.size,1,none⟩) t.out.size _).setCell (p:=⟨w4.heap.size,2,none⟩) t.out.size _).setCell (p:=⟨w4.heap.size,3,none⟩) t.out.size _).setCell (p:=⟨w4.heap.size,4,none⟩) t.out.size _)⟩
    case rest =>
     rename World=>w5
     obtain⟨ob,P,f,rfl,c9,hO,hP,bv,H⟩:=hcut;have a5:=hid (zad H ar.out);have bc:=hid (zad H ae.out);have a6:=hid (zad H av.out);have a8:=hid (zad H KT.out);have aH:=hid (ba.out.below H);have b1:=hid (b5.out.below H);have ao:=hid (U.out.trans ((H).mono U.out.size));obtain⟨l3,lZ,l4,l0⟩:=bc2 a5.out;obtain⟨nP,nF,lW,lR,nR,nG,lX,lS,nT,nH,lY,lT,nV,nI,l1,lU,nX,nJ,l2,lV⟩:=bf5 bc.out;obtain⟨mf,mx,mh,mz,mj,mB,mD,mm,mF,mo,mH,mq⟩:=bc6 a6.out;obtain⟨kW,ku,kZ,kw,k3,ky,k6,kB,k9,j9,kO,kb,kS,kf,lm,kh⟩:=bc8 a8.out
     have jt:=hid H;have az:=hid bv;have bi:=hid hP;have aW:=hid hO;have jF:w.heap.size+1<ob:=by have h1:=(Array.getElem?_eq_some_iff.1 ae.out).1;omega
     obtain⟨lq,kj,kI,jY,ls,kl,kK,j0,lu,kn,kC,j2,lw,kq,kE,j4,ly,ks,kG,j6⟩:=bf5 aW.out;clear H bv hP hO c9;clear gW gB gX gC aO aJ h6 hj aP aK h7 hl aQ aL h8 hs aR aM iw hA aS aN ix hC iX hX iY hZ iZ h0 i2 iD i3 iE i4 iF fG fl fH fn fI fp fJ fs fK fv fO fz fQ fD fS fd dM dT dN dU bK bM e6 eN bL bN e7 eO bV bY e8 eP bW bZ e9 eQ bX b0 fa eR dO dV dP dW dQ dX dR dY a7 dZ fj eG dS d0 eb d1 ed d2 fq eK ft eM fw ew fA ey fE eB;cases hat:s.at_ with
     | none =>
      have F:zbh none = -1:=rfl;rw[F];have y:=hid (cA.out HE.out hat);clear hat F;go_wp2_with fail
      with_reducible refine(Tb.duals az.out kA2 kc2 (zKb m (zjD cost rows)) 0 aH.out.C aH.out.zc ax.out).mono ?_
      rintro e w6 ⟨Y,nY,Z,rfl,hv,hb⟩;have aF:=hid (zad hb a5.out);have aq:=hid (zad hb bc.out);have aG:=hid (zad hb a6.out);have aI:=hid (zad hb a8.out);have ad:=hid (zad hb aW.out);have fM:=hid (aH.out.below hb);have b2:=hid (b1.out.below hb);have b7:=hid (az.out.below hb);have a9:=hid (bi.out.below hb);have HY:=hid (show VecS w6 w5.heap.size (Y,nY,Z) (zcl (zt0 (zc3 rows) (zg8 rows)) s.cols (zKb m (zjD cost rows)))from hv);have ap:=hid (ao.out.trans ((hb).mono ao.out.size))
      obtain⟨dz,dF,dA,dG⟩:=bc2 aF.out;obtain⟨bF,bI,ep,ee,bG,bJ,eq,ef,bP,bS,er,eg,bQ,bT,es,eh,bR,bU,et,ei⟩:=bf5 aq.out;obtain⟨dt,dJ,du,dK,d4,dL,d5,dv,d6,dw,d7,dx⟩:=bc6 aG.out;obtain⟨fk,eH,fm,eI,fo,eJ,fr,eL,fu,eu,fx,ex,fB,ez,fF,eC⟩:=bc8 aI.out;obtain⟨fe,eD,eX,eS,ff,eE,eY,eT,fg,eF,eZ,eU,fh,e3,e0,eV,fi,e5,e2,eW⟩:=bf5 ad.out;obtain rfl:m=nY:=by rw[hv.len,(aw.out.duals_ok _).2]
      clear hv hb;have cZ:=hid (show ∀q∈zcl (zt0 (zc3 rows) (zg8 rows)) s.cols (zKb m (zjD cost rows)),mw q≤sB m S S by
       obtain⟨_,_,_,hP⟩:=b7.out;exact znb aw.out hP.bas.good.2.2 hP.std.clen hP.std.zc)
      go_wp2_with fail
      with_reducible refine(pback rA2 rc2 bA2 bz2 kA2 kc2 eA2 ec2 gA gc m a nC N ((zg8 rows).map sgI) 0 Y Z w5.heap.size (zcl (zt0 (zc3 rows) (zg8 rows)) s.cols (zKb m (zjD cost rows))) (sB m S S) _ b2.out (zVI (zg8 rows)) HY.out cL.out (zma _ _ _) cZ.out c8).mono ?_
      rintro e w7 ⟨Y2,nY2,cY2,rfl,hv,hb⟩;have dD:=hid (zad hb aF.out);have bH:=hid (zad hb aq.out);have dE:=hid (zad hb aG.out);have fL:=hid (zad hb aI.out);have b3:=hid (zad hb ad.out);have df:=hid (a9.out.below hb);have cX:=hid (show VecS w7 w.heap.size (Y2,nY2,cY2) (bkL ((zg8 rows).map sgI) (zcl (zt0 (zc3 rows) (zg8 rows)) s.cols (zKb m (zjD cost rows))) m)from(hv.base (show w.heap.size≤w6.heap.size from(ap).out.size)));have dy:=hid (ap.out.trans ((hb).mono ap.out.size))
      obtain⟨ms,mu,mt,mv⟩:=bc2 dD.out;obtain⟨dB,dH,mO,mJ,dC,dI,mP,mK,ej,em,mQ,mL,ek,en,mR,mM,el,eo,mS,mN⟩:=bf5 bH.out;obtain⟨mg,my,mi,mA,mC,ml,mE,mn,mG,mp,mI,mr⟩:=bc6 dE.out;obtain⟨kX,kv,k0,kx,k4,kz,k7,j8,kM,ka,kP,ke,kT,kg,ln,ki⟩:=bc8 fL.out;obtain⟨lr,kk,kJ,jZ,lt,km,kL,j1,lv,ko,kD,j3,lx,kr,kF,j5,lz,kt,kH,j7⟩:=bf5 b3.out;obtain rfl:m=nY2:=by rw[hv.len,zSJ,(aw.out.duals_ok _).2]
      clear hv hb;go_wp2;refine bodyPost_ret (v:=.tuple #[.agg #[.int .i64 1,(P,nC,f),(Y2,m,cY2),(),.int .i64 ((n+s.n:Nat):Int)],.nilIface]) (by simp[results,Tryz.results8,go_sem,dB,dH,dC,dI,ej,em,ek,en,el,eo]) rfl ?_;have am:=TKeep.set (o:=2) (b3.out) (Y2,m,cY2)
      have aY:(w7.setCell ⟨ob,2,none⟩ (Y2,m,cY2)).heap[w.heap.size+1]? = some (.cells #[.int .i64 0,(),(),(),.int .i64 0] 37 (0,0)):=by rw[Below.heap_setCell _ _ _ _ (by show w.heap.size+1≠ob;omega)];exact bH.out
      have g:=zqy aY (.int .i64 1) (P,nC,f) (Y2,m,cY2) () (.int .i64 ((n+s.n:Nat):Int));rw[y.out]
      exact⟨((((((dy.out.setCell (p:=⟨ob,2,none⟩) (by show w.heap.size≤ob;omega) _).setCell (p:=⟨w.heap.size+1,0,none⟩) (by show w.heap.size≤w.heap.size+1;omega) _).setCell (p:=⟨w.heap.size+1,1,none⟩) (by show w.heap.size≤w.heap.size+1;omega) _).setCell (p:=⟨w.heap.size+1,2,none⟩) (by show w.heap.size≤w.heap.size+1;omega) _).setCell (p:=⟨w.heap.size+1,3,none⟩) (by show w.heap.size≤w.heap.size+1;omega) _).setCell (p:=⟨w.heap.size+1,4,none⟩) (by show w.heap.size≤w.heap.size+1;omega) _),P,f,Y2,cY2,rfl,(((df.out.base a4).tk am (by decide) (by decide)).tk g (by decide) (by decide)),((cX.out.tk am (by decide) (by decide)).tk g (by decide) (by decide))⟩
     | some j =>
      have F:zbh (some j)=(j:Int):=rfl;rw[F];have y:=hid (cB.out j HE.out hat);have ct:=hid (cO.out j aw.out HE.out hat);have jA:(0:Int)≤(j:Int):=Int.natCast_nonneg _;clear hat F;go_wp2_with fail
      with_reducible refine(pray az.out gA gc N j ct.out ax.out cH.out a3).mono ?_
      rintro e w6 ⟨D,cD,rfl,hv,hb⟩;have aF:=hid (zad hb a5.out);have aq:=hid (zad hb bc.out);have aG:=hid (zad hb a6.out);have aI:=hid (zad hb a8.out);have ad:=hid (zad hb aW.out);have fM:=hid (aH.out.below hb);have b2:=hid (b1.out.below hb);have b7:=hid (az.out.below hb);have a9:=hid (bi.out.below hb);have HD:=hid (show VecS w6 w.heap.size (D,nC,cD) ((zTj a s.cols (zav (zt0 (zc3 rows) (zg8 rows)) s.cols j) j m).take nC)from(hv.base (show w.heap.size≤w5.heap.size from(ao).out.size)))
      have ap:=hid (ao.out.trans ((hb).mono ao.out.size));obtain⟨dz,dF,dA,dG⟩:=bc2 aF.out;obtain⟨bF,bI,ep,ee,bG,bJ,eq,ef,bP,bS,er,eg,bQ,bT,es,eh,bR,bU,et,ei⟩:=bf5 aq.out;obtain⟨dt,dJ,du,dK,d4,dL,d5,dv,d6,dw,d7,dx⟩:=bc6 aG.out;obtain⟨fk,eH,fm,eI,fo,eJ,fr,eL,fu,eu,fx,ex,fB,ez,fF,eC⟩:=bc8 aI.out;obtain⟨fe,eD,eX,eS,ff,eE,eY,eT,fg,eF,eZ,eU,fh,e3,e0,eV,fi,e5,e2,eW⟩:=bf5 ad.out;clear hv hb;go_wp2
      refine bodyPost_ret (v:=.tuple #[.agg #[.int .i64 3,(P,nC,f),(),(D,nC,cD),.int .i64 ((n+s.n:Nat):Int)],.nilIface]) (by simp[results,Tryz.results8,go_sem,bF,bI,bG,bJ,bP,bS,bQ,bT,bR,bU]) rfl ?_;have am:=TKeep.set (o:=0) (ad.out) (.int .i64 3);have bC:=TKeep.set (o:=3) (zar (o:=0) (.int .i64 3) (ad.out)) (D,nC,cD)
      have aY:((w6.setCell ⟨ob,0,none⟩ (.int .i64 3)).setCell ⟨ob,3,none⟩ (D,nC,cD)).heap[w.heap.size+1]? = some (.cells #[.int .i64 0,(),(),(),.int .i64 0] 37 (0,0)):=by rw[Below.heap_setCell _ _ _ _ (by show w.heap.size+1≠ob;omega),Below.heap_setCell _ _ _ _ (by show w.heap.size+1≠ob;omega)];exact aq.out
      have g:=zqy aY (.int .i64 3) (P,nC,f) () (D,nC,cD) (.int .i64 ((n+s.n:Nat):Int));rw[y.out]
      exact⟨(((((((ap.out.setCell (p:=⟨ob,0,none⟩) (by show w.heap.size≤ob;omega) _).setCell (p:=⟨ob,3,none⟩) (by show w.heap.size≤ob;omega) _).setCell (p:=⟨w.heap.size+1,0,none⟩) (by show w.heap.size≤w.heap.size+1;omega) _).setCell (p:=⟨w.heap.size+1,1,none⟩) (by show w.heap.size≤w.heap.size+1;omega) _).setCell (p:=⟨w.heap.size+1,2,none⟩) (by show w.heap.size≤w.heap.size+1;omega) _).setCell (p:=⟨w.heap.size+1,3,none⟩) (by show w.heap.size≤w.heap.size+1;omega) _).setCell (p:=⟨w.heap.size+1,4,none⟩) (by show w.heap.size≤w.heap.size+1;omega) _),P,f,D,cD,rfl,((((a9.out.base a4).tk am (by decide) (by decide)).tk bC (by decide) (by decide)).tk g (by decide) (by decide)),(((HD.out.tk am (by decide) (by decide)).tk bC (by decide) (by decide)).tk g (by decide) (by decide))⟩
   ·have y:=hid (cz.out c);have af:=hid I;have ah:=hid (show s.n≤B by have:=bj.out;omega);clear c I;go_wp2;refine bodyPost_ret (v:=.tuple #[.agg #[.int .i64 0,(),(),(),.int .i64 0],.iface 119 (.pointer (some ⟨z,0,none⟩))]) (by simp[results,Tryz.results8,go_sem,bK,bM,bL,bN,bV,bY,bW,bZ,bX,b0]) rfl ?_;have g:=zqy bO.out (.int .i64 0) () () () (.int .i64 0);rw[y.out]
    exact⟨bsc (bsc (bsc (bsc (bsc d3.out)))),_,rfl,z,s.n,rfl,ah.out,g.blk af.out (by decide)⟩
