/- Contracts and lemmas: PrS. Conditions: as each says. -/
import Derived.Test.YtbdhheepakmgkaaGreatPrFZc
import Derived.Test.YtbdhheepakmgkaaGreatPrBZc
import Derived.Test.YtbdhheepakmgkaaGreatPrYZc
set_option linter.all false
set_option maxHeartbeats 2000000
set_option maxRecDepth 100000
namespace Go.Proofs.YtbdhheepakmgkaaGreat
open Go.RowKit Am
open Lib (hid)
attribute [local go_sem ↓] Go.wp_at_zero Go.wp_at_succ
theorem zVF:∀n,n≤4→sB n 1 1≤1000000:=by decide +kernel
theorem zWc:∀n,n≤4→zor n 1≤LIM:=by unfold LIM;decide +kernel
theorem zTX{N m g:Nat}{A:List (List Rat)}{b c:List Rat}{B:Nat}{r s:RunOut}{d:(List Nat × Nat) × Bool}(hN:N+m=g)(hr:pivs (zBX g (zt0 A b) (zwh b) (zJG N m) (zKc N m)) B (zKa N m)=r)
  (k:zSz N g (zt0 A b) (B-r.n) m 0 (r.cols,0)=d) (l:pivs (zBX g (zt0 A b) (zwh b) (zKb m c) (zKc N m)) (B-(r.n+d.1.2)) d.1.1=s) :
  (r.err=true→zSA N m A b c B=.spent r.n)∧(r.err=false→0<zSB N m A b r.cols→zSA N m A b c B=.none r.cols r.n) ∧
  (r.err=false→¬0<zSB N m A b r.cols→d.2=true→zSA N m A b c B=.spent (r.n+d.1.2)) ∧
  (r.err=false→¬0<zSB N m A b r.cols→d.2=false→s.err=true→zSA N m A b c B=.spent (r.n+d.1.2+s.n)) ∧
  (r.err=false→¬0<zSB N m A b r.cols→d.2=false→s.err=false→s.at_=none→zSA N m A b c B=.best s.cols (r.n+d.1.2+s.n)) ∧
  (∀j,r.err=false→¬0<zSB N m A b r.cols→d.2=false→s.err=false→s.at_=some j→zSA N m A b c B=.falls s.cols j (r.n+d.1.2+s.n)):=by
 subst hN;unfold zSA;simp only[hr,k,l];refine⟨fun h=>by rw[if_pos h],fun h a=>by rw[h,if_pos a];rfl,fun h a e=>by rw[h,if_neg a,if_pos e];rfl,fun h a e f=>by rw[h,if_neg a,e,if_pos f];rfl,fun h a e f i=>by rw[h,if_neg a,e,f,i];rfl,fun j h a e f i=>by rw[h,if_neg a,e,f,i];rfl⟩
def zVM (w:World) (nC m N NN:Nat) (A0:List (List Rat)) (b0 c0:List Rat) (B:Nat) (o:Out) (e:Ending) (w':World):Prop :=
  Below w.heap.size w w'∧match o with
    | .spent _=>∃ev,e=.returned (.tuple #[.agg #[.int .i64 0,.slice none 0 0,.slice none 0 0,.slice none 0 0,.int .i64 0],ev])∧Spent w' B ev
    | .none cols n=>∃(Y:OA) (cY:Nat),e=.returned (.tuple #[.agg #[.int .i64 2,.slice none 0 0,.slice Y m cY,.slice none 0 0,.int .i64 (n:Int)],.nilIface])∧VecS w' w.heap.size (.slice Y m cY) (bkL (b0.map sgI) (zcl (zt0 A0 b0) cols (zJG N m)) m)
    | .best cols n=>∃(P:OA) (cP:Nat) (Y:OA) (cY:Nat),e=.returned (.tuple #[.agg #[.int .i64 1,.slice P nC cP,.slice Y m cY,.slice none 0 0,.int .i64 (n:Int)],.nilIface])∧VecS w' w.heap.size (.slice P nC cP) ((zh1 NN cols (za5 (zt0 A0 b0) (zwh b0) cols)).take nC)∧VecS w' w.heap.size (.slice Y m cY) (bkL (b0.map sgI) (zcl (zt0 A0 b0) cols (zKb m c0)) m)
    | .falls cols j n=>∃(P:OA) (cP:Nat) (D:OA) (cD:Nat),e=.returned (.tuple #[.agg #[.int .i64 3,.slice P nC cP,.slice none 0 0,.slice D nC cD,.int .i64 (n:Int)],.nilIface])∧VecS w' w.heap.size (.slice P nC cP) ((zh1 NN cols (za5 (zt0 A0 b0) (zwh b0) cols)).take nC)∧VecS w' w.heap.size (.slice D nC cD) ((zTj NN cols (zav (zt0 A0 b0) cols j) j m).take nC)
namespace Pr
open Du (zCr)
theorem zYk(rA:OA)(rc:Nat)(lA:List Value)(bA:OA)(bc_:Nat)(kA:OA)(kc:Nat)(eA:OA)(ec m N a S own:Nat)(c:List (List Rat))(b d:List Rat)(left:List Int)(w:World)(hS:StdP w rA rc lA bA bc_ kA kc eA ec m N S c b d left)(l:a≤64)(i:N+m=a)(k:left.length=m)(j:8*S+8≤LIM) :
  Calls Tryz.prog 23 #[.agg #[.slice rA m rc,.int .i64 (N:Int),.slice bA m bc_,.slice kA N kc,.int .i64 (own:Int),.slice eA m ec]] w fun e w'=>∃(rA:OA) (rc:Nat) (lA:List Value) (bA:OA) (bc_:Nat) (kA:OA) (kc:Nat) (eA:OA) (ec:Nat) (f:OA) (g:Nat),
   e=.returned (.tuple #[.agg #[.slice rA m rc,.int .i64 (a:Int),.slice bA m bc_,.slice kA a kc,.int .i64 (own:Int),.slice eA m ec,.slice f m g,.int .i64 (N:Int)],.nilIface]) ∧
   StdP w' rA rc lA bA bc_ kA kc eA ec m a S (zt0 c b) (zwh b) (zKb m d) left∧IntsZ w' 0 (.slice f m g) (b.map sgI)∧Below w.heap.size w w':=by
 subst i;exact pbegin rA rc lA bA bc_ kA kc eA ec m N S own c b d left w hS l k j
theorem psolve(C:OA)(nC V:Nat)(R:OA)(m X:Nat)(cost:List Rat)(rows:List PRow)(N a B:Nat)(w:World)(hc:VecS w 0 (.slice C nC V) cost)(hr:RowsS w 0 (.slice R m X) rows)(hg:Good1 nC m cost rows)(hN:nC+cnt rows m=N)(aY:N+m=a)(E:B≤1000000) :
  Calls Tryz.prog 7 #[.agg #[.slice C nC V,.slice R m X],.int .i64 (B:Int)] w (zVM w nC m N a (zc3 rows) (zg8 rows) (zjD cost rows) B (zSA N m (zc3 rows) (zg8 rows) (zjD cost rows) B)):=by
 have jt:=hid hc.len;have ju:=hid hr.len;have HG:=hid hg;have HN:=hid hN;have ag:=hid aY;have jx:=zgO rows m;have al:=hg.hr;have jw:=hg.hc;have bB:a≤64:=by omega
 have c6:m≤64:=by omega
 have cK:=hid (show Rows nC rows from fun p F=>⟨(hg.rw_ p F).1,fun q hq=>Nat.le_trans ((hg.rw_ p F).2.1 q hq) (by decide),Nat.le_trans (hg.rw_ p F).2.2 (by decide)⟩);have ay:=hid (zWc m al);have cO:=hid (zVF m al);have H8:=hid (show 8*1+8≤LIM by rw[zaP];decide);have cN:=hid (show 8*sB m 1 1+8≤LIM by rw[zaP];have:=zVF m al;omega);have cI:=hid (show 4*(m*(sB m 1 1+1)+3+sB m 1 1)+8≤LIM by rw[zaP];have h1:=zVF m al;have h2:m*(sB m 1 1+1)≤4*(sB m 1 1+1):=Nat.mul_le_mul_right _ al;omega)
 have bg:=hid E;have cH:=hid (show Rect m N (zc3 rows)by have:=zlk (n:=nC) (rows:=rows) fun k hk=>(hg.rw_ _ (List.mem_of_getElem? (zaO hk))).1;rw[←hr.len,hN]at this;exact this);have cv:=hid (show(zg8 rows).length=m by rw[zxG,←hr.len]);obtain⟨r,aC⟩:∃r,pivs (zBX a (zt0 (zc3 rows) (zg8 rows)) (zwh (zg8 rows)) (zJG N m) (zKc N m)) B (zKa N m)=r:=⟨_,rfl⟩
 obtain⟨d,aB⟩:∃d,zSz N a (zt0 (zc3 rows) (zg8 rows)) (B-r.n) m 0 (r.cols,0)=d:=⟨_,rfl⟩
 obtain⟨s,ac⟩:∃s,pivs (zBX a (zt0 (zc3 rows) (zg8 rows)) (zwh (zg8 rows)) (zKb m (zjD cost rows)) (zKc N m)) (B-(r.n+d.1.2)) d.1.1=s:=⟨_,rfl⟩
 have J:=hid (zTX aY aC aB ac);have cG:=hid aC;have cq:=hid aB;have cJ:=hid (show r.n≤B by rw[←aC];exact zLj _ _ _);have cr:=hid (show d.1.2≤B-r.n by have h:=zSH m 0 (r.cols,0) (own:=N) (N:=a) (A:=zt0 (zc3 rows) (zg8 rows)) (B:=B-r.n);rw[aB]at h;exact h.2 (Nat.zero_le _));obtain⟨n,hn⟩:∃n,r.n+d.1.2=n:=⟨_,rfl⟩
 rw[hn]at J ac;have cL:=hid ac;have cz:=hid hn;have cy:=hid (show n≤B by have:=cJ.out;have:=cr.out;omega);have bk:=hid (show s.n≤B-n by rw[←ac];exact zLj _ _ _);have cQ:=hid (show ∀j,Basis m a (zt0 (zc3 rows) (zg8 rows)) s.cols→s.err=false→s.at_=some j→j<a by
  intro j c2 h1 h2;obtain⟨e1,_,_,e4,_⟩:=zoW (zBX a (zt0 (zc3 rows) (zg8 rows)) (zwh (zg8 rows)) (zKb m (zjD cost rows)) (zKc N m)) (B-n) d.1.1;rw[ac]at e1 e4;have e:=e4 h1;rw[h2,←e1]at e;exact(zSR c2 (by rw[zSS];unfold zjD;rw[List.length_append,List.length_replicate,←hc.len,←hr.len];omega) e).1)
 generalize hoo:zSA N m (zc3 rows) (zg8 rows) (zjD cost rows) B=o at *
 clear hg hN aY E aC aB ac hn hoo;obtain⟨W,Q⟩:∃W,((w.alloc (.cells #[.slice C nC V,.slice R m X] 31)).alloc (.cells #[.int .i64 0,.slice none 0 0,.slice none 0 0,.slice none 0 0,.int .i64 0] 36))=W:=⟨_,rfl⟩
 have bn:=hid (show W.heap[w.heap.size]? = some (.cells #[.slice C nC V,.slice R m X] 31 (0,0))by rw[←Q];exact zak (zam (by simp)));have bo:=hid (show W.heap[w.heap.size+1]? = some (.cells #[.int .i64 0,.slice none 0 0,.slice none 0 0,.slice none 0 0,.int .i64 0] 36 (0,0))by rw[←Q];exact zam (by simp));have BB:=hid (show Below w.heap.size w W by rw[←Q];exact(zae w _).alloc (by simp) _);have HZ:=hid (show w.heap.size+2≤W.heap.size by rw[←Q];simp)
 have HC:=hid (show VecS W 0 (.slice C nC V) cost by rw[←Q];exact((hc).alloc _).alloc _);have HR:=hid (show RowsS W 0 (.slice R m X) rows by rw[←Q];exact((hr).alloc _).alloc _);obtain⟨fY,f6,fZ,fT⟩:=bc2 bn.out;obtain⟨gp,gj,gN,gf,gh,gu,gx,ga,gD,gI,ht,gZ,i6,iN,iH,ic,i8,iR,iK,ih⟩:=bf5 bo.out;clear hc hr;go_enter Tryz.func7,Tryz.ntmps7;go_wp2_with fail
 clear Q;with_reducible refine(Pb.standardN 1 (Nat.le_refl _) C nC V R m X cost rows N HN.out _ HC.out HR.out (by omega) (by omega) cK.out HG.out.kd HG.out.sc (fun p F=>(HG.out.rw_ p F).2)).mono ?_
 rintro e w1 ⟨rA,rc,lA,bA,bc_,kA,kc,eA,ec,rfl,hst,hb⟩;have cc:=hid (zad hb bn.out);have b9:=hid (zad hb bo.out);have cT:=hid (show StdP w1 rA rc lA bA bc_ kA kc eA ec m N 1 (zc3 rows) (zg8 rows) (zjD cost rows) (zca nC rows m)from hst);have cb:=hid (BB.out.trans ((hb).mono BB.out.size));obtain⟨fW,f4,fX,f5⟩:=bc2 cc.out;obtain⟨gl,f2,gJ,gd,gq,fS,gF,gi,gb,gv,gT,gH,i7,iO,iI,ie,i9,iS,iL,ii⟩:=bf5 b9.out;clear hst hb
 have aA:=zae w1 (.cells #[.slice rA m rc,.int .i64 (N:Int),.slice bA m bc_,.slice kA N kc,.int .i64 (nC:Int),.slice eA m ec] 73);have ca:=hid (zad aA cc.out);have cd:=hid (zad aA b9.out);have jj:=hid (cT.out.below aA);have ce:=hid (cb.out.trans ((aA).mono cb.out.size));obtain⟨f0,fU,f1,fV⟩:=bc2 ca.out;obtain⟨gm,f3,f9,gr,gn,fR,gK,ge,gw,gg,hu,g0,iP,ia,h7,ho,iT,hQ,h8,hs⟩:=bf5 cd.out
 have KS:=hid (zal w1 #[.slice rA m rc,.int .i64 (N:Int),.slice bA m bc_,.slice kA N kc,.int .i64 (nC:Int),.slice eA m ec] 73);obtain⟨g6,g3,g7,g4,hL,gQ,iY,ja,jl,jc,jn,je⟩:=bc6 KS.out;go_wp2_with fail
 with_reducible refine(zYk rA rc lA bA bc_ kA kc eA ec m N a 1 nC (zc3 rows) (zg8 rows) (zjD cost rows) (zca nC rows m) _ jj.out bB ag.out (zsk _ _ _) H8.out).mono ?_
 rintro e l ⟨rA2,rc2,lA2,bA2,bz2,kA2,kc2,eA2,ec2,gA,gc,rfl,hst,hz,hb⟩;have cf:=hid (zad hb ca.out);have ci:=hid (zad hb cd.out);have ck:=hid (zad hb KS.out);have cS:=hid (show StdP l rA2 rc2 lA2 bA2 bz2 kA2 kc2 eA2 ec2 m a 1 (zt0 (zc3 rows) (zg8 rows)) (zwh (zg8 rows)) (zKb m (zjD cost rows)) (zca nC rows m)from hst);have ct:=hid (show IntsZ l 0 (.slice gA m gc) ((zg8 rows).map sgI)from hz);have cg:=hid (ce.out.trans ((hb).mono ce.out.size));obtain⟨g1,f7,g2,f8⟩:=bc2 cf.out
 obtain⟨ik,g8,iE,hD,il,g9,iq,hE,iw,hH,ir,hG,iQ,ib,iJ,ig,iU,hR,iM,ij⟩:=bf5 ci.out;obtain⟨jg,i3,jh,i4,ji,i5,jk,jb,jm,jd,jo,jf⟩:=bc6 ck.out;clear hst hz hb;have ab:=zae l (.cells #[.slice rA2 m rc2,.int .i64 (a:Int),.slice bA2 m bz2,.slice kA2 a kc2,.int .i64 (nC:Int),.slice eA2 m ec2,.slice gA m gc,.int .i64 (N:Int)] 77);have au:=hid (zad ab cf.out);have ae:=hid (zad ab ci.out);have aw:=hid (zad ab ck.out);have bb:=hid (cS.out.below ab);have b6:=hid (ct.out.below ab)
 have U:=hid (cg.out.trans ((ab).mono cg.out.size));obtain⟨gL,gs,gM,gt⟩:=bc2 au.out;obtain⟨gW,gB,gR,gE,gX,gC,gS,gG,im,ha,hj,g5,ix,hI,hA,gY,iy,hJ,hC,gO⟩:=bf5 ae.out;obtain⟨io,hd,ip,hf,iz,hM,iZ,hZ,iF,h0,iG,h3⟩:=bc6 aw.out;have KT:=hid (zal l #[.slice rA2 m rc2,.int .i64 (a:Int),.slice bA2 m bz2,.slice kA2 a kc2,.int .i64 (nC:Int),.slice eA2 m ec2,.slice gA m gc,.int .i64 (N:Int)] 77);obtain⟨dp,dg,dq,dh,dl,di,dm,dj,dn,dk,fL,fw,fN,fA,fP,e9⟩:=bc8 KT.out
 clear fY f6 fZ fT gp gj gN gf gh gu gx ga gD gI ht gZ i6 iN iH ic i8 iR iK ih fW f4 fX f5 gl f2 gJ gd gq fS gF gi gb gv gT gH i7 iO iI ie i9 iS iL ii f0 fU f1 fV gm f3 f9 gr gn fR gK ge gw gg hu g0 iP ia h7 ho iT hQ h8 hs g6 g3 g7 g4 hL gQ iY ja jl jc jn je g1 f7 g2 f8 ik g8 iE hD il g9 iq hE iw hH ir hG iQ ib iJ ig iU hR iM ij jg i3 jh i4 ji i5 jk jb jm jd jo jf;go_upto_region 5 with fail
 have jC:=HZ.out;have cm:=hid U.out;have a5:=cm.out.size;generalize hwS:(l.alloc (.cells #[.slice rA2 m rc2,.int .i64 (a:Int),.slice bA2 m bz2,.slice kA2 a kc2,.int .i64 (nC:Int),.slice eA2 m ec2,.slice gA m gc,.int .i64 (N:Int)] 77))=wS at *
 clear hwS;go_wp2_with fail
 with_reducible refine(pfeasible rA2 rc2 bA2 bz2 kA2 kc2 eA2 ec2 gA gc m a nC N lA2 1 (zc3 rows) (zg8 rows) (zKb m (zjD cost rows)) (zca nC rows m) 0 _ bb.out b6.out ag.out cH.out cv.out ay.out (Nat.le_trans cO.out (by decide)) B bg.out).mono ?_
 rintro e w3 ⟨E,h⟩;rw[cG.out,cq.out,cz.out]at h;have bf:=hid E;have ch:=hid (zad E au.out);have av:=hid (zad E ae.out);have cj:=hid (zad E aw.out);have b5:=hid (zad E KT.out);have de:=hid (bb.out.below E);have bc:=hid (U.out.trans ((E).mono U.out.size));obtain⟨gU,gy,gV,gz⟩:=bc2 ch.out;obtain⟨aO,aJ,h4,hh,aP,aK,h5,hi,aQ,aL,h6,hl,aR,aM,iu,hx,aS,aN,iv,hy⟩:=bf5 av.out;obtain⟨iV,hU,iW,hV,iX,hX,i0,iB,i1,iC,i2,iD⟩:=bc6 cj.out;obtain⟨fE,fj,fF,fl,fG,fn,fH,fq,fI,ft,fM,fx,fO,fB,fQ,fa⟩:=bc8 b5.out;clear E
 rcases h with ⟨c,ev,rfl,z,num,rfl,am,I⟩ | ⟨c,G,Y,Z,rfl,hY⟩ | ⟨c,G,T,ev,rfl,z,num,rfl,am,I⟩ | ⟨c,G,T,wn,q,tA,tc,rfl,hT,bC,bz⟩
 ·have y:=hid (J.out.1 c);have af:=hid I;have ah:=hid am;clear c I am;go_wp2;refine bodyPost_ret (v:=.tuple #[.agg #[.int .i64 0,.slice none 0 0,.slice none 0 0,.slice none 0 0,.int .i64 0],.iface 147 (.pointer (some ⟨z,0,none⟩))]) (by simp[results,Tryz.results7,go_sem,aO,aJ,aP,aK,aQ,aL,aR,aM,aS,aN]) rfl ?_;have g:=zqy av.out (.int .i64 0) (.slice none 0 0) (.slice none 0 0) (.slice none 0 0) (.int .i64 0);rw[y.out]
  exact⟨bsc (bsc (bsc (bsc (bsc bc.out)))),_,rfl,z,num,rfl,ah.out,g.blk af.out (by decide)⟩
 ·have y:=hid (J.out.2.1 c G);have HY:=hid hY;clear c G hY;go_wp2;refine bodyPost_ret (v:=.tuple #[.agg #[.int .i64 2,.slice none 0 0,.slice Y m Z,.slice none 0 0,.int .i64 (r.n:Int)],.nilIface]) (by simp[results,Tryz.results7,go_sem,aO,aJ,aP,aK,aQ,aL,aR,aM,aS,aN]) rfl ?_;have g:=zqy av.out (.int .i64 2) (.slice none 0 0) (.slice Y m Z) (.slice none 0 0) (.int .i64 (r.n:Int));rw[y.out];exact⟨bsc (bsc (bsc (bsc (bsc bc.out)))),Y,Z,rfl,(HY.out.base a5).tk g (by decide) (by decide)⟩
 ·have y:=hid (J.out.2.2.1 c G T);have af:=hid I;have ah:=hid am;clear c G T I am;go_wp2;refine bodyPost_ret (v:=.tuple #[.agg #[.int .i64 0,.slice none 0 0,.slice none 0 0,.slice none 0 0,.int .i64 0],.iface 147 (.pointer (some ⟨z,0,none⟩))]) (by simp[results,Tryz.results7,go_sem,aO,aJ,aP,aK,aQ,aL,aR,aM,aS,aN]) rfl ?_;have g:=zqy av.out (.int .i64 0) (.slice none 0 0) (.slice none 0 0) (.slice none 0 0) (.int .i64 0);rw[y.out]
  exact⟨bsc (bsc (bsc (bsc (bsc bc.out)))),_,rfl,z,num,rfl,ah.out,g.blk af.out (by decide)⟩
 ·have cA:=hid (J.out.2.2.2.1 c G T);have cB:=hid (J.out.2.2.2.2.1 c G T);have cE:=hid (fun j=>J.out.2.2.2.2.2 j c G T);have HT:=hid hT;have cW:=hid bC;have js:=hid bz;clear c G T hT bC bz;clear gL gs gM gt gW gB gR gE gX gC gS gG im ha hj g5 ix hI hA gY iy hJ hC gO io hd ip hf iz hM iZ hZ iF h0 iG h3 dp dg dq dh dl di dm dj dn dk fL fw fN fA fP e9;have jz:=cy.out;have jv:=bg.out;go_upto_region 12 with fail
  go_cut[12,13,7] (fun a1 a2 ev wy=>a1=.int .i64 (zbh s.at_)∧a2=.int .i64 (s.n:Int)∧((s.err=false∧ev=.nilIface)∨(s.err=true∧∃z,ev=.iface 147 (.pointer (some ⟨z,0,none⟩))∧wy.heap[z]? = some (.cells #[.string zve,.int .i64 (s.n:Int),.iface 113 (.int .i64 180)] 149 (0,0))))∧zhi wn wy wn.heap.size q rA2 rc2 lA2 bA2 bz2 kA2 kc2 eA2 ec2 m a 1 nC (zt0 (zc3 rows) (zg8 rows)) (zwh (zg8 rows)) (zKb m (zjD cost rows)) (zca nC rows m) tA tc s.cols∧Below wS.heap.size wS wy)
  case first=>as_aux_lemma =>
   go_wp2_with fail
   have cx:=hid (show zsn a N=zKc N m by rw[←ag.out,zUB]);have cX:=hid (show IntKind.i64.wrap ((B:Int)-(n:Int))=((B-n:Nat):Int)by rw[IntKind.wrap_i64];omega)
   refine zaS (S:=fun w'=>w'.cell? ⟨l.heap.size,0,none⟩=some (.slice rA2 m rc2)∧w'.cell? ⟨l.heap.size,1,none⟩=some (.int .i64 (a:Int))∧w'.cell? ⟨l.heap.size,2,none⟩=some (.slice bA2 m bz2)∧w'.cell? ⟨l.heap.size,3,none⟩=some (.slice kA2 a kc2)∧w'.cell? ⟨l.heap.size,4,none⟩=some (.int .i64 (nC:Int))∧w'.cell? ⟨l.heap.size,5,none⟩=some (.slice eA2 m ec2)∧w'.cell? ⟨l.heap.size,6,none⟩=some (.slice gA m gc)∧w'.cell? ⟨l.heap.size,7,none⟩=some (.int .i64 (N:Int))) [] (h:=fun hHeld=>?_)
   refine zaw [0,1,2,3,4,6,7,8] ?_;repeat refine tkL (hS:=hHeld) (h:=?_)
   refine zao ?_;rw[cX.out];refine zaB 5 (h:=fun K b=>?_);go_simp
   (go_at_call 26;(with_reducible refine(pmay rA2 rc2 bA2 bz2 kA2 kc2 eA2 ec2 gA gc m a nC N _ (by have:=ag.out;omega) bB).mono ?_);rintro e v1 ⟨M,cM,rfl,hm,hb⟩;have gP:=hid (zad hb ch.out);have iA:=hid (zad hb av.out);have h9:=hid (zad hb cj.out);have db:=hid (zad hb b5.out);have b7:=hid (de.out.drew.below hb);have df:=hid (HT.out.drew.below hb);have HM:=hid (show BoolsS v1 w3.heap.size (.slice M a cM) (zKc N m)from(by have h:=hm;rw[cx.out]at h;exact h));obtain⟨mW,mT,mX,mS⟩:=bc2 gP.out;obtain⟨nd,mY,nl,m3,ne,mZ,nm,m4,ns,na,nn,m5,nt,nb,np,m6,nu,nc,nr,m7⟩:=bf5 iA.out;obtain⟨nf,m0,ng,m1,nh,m2,nv,ni,nw,nj,nx,nk⟩:=bc6 h9.out;obtain⟨la,kX,lb,k0,lc,k4,ld,k7,le,kM,lf,kP,lh,kT,lj,ln⟩:=bc8 db.out;have u:Below w3.heap.size w3 v1:=It.bdrew0' hb;clear hm hb)
   (try go_wp2_with fail)
   refine b.out _ _ kp fun hHeld=>?_
   clear b K;try simp only[Act.put,pu1,pu2,pu3,pu4,pu5,pu6]
   refine zaB 9 (h:=fun K b=>?_);go_simp
   (go_at_call 25;(with_reducible refine(prun df.out kA2 kc2 0 (zKb m (zjD cost rows)) b7.out.C b7.out.zc M a cM w3.heap.size (zKc N m) HM.out ay.out ((B-n:Nat):Int) (by omega)).mono ?_);rintro e v2 ⟨ev,rfl,ak,hT2,hb2,hk2⟩;rw[show(((B-n:Nat):Int)).toNat=B-n from Int.toNat_natCast _,cL.out]at ak hT2 ⊢;have cs:=hid ak;have cV:=hid hT2;have x:=hid (show Below wS.heap.size wS v2 from(bf.out.trans (u.mono bf.out.size)).trans (hb2.mono cW.out));have hw:=hid (zad x.out au.out);have jp:=hid (zad x.out ae.out);have jq:=hid (zad x.out aw.out);have dc:=hid (zad x.out KT.out);obtain⟨m8,mU,m9,mV⟩:=bc2 hw.out;obtain⟨lH,nP,lz,ny,lI,nR,lB,nz,lJ,nT,lC,nA,lK,nV,lD,nB,lL,nX,lE,nD⟩:=bf5 jp.out;obtain⟨lM,nZ,lN,nJ,lO,nK,lP,nL,lF,nM,lG,nN⟩:=bc6 jq.out;obtain⟨l4,l7,l5,l8,l6,l9,mc,ma,md,mb,lg,kQ,li,kU,lk,lo⟩:=bc8 dc.out;clear ak hT2 hb2 hk2)
   (try go_wp2_with fail)
   refine b.out _ _ kp fun hHeld=>?_
   clear b K;try simp only[Act.put,pu1,pu2,pu3,pu4,pu5,pu6]
   refine zaw [10,11,12,13,14,15,16] ?_;repeat refine tkL (hS:=hHeld) (h:=?_)
   refine zao ?_;refine zaM (h:=?_);go_wp2;go_meet;exact⟨rfl,rfl,cs.out,cV.out,x.out⟩
  case rest =>
   rename World=>w4
   obtain⟨rfl,rfl,ak,bv,O⟩:=hcut;have d7:=hid (zad O au.out);have bP:=hid (zad O ae.out);have d8:=hid (zad O aw.out);have d6:=hid (zad O KT.out);have d1:=hid (U.out.trans ((O).mono U.out.size));obtain⟨dK,dR,dL,dS⟩:=bc2 d7.out;obtain⟨bL,bN,e3,eL,bM,bO,e5,eM,bW,bZ,e6,eN,bX,b0,e7,eO,bY,b1,e8,eP⟩:=bf5 bP.out;obtain⟨dM,dT,dN,dU,dO,dV,dP,dW,a8,dX,fh,eE⟩:=bc6 d8.out;obtain⟨dQ,dY,d9,dZ,ea,d0,fo,eI,fr,eK,fu,et,fy,ew,fC,ey⟩:=bc8 d6.out;have t:=hid O;have L:=hid bv;clear O bv
   rcases ak with ⟨c,rfl⟩ | ⟨c,z,rfl,I⟩
   ·have HE:=hid c;have ax:=hid L.out.basis;clear c;have a4:nC≤a:=by have:=HN.out;have:=ag.out;omega
    have jA:(nC:Int)≤(a:Int):=by omega
    go_upto_region 15 with fail
    go_cut[14] (fun ov wy=>∃(ob:Nat) (P:OA) (f:Nat),ov=.pointer (some ⟨ob,0,none⟩)∧wS.heap.size≤ob∧wy.heap[ob]? = some (.cells #[.int .i64 1,.slice P nC f,.slice none 0 0,.slice none 0 0,.int .i64 ((n+s.n:Nat):Int)] 36 (0,0))∧VecS wy wS.heap.size (.slice P nC f) ((zh1 a s.cols (za5 (zt0 (zc3 rows) (zg8 rows)) (zwh (zg8 rows)) s.cols)).take nC)∧zhi wn wy wn.heap.size q rA2 rc2 lA2 bA2 bz2 kA2 kc2 eA2 ec2 m a 1 nC (zt0 (zc3 rows) (zg8 rows)) (zwh (zg8 rows)) (zKb m (zjD cost rows)) (zca nC rows m) tA tc s.cols∧Below wS.heap.size wS wy)
    case first =>
     have jB:=bk.out;have bm:=hid (show IntKind.i64.wrap ((n:Int)+(s.n:Int))=((n+s.n:Nat):Int)by rw[IntKind.wrap_i64];omega);go_wp2_with fail
     refine zaS (S:=fun w'=>w'.cell? ⟨w1.heap.size,4,none⟩=some (.int .i64 (nC:Int))) [10] (h:=fun hHeld=>?_);refine zaw [0,2,3,5,6,7] ?_;repeat refine tkL (hS:=hHeld) (h:=?_)
     refine zao ?_;refine zme (i:=1) (j:=9) rfl rfl (by kernel_rfl) (fun K b=>?_) (fun K b=>?_)
     ·skip
      go_simp
      (go_at_call 27;(with_reducible refine(Tb.point L.out.drew).mono ?_);rintro e v1 ⟨P,f,rfl,hv,hb⟩;have u:Below w4.heap.size w4 v1:=It.bdrew0' hb;have z4:=zab u a8;have k9:=cell_al (ob:=(.cells #[.int .i64 0,.slice none 0 0,.slice none 0 0,.slice none 0 0,.int .i64 0] 36)) z4;have bl:=hid (L.out.below u);have x:=hid (t.out.trans (u.mono t.out.size));have c3:=hv.form.2.1;have c4:=hv.form.2.2.1;have c5:nC≤f:=(by omega);have aV:=hid ((hv.cut nC a4).base (t.out.size));clear hv;clear hb u)
      (try go_wp2_with fail)
      refine b.out _ _ kp fun hHeld=>?_
      clear b K;try simp only[Act.put,pu1,pu2,pu3,pu4,pu5,pu6]
      refine zaw [4,8] ?_;repeat refine tkL (hS:=hHeld) (h:=?_)
      refine zao ?_;refine zaB 9 (h:=fun K b=>?_);go_simp;refine b.out _ _ kp fun hHeld=>?_
      clear b K;try simp only[Act.put,pu1,pu2,pu3,pu4,pu5,pu6]
      refine zay 10 (h:=fun K b=>?_);go_simp;refine b.out _ _ ?_;clear b K;try simp only[Act.put,pu1,pu2,pu3,pu4,pu5,pu6]
      refine zaM (h:=?_);go_wp2;go_meet;rw[bm.out]
      case rel=>exact⟨v1.heap.size,P,f,rfl,x.out.size,zal _ _ _,aV.out.alloc _,bl.out.alloc _,x.out.alloc x.out.size _⟩
     ·skip
      go_simp;refine b.out _ _ kp fun hHeld=>?_
      clear b K;try simp only[Act.put,pu1,pu2,pu3,pu4,pu5,pu6]
      refine zaB 1 (h:=fun K b=>?_);go_simp
      (go_at_call 27;(first | (with_reducible refine(Tb.point (L.out.drew.alloc _)).mono ?_) | (with_reducible refine(Tb.point ((L.out.alloc _).drew)).mono ?_));rintro e v1 ⟨P,f,rfl,hv,hb⟩;have u:Below w4.heap.size w4 v1:=((zap w4 1).trans ((zae _ _).mono (Nat.le_refl _))).trans (hb.mono (by simp));have a0:v1.heap[w4.heap.size]? = some (.cells #[.int .i64 0,.slice none 0 0,.slice none 0 0,.slice none 0 0,.int .i64 0] 36 (0,0)):=(zad hb (zal w4.drew #[.int .i64 0,.slice none 0 0,.slice none 0 0,.slice none 0 0,.int .i64 0] 36));have z4:=zab u a8;have bh:=hid a0;have bl:=hid (L.out.below u);have x:=hid (t.out.trans (u.mono t.out.size));have c3:=hv.form.2.1;have c4:=hv.form.2.2.1;have c5:nC≤f:=(by omega);have aV:=hid ((hv.cut nC a4).base (Nat.le_trans t.out.size (by simp)));clear hv;have cn:=hid u;obtain⟨o0,jF,jO,jP,o1,jH,of1,jQ,o2,jJ,jR,jS,o3,jL,jT,jU,o4,jN,jV,jW⟩:=bf5 a0;clear hb u a0)
      (try go_wp2_with fail)
      refine b.out _ _ kp fun hHeld=>?_
      clear b K;try simp only[Act.put,pu1,pu2,pu3,pu4,pu5,pu6]
      refine zaw [4,8] ?_;repeat refine tkL (hS:=hHeld) (h:=?_)
      refine zao ?_;refine zay 10 (h:=fun K b=>?_);go_simp;refine b.out _ _ ?_;clear b K;try simp only[Act.put,pu1,pu2,pu3,pu4,pu5,pu6]
      refine zaM (h:=?_);go_wp2;go_meet;rw[bm.out];have g:=zqy bh.out (.int .i64 1) (.slice P nC f) (.slice none 0 0) (.slice none 0 0) (.int .i64 ((n+s.n:Nat):Int))
      case rel=>exact⟨w4.heap.size,P,f,rfl,t.out.size,zar _ (zar _ (zar _ (zar _ (zar _ bh.out)))),aV.out.tk g (by decide) (by decide),L.out.below (((((cn.out.setCell (p:=⟨w4.heap.size,0,none⟩) (Nat.le_refl _) _).setCell (p:=⟨w4.heap.size,1,none⟩) (Nat.le_refl _) _).setCell (p:=⟨w4.heap.size,2,none⟩) (Nat.le_refl _) _).setCell (p:=⟨w4.heap.size,3,none⟩) (Nat.le_refl _) _).setCell (p:=⟨w4.heap.size,4,none⟩) (Nat.le_refl _) _),(((((x.out.setCell (p:=⟨w4.heap.size,0,none⟩) t.out.size _).setCell (p:=⟨w4.heap.size,1,none⟩) t.out.size _).setCell (p:=⟨w4.heap.size,2,none⟩) t.out.size _).setCell (p:=⟨w4.heap.size,3,none⟩) t.out.size _).setCell (p:=⟨w4.heap.size,4,none⟩) t.out.size _)⟩
    case rest =>
     rename World=>w5
     obtain⟨ob,P,f,rfl,c7,hO,hP,bw,H⟩:=hcut;have a6:=hid (zad H au.out);have bd:=hid (zad H ae.out);have a7:=hid (zad H aw.out);have a9:=hid (zad H KT.out);have aH:=hid (bb.out.below H);have b2:=hid (b6.out.below H);have ap:=hid (U.out.trans ((H).mono U.out.size));obtain⟨l2,lY,l3,lZ⟩:=bc2 a6.out;obtain⟨nO,nE,lV,lQ,nQ,nF,lW,lR,nS,nG,lX,lS,nU,nH,l0,lT,nW,nI,l1,lU⟩:=bf5 bd.out;obtain⟨me,mv,mg,my,mi,mA,mC,ml,mE,mn,mG,mp⟩:=bc6 a7.out;obtain⟨kV,kt,kY,kv,k2,kx,k5,kz,k8,j8,kN,ka,kR,ke,ll,kg⟩:=bc8 a9.out
     have jr:=hid H;have az:=hid bw;have bj:=hid hP;have aX:=hid hO;have jD:w.heap.size+1<ob:=by have h1:=(Array.getElem?_eq_some_iff.1 ae.out).1;omega
     obtain⟨lp,ki,kH,jX,lr,kk,kJ,jZ,lt,km,kB,j1,lv,ko,kD,j3,lx,kr,kF,j5⟩:=bf5 aX.out;clear H bw hP hO c7;clear gU gy gV gz aO aJ h4 hh aP aK h5 hi aQ aL h6 hl aR aM iu hx aS aN iv hy iV hU iW hV iX hX i0 iB i1 iC i2 iD fE fj fF fl fG fn fH fq fI ft fM fx fO fB fQ fa dK dR dL dS bL bN e3 eL bM bO e5 eM bW bZ e6 eN bX b0 e7 eO bY b1 e8 eP dM dT dN dU dO dV dP dW a8 dX fh eE dQ dY d9 dZ ea d0 fo eI fr eK fu et fy ew fC ey;cases hat:s.at_ with
     | none =>
      have F:zbh none = -1:=rfl;rw[F];have y:=hid (cB.out HE.out hat);clear hat F;go_wp2_with fail
      with_reducible refine(Tb.duals az.out kA2 kc2 (zKb m (zjD cost rows)) 0 aH.out.C aH.out.zc ay.out).mono ?_
      rintro e w6 ⟨Y,nY,Z,rfl,hv,hb⟩;have aF:=hid (zad hb a6.out);have ar:=hid (zad hb bd.out);have aG:=hid (zad hb a7.out);have aI:=hid (zad hb a9.out);have ad:=hid (zad hb aX.out);have fK:=hid (aH.out.below hb);have b3:=hid (b2.out.below hb);have b8:=hid (az.out.below hb);have ba:=hid (bj.out.below hb);have HY:=hid (show VecS w6 w5.heap.size (.slice Y nY Z) (zcl (zt0 (zc3 rows) (zg8 rows)) s.cols (zKb m (zjD cost rows)))from hv);have aq:=hid (ap.out.trans ((hb).mono ap.out.size))
      obtain⟨dx,dD,dy,dE⟩:=bc2 aF.out;obtain⟨bG,bJ,en,eb,bH,bK,eo,ed,bQ,bT,ep,ee,bR,bU,eq,ef,bS,bV,er,eg⟩:=bf5 ar.out;obtain⟨dr,dH,ds,dI,d2,dJ,d3,dt,d4,du,d5,dv⟩:=bc6 aG.out;obtain⟨fi,eF,fk,eG,fm,eH,fp,eJ,fs,es,fv,eu,fz,ex,fD,ez⟩:=bc8 aI.out;obtain⟨fc,eB,eV,eQ,fd,eC,eW,eR,fe,eD,eX,eS,ff,e0,eY,eT,fg,e2,eZ,eU⟩:=bf5 ad.out;obtain rfl:m=nY:=by rw[hv.len,(ax.out.duals_ok _).2]
      clear hv hb;have c0:=hid (show ∀q∈zcl (zt0 (zc3 rows) (zg8 rows)) s.cols (zKb m (zjD cost rows)),mw q≤sB m 1 1 by
       obtain⟨_,_,_,hP⟩:=b8.out;exact znb ax.out hP.bas.good.2.2 hP.std.clen hP.std.zc)
      go_wp2_with fail
      with_reducible refine(pback rA2 rc2 bA2 bz2 kA2 kc2 eA2 ec2 gA gc m a nC N ((zg8 rows).map sgI) 0 Y Z w5.heap.size (zcl (zt0 (zc3 rows) (zg8 rows)) s.cols (zKb m (zjD cost rows))) (sB m 1 1) _ b3.out (zVI (zg8 rows)) HY.out cN.out (zma _ _ _) c0.out c6).mono ?_
      rintro e w7 ⟨Y2,nY2,cY2,rfl,hv,hb⟩;have dB:=hid (zad hb aF.out);have bI:=hid (zad hb ar.out);have dC:=hid (zad hb aG.out);have fJ:=hid (zad hb aI.out);have b4:=hid (zad hb ad.out);have dd:=hid (ba.out.below hb);have cZ:=hid (show VecS w7 w.heap.size (.slice Y2 nY2 cY2) (bkL ((zg8 rows).map sgI) (zcl (zt0 (zc3 rows) (zg8 rows)) s.cols (zKb m (zjD cost rows))) m)from(hv.base (show w.heap.size≤w6.heap.size from(aq).out.size)));have dw:=hid (aq.out.trans ((hb).mono aq.out.size))
      obtain⟨mr,mt,ms,mu⟩:=bc2 dB.out;obtain⟨dz,dF,mN,mI,dA,dG,mO,mJ,eh,ek,mP,mK,ei,el,mQ,mL,ej,em,mR,mM⟩:=bf5 bI.out;obtain⟨mf,mx,mh,mz,mB,mj,mD,mm,mF,mo,mH,mq⟩:=bc6 dC.out;obtain⟨kW,ku,kZ,kw,k3,ky,k6,j7,kL,j9,kO,kb,kS,kf,lm,kh⟩:=bc8 fJ.out;obtain⟨lq,kj,kI,jY,ls,kl,kK,j0,lu,kn,kC,j2,lw,kq,kE,j4,ly,ks,kG,j6⟩:=bf5 b4.out;obtain rfl:m=nY2:=by rw[hv.len,zSJ,(ax.out.duals_ok _).2]
      clear hv hb;go_wp2;refine bodyPost_ret (v:=.tuple #[.agg #[.int .i64 1,.slice P nC f,.slice Y2 m cY2,.slice none 0 0,.int .i64 ((n+s.n:Nat):Int)],.nilIface]) (by simp[results,Tryz.results7,go_sem,dz,dF,dA,dG,eh,ek,ei,el,ej,em]) rfl ?_;have an:=TKeep.set (o:=2) (b4.out) (.slice Y2 m cY2)
      have aZ:(w7.setCell ⟨ob,2,none⟩ (.slice Y2 m cY2)).heap[w.heap.size+1]? = some (.cells #[.int .i64 0,.slice none 0 0,.slice none 0 0,.slice none 0 0,.int .i64 0] 36 (0,0)):=by rw[Below.heap_setCell _ _ _ _ (by show w.heap.size+1≠ob;omega)];exact bI.out
      have g:=zqy aZ (.int .i64 1) (.slice P nC f) (.slice Y2 m cY2) (.slice none 0 0) (.int .i64 ((n+s.n:Nat):Int));rw[y.out]
      exact⟨((((((dw.out.setCell (p:=⟨ob,2,none⟩) (by show w.heap.size≤ob;omega) _).setCell (p:=⟨w.heap.size+1,0,none⟩) (by show w.heap.size≤w.heap.size+1;omega) _).setCell (p:=⟨w.heap.size+1,1,none⟩) (by show w.heap.size≤w.heap.size+1;omega) _).setCell (p:=⟨w.heap.size+1,2,none⟩) (by show w.heap.size≤w.heap.size+1;omega) _).setCell (p:=⟨w.heap.size+1,3,none⟩) (by show w.heap.size≤w.heap.size+1;omega) _).setCell (p:=⟨w.heap.size+1,4,none⟩) (by show w.heap.size≤w.heap.size+1;omega) _),P,f,Y2,cY2,rfl,(((dd.out.base a5).tk an (by decide) (by decide)).tk g (by decide) (by decide)),((cZ.out.tk an (by decide) (by decide)).tk g (by decide) (by decide))⟩
     | some j =>
      have F:zbh (some j)=(j:Int):=rfl;rw[F];have y:=hid (cE.out j HE.out hat);have cu:=hid (cQ.out j ax.out HE.out hat);have jy:(0:Int)≤(j:Int):=Int.natCast_nonneg _;clear hat F;go_wp2_with fail
      with_reducible refine(pray az.out gA gc N j cu.out ay.out cI.out a4).mono ?_
      rintro e w6 ⟨D,cD,rfl,hv,hb⟩;have aF:=hid (zad hb a6.out);have ar:=hid (zad hb bd.out);have aG:=hid (zad hb a7.out);have aI:=hid (zad hb a9.out);have ad:=hid (zad hb aX.out);have fK:=hid (aH.out.below hb);have b3:=hid (b2.out.below hb);have b8:=hid (az.out.below hb);have ba:=hid (bj.out.below hb);have HD:=hid (show VecS w6 w.heap.size (.slice D nC cD) ((zTj a s.cols (zav (zt0 (zc3 rows) (zg8 rows)) s.cols j) j m).take nC)from(hv.base (show w.heap.size≤w5.heap.size from(ap).out.size)))
      have aq:=hid (ap.out.trans ((hb).mono ap.out.size));obtain⟨dx,dD,dy,dE⟩:=bc2 aF.out;obtain⟨bG,bJ,en,eb,bH,bK,eo,ed,bQ,bT,ep,ee,bR,bU,eq,ef,bS,bV,er,eg⟩:=bf5 ar.out;obtain⟨dr,dH,ds,dI,d2,dJ,d3,dt,d4,du,d5,dv⟩:=bc6 aG.out;obtain⟨fi,eF,fk,eG,fm,eH,fp,eJ,fs,es,fv,eu,fz,ex,fD,ez⟩:=bc8 aI.out;obtain⟨fc,eB,eV,eQ,fd,eC,eW,eR,fe,eD,eX,eS,ff,e0,eY,eT,fg,e2,eZ,eU⟩:=bf5 ad.out;clear hv hb;go_wp2
      refine bodyPost_ret (v:=.tuple #[.agg #[.int .i64 3,.slice P nC f,.slice none 0 0,.slice D nC cD,.int .i64 ((n+s.n:Nat):Int)],.nilIface]) (by simp[results,Tryz.results7,go_sem,bG,bJ,bH,bK,bQ,bT,bR,bU,bS,bV]) rfl ?_;have an:=TKeep.set (o:=0) (ad.out) (.int .i64 3);have bD:=TKeep.set (o:=3) (zar (o:=0) (.int .i64 3) (ad.out)) (.slice D nC cD)
      have aZ:((w6.setCell ⟨ob,0,none⟩ (.int .i64 3)).setCell ⟨ob,3,none⟩ (.slice D nC cD)).heap[w.heap.size+1]? = some (.cells #[.int .i64 0,.slice none 0 0,.slice none 0 0,.slice none 0 0,.int .i64 0] 36 (0,0)):=by rw[Below.heap_setCell _ _ _ _ (by show w.heap.size+1≠ob;omega),Below.heap_setCell _ _ _ _ (by show w.heap.size+1≠ob;omega)];exact ar.out
      have g:=zqy aZ (.int .i64 3) (.slice P nC f) (.slice none 0 0) (.slice D nC cD) (.int .i64 ((n+s.n:Nat):Int));rw[y.out]
      exact⟨(((((((aq.out.setCell (p:=⟨ob,0,none⟩) (by show w.heap.size≤ob;omega) _).setCell (p:=⟨ob,3,none⟩) (by show w.heap.size≤ob;omega) _).setCell (p:=⟨w.heap.size+1,0,none⟩) (by show w.heap.size≤w.heap.size+1;omega) _).setCell (p:=⟨w.heap.size+1,1,none⟩) (by show w.heap.size≤w.heap.size+1;omega) _).setCell (p:=⟨w.heap.size+1,2,none⟩) (by show w.heap.size≤w.heap.size+1;omega) _).setCell (p:=⟨w.heap.size+1,3,none⟩) (by show w.heap.size≤w.heap.size+1;omega) _).setCell (p:=⟨w.heap.size+1,4,none⟩) (by show w.heap.size≤w.heap.size+1;omega) _),P,f,D,cD,rfl,((((ba.out.base a5).tk an (by decide) (by decide)).tk bD (by decide) (by decide)).tk g (by decide) (by decide)),(((HD.out.tk an (by decide) (by decide)).tk bD (by decide) (by decide)).tk g (by decide) (by decide))⟩
   ·have y:=hid (cA.out c);have af:=hid I;have ah:=hid (show s.n≤B by have:=bk.out;omega);clear c I;go_wp2;refine bodyPost_ret (v:=.tuple #[.agg #[.int .i64 0,.slice none 0 0,.slice none 0 0,.slice none 0 0,.int .i64 0],.iface 147 (.pointer (some ⟨z,0,none⟩))]) (by simp[results,Tryz.results7,go_sem,bL,bN,bM,bO,bW,bZ,bX,b0,bY,b1]) rfl ?_;have g:=zqy bP.out (.int .i64 0) (.slice none 0 0) (.slice none 0 0) (.slice none 0 0) (.int .i64 0);rw[y.out]
    exact⟨bsc (bsc (bsc (bsc (bsc d1.out)))),_,rfl,z,s.n,rfl,ah.out,g.blk af.out (by decide)⟩
