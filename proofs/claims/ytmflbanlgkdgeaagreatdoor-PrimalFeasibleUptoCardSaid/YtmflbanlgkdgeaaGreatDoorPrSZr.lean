/- Contracts and lemmas: Ng PrS Shp. Conditions: as each says. -/
import Derived.Test.YtmflbanlgkdgeaaGreatDoorPrFZr
import Derived.Test.YtmflbanlgkdgeaaGreatDoorPrBZr
import Derived.Test.YtmflbanlgkdgeaaGreatDoorPrYZr
set_option linter.all false
set_option maxHeartbeats 2000000
set_option maxRecDepth 100000
namespace Go.Proofs.YtmflbanlgkdgeaaGreatDoor
open Go.RowKit Am
open Lib (hid)
theorem zNy{xs:List Rat}(h:∀k,k<xs.length→0≤el xs k):(xs.any fun q=>decide (q<0))=false:=by
 rw[List.any_eq_false];intro q a;obtain⟨k,hk⟩:=List.mem_iff_getElem?.1 a;have:=h k (List.getElem?_eq_some_iff.1 hk).1;rw[znd hk]at this;rw[decide_eq_false (Rat.not_lt.2 this)];decide
theorem zLu{m N S:Nat}{A:List (List Rat)}{cols:List Nat}(a:Basis m N A cols)(zA:∀r∈A,∀q∈r,mw q≤S):zhg mw m S (bc A cols):=fun j hj i b=>by
 rw[ztZ (by rw[a.len];exact hj) (by rw[a.rect.len];exact b)];have e:=zaO (L:=A) (i:=i) (d:=[]) (by rw[a.rect.len];exact b);have hm:=List.mem_of_getElem? e;exact zA _ hm _ (List.mem_of_getElem? (zaH (by rw[a.rect.row i b];exact a.lt j hj)))
end Go.Proofs.YtmflbanlgkdgeaaGreatDoor
namespace Go.Proofs.YtmflbanlgkdgeaaGreatDoor
open Go.RowKit Am
open Lib (hid)
attribute [local go_sem ↓] Go.wp_at_zero Go.wp_at_succ
theorem zVF:∀n,n≤4→sB n 1 1≤1000000:=by decide +kernel
theorem zWc:∀n,n≤4→zor n 1≤LIM:=by unfold LIM;decide +kernel
theorem zTX{N m g:Nat}{A:List (List Rat)}{b c:List Rat}{B:Nat}{r s:RunOut}{d:(List Nat × Nat) × Bool}(hN:N+m=g)(hr:pivs (zBX g (zt0 A b) (zwh b) (zJG N m) (zKc N m)) B (zKa N m)=r)
  (l:zSz N g (zt0 A b) (B-r.n) m 0 (r.cols,0)=d) (o:pivs (zBX g (zt0 A b) (zwh b) (zKb m c) (zKc N m)) (B-(r.n+d.1.2)) d.1.1=s) :
  (r.err=true→zSA N m A b c B=.spent r.n)∧(r.err=false→0<zSB N m A b r.cols→zSA N m A b c B=.none r.cols r.n) ∧
  (r.err=false→¬0<zSB N m A b r.cols→d.2=true→zSA N m A b c B=.spent (r.n+d.1.2)) ∧
  (r.err=false→¬0<zSB N m A b r.cols→d.2=false→s.err=true→zSA N m A b c B=.spent (r.n+d.1.2+s.n)) ∧
  (r.err=false→¬0<zSB N m A b r.cols→d.2=false→s.err=false→s.at_=none→zSA N m A b c B=.best s.cols (r.n+d.1.2+s.n)) ∧
  (∀j,r.err=false→¬0<zSB N m A b r.cols→d.2=false→s.err=false→s.at_=some j→zSA N m A b c B=.falls s.cols j (r.n+d.1.2+s.n)):=by
 subst hN;unfold zSA;simp only[hr,l,o];refine⟨fun h=>by rw[if_pos h],fun h a=>by rw[h,if_pos a];rfl,fun h a e=>by rw[h,if_neg a,if_pos e];rfl,fun h a e f=>by rw[h,if_neg a,e,if_pos f];rfl,fun h a e f i=>by rw[h,if_neg a,e,f,i];rfl,fun j h a e f i=>by rw[h,if_neg a,e,f,i];rfl⟩
def zVM (w:World) (nC m N NN:Nat) (A0:List (List Rat)) (b0 c0:List Rat) (B:Nat) (o:Out) (e:Ending) (w':World):Prop :=
  Below w.heap.size w w'∧match o with
    | .spent _=>∃ev,e=.returned (.tuple #[.agg #[.int .i64 0,.slice none 0 0,.slice none 0 0,.slice none 0 0,.int .i64 0],ev])∧Spent w' B ev
    | .none cols n=>∃(Y:OA) (cY:Nat),e=.returned (.tuple #[.agg #[.int .i64 2,.slice none 0 0,.slice Y m cY,.slice none 0 0,.int .i64 (n:Int)],.nilIface])∧VecS w' w.heap.size (.slice Y m cY) (bkL (b0.map sgI) (zcl (zt0 A0 b0) cols (zJG N m)) m)
    | .best cols n=>∃(P:OA) (cP:Nat) (Y:OA) (cY:Nat),e=.returned (.tuple #[.agg #[.int .i64 1,.slice P nC cP,.slice Y m cY,.slice none 0 0,.int .i64 (n:Int)],.nilIface])∧VecS w' w.heap.size (.slice P nC cP) ((zh1 NN cols (za5 (zt0 A0 b0) (zwh b0) cols)).take nC)∧VecS w' w.heap.size (.slice Y m cY) (bkL (b0.map sgI) (zcl (zt0 A0 b0) cols (zKb m c0)) m)
    | .falls cols j n=>∃(P:OA) (cP:Nat) (D:OA) (cD:Nat),e=.returned (.tuple #[.agg #[.int .i64 3,.slice P nC cP,.slice none 0 0,.slice D nC cD,.int .i64 (n:Int)],.nilIface])∧VecS w' w.heap.size (.slice P nC cP) ((zh1 NN cols (za5 (zt0 A0 b0) (zwh b0) cols)).take nC)∧VecS w' w.heap.size (.slice D nC cD) ((zTj NN cols (zav (zt0 A0 b0) cols j) j m).take nC)
namespace Pr
open Du (zCr)
theorem zYk(rA:OA)(rc:Nat)(lA:List Value)(bA:OA)(bc_:Nat)(kA:OA)(kc:Nat)(eA:OA)(ec m N a S own:Nat)(c:List (List Rat))(b d:List Rat)(left:List Int)(w:World)(hS:StdP w rA rc lA bA bc_ kA kc eA ec m N S c b d left)(l:a≤64)(i:N+m=a)(hl:left.length=m)(j:8*S+8≤LIM) :
  Calls Tryz.prog 8 #[.agg #[.slice rA m rc,.int .i64 (N:Int),.slice bA m bc_,.slice kA N kc,.int .i64 (own:Int),.slice eA m ec]] w fun e w'=>∃(rA:OA) (rc:Nat) (lA:List Value) (bA:OA) (bc_:Nat) (kA:OA) (kc:Nat) (eA:OA) (ec:Nat) (f:OA) (g:Nat),
   e=.returned (.tuple #[.agg #[.slice rA m rc,.int .i64 (a:Int),.slice bA m bc_,.slice kA a kc,.int .i64 (own:Int),.slice eA m ec,.slice f m g,.int .i64 (N:Int)],.nilIface]) ∧
   StdP w' rA rc lA bA bc_ kA kc eA ec m a S (zt0 c b) (zwh b) (zKb m d) left∧IntsZ w' 0 (.slice f m g) (b.map sgI)∧Below w.heap.size w w':=by
 subst i;exact pbegin rA rc lA bA bc_ kA kc eA ec m N S own c b d left w hS l hl j
theorem psolve(C:OA)(nC V:Nat)(R:OA)(m X:Nat)(cost:List Rat)(rows:List PRow)(N a B:Nat)(w:World)(hc:VecS w 0 (.slice C nC V) cost)(hr:RowsS w 0 (.slice R m X) rows)(hg:Good1 nC m cost rows)(hN:nC+cnt rows m=N)(aY:N+m=a)(E:B≤1000000) :
  Calls Tryz.prog 32 #[.agg #[.slice C nC V,.slice R m X],.int .i64 (B:Int)] w (zVM w nC m N a (zc3 rows) (zg8 rows) (zjD cost rows) B (zSA N m (zc3 rows) (zg8 rows) (zjD cost rows) B)):=by
 have jw:=hid hc.len;have jx:=hid hr.len;have HG:=hid hg;have HN:=hid hN;have ag:=hid aY;have jA:=zgO rows m;have al:=hg.hr;have jz:=hg.hc;have bB:a≤64:=by omega
 have c8:m≤64:=by omega
 have cK:=hid (show Rows nC rows from fun p F=>⟨(hg.rw_ p F).1,fun q hq=>Nat.le_trans ((hg.rw_ p F).2.1 q hq) (by decide),Nat.le_trans (hg.rw_ p F).2.2 (by decide)⟩);have ay:=hid (zWc m al);have cO:=hid (zVF m al);have H8:=hid (show 8*1+8≤LIM by rw[zaP];decide);have cN:=hid (show 8*sB m 1 1+8≤LIM by rw[zaP];have:=zVF m al;omega);have cI:=hid (show 4*(m*(sB m 1 1+1)+3+sB m 1 1)+8≤LIM by rw[zaP];have h1:=zVF m al;have h2:m*(sB m 1 1+1)≤4*(sB m 1 1+1):=Nat.mul_le_mul_right _ al;omega)
 have bg:=hid E;have cH:=hid (show Rect m N (zc3 rows)by have:=zlk (n:=nC) (rows:=rows) fun k hk=>(hg.rw_ _ (List.mem_of_getElem? (zaO hk))).1;rw[←hr.len,hN]at this;exact this);have cv:=hid (show(zg8 rows).length=m by rw[zxG,←hr.len]);obtain⟨r,aC⟩:∃r,pivs (zBX a (zt0 (zc3 rows) (zg8 rows)) (zwh (zg8 rows)) (zJG N m) (zKc N m)) B (zKa N m)=r:=⟨_,rfl⟩
 obtain⟨d,aB⟩:∃d,zSz N a (zt0 (zc3 rows) (zg8 rows)) (B-r.n) m 0 (r.cols,0)=d:=⟨_,rfl⟩
 obtain⟨s,ac⟩:∃s,pivs (zBX a (zt0 (zc3 rows) (zg8 rows)) (zwh (zg8 rows)) (zKb m (zjD cost rows)) (zKc N m)) (B-(r.n+d.1.2)) d.1.1=s:=⟨_,rfl⟩
 have J:=hid (zTX aY aC aB ac);have cG:=hid aC;have cq:=hid aB;have cJ:=hid (show r.n≤B by rw[←aC];exact zLj _ _ _);have cr:=hid (show d.1.2≤B-r.n by have h:=zSH m 0 (r.cols,0) (own:=N) (N:=a) (A:=zt0 (zc3 rows) (zg8 rows)) (B:=B-r.n);rw[aB]at h;exact h.2 (Nat.zero_le _));obtain⟨n,hn⟩:∃n,r.n+d.1.2=n:=⟨_,rfl⟩
 rw[hn]at J ac;have cL:=hid ac;have cz:=hid hn;have cy:=hid (show n≤B by have:=cJ.out;have:=cr.out;omega);have bk:=hid (show s.n≤B-n by rw[←ac];exact zLj _ _ _);have cQ:=hid (show ∀j,Basis m a (zt0 (zc3 rows) (zg8 rows)) s.cols→s.err=false→s.at_=some j→j<a by
  intro j c4 h1 h2;obtain⟨e1,_,_,e4,_⟩:=zoW (zBX a (zt0 (zc3 rows) (zg8 rows)) (zwh (zg8 rows)) (zKb m (zjD cost rows)) (zKc N m)) (B-n) d.1.1;rw[ac]at e1 e4;have e:=e4 h1;rw[h2,←e1]at e;exact(zSR c4 (by rw[zSS];unfold zjD;rw[List.length_append,List.length_replicate,←hc.len,←hr.len];omega) e).1)
 generalize hoo:zSA N m (zc3 rows) (zg8 rows) (zjD cost rows) B=o at *
 clear hg hN aY E aC aB ac hn hoo;obtain⟨W,Q⟩:∃W,((w.alloc (.cells #[.slice C nC V,.slice R m X] 41)).alloc (.cells #[.int .i64 0,.slice none 0 0,.slice none 0 0,.slice none 0 0,.int .i64 0] 85))=W:=⟨_,rfl⟩
 have bn:=hid (show W.heap[w.heap.size]? = some (.cells #[.slice C nC V,.slice R m X] 41 (0,0))by rw[←Q];exact zak (zam (by simp)));have bo:=hid (show W.heap[w.heap.size+1]? = some (.cells #[.int .i64 0,.slice none 0 0,.slice none 0 0,.slice none 0 0,.int .i64 0] 85 (0,0))by rw[←Q];exact zam (by simp));have BB:=hid (show Below w.heap.size w W by rw[←Q];exact(zae w _).alloc (by simp) _);have HZ:=hid (show w.heap.size+2≤W.heap.size by rw[←Q];simp)
 have HC:=hid (show VecS W 0 (.slice C nC V) cost by rw[←Q];exact((hc).alloc _).alloc _);have HR:=hid (show RowsS W 0 (.slice R m X) rows by rw[←Q];exact((hr).alloc _).alloc _);obtain⟨f0,f8,f1,fV⟩:=bc2 bn.out;obtain⟨gr,gm,gP,gh,gj,gw,gz,gd,gF,gK,hx,g1,i9,iQ,iK,ih,jb,iU,iN,ik⟩:=bf5 bo.out;clear hc hr;go_enter Tryz.func32,Tryz.ntmps32;go_wp2_with fail
 clear Q;with_reducible refine(Pb.standardN 1 (Nat.le_refl _) C nC V R m X cost rows N HN.out _ HC.out HR.out (by omega) (by omega) cK.out HG.out.kd HG.out.sc (fun p F=>(HG.out.rw_ p F).2)).mono ?_
 rintro e w1 ⟨rA,rc,lA,bA,bc_,kA,kc,eA,ec,rfl,hst,hb⟩;have cc:=hid (zad hb bn.out);have b9:=hid (zad hb bo.out);have cT:=hid (show StdP w1 rA rc lA bA bc_ kA kc eA ec m N 1 (zc3 rows) (zg8 rows) (zjD cost rows) (zca nC rows m)from hst);have cb:=hid (BB.out.trans ((hb).mono BB.out.size));obtain⟨fY,f6,fZ,f7⟩:=bc2 cc.out;obtain⟨gn,f4,gL,gf,gs,fU,gH,gl,ge,gx,gV,gJ,ja,iR,iL,ii,jc,iV,iO,il⟩:=bf5 b9.out;clear hst hb
 have aA:=zae w1 (.cells #[.slice rA m rc,.int .i64 (N:Int),.slice bA m bc_,.slice kA N kc,.int .i64 (nC:Int),.slice eA m ec] 34);have ca:=hid (zad aA cc.out);have cd:=hid (zad aA b9.out);have jm:=hid (cT.out.below aA);have ce:=hid (cb.out.trans ((aA).mono cb.out.size));obtain⟨f2,fW,f3,fX⟩:=bc2 ca.out;obtain⟨gp,f5,gb,gt,gq,fT,gM,gg,gy,gi,hy,g2,iS,ie,ia,hu,iW,hV,ib,hw⟩:=bf5 cd.out
 have KS:=hid (zal w1 #[.slice rA m rc,.int .i64 (N:Int),.slice bA m bc_,.slice kA N kc,.int .i64 (nC:Int),.slice eA m ec] 34);obtain⟨g8,g5,g9,g6,hR,gS,i1,jd,jo,jf,jq,jh⟩:=bc6 KS.out;go_wp2_with fail
 with_reducible refine(zYk rA rc lA bA bc_ kA kc eA ec m N a 1 nC (zc3 rows) (zg8 rows) (zjD cost rows) (zca nC rows m) _ jm.out bB ag.out (zsk _ _ _) H8.out).mono ?_
 rintro e l ⟨rA2,rc2,lA2,bA2,bz2,kA2,kc2,eA2,ec2,gA,gc,rfl,hst,hz,hb⟩;have cf:=hid (zad hb ca.out);have ci:=hid (zad hb cd.out);have ck:=hid (zad hb KS.out);have cS:=hid (show StdP l rA2 rc2 lA2 bA2 bz2 kA2 kc2 eA2 ec2 m a 1 (zt0 (zc3 rows) (zg8 rows)) (zwh (zg8 rows)) (zKb m (zjD cost rows)) (zca nC rows m)from hst);have ct:=hid (show IntsZ l 0 (.slice gA m gc) ((zg8 rows).map sgI)from hz);have cg:=hid (ce.out.trans ((hb).mono ce.out.size));obtain⟨g3,f9,g4,ga⟩:=bc2 cf.out
 obtain⟨io,ha,iH,hH,ip,hd,iv,hI,iz,hL,iw,hJ,iT,ig,iM,ij,iX,hX,iP,im⟩:=bf5 ci.out;obtain⟨jj,i6,jk,i7,jl,i8,jn,je,jp,jg,jr,ji⟩:=bc6 ck.out;clear hst hz hb;have ab:=zae l (.cells #[.slice rA2 m rc2,.int .i64 (a:Int),.slice bA2 m bz2,.slice kA2 a kc2,.int .i64 (nC:Int),.slice eA2 m ec2,.slice gA m gc,.int .i64 (N:Int)] 44);have au:=hid (zad ab cf.out);have ae:=hid (zad ab ci.out);have aw:=hid (zad ab ck.out);have bb:=hid (cS.out.below ab);have b6:=hid (ct.out.below ab)
 have U:=hid (cg.out.trans ((ab).mono cg.out.size));obtain⟨gN,gu,gO,gv⟩:=bc2 au.out;obtain⟨gY,gD,gT,gG,gZ,gE,gU,gI,iq,hf,hs,g7,iA,hM,hE,g0,iB,hQ,hG,gQ⟩:=bf5 ae.out;obtain⟨ir,hh,iu,hi,iC,hU,i2,h4,iI,h5,iJ,h6⟩:=bc6 aw.out;have KT:=hid (zal l #[.slice rA2 m rc2,.int .i64 (a:Int),.slice bA2 m bz2,.slice kA2 a kc2,.int .i64 (nC:Int),.slice eA2 m ec2,.slice gA m gc,.int .i64 (N:Int)] 44);obtain⟨dr,di,ds,dj,dn,dk,dp,dl,dq,dm,fN,fy,fP,fC,fR,fc⟩:=bc8 KT.out
 clear f0 f8 f1 fV gr gm gP gh gj gw gz gd gF gK hx g1 i9 iQ iK ih jb iU iN ik fY f6 fZ f7 gn f4 gL gf gs fU gH gl ge gx gV gJ ja iR iL ii jc iV iO il f2 fW f3 fX gp f5 gb gt gq fT gM gg gy gi hy g2 iS ie ia hu iW hV ib hw g8 g5 g9 g6 hR gS i1 jd jo jf jq jh g3 f9 g4 ga io ha iH hH ip hd iv hI iz hL iw hJ iT ig iM ij iX hX iP im jj i6 jk i7 jl i8 jn je jp jg jr ji;go_upto_region 5 with fail
 have jF:=HZ.out;have cm:=hid U.out;have a5:=cm.out.size;generalize hwS:(l.alloc (.cells #[.slice rA2 m rc2,.int .i64 (a:Int),.slice bA2 m bz2,.slice kA2 a kc2,.int .i64 (nC:Int),.slice eA2 m ec2,.slice gA m gc,.int .i64 (N:Int)] 44))=wS at *
 clear hwS;go_wp2_with fail
 with_reducible refine(pfeasible rA2 rc2 bA2 bz2 kA2 kc2 eA2 ec2 gA gc m a nC N lA2 1 (zc3 rows) (zg8 rows) (zKb m (zjD cost rows)) (zca nC rows m) 0 _ bb.out b6.out ag.out cH.out cv.out ay.out (Nat.le_trans cO.out (by decide)) B bg.out).mono ?_
 rintro e w3 ⟨E,h⟩;rw[cG.out,cq.out,cz.out]at h;have bf:=hid E;have ch:=hid (zad E au.out);have av:=hid (zad E ae.out);have cj:=hid (zad E aw.out);have b5:=hid (zad E KT.out);have dg:=hid (bb.out.below E);have bc:=hid (U.out.trans ((E).mono U.out.size));obtain⟨gW,gB,gX,gC⟩:=bc2 ch.out;obtain⟨aO,aJ,h7,hj,aP,aK,h8,ho,aQ,aL,h9,ht,aR,aM,ix,hC,aS,aN,iy,hD⟩:=bf5 av.out;obtain⟨iY,hZ,iZ,h0,i0,h3,i3,iE,i4,iF,i5,iG⟩:=bc6 cj.out;obtain⟨fG,fl,fH,fn,fI,fp,fJ,fs,fK,fv,fO,fz,fQ,fD,fS,fd⟩:=bc8 b5.out;clear E
 rcases h with ⟨c,ev,rfl,z,num,rfl,am,I⟩ | ⟨c,G,Y,Z,rfl,hY⟩ | ⟨c,G,T,ev,rfl,z,num,rfl,am,I⟩ | ⟨c,G,T,wn,q,tA,tc,rfl,hT,bC,bz⟩
 ·have y:=hid (J.out.1 c);have af:=hid I;have ah:=hid am;clear c I am;go_wp2;refine bodyPost_ret (v:=.tuple #[.agg #[.int .i64 0,.slice none 0 0,.slice none 0 0,.slice none 0 0,.int .i64 0],.iface 150 (.pointer (some ⟨z,0,none⟩))]) (by simp[results,Tryz.results32,go_sem,aO,aJ,aP,aK,aQ,aL,aR,aM,aS,aN]) rfl ?_;have g:=zqy av.out (.int .i64 0) (.slice none 0 0) (.slice none 0 0) (.slice none 0 0) (.int .i64 0);rw[y.out]
  exact⟨bsc (bsc (bsc (bsc (bsc bc.out)))),_,rfl,z,num,rfl,ah.out,g.blk af.out (by decide)⟩
 ·have y:=hid (J.out.2.1 c G);have HY:=hid hY;clear c G hY;go_wp2;refine bodyPost_ret (v:=.tuple #[.agg #[.int .i64 2,.slice none 0 0,.slice Y m Z,.slice none 0 0,.int .i64 (r.n:Int)],.nilIface]) (by simp[results,Tryz.results32,go_sem,aO,aJ,aP,aK,aQ,aL,aR,aM,aS,aN]) rfl ?_;have g:=zqy av.out (.int .i64 2) (.slice none 0 0) (.slice Y m Z) (.slice none 0 0) (.int .i64 (r.n:Int));rw[y.out];exact⟨bsc (bsc (bsc (bsc (bsc bc.out)))),Y,Z,rfl,(HY.out.base a5).tk g (by decide) (by decide)⟩
 ·have y:=hid (J.out.2.2.1 c G T);have af:=hid I;have ah:=hid am;clear c G T I am;go_wp2;refine bodyPost_ret (v:=.tuple #[.agg #[.int .i64 0,.slice none 0 0,.slice none 0 0,.slice none 0 0,.int .i64 0],.iface 150 (.pointer (some ⟨z,0,none⟩))]) (by simp[results,Tryz.results32,go_sem,aO,aJ,aP,aK,aQ,aL,aR,aM,aS,aN]) rfl ?_;have g:=zqy av.out (.int .i64 0) (.slice none 0 0) (.slice none 0 0) (.slice none 0 0) (.int .i64 0);rw[y.out]
  exact⟨bsc (bsc (bsc (bsc (bsc bc.out)))),_,rfl,z,num,rfl,ah.out,g.blk af.out (by decide)⟩
 ·have cA:=hid (J.out.2.2.2.1 c G T);have cB:=hid (J.out.2.2.2.2.1 c G T);have cE:=hid (fun j=>J.out.2.2.2.2.2 j c G T);have HT:=hid hT;have cW:=hid bC;have jv:=hid bz;clear c G T hT bC bz;clear gN gu gO gv gY gD gT gG gZ gE gU gI iq hf hs g7 iA hM hE g0 iB hQ hG gQ ir hh iu hi iC hU i2 h4 iI h5 iJ h6 dr di ds dj dn dk dp dl dq dm fN fy fP fC fR fc;have jC:=cy.out;have jy:=bg.out;go_upto_region 12 with fail
  go_cut[12,13,7] (fun a1 a2 ev wy=>a1=.int .i64 (zbh s.at_)∧a2=.int .i64 (s.n:Int)∧((s.err=false∧ev=.nilIface)∨(s.err=true∧∃z,ev=.iface 150 (.pointer (some ⟨z,0,none⟩))∧wy.heap[z]? = some (.cells #[.string zve,.int .i64 (s.n:Int),.iface 90 (.int .i64 180)] 154 (0,0))))∧zhi wn wy wn.heap.size q rA2 rc2 lA2 bA2 bz2 kA2 kc2 eA2 ec2 m a 1 nC (zt0 (zc3 rows) (zg8 rows)) (zwh (zg8 rows)) (zKb m (zjD cost rows)) (zca nC rows m) tA tc s.cols∧Below wS.heap.size wS wy)
  case first=>as_aux_lemma =>
   go_wp2_with fail
   have cx:=hid (show zsn a N=zKc N m by rw[←ag.out,zUB]);have cX:=hid (show IntKind.i64.wrap ((B:Int)-(n:Int))=((B-n:Nat):Int)by rw[IntKind.wrap_i64];omega)
   refine zaS (S:=fun w'=>w'.cell? ⟨l.heap.size,0,none⟩=some (.slice rA2 m rc2)∧w'.cell? ⟨l.heap.size,1,none⟩=some (.int .i64 (a:Int))∧w'.cell? ⟨l.heap.size,2,none⟩=some (.slice bA2 m bz2)∧w'.cell? ⟨l.heap.size,3,none⟩=some (.slice kA2 a kc2)∧w'.cell? ⟨l.heap.size,4,none⟩=some (.int .i64 (nC:Int))∧w'.cell? ⟨l.heap.size,5,none⟩=some (.slice eA2 m ec2)∧w'.cell? ⟨l.heap.size,6,none⟩=some (.slice gA m gc)∧w'.cell? ⟨l.heap.size,7,none⟩=some (.int .i64 (N:Int))) [] (h:=fun hHeld=>?_)
   refine zaw [0,1,2,3,4,6,7,8] ?_;repeat refine tkL (hS:=hHeld) (h:=?_)
   refine zao ?_;rw[cX.out];refine zaB 5 (h:=fun K b=>?_);go_simp
   (go_at_call 12;(with_reducible refine(pmay rA2 rc2 bA2 bz2 kA2 kc2 eA2 ec2 gA gc m a nC N _ (by have:=ag.out;omega) bB).mono ?_);rintro e v1 ⟨M,cM,rfl,hm,hb⟩;have gR:=hid (zad hb ch.out);have iD:=hid (zad hb av.out);have ic:=hid (zad hb cj.out);have dd:=hid (zad hb b5.out);have b7:=hid (dg.out.drew.below hb);have dh:=hid (HT.out.drew.below hb);have HM:=hid (show BoolsS v1 w3.heap.size (.slice M a cM) (zKc N m)from(by have h:=hm;rw[cx.out]at h;exact h));obtain⟨mY,mV,mZ,mU⟩:=bc2 gR.out;obtain⟨nf,m0,nn,m5,ng,m1,np,m6,nu,nc,nr,m7,nv,nd,ns,m8,nw,ne,nt,m9⟩:=bf5 iD.out;obtain⟨nh,m2,ni,m3,nj,m4,nx,nk,ny,nl,nz,nm⟩:=bc6 ic.out;obtain⟨lc,k0,ld,k4,le,k7,lf,la,lg,kP,lh,kS,lj,kW,ll,lp⟩:=bc8 dd.out;have u:Below w3.heap.size w3 v1:=It.bdrew0' hb;clear hm hb)
   (try go_wp2_with fail)
   refine b.out _ _ kp fun hHeld=>?_
   clear b K;try simp only[Act.put,pu1,pu2,pu3,pu4,pu5,pu6]
   refine zaB 9 (h:=fun K b=>?_);go_simp
   (go_at_call 49;(with_reducible refine(prun dh.out kA2 kc2 0 (zKb m (zjD cost rows)) b7.out.C b7.out.zc M a cM w3.heap.size (zKc N m) HM.out ay.out ((B-n:Nat):Int) (by omega)).mono ?_);rintro e v2 ⟨ev,rfl,ak,hT2,hb2,hk2⟩;rw[show(((B-n:Nat):Int)).toNat=B-n from Int.toNat_natCast _,cL.out]at ak hT2 ⊢;have cs:=hid ak;have cV:=hid hT2;have x:=hid (show Below wS.heap.size wS v2 from(bf.out.trans (u.mono bf.out.size)).trans (hb2.mono cW.out));have hA:=hid (zad x.out au.out);have js:=hid (zad x.out ae.out);have jt:=hid (zad x.out aw.out);have de:=hid (zad x.out KT.out);obtain⟨na,mW,nb,mX⟩:=bc2 hA.out;obtain⟨lJ,nR,lC,nA,lK,nT,lD,nB,lL,nV,lE,nD,lM,nX,lF,nE,lN,n0,lG,nF⟩:=bf5 js.out;obtain⟨lO,n1,lP,nL,lQ,nM,lR,nN,lH,nO,lI,nP⟩:=bc6 jt.out;obtain⟨l6,l9,l7,ma,l8,mb,me,mc,mf,md,li,kT,lk,kX,lm,lq⟩:=bc8 de.out;clear ak hT2 hb2 hk2)
   (try go_wp2_with fail)
   refine b.out _ _ kp fun hHeld=>?_
   clear b K;try simp only[Act.put,pu1,pu2,pu3,pu4,pu5,pu6]
   refine zaw [10,11,12,13,14,15,16] ?_;repeat refine tkL (hS:=hHeld) (h:=?_)
   refine zao ?_;refine zaM (h:=?_);go_wp2;go_meet;exact⟨rfl,rfl,cs.out,cV.out,x.out⟩
  case rest =>
   rename World=>w4
   obtain⟨rfl,rfl,ak,bv,O⟩:=hcut;have d9:=hid (zad O au.out);have bP:=hid (zad O ae.out);have ea:=hid (zad O aw.out);have d8:=hid (zad O KT.out);have d3:=hid (U.out.trans ((O).mono U.out.size));obtain⟨dM,dT,dN,dU⟩:=bc2 d9.out;obtain⟨bL,bN,e6,eN,bM,bO,e7,eO,bW,bZ,e8,eP,bX,b0,e9,eQ,bY,b1,fa,eR⟩:=bf5 bP.out;obtain⟨dO,dV,dP,dW,dQ,dX,dR,dY,a8,dZ,fj,eG⟩:=bc6 ea.out;obtain⟨dS,d0,eb,d1,ed,d2,fq,eK,ft,eM,fw,ew,fA,ey,fE,eB⟩:=bc8 d8.out;have t:=hid O;have L:=hid bv;clear O bv
   rcases ak with ⟨c,rfl⟩ | ⟨c,z,rfl,I⟩
   ·have HE:=hid c;have ax:=hid L.out.basis;clear c;have a4:nC≤a:=by have:=HN.out;have:=ag.out;omega
    have jD:(nC:Int)≤(a:Int):=by omega
    go_upto_region 15 with fail
    go_cut[14] (fun ov wy=>∃(ob:Nat) (P:OA) (f:Nat),ov=.pointer (some ⟨ob,0,none⟩)∧wS.heap.size≤ob∧wy.heap[ob]? = some (.cells #[.int .i64 1,.slice P nC f,.slice none 0 0,.slice none 0 0,.int .i64 ((n+s.n:Nat):Int)] 85 (0,0))∧VecS wy wS.heap.size (.slice P nC f) ((zh1 a s.cols (za5 (zt0 (zc3 rows) (zg8 rows)) (zwh (zg8 rows)) s.cols)).take nC)∧zhi wn wy wn.heap.size q rA2 rc2 lA2 bA2 bz2 kA2 kc2 eA2 ec2 m a 1 nC (zt0 (zc3 rows) (zg8 rows)) (zwh (zg8 rows)) (zKb m (zjD cost rows)) (zca nC rows m) tA tc s.cols∧Below wS.heap.size wS wy)
    case first =>
     have jE:=bk.out;have bm:=hid (show IntKind.i64.wrap ((n:Int)+(s.n:Int))=((n+s.n:Nat):Int)by rw[IntKind.wrap_i64];omega);go_wp2_with fail
     refine zaS (S:=fun w'=>w'.cell? ⟨w1.heap.size,4,none⟩=some (.int .i64 (nC:Int))) [10] (h:=fun hHeld=>?_);refine zaw [0,2,3,5,6,7] ?_;repeat refine tkL (hS:=hHeld) (h:=?_)
     refine zao ?_;refine zme (i:=1) (j:=9) rfl rfl (by kernel_rfl) (fun K b=>?_) (fun K b=>?_)
     ·skip
      go_simp
      (go_at_call 13;(with_reducible refine(Tb.point L.out.drew).mono ?_);rintro e v1 ⟨P,f,rfl,hv,hb⟩;have u:Below w4.heap.size w4 v1:=It.bdrew0' hb;have z4:=zab u a8;have z4a:=cell_al (ob:=(.cells #[.int .i64 0,.slice none 0 0,.slice none 0 0,.slice none 0 0,.int .i64 0] 85)) z4;have bl:=hid (L.out.below u);have x:=hid (t.out.trans (u.mono t.out.size));have c5:=hv.form.2.1;have c6:=hv.form.2.2.1;have c7:nC≤f:=(by omega);have aV:=hid ((hv.cut nC a4).base (t.out.size));clear hv;clear hb u)
      (try go_wp2_with fail)
      refine b.out _ _ kp fun hHeld=>?_
      clear b K;try simp only[Act.put,pu1,pu2,pu3,pu4,pu5,pu6]
      refine zaw [4,8] ?_;repeat refine tkL (hS:=hHeld) (h:=?_)
      refine zao ?_;refine zaB 9 (h:=fun K b=>?_);go_simp;refine b.out _ _ kp fun hHeld=>?_
      clear b K;try simp only[Act.put,pu1,pu2,pu3,pu4,pu5,pu6]
      refine zay 10 (h:=fun K b=>?_);go_simp;refine b.out _ _ ?_;clear b K;try simp only[Act.put,pu1,pu2,pu3,pu4,pu5,pu6]
      refine zaM (h:=?_);go_wp2;go_meet;rw[bm.out]
      case rel=>exact⟨v1.heap.size,P,f,rfl,x.out.size,zal _ _ _,aV.out.alloc _,bl.out.alloc _,x.out.alloc x.out.size _⟩
     ·skip
      go_simp;refine b.out _ _ kp fun hHeld=>?_
      clear b K;try simp only[Act.put,pu1,pu2,pu3,pu4,pu5,pu6]
      refine zaB 1 (h:=fun K b=>?_);go_simp
      (go_at_call 13;(first | (with_reducible refine(Tb.point (L.out.drew.alloc _)).mono ?_) | (with_reducible refine(Tb.point ((L.out.alloc _).drew)).mono ?_));rintro e v1 ⟨P,f,rfl,hv,hb⟩;have u:Below w4.heap.size w4 v1:=((zap w4 1).trans ((zae _ _).mono (Nat.le_refl _))).trans (hb.mono (by simp));have a0:v1.heap[w4.heap.size]? = some (.cells #[.int .i64 0,.slice none 0 0,.slice none 0 0,.slice none 0 0,.int .i64 0] 85 (0,0)):=(zad hb (zal w4.drew #[.int .i64 0,.slice none 0 0,.slice none 0 0,.slice none 0 0,.int .i64 0] 85));have z4:=zab u a8;have bh:=hid a0;have bl:=hid (L.out.below u);have x:=hid (t.out.trans (u.mono t.out.size));have c5:=hv.form.2.1;have c6:=hv.form.2.2.1;have c7:nC≤f:=(by omega);have aV:=hid ((hv.cut nC a4).base (Nat.le_trans t.out.size (by simp)));clear hv;have cn:=hid u;obtain⟨o0,jI,jR,jS,o1,jK,of1,jT,o2,jM,jU,jV,o3,jO,jW,jX,o4,jQ,jY,jZ⟩:=bf5 a0;clear hb u a0)
      (try go_wp2_with fail)
      refine b.out _ _ kp fun hHeld=>?_
      clear b K;try simp only[Act.put,pu1,pu2,pu3,pu4,pu5,pu6]
      refine zaw [4,8] ?_;repeat refine tkL (hS:=hHeld) (h:=?_)
      refine zao ?_;refine zay 10 (h:=fun K b=>?_);go_simp;refine b.out _ _ ?_;clear b K;try simp only[Act.put,pu1,pu2,pu3,pu4,pu5,pu6]
      refine zaM (h:=?_);go_wp2;go_meet;rw[bm.out];have g:=zqy bh.out (.int .i64 1) (.slice P nC f) (.slice none 0 0) (.slice none 0 0) (.int .i64 ((n+s.n:Nat):Int))
      case rel=>exact⟨w4.heap.size,P,f,rfl,t.out.size,zar _ (zar _ (zar _ (zar _ (zar _ bh.out)))),aV.out.tk g (by decide) (by decide),L.out.below (((((cn.out.setCell (p:=⟨w4.heap.size,0,none⟩) (Nat.le_refl _) _).setCell (p:=⟨w4.heap.size,1,none⟩) (Nat.le_refl _) _).setCell (p:=⟨w4.heap.size,2,none⟩) (Nat.le_refl _) _).setCell (p:=⟨w4.heap.size,3,none⟩) (Nat.le_refl _) _).setCell (p:=⟨w4.heap.size,4,none⟩) (Nat.le_refl _) _),(((((x.out.setCell (p:=⟨w4.heap.size,0,none⟩) t.out.size _).setCell (p:=⟨w4.heap.size,1,none⟩) t.out.size _).setCell (p:=⟨w4.heap.size,2,none⟩) t.out.size _).setCell (p:=⟨w4.heap.size,3,none⟩) t.out.size _).setCell (p:=⟨w4.heap.size,4,none⟩) t.out.size _)⟩
    case rest =>
     rename World=>w5
     obtain⟨ob,P,f,rfl,c9,hO,hP,bw,H⟩:=hcut;have a6:=hid (zad H au.out);have bd:=hid (zad H ae.out);have a7:=hid (zad H aw.out);have a9:=hid (zad H KT.out);have aH:=hid (bb.out.below H);have b2:=hid (b6.out.below H);have ap:=hid (U.out.trans ((H).mono U.out.size));obtain⟨l4,l0,l5,l1⟩:=bc2 a6.out;obtain⟨nQ,nG,lX,lS,nS,nH,lY,lT,nU,nI,lZ,lU,nW,nJ,l2,lV,nZ,nK,l3,lW⟩:=bf5 bd.out;obtain⟨mg,my,mi,mA,ml,mC,mE,mn,mG,mp,mI,mr⟩:=bc6 a7.out;obtain⟨kY,kw,k2,ky,k5,kB,k8,kD,lb,kb,kQ,kf,kU,kh,ln,kj⟩:=bc8 a9.out
     have ju:=hid H;have az:=hid bw;have bj:=hid hP;have aX:=hid hO;have jG:w.heap.size+1<ob:=by have h1:=(Array.getElem?_eq_some_iff.1 ae.out).1;omega
     obtain⟨lr,kl,kK,j0,lt,kn,kM,j2,lv,kq,kE,j4,lx,ks,kG,j6,lz,ku,kI,j8⟩:=bf5 aX.out;clear H bw hP hO c9;clear gW gB gX gC aO aJ h7 hj aP aK h8 ho aQ aL h9 ht aR aM ix hC aS aN iy hD iY hZ iZ h0 i0 h3 i3 iE i4 iF i5 iG fG fl fH fn fI fp fJ fs fK fv fO fz fQ fD fS fd dM dT dN dU bL bN e6 eN bM bO e7 eO bW bZ e8 eP bX b0 e9 eQ bY b1 fa eR dO dV dP dW dQ dX dR dY a8 dZ fj eG dS d0 eb d1 ed d2 fq eK ft eM fw ew fA ey fE eB;cases hat:s.at_ with
     | none =>
      have F:zbh none = -1:=rfl;rw[F];have y:=hid (cB.out HE.out hat);clear hat F;go_wp2_with fail
      with_reducible refine(Tb.duals az.out kA2 kc2 (zKb m (zjD cost rows)) 0 aH.out.C aH.out.zc ay.out).mono ?_
      rintro e w6 ⟨Y,nY,Z,rfl,hv,hb⟩;have aF:=hid (zad hb a6.out);have ar:=hid (zad hb bd.out);have aG:=hid (zad hb a7.out);have aI:=hid (zad hb a9.out);have ad:=hid (zad hb aX.out);have fM:=hid (aH.out.below hb);have b3:=hid (b2.out.below hb);have b8:=hid (az.out.below hb);have ba:=hid (bj.out.below hb);have HY:=hid (show VecS w6 w5.heap.size (.slice Y nY Z) (zcl (zt0 (zc3 rows) (zg8 rows)) s.cols (zKb m (zjD cost rows)))from hv);have aq:=hid (ap.out.trans ((hb).mono ap.out.size))
      obtain⟨dz,dF,dA,dG⟩:=bc2 aF.out;obtain⟨bG,bJ,ep,ee,bH,bK,eq,ef,bQ,bT,er,eg,bR,bU,es,eh,bS,bV,et,ei⟩:=bf5 ar.out;obtain⟨dt,dJ,du,dK,d4,dL,d5,dv,d6,dw,d7,dx⟩:=bc6 aG.out;obtain⟨fk,eH,fm,eI,fo,eJ,fr,eL,fu,eu,fx,ex,fB,ez,fF,eC⟩:=bc8 aI.out;obtain⟨fe,eD,eX,eS,ff,eE,eY,eT,fg,eF,eZ,eU,fh,e3,e0,eV,fi,e5,e2,eW⟩:=bf5 ad.out;obtain rfl:m=nY:=by rw[hv.len,(ax.out.duals_ok _).2]
      clear hv hb;have c0:=hid (show ∀q∈zcl (zt0 (zc3 rows) (zg8 rows)) s.cols (zKb m (zjD cost rows)),mw q≤sB m 1 1 by
       obtain⟨_,_,_,hP⟩:=b8.out;exact znb ax.out hP.bas.good.2.2 hP.std.clen hP.std.zc)
      go_wp2_with fail
      with_reducible refine(pback rA2 rc2 bA2 bz2 kA2 kc2 eA2 ec2 gA gc m a nC N ((zg8 rows).map sgI) 0 Y Z w5.heap.size (zcl (zt0 (zc3 rows) (zg8 rows)) s.cols (zKb m (zjD cost rows))) (sB m 1 1) _ b3.out (zVI (zg8 rows)) HY.out cN.out (zma _ _ _) c0.out c8).mono ?_
      rintro e w7 ⟨Y2,nY2,cY2,rfl,hv,hb⟩;have dD:=hid (zad hb aF.out);have bI:=hid (zad hb ar.out);have dE:=hid (zad hb aG.out);have fL:=hid (zad hb aI.out);have b4:=hid (zad hb ad.out);have df:=hid (ba.out.below hb);have cZ:=hid (show VecS w7 w.heap.size (.slice Y2 nY2 cY2) (bkL ((zg8 rows).map sgI) (zcl (zt0 (zc3 rows) (zg8 rows)) s.cols (zKb m (zjD cost rows))) m)from(hv.base (show w.heap.size≤w6.heap.size from(aq).out.size)));have dy:=hid (aq.out.trans ((hb).mono aq.out.size))
      obtain⟨mt,mv,mu,mx⟩:=bc2 dD.out;obtain⟨dB,dH,mP,mK,dC,dI,mQ,mL,ej,em,mR,mM,ek,en,mS,mN,el,eo,mT,mO⟩:=bf5 bI.out;obtain⟨mh,mz,mj,mB,mD,mm,mF,mo,mH,mq,mJ,ms⟩:=bc6 dE.out;obtain⟨kZ,kx,k3,kz,k6,kC,k9,ka,kO,ke,kR,kg,kV,ki,lo,kk⟩:=bc8 fL.out;obtain⟨ls,km,kL,j1,lu,ko,kN,j3,lw,kr,kF,j5,ly,kt,kH,j7,lB,kv,kJ,j9⟩:=bf5 b4.out;obtain rfl:m=nY2:=by rw[hv.len,zSJ,(ax.out.duals_ok _).2]
      clear hv hb;go_wp2;refine bodyPost_ret (v:=.tuple #[.agg #[.int .i64 1,.slice P nC f,.slice Y2 m cY2,.slice none 0 0,.int .i64 ((n+s.n:Nat):Int)],.nilIface]) (by simp[results,Tryz.results32,go_sem,dB,dH,dC,dI,ej,em,ek,en,el,eo]) rfl ?_;have an:=TKeep.set (o:=2) (b4.out) (.slice Y2 m cY2)
      have aZ:(w7.setCell ⟨ob,2,none⟩ (.slice Y2 m cY2)).heap[w.heap.size+1]? = some (.cells #[.int .i64 0,.slice none 0 0,.slice none 0 0,.slice none 0 0,.int .i64 0] 85 (0,0)):=by rw[Below.heap_setCell _ _ _ _ (by show w.heap.size+1≠ob;omega)];exact bI.out
      have g:=zqy aZ (.int .i64 1) (.slice P nC f) (.slice Y2 m cY2) (.slice none 0 0) (.int .i64 ((n+s.n:Nat):Int));rw[y.out]
      exact⟨((((((dy.out.setCell (p:=⟨ob,2,none⟩) (by show w.heap.size≤ob;omega) _).setCell (p:=⟨w.heap.size+1,0,none⟩) (by show w.heap.size≤w.heap.size+1;omega) _).setCell (p:=⟨w.heap.size+1,1,none⟩) (by show w.heap.size≤w.heap.size+1;omega) _).setCell (p:=⟨w.heap.size+1,2,none⟩) (by show w.heap.size≤w.heap.size+1;omega) _).setCell (p:=⟨w.heap.size+1,3,none⟩) (by show w.heap.size≤w.heap.size+1;omega) _).setCell (p:=⟨w.heap.size+1,4,none⟩) (by show w.heap.size≤w.heap.size+1;omega) _),P,f,Y2,cY2,rfl,(((df.out.base a5).tk an (by decide) (by decide)).tk g (by decide) (by decide)),((cZ.out.tk an (by decide) (by decide)).tk g (by decide) (by decide))⟩
     | some j =>
      have F:zbh (some j)=(j:Int):=rfl;rw[F];have y:=hid (cE.out j HE.out hat);have cu:=hid (cQ.out j ax.out HE.out hat);have jB:(0:Int)≤(j:Int):=Int.natCast_nonneg _;clear hat F;go_wp2_with fail
      with_reducible refine(pray az.out gA gc N j cu.out ay.out cI.out a4).mono ?_
      rintro e w6 ⟨D,cD,rfl,hv,hb⟩;have aF:=hid (zad hb a6.out);have ar:=hid (zad hb bd.out);have aG:=hid (zad hb a7.out);have aI:=hid (zad hb a9.out);have ad:=hid (zad hb aX.out);have fM:=hid (aH.out.below hb);have b3:=hid (b2.out.below hb);have b8:=hid (az.out.below hb);have ba:=hid (bj.out.below hb);have HD:=hid (show VecS w6 w.heap.size (.slice D nC cD) ((zTj a s.cols (zav (zt0 (zc3 rows) (zg8 rows)) s.cols j) j m).take nC)from(hv.base (show w.heap.size≤w5.heap.size from(ap).out.size)))
      have aq:=hid (ap.out.trans ((hb).mono ap.out.size));obtain⟨dz,dF,dA,dG⟩:=bc2 aF.out;obtain⟨bG,bJ,ep,ee,bH,bK,eq,ef,bQ,bT,er,eg,bR,bU,es,eh,bS,bV,et,ei⟩:=bf5 ar.out;obtain⟨dt,dJ,du,dK,d4,dL,d5,dv,d6,dw,d7,dx⟩:=bc6 aG.out;obtain⟨fk,eH,fm,eI,fo,eJ,fr,eL,fu,eu,fx,ex,fB,ez,fF,eC⟩:=bc8 aI.out;obtain⟨fe,eD,eX,eS,ff,eE,eY,eT,fg,eF,eZ,eU,fh,e3,e0,eV,fi,e5,e2,eW⟩:=bf5 ad.out;clear hv hb;go_wp2
      refine bodyPost_ret (v:=.tuple #[.agg #[.int .i64 3,.slice P nC f,.slice none 0 0,.slice D nC cD,.int .i64 ((n+s.n:Nat):Int)],.nilIface]) (by simp[results,Tryz.results32,go_sem,bG,bJ,bH,bK,bQ,bT,bR,bU,bS,bV]) rfl ?_;have an:=TKeep.set (o:=0) (ad.out) (.int .i64 3);have bD:=TKeep.set (o:=3) (zar (o:=0) (.int .i64 3) (ad.out)) (.slice D nC cD)
      have aZ:((w6.setCell ⟨ob,0,none⟩ (.int .i64 3)).setCell ⟨ob,3,none⟩ (.slice D nC cD)).heap[w.heap.size+1]? = some (.cells #[.int .i64 0,.slice none 0 0,.slice none 0 0,.slice none 0 0,.int .i64 0] 85 (0,0)):=by rw[Below.heap_setCell _ _ _ _ (by show w.heap.size+1≠ob;omega),Below.heap_setCell _ _ _ _ (by show w.heap.size+1≠ob;omega)];exact ar.out
      have g:=zqy aZ (.int .i64 3) (.slice P nC f) (.slice none 0 0) (.slice D nC cD) (.int .i64 ((n+s.n:Nat):Int));rw[y.out]
      exact⟨(((((((aq.out.setCell (p:=⟨ob,0,none⟩) (by show w.heap.size≤ob;omega) _).setCell (p:=⟨ob,3,none⟩) (by show w.heap.size≤ob;omega) _).setCell (p:=⟨w.heap.size+1,0,none⟩) (by show w.heap.size≤w.heap.size+1;omega) _).setCell (p:=⟨w.heap.size+1,1,none⟩) (by show w.heap.size≤w.heap.size+1;omega) _).setCell (p:=⟨w.heap.size+1,2,none⟩) (by show w.heap.size≤w.heap.size+1;omega) _).setCell (p:=⟨w.heap.size+1,3,none⟩) (by show w.heap.size≤w.heap.size+1;omega) _).setCell (p:=⟨w.heap.size+1,4,none⟩) (by show w.heap.size≤w.heap.size+1;omega) _),P,f,D,cD,rfl,((((ba.out.base a5).tk an (by decide) (by decide)).tk bD (by decide) (by decide)).tk g (by decide) (by decide)),(((HD.out.tk an (by decide) (by decide)).tk bD (by decide) (by decide)).tk g (by decide) (by decide))⟩
   ·have y:=hid (cA.out c);have af:=hid I;have ah:=hid (show s.n≤B by have:=bk.out;omega);clear c I;go_wp2;refine bodyPost_ret (v:=.tuple #[.agg #[.int .i64 0,.slice none 0 0,.slice none 0 0,.slice none 0 0,.int .i64 0],.iface 150 (.pointer (some ⟨z,0,none⟩))]) (by simp[results,Tryz.results32,go_sem,bL,bN,bM,bO,bW,bZ,bX,b0,bY,b1]) rfl ?_;have g:=zqy bP.out (.int .i64 0) (.slice none 0 0) (.slice none 0 0) (.slice none 0 0) (.int .i64 0);rw[y.out]
    exact⟨bsc (bsc (bsc (bsc (bsc d3.out)))),_,rfl,z,s.n,rfl,ah.out,g.blk af.out (by decide)⟩
end Pr
end Go.Proofs.YtmflbanlgkdgeaaGreatDoor
namespace Go.Proofs.YtmflbanlgkdgeaaGreatDoor
open Go.RowKit Am
open Lib (hid)
section
variable {n:Nat} {rows:List PRow} (hl:∀k,k<rows.length→(rows.getD k default).coef.length=n)
theorem zUo{t:Nat}(h:t<rows.length)(a:(rows.getD t default).kind≠3):cnt rows t<cnt rows rows.length:=by
 have h1:cnt rows (t+1)=cnt rows t+1:=by rw[cnt,if_neg a]
 have b:=zyi rows (j:=t+1) (k:=rows.length) (by omega);omega
include hl
theorem zWW{k j:Nat}(h:k<rows.length)(hj:j<n):en (zc3 rows) k j=el (rows.getD k default).coef j:=by
 unfold en;rw[zrT h,zkF (by rw[hl k h];exact hj)]
theorem zUC(z:Nat→Rat){i:Nat}(b:i<rows.length):zai (n+cnt rows rows.length) (fun j=>en (zc3 rows) i j*z j)=zai n (fun j=>el (rows.getD i default).coef j*z j)+(if (rows.getD i default).kind=3 then 0 else ((zfI (rows.getD i default).kind:Int):Rat)*z (n+cnt rows i)):=by
 rw[zgc _ n,zaj (g:=fun j=>el (rows.getD i default).coef j*z j) fun j hj=>by rw[zWW hl b hj]]
 congr 1
 by_cases a:(rows.getD i default).kind=3
 ·rw[if_pos a];exact zcn fun t c=>by rw[zvs hl b c,if_neg (fun h=>h.1 a)];grind
 ·rw[if_neg a,zbI (k:=cnt rows i) (zUo b a) fun t c d=>by rw[zvs hl b c,if_neg (fun h=>d h.2)];grind,zvs hl b (zUo b a),if_pos ⟨a,rfl⟩]
end
theorem zYn{k:Int}(h:k=1):((zfI k:Int):Rat)=1:=by unfold zfI;rw[if_pos h];rfl
theorem zYo{k:Int}(h:k≠1):((zfI k:Int):Rat) = -1:=by unfold zfI;rw[if_neg h];rfl
theorem zWQ{b ys:List Rat}{m i:Nat}(a:b.length=m)(c:ys.length=m)(h:i<m):el (bkL (b.map sgI) ys m) i=sgn (el b i)*el ys i:=by
 rw[znd (zTv (by omega)),if_pos h,List.getD_eq_getElem?_getD,List.getElem?_map,zaH (xs:=b) (j:=i) (by omega)];show((sgI (el b i):Int):Rat)*_=_
 rw[zUb]
def zWY (p:PRow) (d:List Rat):Prop:=(p.kind=1→dot p.coef d≤0)∧(p.kind=2→0≤dot p.coef d)∧(p.kind=3→dot p.coef d=0)
structure Signs (m:Nat) (rows:List PRow) (y:List Rat):Prop where
  ly:y.length=m
  s1:∀k,k<m→(rows.getD k default).kind=1→el y k≤0
  s2:∀k,k<m→(rows.getD k default).kind=2→0≤el y k
def zUQ (nC m:Nat) (rows:List PRow) (y:List Rat):Prop:=Signs m rows y∧(∀j,j<nC→zai m (fun i=>el y i*el (rows.getD i default).coef j)≤0)∧0<sb y rows
def zUP (nC m:Nat) (cost:List Rat) (rows:List PRow) (x y:List Rat):Prop:=Signs m rows y∧x.length=nC∧znD cost rows x=true∧(∀j,j<nC→zai m (fun i=>el y i*el (rows.getD i default).coef j)≤el cost j)∧dot cost x=sb y rows
def zUE (nC:Nat) (cost:List Rat) (rows:List PRow) (x d:List Rat):Prop:=x.length=nC∧znD cost rows x=true∧d.length=nC∧(∀j,0≤el d j)∧(∀p∈rows,zWY p d)∧dot cost d<0
section
variable {nC m N:Nat} {cost:List Rat} {rows:List PRow} (hg:Good1 nC m cost rows) (hlc:cost.length=nC) (hlr:rows.length=m) (hN:nC+cnt rows m=N)
include hg hlc hlr hN
theorem zSE:∀k,k<rows.length→(rows.getD k default).coef.length=nC:=fun k hk=>(hg.rw_ _ (List.mem_of_getElem? (zaO hk))).1
theorem zVA:Rect m N (zc3 rows):=by have:=zlk (zSE hg hlc hlr hN);rw[hlr,hN]at this;exact this
theorem zVz:(zg8 rows).length=m:=by rw[zxG,hlr]
theorem zTT{z:Nat→Rat}(g:∀j,0≤z j)(t:∀i,i<m→zai N (fun j=>en (zc3 rows) i j*z j)=el (zg8 rows) i){x:List Rat}(f:x.length=nC)(ex:∀j,j<nC→el x j=z j):znD cost rows x=true:=by
 have r:=zSE hg hlc hlr hN;rw[zoE (by rw[f,hlc]) (zNy fun j hj=>by rw[f]at hj;rw[ex j hj];exact g j),List.all_eq_true];intro p d;obtain⟨i,c⟩:=List.mem_iff_getElem?.1 d;have s:=(List.getElem?_eq_some_iff.1 c).1;have o:rows.getD i default=p:=zfC c;have e:=t i (by omega);rw[←hN,←hlr,zUC r z s,o]at e;have q:el (zg8 rows) i=p.rhs:=by unfold zg8;rw[znd (by rw[List.getElem?_map,c];rfl)]
 rw[q]at e;have l:dot p.coef x=zai nC fun j=>el p.coef j*z j:=by
  unfold dot ziw;rw[(hg.rw_ p d).1];exact zaj fun j hj=>by rw[ex j hj]
 have b:zdp p x = -(if p.kind=3 then 0 else ((zfI p.kind:Int):Rat)*z (nC+cnt rows i)):=by unfold zdp;rw[l];grind
 have zs:=g (nC+cnt rows i);unfold zdH;have hk:=hg.kd p d;by_cases a:p.kind=1
 ·rw[if_neg (by omega),zYn a]at b;rw[if_pos a,decide_eq_true];grind
 ·by_cases k2:p.kind=2
  ·rw[if_neg (by omega),zYo a]at b;rw[if_neg a,if_pos k2,decide_eq_true];grind
  ·have k3:p.kind=3:=by omega
   rw[if_pos k3]at b;rw[if_neg a,if_neg k2,decide_eq_true k3,decide_eq_true (by rw[b];grind)];rfl
end
