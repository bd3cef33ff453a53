/- Contracts and lemmas: Bsp Bs21. Conditions: as each says. -/
import Derived.Test.YtdnippohkfdncaaGreatSol21Zk
import Derived.Test.YtdnippohkfdncaaGreatAw21Zk
set_option linter.all false
set_option maxHeartbeats 2000000
set_option maxRecDepth 100000
namespace Go.Proofs.YtdnippohkfdncaaGreat
open Go.RowKit Am
open Lib (hid)
open Ca (yuw)
theorem yvy{cols:List Nat}{xs:List Rat}(h:∀k,0≤el xs k):∀n,zbk cols xs n=none
 | 0=>rfl
 | n+1=>by
  unfold zbk;rw[if_neg (Rat.not_lt.2 (h n)),yvy h n]
theorem yvx{n N:Nat}(h:n≤N)(cols:List Nat)(xs:List Rat):(zh1 N cols xs).take n=(List.range n).map fun j=>pt cols.length (fun k=>cols.getD k 0) (el xs) j:=by
 unfold zh1;rw[←List.map_take,List.take_range,Nat.min_eq_left h]
structure FromO (nC m N:Nat) (cost:List Rat) (rows:List PRow) (I:List Nat) (X:List Rat) (n:Nat):Prop where
  basis:Basis m N (zc3 rows) I
  right:zdi (zaC N (zc3 rows) I (zjD cost rows)) (List.replicate N true)=none
  dual:∀f,pivs (zbE N (zc3 rows) (zg8 rows) (zjD cost rows) (List.replicate N true)) f I=⟨I,none,0,false⟩
  frm:∃G k,yts N nC (zc3 rows) (zg8 rows) (zjD cost rows) 4000 I=.best I G k∧k≤n∧ytf nC N (zc3 rows) (zg8 rows) G=X
theorem yvI{nC m:Nat}(cost:List Rat){rows:List PRow}{o:COut}(h:cO o=1):cV nC m cost rows o=dot cost (cX nC m rows o):=by
 cases o with
 | best _ _ _=>rfl
 | spent _=>cases h
 | none _=>cases h
 | falls _=>cases h
section
variable {nC m:Nat} {cost:List Rat} {rows:List PRow} (hg:Good1 nC m cost rows) (hlc:cost.length=nC) (hlr:rows.length=m)
include hg hlc hlr
theorem yvA:cI nC m rows (ys6 nC m cost rows)=[]∨(cO (ys6 nC m cost rows)=1∧FromO nC m (nC+cnt rows m) cost rows (cI nC m rows (ys6 nC m cost rows)) (cX nC m rows (ys6 nC m cost rows)) (ys6 nC m cost rows).pivots):=by
 have b:=zVA hg hlc hlr rfl;have c:=zVz hg hlc hlr rfl;have hc:(zjD cost rows).length=nC+cnt rows m:=by unfold zjD;rw[List.length_append,List.length_replicate,hlc,hlr]
 obtain⟨r,d,_⟩:=ys8 hg hlc hlr;generalize ys6 nC m cost rows=o at r d ⊢;cases r with
 | none h f s v=>exact .inl rfl
 | falls h s=>exact .inl rfl
 | best h s x e =>
  rename_i cols G n k L
  show ytJ (nC+cnt rows m) cols=[]∨(1=1∧FromO nC m (nC+cnt rows m) cost rows (ytJ (nC+cnt rows m) cols) (ytf nC (nC+cnt rows m+m) (zt0 (zc3 rows) (zg8 rows)) (zwh (zg8 rows)) G) n)
  have d:n≤4000:=d;generalize hN:nC+cnt rows m=N at *
  by_cases a:∀k,k<m→cols.getD k 0<N
  ·right;have ex:ytJ N cols=cols:=ytY fun j hj=>a j (by rw[←h.basis.len];exact hj)
   rw[ex];have p:=yvu b h.basis a;have lc:(zKb m (zjD cost rows)).length=N+m:=by rw[zSS,hc]
   have eq:∀j,j<N→el (zKb m (zjD cost rows)) j=el (zjD cost rows) j:=fun j hj=>zTu (by omega)
   have pr:=yvv b h.basis a hc lc eq;have nn:∀j,j<N→0≤el (zaC N (zc3 rows) cols (zjD cost rows)) j:=fun j hj=>by
    rw[←pr j hj];exact zTe lc s j (by omega) (zUA hj)
   have u:zdi (zaC N (zc3 rows) cols (zjD cost rows)) (List.replicate N true)=none:=by
    unfold zdi;exact zhz _ 0 fun j _ hj e=>by
     rw[zKp hc]at hj;have:=nn j (by omega);grind
   have y:=yvz b c h.basis a;have z:∀k,0≤el (za5 (zc3 rows) (zg8 rows) cols) k:=fun k=>by
    by_cases hk:k<m
    ·rw[←y];exact h.feas k hk
    ·rw[zDb (by rw[(p.vals_ok _).2];omega)];exact Rat.le_refl
   have dn:zbE N (zc3 rows) (zg8 rows) (zjD cost rows) (List.replicate N true) cols=.stop:=by
    unfold zbE zi5;rw[yvy z]
   have l:∀f,pivs (zbE N (zc3 rows) (zg8 rows) (zjD cost rows) (List.replicate N true)) f cols=⟨cols,none,0,false⟩:=fun f=>zvf dn
   refine⟨rfl,p,u,l,G,L.length,?_,by omega,?_⟩
   ·have i:MayB N (ys7 (zaC N (zc3 rows) cols (zjD cost rows)) (List.replicate N true)) (ys7 (zaC (N+m) (zt0 (zc3 rows) (zg8 rows)) cols (zKb m (zjD cost rows))) (zKc N m)) :=
     ⟨fun j hj=>by rw[Bool.eq_iff_iff,yta,yta,zUA hj,z6b hj,pr j hj],fun j hj=>by
      rw[Bool.eq_false_iff];intro q;have:=(yta.1 q).1;rw[zUz hj]at this;cases this⟩
    have st:=(yvw b c nC 0 _ _ cols 4000 0 (by omega) i h.basis a).1;rw[x.enough 4000 0 (by omega)]at st;unfold yts;rw[l 4000];simp only[Bool.false_eq_true,if_false];rw[←st];unfold yth;simp only[Bool.false_eq_true,if_false,Nat.zero_add]
   ·have i:MayB N (ys7 (zaC N (zc3 rows) cols (zjD cost rows)) (List.replicate N true)) (ys7 (zaC (N+m) (zt0 (zc3 rows) (zg8 rows)) cols (zKb m (zjD cost rows))) (zKc N m)) :=
     ⟨fun j hj=>by rw[Bool.eq_iff_iff,yta,yta,zUA hj,z6b hj,pr j hj],fun j hj=>by
      rw[Bool.eq_false_iff];intro q;have:=(yta.1 q).1;rw[zUz hj]at this;cases this⟩
    obtain⟨st,t⟩:=yvw b c nC 0 _ _ cols 4000 0 (by omega) i h.basis a;rw[x.enough 4000 0 (by omega)]at st;rw[←st]at t;have vg:=yvz b c x.last.1 t;unfold ytf;rw[vg,yvx (by omega),yvx (by omega)]
  ·left;have:∃k,k<m∧¬cols.getD k 0<N:=Classical.byContradiction fun g=>a fun k hk=>Classical.byContradiction fun h=>g ⟨k,hk,h⟩
   obtain⟨k,hk,g⟩:=this;exact yuh (by rw[h.basis.len];exact hk) g
end
namespace Ca
theorem yvM(C:OA)(nC a:Nat)(R:OA)(m b:Nat)(cost:List Rat)(rows:List PRow)(tA:OA)(tc c:Nat)(cols:List Nat)(w:World)(hc:VecS w 0 (.slice C nC a) cost)(hr:RowsS w 0 (.slice R m b) rows)(hg:Good1 nC m cost rows)(f:IntsS w c (.slice tA m tc) cols)(d:Basis m (nC+cnt rows m) (zc3 rows) cols)(e:zdi (zaC (nC+cnt rows m) (zc3 rows) cols (zjD cost rows)) (List.replicate (nC+cnt rows m) true)=none) :
  Calls Tryz.prog 24 #[.agg #[.slice C nC a,.slice R m b],.slice tA m tc,.int .i64 4000] w (ytb w nC (nC+cnt rows m) (zc3 rows) (zg8 rows) cost 4000 id (yts (nC+cnt rows m) nC (zc3 rows) (zg8 rows) (zjD cost rows) 4000 cols)) :=
 yuw C nC a R m b cost rows _ 4000 tA tc c cols w hc hr hg rfl (by decide) f d e
end Ca
end Go.Proofs.YtdnippohkfdncaaGreat
namespace Go.Proofs.YtdnippohkfdncaaGreat
open Go.RowKit Am
open Lib (hid)
open Ca (yvm yvM ytd)
attribute [local go_sem ↓] Go.wp_at_zero Go.wp_at_succ
namespace Lw
theorem basis21(A:OA)(t cA:Nat)(L:OA)(u s:Nat)(cs:List (Int × Int))(B:List LineV)(w:World)(hf:zcs w A cs)(aA:zex w L B)(hn:t=cs.length)(hm:u=B.length)(a:t≤cA)(aw:u≤s)(hc:cA≤9223372036854775807)(ax:s≤9223372036854775807) :
  Calls Tryz.prog 5 #[.agg #[.slice A t cA,.slice L u s]] w fun e w'=>e=.returned (.bool true)∧Below w.heap.size w w':=by
 have HN:=hid hn;have HM:=hid hm;have bv:=hid a;have bw:=hid aw;have bx:=hid hc;have bz:=hid ax;clear hn hm a aw hc ax;obtain⟨W,v⟩:∃W,(w.alloc (.cells #[.slice A t cA,.slice L u s] 69))=W:=⟨_,rfl⟩
 have am:=hid (show W.heap[w.heap.size]? = some (.cells #[.slice A t cA,.slice L u s] 69 (0,0))by rw[←v];exact zam (by simp));have BB:=hid (show Below w.heap.size w W by rw[←v];exact zae w _);have HF:=hid (show zcs W A cs by rw[←v];exact(hf).alloc _);have HL:=hid (show zex W L B by rw[←v];exact(aA).alloc _);obtain⟨dh,dn,di,dc⟩:=bc2 am.out;clear hf aA;go_enter Tryz.func5,Tryz.ntmps5;go_wp2_with fail
 clear v;with_reducible refine(yt6 _).mono ?_
 rintro e w1 ⟨rfl,a⟩;have aW:=hid (zad a am.out);have c0:=hid (HF.out.below a);have c1:=hid (HL.out.below a);have aV:=hid (BB.out.trans ((a).mono BB.out.size));obtain⟨df,dl,dg,dm⟩:=bc2 aW.out;clear a;go_wp2_with fail
 with_reducible refine(zLD A t cA L u s cs B _ c0.out c1.out HN.out HM.out bv.out bw.out bx.out bz.out).mono ?_
 rintro e E ⟨C,nC,cC,R,nR,cR,l,cost,rows,rfl,hv,hl,_,_,hgd,a⟩;have aU:=hid (zad a aW.out);have HC:=hid (show VecS E 0 (.slice C nC cC) cost from(hv.base (Nat.zero_le _)));have HR:=hid (show RowsS E 0 (.slice R nR cR) rows from(hl.toS.base (Nat.zero_le _)));have aZ:=hid (aV.out.trans ((a).mono aV.out.size));obtain⟨dj,dd,dk,de⟩:=bc2 aU.out;have b:=hid hgd;clear hv hl hgd a;have z:=zae E (.cells #[.slice C nC cC,.slice R nR cR] 47);have ad:=hid (zad z aU.out);have J:=hid (HC.out.below z)
 have H:=hid (HR.out.below z);have a4:=hid (aZ.out.trans ((z).mono aZ.out.size));obtain⟨a9,aX,ba,aY⟩:=bc2 ad.out;have KP:=hid (zal E #[.slice C nC cC,.slice R nR cR] 47);obtain⟨a9,aX,ba,aY⟩:=bc2 ad.out;obtain⟨dG,dy,dH,dz⟩:=bc2 KP.out;have al:=hid (ytu b.out (J.out).len.symm (H.out).len.symm);have bC:=hid (show 8*sB nR 1 1+8≤LIM by rw[zaP];have:=zVF nR b.out.hr;omega);go_wp2_with fail
 have bI:=hid (fun(w:World) (h1:VecS w 0 (.slice C nC cC) cost) (h2:RowsS w 0 (.slice R nR cR) rows)=>yvm C nC cC R nR cR cost rows w h1 h2 b.out);have bA:=hid (yvA b.out (J.out).len.symm (H.out).len.symm);have bP:=hid (yvI cost (nC:=nC) (m:=nR) (rows:=rows) (o:=ys6 nC nR cost rows));generalize cO (ys6 nC nR cost rows)=o,cX nC nR rows (ys6 nC nR cost rows)=X,cV nC nR cost rows (ys6 nC nR cost rows)=V,cI nC nR rows (ys6 nC nR cost rows)=I,(ys6 nC nR cost rows).pivots=n at *
 with_reducible refine(bI.out _ J.out H.out).mono ?_
 rintro e y ⟨g3,Av3,mv3,cv3,Dv3,md3,cd3,P3,np3,cP3,Ba3,d,ca3,rfl,j,c,x,a⟩;have a0:=hid (zad a ad.out);have a1:=hid (zad a KP.out);have cm:=hid (J.out.below a);have d3:=hid (H.out.below a);have bL:=hid (show RatS y g3 (.slice Av3 mv3 cv3) (.slice Dv3 md3 cd3) V from j);have bK:=hid (show VecS y 0 (.slice P3 np3 cP3) X from c);have bE:=hid (show IntsS y 0 (.slice Ba3 d ca3) I from x);have a8:=hid (a4.out.trans ((a).mono a4.out.size));obtain⟨dt,dp,du,dq⟩:=bc2 a0.out;obtain⟨dv,dr,dw,ds⟩:=bc2 a1.out
 clear j c x a;have r:=zae y (.cells #[.int .i64 o,.bool g3,.slice Av3 mv3 cv3,.slice Dv3 md3 cd3,.slice P3 np3 cP3] 39);have ae:=hid (zad r a0.out);have af:=hid (zad r a1.out);have aT:=hid (cm.out.below r);have aG:=hid (d3.out.below r);have b2:=hid (bL.out.below r);have bY:=hid (bK.out.below r);have F:=hid (bE.out.below r);have ag:=hid (a8.out.trans ((r).mono a8.out.size));obtain⟨a6,a2,a7,a3⟩:=bc2 ae.out;obtain⟨bg,bb,bh,bc⟩:=bc2 af.out
 have KR:=hid (zal y #[.int .i64 o,.bool g3,.slice Av3 mv3 cv3,.slice Dv3 md3 cd3,.slice P3 np3 cP3] 39);obtain⟨a6,a2,a7,a3⟩:=bc2 ae.out;obtain⟨bg,bb,bh,bc⟩:=bc2 af.out;obtain⟨dP,dB,dQ,dC,dR,dD,dX,dN,dY,dO⟩:=bc5 KR.out;clear dh dn di dc df dl dg dm dj dd dk de a9 aX ba aY dG dy dH dz dt dp du dq dv dr dw ds;have d9:(0:Int)≤(n:Int):=Int.natCast_nonneg _;by_cases hz:d=0
 ·subst hz;have ea:((0:Nat):Int)=0:=rfl;go_wp2;go_ret
  exact⟨rfl,ag.out⟩
 ·have f:=hid (bA.out.resolve_left fun e=>hz (by have h:=F.out.len;rw[e]at h;exact h));obtain rfl:o=1:=f.out.1;have bV:d=nR:=by rw[F.out.len];exact f.out.2.basis.len
  subst bV;have eb:¬((d:Nat):Int)=0:=by omega
  go_wp2_with fail
  have bS:=zgO rows d;have bT:=b.out.hr;have d6:=b.out.hc;have bO:=hid (show Rows nC rows from fun p c=>⟨(b.out.rw_ p c).1,fun q j=>Nat.le_trans ((b.out.rw_ p c).2.1 q j) (by decide),Nat.le_trans (b.out.rw_ p c).2.2 (by decide)⟩);with_reducible refine(Du.solve 1 (Nat.le_refl _) C nC cC R d cR cost rows _ rfl Ba3 ca3 0 I 0 _ aT.out aG.out (by omega) (by omega) bO.out b.out.kd b.out.sc (fun p c=>(b.out.rw_ p c).2) F.out f.out.2.basis (zWc d bT) (by decide) f.out.2.right).mono ?_
  rintro e w4 ⟨a,hd⟩;have a5:=hid (zad a ae.out);have bi:=hid (zad a af.out);have bd:=hid (zad a KR.out);have c4:=hid (aT.out.below a);have cc:=hid (aG.out.below a);have b0:=hid (b2.out.below a);have b1:=hid (bY.out.below a);have b6:=hid (F.out.below a);have bl:=hid (ag.out.trans ((a).mono ag.out.size));obtain⟨dE,dA,dF,dx⟩:=bc2 a5.out;obtain⟨dS,dI,dT,dJ⟩:=bc2 bi.out;obtain⟨dU,dK,dV,dL,dW,dM,d1,dZ,d2,d0⟩:=bc5 bd.out;rw[show Int.toNat 0=0 from rfl,f.out.2.dual 0]at hd
  rcases hd with ⟨h,_⟩ | ⟨_,k,_,_,h,_⟩ | ⟨_,_,Q,cQ,D,cD,rfl,_,_⟩
  ·cases h
  ·cases h
  ·clear a bS;have g:=zae w4 (.cells #[.int .i64 1,.slice Q nC cQ,.slice D d cD,.slice none 0 0,.int .i64 0] 81);have ah:=hid (zad g a5.out);have ai:=hid (zad g bi.out);have aj:=hid (zad g bd.out);have c5:=hid (c4.out.below g);have cp:=hid (cc.out.below g);have b3:=hid (b0.out.below g);have bZ:=hid (b1.out.below g);have aF:=hid (b6.out.below g);have bn:=hid (bl.out.trans ((g).mono bl.out.size));obtain⟨bj,be,bk,bf⟩:=bc2 ah.out;obtain⟨aI,bs,aJ,bt⟩:=bc2 ai.out
   obtain⟨aK,bu,aL,bo,aM,bp,aN,bq,aH,br⟩:=bc5 aj.out;have KS:=hid (zal w4 #[.int .i64 1,.slice Q nC cQ,.slice D d cD,.slice none 0 0,.int .i64 0] 81);obtain⟨bj,be,bk,bf⟩:=bc2 ah.out;obtain⟨aI,bs,aJ,bt⟩:=bc2 ai.out;obtain⟨aK,bu,aL,bo,aM,bp,aN,bq,aH,br⟩:=bc5 aj.out;obtain⟨cy,cE,cz,cF,cB,cG,c2,cH,c3,cJ⟩:=bc5 KS.out;go_wp2_with fail
   with_reducible refine(yvM C nC cC R d cR cost rows Ba3 ca3 0 I _ c5.out cp.out b.out aF.out f.out.2.basis f.out.2.right).mono ?_
   rintro e w5 ⟨a,hd⟩;have bm:=hid (zad a ah.out);have aO:=hid (zad a ai.out);have aP:=hid (zad a aj.out);have aR:=hid (zad a KS.out);have b9:=hid (b3.out.below a);have b4:=hid (bZ.out.below a);have b7:=hid (aF.out.below a);have aQ:=hid (bn.out.trans ((a).mono bn.out.size));obtain⟨fn,fo,fp,fq⟩:=bc2 bm.out;obtain⟨el,fr,em,fs⟩:=bc2 aO.out;obtain⟨es,en,et,eo,eu,ep,ev,eq,ew,er⟩:=bc5 aP.out;obtain⟨ey,eB,ez,eC,eA,eD,eG,eE,eH,eF⟩:=bc5 aR.out;obtain⟨G,n2,e2,d7,ex⟩:=f.out.2.frm;rw[e2]at hd
   obtain⟨T,K,Y,S,M,U,P,N,O,d4,bX,d5,rfl,j,c,x⟩:=hd;rw[ex]at j c;have az:=x.len;have bU:bX=d:=by rw[az,b7.out.len];rfl
   subst bU;have bQ:=hid (show V=dot cost X from bP.out f.out.1);rw[←bQ.out]at j;have bJ:=hid (c.base (Nat.zero_le _));have bM:=hid j;have d8:(n2:Int)≤(n:Int):=by omega
   clear c j x az e2 ex a;clear a6 a2 a7 a3 bg bb bh bc dP dB dQ dC dR dD dX dN dY dO dE dA dF dx dS dI dT dJ dU dK dV dL dW dM d1 dZ d2 d0 bj be bk bf aI bs aJ bt aK bu aL bo aM bp aN bq aH br cy cE cz cF cB cG c2 cH c3 cJ;have i:=zae w5 (.cells #[.int .i64 1,.bool T,.slice K Y S,.slice M U P,.slice N nC O] 39);have Z:=hid (zad i bm.out);have aa:=hid (zad i aO.out);have ab:=hid (zad i aP.out);have ac:=hid (zad i aR.out);have ca:=hid (b9.out.below i);have b5:=hid (b4.out.below i)
   have b8:=hid (bJ.out.below i);have cb:=hid (bM.out.below i);have aS:=hid (aQ.out.trans ((i).mono aQ.out.size));obtain⟨cn,cf,co,cg⟩:=bc2 Z.out;obtain⟨cq,ch,cr,ci⟩:=bc2 aa.out;obtain⟨ct,cd,cu,ce,cv,cj,cw,ck,cx,cl⟩:=bc5 ab.out;obtain⟨cT,cK,cU,cM,cW,cN,cY,cP,cZ,cS⟩:=bc5 ac.out;have KV:=hid (zal w5 #[.int .i64 1,.bool T,.slice K Y S,.slice M U P,.slice N nC O] 39);obtain⟨cn,cf,co,cg⟩:=bc2 Z.out;obtain⟨cq,ch,cr,ci⟩:=bc2 aa.out;obtain⟨ct,cd,cu,ce,cv,cj,cw,ck,cx,cl⟩:=bc5 ab.out
   obtain⟨cT,cK,cU,cM,cW,cN,cY,cP,cZ,cS⟩:=bc5 ac.out;obtain⟨fg,e7,fh,e9,fi,fb,ek,eh,ed,ej⟩:=bc5 KV.out;go_wp2_with fail
   with_reducible refine(ytd (sB _ 1 1) bC.out 1 V X g3 Av3 mv3 cv3 Dv3 md3 cd3 P3 np3 cP3 T K Y S M U P N nC O _ ca.out b5.out cb.out b8.out al.out.2 al.out.1).mono ?_
   rintro e w6 ⟨rfl,a⟩;have c8:=hid (zad a Z.out);have c9:=hid (zad a aa.out);have da:=hid (zad a ab.out);have c7:=hid (zad a ac.out);have db:=hid (zad a KV.out);have c6:=hid (aS.out.trans ((a).mono aS.out.size));obtain⟨eI,eS,eJ,eT⟩:=bc2 c8.out;obtain⟨eK,eU,eL,eV⟩:=bc2 c9.out;obtain⟨eM,eW,eN,eX,eO,eY,eP,eZ,eQ,e0⟩:=bc5 da.out;obtain⟨eR,e1,e5,e3,e6,e4,fl,fj,fm,fk⟩:=bc5 c7.out;obtain⟨fc,fd,e8,fe,fa,ff,eg,ee,ei,ef⟩:=bc5 db.out;clear a;go_wp2;go_ret
   exact⟨rfl,c6.out⟩
