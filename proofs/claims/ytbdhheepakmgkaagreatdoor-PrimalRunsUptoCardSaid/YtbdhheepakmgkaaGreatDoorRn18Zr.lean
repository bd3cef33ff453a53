/- Contracts and lemmas: Rn18. Conditions: as each says. -/
import Derived.Test.YtbdhheepakmgkaaGreatDoorAw18aZr
import Derived.Test.YtbdhheepakmgkaaGreatDoorRnpZr
set_option linter.all false
set_option maxHeartbeats 1000000
set_option maxRecDepth 100000
namespace Go.Proofs.YtbdhheepakmgkaaGreatDoor
open Go.RowKit Am
open Lib (hid)
open Err (z4a z6e)
open Pr (zYk pfeasible pmay prun z6d)
attribute [local go_sem ↓] Go.wp_at_zero Go.wp_at_succ
theorem ykq{xs:List Rat}{q:Rat}(h:∀x∈xs,mw x≤1)(a:mw q≤1):∀x∈xs++[q],mw x≤1:=fun x d=>by
 rcases List.mem_append.1 d with h1 | h1
 ·exact h x h1
 ·rw[List.mem_singleton.1 h1];exact a
theorem zgu.alloc{w:World}{A:OA}{xs:List Bool}(h:zgu w A xs)(o:Obj):zgu (w.alloc o) A xs:=h.below (zae w o)
theorem yj5{a b:Rat}(h:a≤b):zlX a b≤0:=by
 unfold zlX;split
 ·decide
 ·split
  ·exact absurd h (Rat.not_le.2 (by assumption))
  ·decide
theorem yjb{m N:Nat}{A:List (List Rat)}{b c:List Rat}{cols:List Nat}(hc:c.length=N)(a:cols.length=m):dot c (zh1 N cols (za5 A b cols))=worth m N A b c cols:=by
 unfold dot ziw worth;rw[hc];exact zaj fun j hj=>by rw[zvg hj,a]
section
variable {W0 w:World} {H q:Nat} {rA:OA} {rc:Nat} {lA:List Value} {bA:OA} {bc_:Nat} {kA:OA} {kc:Nat} {eA:OA} {ec m N S own:Nat} {A:List (List Rat)} {b c:List Rat} {left:List Int}
  {tA:OA} {tc:Nat} {cols:List Nat}
theorem yju(h:zhi W0 w H q rA rc lA bA bc_ kA kc eA ec m N S own A b c left tA tc cols):∀q∈zh1 N cols (za5 A b cols),mw q≤sB m S S:=by
 have a:=h.basis;obtain⟨_,_,_,d⟩:=h;exact z0l a (a.vals_ok _).2 (z0n a d.bas.good.2.2 d.std.blen d.std.zb) (zma _ _ _)
theorem yjE(h:zhi W0 w H q rA rc lA bA bc_ kA kc eA ec m N S own A b c left tA tc cols){j:Nat}(hj:j<N):(∀x∈za5 A b cols,mw x≤sB m S S)∧(∀x∈zav A cols j,mw x≤sB m S S):=by
 have d:=h.basis;obtain⟨_,_,_,a⟩:=h;have e:=a.bas.good.2.2;exact⟨z0n d e a.std.blen a.std.zb,zVc d e (a.std.zcol hj)⟩
end
namespace Lw
theorem runs18(A:OA)(nA cA:Nat)(L:OA)(nL cL:Nat)(cs:List (Int × Int))(ls:List LineV)(X:OA)(nX cX:Nat)(xs:List (Int × Int))(Z:OA)(F cZ:Nat)(zs:List Bool)(B:Int)(w:World)(hf:zcs w A cs)(ci:zex w L ls)(E:nA=cs.length)(hm:nL=ls.length)(a:nA≤cA)(ap:nL≤cL)(hc:cA≤9223372036854775807)(cc:cL≤9223372036854775807)(hg:w.cell? ⟨0,0,none⟩=some z4a)(hx:zcs w X xs)(co:nX=xs.length)(ca:nX≤1048576)(U:zgu w Z zs)(cp:F=zs.length)(cb:F≤1048576)(b3:0≤B)(eV:B<256) :
  Calls Tryz.prog 4 #[.agg #[.slice A nA cA,.slice L nL cL],.slice X nX cX,.slice Z F cZ,.int .u8 B] w fun e w'=>e=.returned (.bool true)∧Below w.heap.size w w':=by
 have ex:=hid E;have es:=hid hm;have d5:=hid a;have d6:=hid ap;have d7:=hid hc;have d9:=hid cc;have em:=hid hg;clear E hm a ap hc cc hg;have bK:=hid co;have bw:=hid ca;have ey:=hid cp;have ed:=hid cb;obtain⟨K,hK,mM⟩:∃K:Nat,B.tmod 30=(K:Int)∧K<30:=⟨(B%30).toNat,by rw[Int.tmod_eq_emod_of_nonneg b3];omega,by omega⟩
 have HK:=hid hK;clear co ca cp cb hK b3 eV;obtain⟨W,O⟩:∃W,(w.alloc (.cells #[.slice A nA cA,.slice L nL cL] 25))=W:=⟨_,rfl⟩
 have bT:=hid (show W.heap[w.heap.size]? = some (.cells #[.slice A nA cA,.slice L nL cL] 25 (0,0))by rw[←O];exact zam (by simp));have BB:=hid (show Below w.heap.size w W by rw[←O];exact zae w _);have HF:=hid (show zcs W A cs by rw[←O];exact(hf).alloc _);have HL:=hid (show zex W L ls by rw[←O];exact(ci).alloc _);have HX:=hid (show zcs W X xs by rw[←O];exact(hx).alloc _);have eS:=hid (show zgu W Z zs by rw[←O];exact(U).alloc _);obtain⟨k1,k7,k2,kW⟩:=bc2 bT.out
 have aU:W.cell? ⟨0,0,none⟩=some z4a:=by rw[←O];exact cell_al em.out
 have mH:=zaa aU;clear hf ci hx U;go_enter Tryz.func4,Tryz.ntmps4;go_wp2_with fail
 clear O;with_reducible refine(z8t _ aU).mono ?_
 rintro e w1 ⟨rfl,a⟩;have dS:=hid (zad a bT.out);have jI:=hid (HF.out.below a);have jJ:=hid (HL.out.below a);have lK:=hid (HX.out.below a);have f4:=hid (eS.out.below a);have dR:=hid (BB.out.trans ((a).mono BB.out.size));obtain⟨kZ,k5,k0,k6⟩:=bc2 dS.out;have dT:=zab a aU;have fd:=zaa dT;clear a;go_wp2_with fail
 with_reducible refine(zLD A nA cA L nL cL cs ls _ jI.out jJ.out ex.out es.out d5.out d6.out d7.out d9.out).mono ?_
 rintro e w2 ⟨C,nC,cC,R,m,cR,l,cost,rows,rfl,i,hl,_,_,hgd,a⟩;have dQ:=hid (zad a dS.out);have mE:=hid (lK.out.below a);have f5:=hid (f4.out.below a);have HC:=hid (show VecS w2 0 (.slice C nC cC) cost from(i.base (Nat.zero_le _)));have HR:=hid (show RowsS w2 0 (.slice R m cR) rows from(hl.toS.base (Nat.zero_le _)));have dU:=hid (dR.out.trans ((a).mono dR.out.size));obtain⟨k3,kX,k4,kY⟩:=bc2 dQ.out;have z:=hid hgd;clear i hl hgd a;have a0:=zgO rows m;have ck:=z.out.hr;have mO:=z.out.hc
 obtain⟨N,hN⟩:∃N,nC+cnt rows m=N:=⟨_,rfl⟩
 obtain⟨f,b5⟩:∃f,N+m=f:=⟨_,rfl⟩
 have HN:=hid hN;have an:=hid b5;have mW:m≤64:=by omega
 have cn:f≤64:=by omega
 have bH:=hid (show cost.length=nC from(HC.out).len.symm);have bI:=hid (show rows.length=m from(HR.out).len.symm);have eI:=hid (show Rows nC rows from fun p v=>⟨(z.out.rw_ p v).1,fun q o=>Nat.le_trans ((z.out.rw_ p v).2.1 q o) (by decide),Nat.le_trans (z.out.rw_ p v).2.2 (by decide)⟩);have bO:=hid (zVA z.out bH.out bI.out hN);have bG:=hid (zVz z.out bH.out bI.out hN);have ay:=hid (zWc m ck);have ad:=hid (zVF m ck);have H8:=hid (show 8*1+8≤LIM by rw[zaP];decide);go_wp2_with fail
 with_reducible refine(Pb.standardN 1 (Nat.le_refl _) C nC cC R m cR cost rows N HN.out _ HC.out HR.out (by omega) (by omega) eI.out z.out.kd z.out.sc (fun p v=>(z.out.rw_ p v).2)).mono ?_
 rintro e w3 ⟨rA,rc,lA,bA,bc_,kA,kc,eA,ec,rfl,hst,a⟩;have dV:=hid (zad a dQ.out);have jk:=hid (mE.out.below a);have f6:=hid (f5.out.below a);have eN:=hid (show StdP w3 rA rc lA bA bc_ kA kc eA ec m N 1 (zc3 rows) (zg8 rows) (zjD cost rows) (zca nC rows m)from hst);have dX:=hid (dU.out.trans ((a).mono dU.out.size));obtain⟨lm,k8,ln,k9⟩:=bc2 dV.out;clear hst a;clear hN b5 a0
 have aq:=zae w3 (.cells #[.slice rA m rc,.int .i64 (N:Int),.slice bA m bc_,.slice kA N kc,.int .i64 (nC:Int),.slice eA m ec] 34);have dW:=hid (zad aq dV.out);have hH:=hid (jk.out.below aq);have f7:=hid (f6.out.below aq);have gg:=hid (eN.out.below aq);have d1:=hid (dX.out.trans ((aq).mono dX.out.size));obtain⟨lg,la,lh,lb⟩:=bc2 dW.out;have KS:=hid (zal w3 #[.slice rA m rc,.int .i64 (N:Int),.slice bA m bc_,.slice kA N kc,.int .i64 (nC:Int),.slice eA m ec] 34)
 obtain⟨lk,le,ll,lf,lG,lr,lI,lv,lJ,lw,lZ,zip⟩:=bc6 KS.out;go_wp2_with fail
 with_reducible refine(zYk rA rc lA bA bc_ kA kc eA ec m N f 1 nC (zc3 rows) (zg8 rows) (zjD cost rows) (zca nC rows m) _ gg.out cn an.out (zsk _ _ _) H8.out).mono ?_
 rintro e w4 ⟨rA2,rc2,lA2,bA2,bz2,kA2,kc2,eA2,ec2,gA,gc,rfl,hst,U,a⟩;have dY:=hid (zad a dW.out);have d0:=hid (zad a KS.out);have hI:=hid (hH.out.below a);have f8:=hid (f7.out.below a);have eM:=hid (show StdP w4 rA2 rc2 lA2 bA2 bz2 kA2 kc2 eA2 ec2 m f 1 (zt0 (zc3 rows) (zg8 rows)) (zwh (zg8 rows)) (zKb m (zjD cost rows)) (zca nC rows m)from hst);have en:=hid (show IntsZ w4 0 (.slice gA m gc) ((zg8 rows).map sgI)from U);have d2:=hid (d1.out.trans ((a).mono d1.out.size))
 obtain⟨li,lc,lj,ld⟩:=bc2 dY.out;obtain⟨lE,lp,lF,lq,lH,lu,lT,lx,lV,ly,mb,l3⟩:=bc6 d0.out;clear hst U a;have aa:=zae w4 (.cells #[.slice rA2 m rc2,.int .i64 (f:Int),.slice bA2 m bz2,.slice kA2 f kc2,.int .i64 (nC:Int),.slice eA2 m ec2,.slice gA m gc,.int .i64 (N:Int)] 44);have dZ:=hid (zad aa dY.out);have d3:=hid (zad aa d0.out);have fm:=hid (hI.out.below aa);have f9:=hid (f8.out.below aa);have dP:=hid (eM.out.below aa);have cJ:=hid (en.out.below aa)
 have bp:=hid (d2.out.trans ((aa).mono d2.out.size));obtain⟨lC,lt,lD,lo⟩:=bc2 dZ.out;obtain⟨lX,lL,lY,lM,l7,lS,l8,lU,l9,lW,ml,ma⟩:=bc6 d3.out;have KT:=hid (zal w4 #[.slice rA2 m rc2,.int .i64 (f:Int),.slice bA2 m bz2,.slice kA2 f kc2,.int .i64 (nC:Int),.slice eA2 m ec2,.slice gA m gc,.int .i64 (N:Int)] 44);obtain⟨l0,lN,l1,lO,l2,lP,mc,l4,md,l5,me,l6,gn,fR,gq,fw⟩:=bc8 KT.out;have az:=yj6 bO.out bG.out (B:=4000) (by have h:=z6C z.out;rw[HN.out]at h;omega);rw[an.out]at az
 obtain⟨r,a3⟩:∃r,pivs (zBX f (zt0 (zc3 rows) (zg8 rows)) (zwh (zg8 rows)) (zJG N m) (zKc N m)) 4000 (zKa N m)=r:=⟨_,rfl⟩
 obtain⟨d,a1⟩:∃d,zSz N f (zt0 (zc3 rows) (zg8 rows)) (4000-r.n) m 0 (r.cols,0)=d:=⟨_,rfl⟩
 rw[a3,a1]at az;have aT:=hid az;have eG:=hid a3;have eh:=hid a1;clear az a3 a1;go_wp2_with fail
 refine(pfeasible rA2 rc2 bA2 bz2 kA2 kc2 eA2 ec2 gA gc m f nC N lA2 1 (zc3 rows) (zg8 rows) (zKb m (zjD cost rows)) (zca nC rows m) 0 _ dP.out cJ.out an.out bO.out bG.out ay.out (Nat.le_trans ad.out (by decide)) 4000 (by decide)).mono ?_;rintro e G ⟨g,h⟩;rw[eG.out,eh.out]at h;have mF:=hid g;have bo:=hid (zad g dZ.out);have bq:=hid (zad g d3.out);have br:=hid (zad g KT.out);have cz:=hid (fm.out.below g);have ga:=hid (f9.out.below g);have fX:=hid (dP.out.below g);have gs:=hid (cJ.out.below g)
 have bt:=hid (bp.out.trans ((g).mono bp.out.size));obtain⟨lQ,lz,lR,lB⟩:=bc2 bo.out;obtain⟨h0,mr,h4,mt,h6,mv,h8,my,ia,mA,ic,mC⟩:=bc6 bq.out;obtain⟨ie,mD,ig,mm,ih,mn,ii,mo,hX,mp,hZ,mq,hu,gZ,hy,g3⟩:=bc8 br.out;clear g;rcases h with ⟨u,_⟩ | ⟨u,ac,Y,cY,rfl,hY⟩ | ⟨u,ac,aD,_⟩ | ⟨u,ac,aD,wn,q,tA,tc,rfl,hT,ct,b9⟩
 ·rw[aT.out.err]at u;cases u
 ·have mI:=hid ac;have HY:=hid hY;clear u ac hY;go_wp2;go_ret
  exact⟨rfl,bt.out⟩
 ·rw[(aT.out.own ac).1]at aD;cases aD
 ·have ez:=hid (aT.out.own ac).2.1;have HT:=hid hT;have eQ:=hid ct;have mG:=hid b9;clear u ac aD hT ct b9;clear k1 k7 k2 kW kZ k5 k0 k6 dT fd k3 kX k4 kY lm k8 ln k9 lg la lh lb lk le ll lf lG lr lI lv lJ lw lZ zip li lc lj ld lE lp lF lq lH lu lT lx lV ly mb l3 lC lt lD lo lX lL lY lM l7 lS l8 lU l9 lW ml ma l0 lN l1 lO l2 lP mc l4 md l5 me l6 gn fR gq fw;go_wp2_with fail
  with_reducible refine(make X nX cX xs _ bK.out cz.out bw.out).mono ?_
  rintro e w6 ⟨y,t,x,rfl,i,a⟩;have mf:=hid (zad a bo.out);have il:=hid (zad a bq.out);have io:=hid (zad a br.out);have fi:=hid (cz.out.below a);have ax:=hid (show VecS w6 G.heap.size (.slice y t x) (frs xs)from i);obtain⟨mg,mh,mi,mj⟩:=bc2 mf.out;obtain⟨h3,ms,h5,mu,h7,mx,h9,mz,ib,mB,jq,iJ⟩:=bc6 il.out;obtain⟨js,iM,ju,iP,jw,i7,jy,ja,jA,jd,jC,jg,hw,g0,hA,g4⟩:=bc8 io.out;have aB:=hid (zyq fi.out);have eq:=hid (show t≤1048640 by rw[i.len,zuU,←bK.out];have:=bw.out;omega);have ea:=hid a;clear i a
  go_wp2
  go_loopw [17] (fun cv wr=>∃(y:OA) (t x:Nat) (ys:List Rat),cv=.slice y t x∧VecS wr G.heap.size (.slice y t x) ys∧(∀q∈ys,mw q≤1)∧t≤1048640∧Below G.heap.size G wr)
   (fun cv _=>f-Nt.lenOf cv)
  case atStart=>exact⟨y,t,x,frs xs,rfl,ax.out,aB.out,eq.out,ea.out⟩
  case round =>
   obtain⟨y,t,x,ys,rfl,i,U,E,g⟩:=hrel;rename World=>wl
   have aB:=hid U;have bQ:=hid g;have aP:=hid (zad g bo.out);have aQ:=hid (zad g bq.out);have aR:=hid (zad g br.out);have be:=hid (ga.out.below g);have cO:=hid (fX.out.below g);have cK:=hid (gs.out.below g);have bj:=hid (HT.out.below g);have ax:=hid (show VecS wl G.heap.size (.slice y t x) ys from i);have al:=hid (bt.out.trans ((g).mono bt.out.size));obtain⟨ji,iT,jj,iW⟩:=bc2 aP.out;obtain⟨jl,iY,jm,i0,jn,i2,jo,i4,jp,iH,jr,iK⟩:=bc6 aQ.out
   obtain⟨jt,iN,jv,iQ,jx,i8,jz,jb,jB,je,jD,jh,gp,ft,gr,fx⟩:=bc8 aR.out;clear lQ lz lR lB h0 mr h4 mt h6 mv h8 my ia mA ic mC ie mD ig mm ih mn ii mo hX mp hZ mq hu gZ hy g3 mg mh mi mj h3 ms h5 mu h7 mx h9 mz ib mB jq iJ js iM ju iP jw i7 jy ja jA jd jC jg hw g0 hA g4;have aX:=hid i.len;have mP:=i.form.2.1;have eX:=i.form.2.2.1;unfold maxLen at eX;clear i U g;by_cases ab:t<f
   ·have mV:(t:Int)<(f:Int):=by omega
    have a2:t≤64:=by omega
    go_wp2_with fail
    with_reducible refine(Rt.int (t:Int) (by omega) (by omega) _).mono ?_
    rintro e w7 ⟨g7,A7,m7,c7,D7,md7,cd7,rfl,o,a⟩;have bk:=hid (zad a aP.out);have bl:=hid (zad a aQ.out);have bm:=hid (zad a aR.out);have gj:=hid (be.out.below a);have gh:=hid (cO.out.below a);have gf:=hid (cK.out.below a);have fY:=hid (bj.out.below a);have fy:=hid (ax.out.below a);have eH:=hid (show RatS w7 g7 (.slice A7 m7 c7) (.slice D7 md7 cd7) ((t:Int):Rat)from o);have kO:=hid (al.out.trans ((a).mono al.out.size));obtain⟨dn,dx,dp,dy⟩:=bc2 bk.out
    obtain⟨dq,dz,dr,dA,dG,dJ,dH,dK,dI,dL,cy,cx⟩:=bc6 bl.out;obtain⟨ds,dB,dt,dC,du,dD,dv,dE,dw,dF,dN,dM,cH,cE,cI,cF⟩:=bc8 bm.out;have aS:=hid (bQ.out.trans (a.mono bQ.out.size));clear a o;go_wp2_with (at_builtin;go_loud (refine zev rfl _ _ rfl rfl (fy.out.alloc _) rfl (zal _ _ _) (eH.out.alloc _) (by rw[←aX.out];omega) (by have:=aS.out.size;simp;omega) ?_;intro A3 n3 c3 w3 cr b8 e4;have aW:=hid cr;have d8:=hid b8;clear cr b8))
    subst e4;exact⟨⟨A3,_,c3,_,rfl,aW.out,ykq aB.out (zu9 _ ⟨by omega,by omega⟩),by have:=aX.out;omega,(aS.out.alloc aS.out.size _).trans d8.out⟩,by have:=aX.out;simp[Nt.lenOf];omega⟩
   ·have e0:f≤t:=by omega
    have mR:¬((t:Int)<(f:Int)):=by omega
    have mQ:f≤x:=by omega
    have ef:=hid (ax.out.cut f e0);have ae:=hid (show ∀q∈ys.take f,mw q≤1 from fun q o=>aB.out q (List.mem_of_mem_take o));generalize ys.take f=zc at *
    go_wp2_with fail
    with_reducible refine(pmay rA2 rc2 bA2 bz2 kA2 kc2 eA2 ec2 gA gc m f nC N _ (by have:=an.out;omega) cn).mono ?_
    rintro e w8 ⟨M,cM,rfl,hm,a⟩;have bk:=hid (zad a aP.out);have bl:=hid (zad a aQ.out);have bm:=hid (zad a aR.out);have gj:=hid (be.out.below a);have gh:=hid (cO.out.below a);have gf:=hid (cK.out.below a);have fY:=hid (bj.out.below a);have I:=hid (show BoolsS w8 wl.heap.size (.slice M f cM) (zsn f N)from hm);have kO:=hid (al.out.trans ((a).mono al.out.size));obtain⟨dn,dx,dp,dy⟩:=bc2 bk.out;obtain⟨dq,dz,dr,dA,dG,dJ,dH,dK,dI,dL,cy,cx⟩:=bc6 bl.out
    obtain⟨ds,dB,dt,dC,du,dD,dv,dE,dw,dF,dN,dM,cH,cE,cI,cF⟩:=bc8 bm.out;have eb:=hid a;have mX:F≤9223372036854775807:=by have:=ed.out;omega
    clear hm a;generalize zsn f N=bs0 at *
    go_wp2
    go_loopw [19] (fun kv V=>∃(k:Nat) (D:List Bool),kv=.int .i64 k∧k≤f∧k≤F∧BoolsS V wl.heap.size (.slice M f cM) D∧Below wl.heap.size wl V)
     (fun kv _=>f-(intOf kv).toNat)
    case atStart=>exact⟨0,bs0,rfl,Nat.zero_le _,Nat.zero_le _,I.out,eb.out⟩
    case round =>
     obtain⟨k,D,rfl,hk,e3,i,g⟩:=hrel;rename World=>V
     have bR:=hid g;have di:=hid (zad g aP.out);have dj:=hid (zad g aQ.out);have dk:=hid (zad g aR.out);have gl:=hid (be.out.below g);have cQ:=hid (bj.out.below g);have fz:=hid (ef.out.below g);have I:=hid (show BoolsS V wl.heap.size (.slice M f cM) D from i);have de:=hid (al.out.trans ((g).mono al.out.size));obtain⟨kt,kD,kx,kG⟩:=bc2 di.out;obtain⟨kB,kJ,kC,kK,g5,gL,g9,gy,hh,gB,hj,gD⟩:=bc6 dj.out;obtain⟨kn,kL,ko,kM,kp,kN,kP,kq,kQ,kr,kR,ks,ht,gP,g1,gR⟩:=bc8 dk.out
     clear ji iT jj iW jl iY jm i0 jn i2 jo i4 jp iH jr iK jt iN jv iQ jx i8 jz jb jB je jD jh gp ft gr fx dn dx dp dy dq dz dr dA dG dJ dH dK dI dL cy cx ds dB dt dC du dD dv dE dw dF dN dM cH cE cI cF;have eu:=hid i.len;have e1:(0:Int)≤(k:Int):=Int.natCast_nonneg _;clear i g;go_upto_region 16 with fail
     go_cut[91] (fun c wz=>c=.bool (decide (k<f∧k<F))∧wz=V)
     case first =>
      by_cases h1:(k:Int)<(f:Int)
      ·by_cases h2:(k:Int)<(F:Int)
       ·go_wp2;go_meet;exact⟨by simp;omega,rfl⟩
       ·go_wp2;go_meet;exact⟨by simp;omega,rfl⟩
      ·go_wp2;go_meet;exact⟨by simp;omega,rfl⟩
     case rest =>
      obtain⟨rfl,rfl⟩:=hcut;rename World=>V
      by_cases ab:k<f∧k<F
      ·have hd:=decide_eq_true ab;have mT:(k:Int)<(f:Int):=by omega
       have mU:(k:Int)<(F:Int):=by omega
       obtain⟨gm,rfl,cg,_⟩:=I.out.has (by omega);obtain⟨b1,b7⟩:∃b1,D[k]? = some b1:=⟨D[k]'(by rw[←eu.out];exact ab.1),List.getElem?_eq_getElem _⟩
       obtain⟨b2,ap⟩:∃b2,zs[k]? = some b2:=⟨zs[k]'(by rw[←ey.out];exact ab.2),List.getElem?_eq_getElem _⟩
       have y0:=I.out.at_ b7;have yf:=I.out.fro k;obtain⟨bz,oz,rfl,z0⟩:=gl.out k b2 ap;have bE:=hid cg;clear b7 ap cg;rw[hd];clear ab hd;cases b1
       ·go_wp2;go_roundw
        case rel=>exact⟨k+1,_,by go_num,by omega,by omega,I.out.store k _,bR.out.setCell (p:=⟨gm,k,none⟩) bE.out _⟩
        case measure=>simp[intOf];omega
       ·go_wp2;go_roundw
        case rel=>exact⟨k+1,_,by go_num,by omega,by omega,I.out.store k _,bR.out.setCell (p:=⟨gm,k,none⟩) bE.out _⟩
        case measure=>simp[intOf];omega
      ·have hd:=decide_eq_false ab;rw[hd];clear ab hd e3 hk e1;go_wp2_with fail
       with_reducible refine(Tb.point cQ.out).mono ?_
       rintro e w9 ⟨P,cP,rfl,i,a⟩;have c9:=hid (zad a di.out);have da:=hid (zad a dj.out);have db:=hid (zad a dk.out);have bd:=hid (cQ.out.below a);have aL:=hid (fz.out.below a);have gt:=hid (I.out.below a);have eC:=hid (show VecS w9 V.heap.size (.slice P f cP) (zh1 f d.1.1 (za5 (zt0 (zc3 rows) (zg8 rows)) (zwh (zg8 rows)) d.1.1))from i);have dg:=hid (de.out.trans ((a).mono de.out.size));obtain⟨jZ,jP,j0,jQ⟩:=bc2 c9.out;obtain⟨j1,jR,j2,jS,g6,gM,ha,gz,hi,gC,ho,gE⟩:=bc6 da.out
       obtain⟨j3,jT,j4,jU,jK,jV,jL,jW,jM,jX,jN,jY,gY,gQ,g2,gS⟩:=bc8 db.out;clear i a;have bL:=hid (yju bd.out);have bB:=hid (yjb (A:=zt0 (zc3 rows) (zg8 rows)) (b:=zwh (zg8 rows)) (c:=zc) (N:=f) (show zc.length=f from aL.out.len.symm) (bd.out.basis).len);go_wp2_with fail
       with_reducible refine(Vc.dot_ok y f x zc P f cP (zh1 f d.1.1 (za5 (zt0 (zc3 rows) (zg8 rows)) (zwh (zg8 rows)) d.1.1)) G.heap.size V.heap.size _ aL.out eC.out (by rw[zl8];exact aL.out.len.symm) (by omega) (fun q o=>Nat.le_trans (ae.out q o) (by decide)) (fun q o=>Nat.le_trans (bL.out q o) (Nat.le_trans ad.out (by decide)))).mono ?_
       rintro e a8 ⟨g10,A10,m10,c10,D10,md10,cd10,rfl,E,a⟩;have dc:=hid (zad a c9.out);have c5:=hid (zad a da.out);have c8:=hid (zad a db.out);have fZ:=hid (bd.out.below a);have gb:=hid (aL.out.below a);have gu:=hid (gt.out.below a);have eD:=hid (show RatS a8 g10 (.slice A10 m10 c10) (.slice D10 md10 cd10) (worth m f (zt0 (zc3 rows) (zg8 rows)) (zwh (zg8 rows)) zc d.1.1)from(by have h:=E;rw[bB.out]at h;exact h));have dh:=hid (dg.out.trans ((a).mono dg.out.size));obtain⟨kb,jE,ke,jF⟩:=bc2 dc.out
       obtain⟨kf,jG,kg,jH,fl,fg,kS,fj,fh,fk,fO,fS⟩:=bc6 c5.out;obtain⟨kh,j5,ki,j6,kj,j7,kk,j8,kl,j9,km,ka,fP,fT,fu,fA⟩:=bc8 c8.out;clear E a;have Q:=zae a8 (.cells #[.bool g10,.slice A10 m10 c10,.slice D10 md10 cd10] 66);have ij:=hid (zad Q dc.out);have ik:=hid (zad Q c5.out);have im:=hid (zad Q c8.out);have f0:=hid (fZ.out.below Q);have bf:=hid (gb.out.below Q);have cN:=hid (gu.out.below Q);have fC:=hid (eD.out.below Q);have jO:=hid (dh.out.trans ((Q).mono dh.out.size))
       obtain⟨iR,ip,iU,ir⟩:=bc2 ij.out;obtain⟨iX,iv,iZ,iw,i1,ix,i3,iy,i5,iz,iI,iA⟩:=bc6 ik.out;obtain⟨iL,iB,iO,iC,i6,iD,i9,iE,jc,iF,jf,iG,fQ,fU,fv,fB⟩:=bc8 im.out;have bW:=hid (zal a8 #[.bool g10,.slice A10 m10 c10,.slice D10 md10 cd10] 66);obtain⟨fn,fq,fo,fr,fp,fs⟩:=bc3 bW.out;have aV:=hid (show wrap64 (B.tmod 30)=(K:Int)by rw[HK.out];unfold wrap64;omega);have aA:=ez.out;rw[an.out]at aA;have a4:=yj7 (may:=D) aA.basis (show zc.length=f from bf.out.len.symm) aA.feas K
       obtain⟨s,hs⟩:∃s,pivs (zBX f (zt0 (zc3 rows) (zg8 rows)) (zwh (zg8 rows)) zc D) K d.1.1=s:=⟨_,rfl⟩
       rw[hs]at a4;have J:=hid a4;have eL:=hid hs;clear aA a4 hs;go_wp2_with fail
       rw[aV.out];with_reducible refine(prun f0.out y x G.heap.size zc bf.out ae.out M f cM wl.heap.size D cN.out ay.out (K:Int) (by omega)).mono ?_
       rintro e aG ⟨ev,rfl,hev,hT,a,hk⟩;rw[show((K:Int)).toNat=K from Int.toNat_natCast K,eL.out]at hev hT ⊢;have ei:=hid hev;have bP:=hid hT;have ee:=hid (hk.vec (by decide) (by decide) bf.out);have et:=hid (cN.out.kept hk (by decide));have bX:=hid (hk.blk bW.out (by decide) (by decide));have eE:=hid (hk.ratS (by decide) fC.out);have bv:=hid (jO.out.trans (a.mono (Nat.le_trans bp.out.size eQ.out)));have eP:=hid (Bel.mk (Below.refl aG.heap.size aG));obtain⟨iS,iq,iV,iu,gV,gF⟩:=bc3 bX.out
       clear hev hT a hk;clear kt kD kx kG kB kJ kC kK g5 gL g9 gy hh gB hj gD kn kL ko kM kp kN kP kq kQ kr kR ks ht gP g1 gR jZ jP j0 jQ j1 jR j2 jS g6 gM ha gz hi gC ho gE j3 jT j4 jU jK jV jL jW jM jX jN jY gY gQ g2 gS kb jE ke jF kf jG kg jH fl fg kS fj fh fk fO fS kh j5 ki j6 kj j7 kk j8 kl j9 km ka fP fT fu fA iR ip iU ir iX iv iZ iw i1 ix i3 iy i5 iz iI iA iL iB iO iC i6 iD i9 iE jc iF jf iG fQ fU fv fB fn fq fo fr fp fs;go_wp2_with fail
       with_reducible refine(Tb.point bP.out).mono ?_
       rintro e e6 ⟨P,cP,rfl,i,a⟩;have df:=hid (zad a bX.out);have bn:=hid (bP.out.below a);have aM:=hid (ee.out.below a);have gv:=hid (et.out.below a);have fD:=hid (eE.out.below a);have fJ:=hid (eP.out.below a);have eB:=hid (show VecS e6 aG.heap.size (.slice P f cP) (zh1 f s.cols (za5 (zt0 (zc3 rows) (zg8 rows)) (zwh (zg8 rows)) s.cols))from i);have dd:=hid (bv.out.trans ((a).mono bv.out.size));obtain⟨ku,kE,ky,kH,gW,gG⟩:=bc3 df.out;clear i a;have bM:=hid (yju bn.out)
       have bC:=hid (yjb (A:=zt0 (zc3 rows) (zg8 rows)) (b:=zwh (zg8 rows)) (c:=zc) (N:=f) (show zc.length=f from aM.out.len.symm) (bn.out.basis).len);go_wp2_with fail
       with_reducible refine(Vc.dot_ok y f x zc P f cP (zh1 f s.cols (za5 (zt0 (zc3 rows) (zg8 rows)) (zwh (zg8 rows)) s.cols)) G.heap.size aG.heap.size _ aM.out eB.out (by rw[zl8];exact aM.out.len.symm) (by omega) (fun q o=>Nat.le_trans (ae.out q o) (by decide)) (fun q o=>Nat.le_trans (bM.out q o) (Nat.le_trans ad.out (by decide)))).mono ?_
       rintro e a9 ⟨g13,A13,m13,c13,D13,md13,cd13,rfl,E,a⟩;have dm:=hid (zad a df.out);have f1:=hid (bn.out.below a);have gd:=hid (aM.out.below a);have gw:=hid (gv.out.below a);have fE:=hid (fD.out.below a);have fK:=hid (fJ.out.below a);have eF:=hid (show RatS a9 g13 (.slice A13 m13 c13) (.slice D13 md13 cd13) (worth m f (zt0 (zc3 rows) (zg8 rows)) (zwh (zg8 rows)) zc s.cols)from(by have h:=E;rw[bC.out]at h;exact h));have dl:=hid (dd.out.trans ((a).mono dd.out.size))
       obtain⟨kw,kF,kz,kI,gX,gH⟩:=bc3 dm.out;clear E a;have T:=zae a9 (.cells #[.bool g13,.slice A13 m13 c13,.slice D13 md13 cd13] 66);have dO:=hid (zad T dm.out);have cS:=hid (f1.out.below T);have bg:=hid (gd.out.below T);have fV:=hid (gw.out.below T);have fF:=hid (fE.out.below T);have fL:=hid (fK.out.below T);have fH:=hid (eF.out.below T);have c0:=hid (dl.out.trans ((T).mono dl.out.size));obtain⟨kT,gN,kU,gO,kV,gI⟩:=bc3 dO.out
       have bY:=hid (zal a9 #[.bool g13,.slice A13 m13 c13,.slice D13 md13 cd13] 66);obtain⟨gT,gJ,gU,gK,g8,gx⟩:=bc3 bY.out;clear iS iq iV iu gV gF ku kE ky kH gW gG kw kF kz kI gX gH;have eK:=hid J.out.n;have a2:¬(s.n:Int)<0:=by omega
       have cl:¬(K:Int)<(s.n:Int):=by have:=eK.out;omega
       have eY:decide ((s.n:Int)<0)=false:=decide_eq_false a2;have eZ:decide (wrap64 (B.tmod 30)<(s.n:Int))=false:=by rw[aV.out];exact decide_eq_false cl
       clear a2 cl;have el:=hid (show((za5 (zt0 (zc3 rows) (zg8 rows)) (zwh (zg8 rows)) s.cols).any fun q=>decide (q<0))=false from zNy fun k hk=>J.out.feas k (by rw[←(J.out.basis.vals_ok _).2];exact hk));have ew:=hid (show 4*(mw (worth m f (zt0 (zc3 rows) (zg8 rows)) (zwh (zg8 rows)) zc s.cols)+mw (worth m f (zt0 (zc3 rows) (zg8 rows)) (zwh (zg8 rows)) zc d.1.1))+8≤LIM by
        have h1:=zDI (fun q o=>Nat.le_trans (ae.out q o) (by decide)) (fun q o=>Nat.le_trans (bM.out q o) (Nat.le_trans ad.out (by decide))) (by rw[←(bg.out).len];omega);have h2:=zDI (fun q o=>Nat.le_trans (ae.out q o) (by decide)) (fun q o=>Nat.le_trans (bL.out q o) (Nat.le_trans ad.out (by decide))) (by rw[←(bg.out).len];omega);rw[bC.out]at h1;rw[bB.out]at h2;rw[zaP];omega)
       have eg:=hid (show zlX (worth m f (zt0 (zc3 rows) (zg8 rows)) (zwh (zg8 rows)) zc s.cols) (worth m f (zt0 (zc3 rows) (zg8 rows)) (zwh (zg8 rows)) zc d.1.1)≤0 from yj5 J.out.less);go_wp2_with fail
       with_reducible refine((Tb.feasible cS.out).mono (fun e w' h=>show e=.returned (.bool true)∧Below _ _ w' from⟨h.1.trans (by rw[el.out,Bool.not_false]),h.2⟩)).mono ?_
       rintro e mZ ⟨rfl,a⟩;have cU:=hid (zad a dO.out);have cV:=hid (zad a bY.out);have f2:=hid (cS.out.below a);have ge:=hid (bg.out.below a);have ff:=hid (fV.out.below a);have fG:=hid (fF.out.below a);have fM:=hid (fL.out.below a);have fI:=hid (fH.out.below a);have c2:=hid (c0.out.trans ((a).mono c0.out.size));obtain⟨hL,hE,hM,hG,hV,hU⟩:=bc3 cU.out;obtain⟨hO,hQ,hP,hR,hJ,hS⟩:=bc3 cV.out;clear a;go_wp2_with fail
       with_reducible refine(Rt.cmpr g13 A13 m13 c13 D13 md13 cd13 (worth m f (zt0 (zc3 rows) (zg8 rows)) (zwh (zg8 rows)) zc s.cols) g10 A10 m10 c10 D10 md10 cd10 (worth m f (zt0 (zc3 rows) (zg8 rows)) (zwh (zg8 rows)) zc d.1.1) _ fI.out fG.out ew.out).mono ?_
       rintro e aH ⟨rfl,a⟩;have hC:=hid (zad a cU.out);have hD:=hid (zad a cV.out);have cT:=hid (f2.out.below a);have cB:=hid (ge.out.below a);have fW:=hid (ff.out.below a);have fN:=hid (fM.out.below a);have cW:=hid (c2.out.trans ((a).mono c2.out.size));obtain⟨m6,nb,m8,nc,m2,ng⟩:=bc3 hC.out;obtain⟨m9,nd,na,ne,m5,nf⟩:=bc3 hD.out;clear a;generalize zlX (worth m f (zt0 (zc3 rows) (zg8 rows)) (zwh (zg8 rows)) zc s.cols) (worth m f (zt0 (zc3 rows) (zg8 rows)) (zwh (zg8 rows)) zc d.1.1)=cm at *
       clear kT gN kU gO kV gI gT gJ gU gK g8 gx hL hE hM hG hV hU hO hQ hP hR hJ hS;have a0:=eg.out;have cd:¬0<cm:=by omega
       have eW:decide (0<cm)=false:=decide_eq_false cd;go_wp2_with fail
       clear eY eZ a0 cd eW;with_reducible refine(Tb.prices cT.out y x zc G.heap.size cB.out ae.out ay.out).mono ?_
       rintro e ba ⟨A6,n6,c6,rfl,i,a⟩;have aN:=hid (cT.out.below a);have bh:=hid (cB.out.below a);have av:=hid (fW.out.below a);have aK:=hid (fN.out.below a);have ao:=hid (show VecS ba aH.heap.size (.slice A6 n6 c6) (zaC f (zt0 (zc3 rows) (zg8 rows)) s.cols zc)from i);have aj:=hid (cW.out.trans ((a).mono cW.out.size));clear i a;rcases ei.out with ⟨u,rfl⟩ | ⟨u,fb,rfl,cf⟩
       ·have HE:=hid u;clear u;cases hat:s.at_ with
        | none =>
         have am:=hid (J.out.stop HE.out hat);have v:zbh none = -1:=rfl;rw[v];clear hat;go_wp2_with fail
         with_reducible refine(Pr.enter A6 n6 c6 (zaC f (zt0 (zc3 rows) (zg8 rows)) s.cols zc) aH.heap.size M f cM D wl.heap.size _ ao.out av.out).mono ?_
         rintro e bb ⟨rfl,a⟩;have aO:=hid (aN.out.below a);have cD:=hid (bh.out.below a);have bc:=hid (av.out.below a);have cG:=hid (aK.out.below a);have bi:=hid (ao.out.below a);have ak:=hid (aj.out.trans ((a).mono aj.out.size));clear a;rw[am.out,v];go_wp2;go_ret
         exact⟨rfl,ak.out⟩
        | some j =>
         obtain⟨ch,au,cj⟩:=J.out.bad j HE.out hat;have am:=hid au;have er:=hid cj;have bF:=hid ch;have v:zbh (some j)=(j:Int):=rfl;have e5:zbh none = -1:=rfl;have e2:(0:Int)≤(j:Int):=Int.natCast_nonneg _;have mS:decide ((j:Int)<0)=false:=decide_eq_false (by omega);rw[v];clear hat ch au cj;go_wp2_with fail
         with_reducible refine(Tb.column aN.out j bF.out ay.out).mono ?_
         rintro e bb ⟨A3,n3,c3,rfl,i,a⟩;have aO:=hid (aN.out.below a);have cD:=hid (bh.out.below a);have bc:=hid (av.out.below a);have cG:=hid (aK.out.below a);have bi:=hid (ao.out.below a);have aW:=hid (show VecS bb ba.heap.size (.slice A3 n3 c3) (zav (zt0 (zc3 rows) (zg8 rows)) s.cols j)from i);have ak:=hid (aj.out.trans ((a).mono aj.out.size));obtain rfl:m=n3:=by rw[i.len,(J.out.basis.column_ok j).2]
         clear i a;have bS:=hid (yjE aO.out bF.out);have eJ:=hid (show 16*sB m 1 1+8≤LIM by rw[zaP];have:=ad.out;omega);go_wp2_with fail
         with_reducible refine(Pr.enter A6 n6 c6 (zaC f (zt0 (zc3 rows) (zg8 rows)) s.cols zc) aH.heap.size M f cM D wl.heap.size _ bi.out bc.out).mono ?_
         rintro e e7 ⟨rfl,a⟩;have f3:=hid (aO.out.below a);have gi:=hid (aW.out.below a);have c4:=hid (ak.out.trans ((a).mono ak.out.size));clear a;rw[am.out,v];go_wp2_with fail
         with_reducible refine(Tb.leave f3.out (sB m 1 1) eJ.out A3 c3 (zav (zt0 (zc3 rows) (zg8 rows)) s.cols j) ba.heap.size gi.out bS.out.1 bS.out.2).mono ?_
         rintro e m0 ⟨rfl,a⟩;have fe:=hid (c4.out.trans ((a).mono c4.out.size));clear a;rw[er.out,e5];go_wp2;go_ret
         exact⟨rfl,fe.out⟩
       ·obtain⟨cq,j,au⟩:=J.out.err u;have am:=hid au;have ek:=hid (zad aK.out.b cf);have mN:((s.n:Int) == wrap64 (B.tmod 30))=true:=by rw[aV.out,cq];simp
        have e2:(0:Int)≤(j:Int):=Int.natCast_nonneg _;have v:zbh (some j)=(j:Int):=rfl;clear u cf cq au;go_wp2_with fail
        refine(z6e fb _ (zac ek.out 2)).mono ?_;rintro e bb ⟨rfl,rfl⟩;go_wp2_with fail
        with_reducible refine(Pr.enter A6 n6 c6 (zaC f (zt0 (zc3 rows) (zg8 rows)) s.cols zc) aH.heap.size M f cM D wl.heap.size _ ao.out av.out).mono ?_
        rintro e e7 ⟨rfl,a⟩;have aO:=hid (aN.out.below a);have cD:=hid (bh.out.below a);have bc:=hid (av.out.below a);have cG:=hid (aK.out.below a);have bi:=hid (ao.out.below a);have ak:=hid (aj.out.trans ((a).mono aj.out.size));clear a;rw[am.out,v];go_wp2;go_ret
        exact⟨rfl,ak.out⟩
