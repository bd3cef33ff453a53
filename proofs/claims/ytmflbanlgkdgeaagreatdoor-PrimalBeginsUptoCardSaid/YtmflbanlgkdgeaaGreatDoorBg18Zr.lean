/- Contracts and lemmas: Bg18. Conditions: as each says. -/
import Derived.Test.YtmflbanlgkdgeaaGreatDoorAw18aZr
import Derived.Test.YtmflbanlgkdgeaaGreatDoorSumZr
set_option linter.all false
set_option maxHeartbeats 20000000
set_option maxRecDepth 100000
namespace Go.Proofs.YtmflbanlgkdgeaaGreatDoor
open Go.RowKit Am
open Lib (hid)
open Err (z4a)
open Pr (zYk pfirst pmay pback)
attribute [local go_sem ↓] Go.wp_at_zero Go.wp_at_succ
section
variable {P:Program} {md:Region.Mode} {ops:Array Oper} {Q:Exit→Act→World→Prop} {S:World→Prop} {i:Nat} {o:List Nat} {oi:Oper} {fuel:Nat} {listed:Array Bool} {a a':Act} {w:World} {late:List Nat}
theorem skL(e:ops[i]? = some oi:=by rfl)
  (hk:(Region.noSelect ops&&Region.free md ops listed i&&(Region.ready md ops listed).contains i&&zrC md ops late i)=true:=by kernel_rfl)
  (b:∀c a w,Q (.panic c) (a.put oi.dst undef) w→Q (.panic c) a w:=by exact fun _ _ _ h=>h) (f:Region.wanted oi (yielded ops a.tmps)=false:=by rfl) (d:a.put oi.dst undef=a':=by first | (simp only[Act.put,pu1,pu2,pu3,pu4,pu5,pu6];rfl) | rfl) (hS:S w)
  (h:tk o (zcp P md ops Q S late.contains fuel (listed.setIfInBounds i true) a' w)):tk (i::o) (zcp P md ops Q S late.contains (fuel+1) listed a w) :=
 fun _ _=>by subst d;exact zqI e hk b (.inr ⟨f,rfl⟩) hS (h _ rfl)
end
theorem yqa{r u:List Rat}{N:Nat}(h:r.length=N):(r++u).take N=r∧(r++u).drop N=u:=by subst h;simp
theorem ynJ{N m b k:Nat}(h:N+m=b)(hk:k<m):(zsn b N)[N+k]? = some false:=by
 rw[←h,zUB];unfold zKc;rw[List.getElem?_append_right (by rw[List.length_replicate];omega),List.length_replicate,List.getElem?_replicate,if_pos (by omega)]
theorem yo8{N m b k:Nat}(h:N+m=b)(hk:k<N):(zsn b N)[k]? = some true:=by
 rw[←h,zUB];unfold zKc;rw[List.getElem?_append_left (by rw[List.length_replicate];exact hk),List.getElem?_replicate,if_pos hk]
theorem ysV{g:Int}(h:g = -1):(g != 1)=true∧(g != -1)=false:=by subst h;exact⟨rfl,rfl⟩
theorem ysW{g:Int}(h:g=1):(g != 1)=false:=by subst h;rfl
namespace Lw
theorem ynL(S:Nat)(hS:8*S+8≤LIM)(A:OA)(n c:Nat)(xs:List Rat)(H:Nat)(B:OA)(b c' d:Nat)(w:World)(f:VecS w H (.slice A n c) xs)(g:VecS w d (.slice B b c') xs)(zx:∀q∈xs,mw q≤S) :
  Calls Tryz.prog 17 #[.slice A n c,.slice B b c'] w fun e w'=>e=.returned (.bool true)∧Below w.heap.size w w':=by
 refine(Vc.same S hS A n c xs H B b c' xs d w f g zx zx).mono ?_;rintro e w' ⟨rfl,hb⟩;exact⟨by rw[decide_eq_true rfl],hb⟩
theorem ynK(S:Nat)(hS:8*S+8≤LIM)(A:OA)(n c:Nat)(xs:List Rat)(B:OA)(b c' d:Nat)(w:World)(j:ykR w A xs)(f:n=xs.length)(g:n≤9223372036854775807)(k:VecS w d (.slice B b c') xs)(zx:∀q∈xs,mw q≤S) :
  Calls Tryz.prog 17 #[.slice A n c,.slice B b c'] w fun e w'=>e=.returned (.bool true)∧Below w.heap.size w w':=by
 refine(Vc.sameA S hS A n c xs B b c' xs d w j f g k zx zx).mono ?_;rintro e w' ⟨rfl,hb⟩;exact⟨by rw[decide_eq_true rfl],hb⟩
theorem begins18(A:OA)(nA cA:Nat)(L:OA)(nL cL:Nat)(cs:List (Int × Int))(ls:List LineV)(w:World)(hf:zcs w A cs)(eY:zex w L ls)(v:nA=cs.length)(hm:nL=ls.length)(c:nA≤cA)(bx:nL≤cL)(hc:cA≤9223372036854775807)(eU:cL≤9223372036854775807)(hg:w.cell? ⟨0,0,none⟩=some z4a) :
  Calls Tryz.prog 3 #[.agg #[.slice A nA cA,.slice L nL cL]] w fun e w'=>e=.returned (.bool true)∧Below w.heap.size w w':=by
 have jN:=hid v;have jK:=hid hm;have ju:=hid c;have jv:=hid bx;have jw:=hid hc;have jx:=hid eU;have jG:=hid hg;clear v hm c bx hc eU hg;obtain⟨W,hW⟩:∃W,(w.alloc (.cells #[.slice A nA cA,.slice L nL cL] 25))=W:=⟨_,rfl⟩
 have eO:=hid (show W.heap[w.heap.size]? = some (.cells #[.slice A nA cA,.slice L nL cL] 25 (0,0))by rw[←hW];exact zam (by simp));have BB:=hid (show Below w.heap.size w W by rw[←hW];exact zae w _);have HF:=hid (show zcs W A cs by rw[←hW];exact(hf).alloc _);have HL:=hid (show zex W L ls by rw[←hW];exact(eY).alloc _);obtain⟨qr,qx,qs,qk⟩:=bc2 eO.out;have cK:W.cell? ⟨0,0,none⟩=some z4a:=by rw[←hW];exact cell_al jG.out
 have sf:=zaa cK;clear hf eY;go_enter Tryz.func3,Tryz.ntmps3;go_wp2_with fail
 clear hW;with_reducible refine(z8t _ cK).mono ?_
 rintro e w1 ⟨rfl,c⟩;have jd:=hid (zad c eO.out);have pp:=hid (HF.out.below c);have pq:=hid (HL.out.below c);have jc:=hid (BB.out.trans ((c).mono BB.out.size));obtain⟨qp,qv,qq,qw⟩:=bc2 jd.out;have je:=zab c cK;have ks:=zaa je;clear c;go_wp2_with fail
 with_reducible refine(zLD A nA cA L nL cL cs ls _ pp.out pq.out jN.out jK.out ju.out jv.out jw.out jx.out).mono ?_
 rintro e w2 ⟨C,nC,cC,R,m,cR,l,cost,rows,rfl,hv,hl,_,_,hgd,c⟩;have jb:=hid (zad c jd.out);have HC:=hid (show VecS w2 0 (.slice C nC cC) cost from(hv.base (Nat.zero_le _)));have HR:=hid (show RowsS w2 0 (.slice R m cR) rows from(hl.toS.base (Nat.zero_le _)));have jf:=hid (jc.out.trans ((c).mono jc.out.size));obtain⟨qt,ql,qu,qo⟩:=bc2 jb.out;have y:=hid hgd;clear hv hl hgd c;have kb:=zgO rows m;have eZ:=y.out.hr;have sp:=y.out.hc;obtain⟨N,hN⟩:∃N,nC+cnt rows m=N:=⟨_,rfl⟩
 obtain⟨f,eT⟩:∃f,N+m=f:=⟨_,rfl⟩
 have HN:=hid hN;have n:=hid eT;have a3:m≤64:=by omega
 have a4:f≤64:=by omega
 have eE:=hid (show cost.length=nC from(HC.out).len.symm);have eG:=hid (show rows.length=m from(HR.out).len.symm);have jT:=hid (show Rows nC rows from fun p hp=>⟨(y.out.rw_ p hp).1,fun q F=>Nat.le_trans ((y.out.rw_ p hp).2.1 q F) (by decide),Nat.le_trans (y.out.rw_ p hp).2.2 (by decide)⟩);have am:=hid (zVA y.out eE.out eG.out hN);have al:=hid (zVz y.out eE.out eG.out hN);have jA:=hid (zWc m eZ);have jW:=hid (zVF m eZ);have H8:=hid (show 8*1+8≤LIM by rw[zaP];decide);go_wp2_with fail
 with_reducible refine(Pb.standardN 1 (Nat.le_refl _) C nC cC R m cR cost rows N HN.out _ HC.out HR.out (by omega) (by omega) jT.out y.out.kd y.out.sc (fun p hp=>(y.out.rw_ p hp).2)).mono ?_
 rintro e E ⟨rA,rc,lA,bA,bc_,kA,kc,eA,ec,rfl,hst,c⟩;have jg:=hid (zad c jb.out);have jZ:=hid (show StdP E rA rc lA bA bc_ kA kc eA ec m N 1 (zc3 rows) (zg8 rows) (zjD cost rows) (zca nC rows m)from hst);have ji:=hid (jf.out.trans ((c).mono jf.out.size));obtain⟨qP,qy,qQ,qz⟩:=bc2 jg.out;clear hst c;clear hN eT kb;have cY:=zae E (.cells #[.slice rA m rc,.int .i64 (N:Int),.slice bA m bc_,.slice kA N kc,.int .i64 (nC:Int),.slice eA m ec] 34);have jh:=hid (zad cY jg.out);have f0:=hid (jZ.out.below cY)
 have jl:=hid (ji.out.trans ((cY).mono ji.out.size));obtain⟨qI,qB,qJ,qC⟩:=bc2 jh.out;have KS:=hid (zal E #[.slice rA m rc,.int .i64 (N:Int),.slice bA m bc_,.slice kA N kc,.int .i64 (nC:Int),.slice eA m ec] 34);obtain⟨qN,qG,qO,qH,rb,qV,re,qY,rf,qZ,rv,zip⟩:=bc6 KS.out;go_wp2_with fail
 with_reducible refine(zYk rA rc lA bA bc_ kA kc eA ec m N f 1 nC (zc3 rows) (zg8 rows) (zjD cost rows) (zca nC rows m) _ f0.out a4 n.out (zsk _ _ _) H8.out).mono ?_
 rintro e t ⟨rA2,rc2,lA2,bA2,bz2,kA2,kc2,eA2,ec2,gA,gc,rfl,hst,hz,c⟩;have jj:=hid (zad c jh.out);have jk:=hid (zad c KS.out);have pr:=hid (f0.out.below c);have jY:=hid (show StdP t rA2 rc2 lA2 bA2 bz2 kA2 kc2 eA2 ec2 m f 1 (zt0 (zc3 rows) (zg8 rows)) (zwh (zg8 rows)) (zKb m (zjD cost rows)) (zca nC rows m)from hst);have jI:=hid (show IntsZ t 0 (.slice gA m gc) ((zg8 rows).map sgI)from hz);have jm:=hid (jl.out.trans ((c).mono jl.out.size));obtain⟨qL,qE,qM,qF⟩:=bc2 jj.out
 obtain⟨q9,qT,ra,qU,rd,qX,rp,q3,rr,q4,rJ,rB⟩:=bc6 jk.out;clear hst hz c;have aC:=zae t (.cells #[.slice rA2 m rc2,.int .i64 (f:Int),.slice bA2 m bz2,.slice kA2 f kc2,.int .i64 (nC:Int),.slice eA2 m ec2,.slice gA m gc,.int .i64 (N:Int)] 44);have qK:=hid (zad aC jj.out);have jo:=hid (zad aC jk.out);have mP:=hid (pr.out.below aC);have qj:=hid (jY.out.below aC);have lq:=hid (jI.out.below aC);have jp:=hid (jm.out.trans ((aC).mono jm.out.size));obtain⟨q7,qW,q8,qS⟩:=bc2 qK.out
 obtain⟨rt,rg,ru,rh,rF,ro,rG,rq,rH,rs,rR,rI⟩:=bc6 jo.out;have KT:=hid (zal t #[.slice rA2 m rc2,.int .i64 (f:Int),.slice bA2 m bz2,.slice kA2 f kc2,.int .i64 (nC:Int),.slice eA2 m ec2,.slice gA m gc,.int .i64 (N:Int)] 44);obtain⟨rx,ri,ry,rj,rz,rk,rK,rC,rL,rD,rM,rE,lv,lj,lw,lh⟩:=bc8 KT.out;clear qr qx qs qk qp qv qq qw je ks qt ql qu qo qP qy qQ qz qI qB qJ qC qN qG qO qH rb qV re qY rf qZ rv zip qL qE qM qF q9 qT ra qU rd qX rp q3 rr q4 rJ rB;go_wp2_with fail
 refine zaS (S:=fun w'=>w'.cell? ⟨E.heap.size,0,none⟩=some (.slice rA m rc)∧w'.cell? ⟨E.heap.size,1,none⟩=some (.int .i64 (N:Int))∧w'.cell? ⟨E.heap.size,2,none⟩=some (.slice bA m bc_)∧w'.cell? ⟨E.heap.size,3,none⟩=some (.slice kA N kc)∧w'.cell? ⟨E.heap.size,4,none⟩=some (.int .i64 (nC:Int))∧w'.cell? ⟨E.heap.size,5,none⟩=some (.slice eA m ec)) [] (h:=fun hHeld=>?_);refine zaw [0,1,3,4] ?_;repeat refine tkL (hS:=hHeld) (h:=?_)
 refine zao ?_;refine zaB 2 (h:=fun K g=>?_);go_simp
 (go_at_call 9;(with_reducible refine(Mt.rows N m rc rA _).mono ?_);rintro e w5 ⟨rfl,c⟩;have jn:=hid (zad c jo.out);have jr:=hid (zad c KT.out);have mQ:=hid (mP.out.drew.below c);have lm:=hid (qj.out.drew.below c);have lx:=hid (lq.out.drew.below c);have js:=hid (jp.out.trans ((It.bdrew0' c).mono jp.out.size));obtain⟨rm,q5,rn,q6,o0,r9,oN,sb,oO,rV,pY,pT⟩:=bc6 jn.out;obtain⟨oP,rX,oR,rZ,oT,r2,oV,r4,oX,r6,oZ,r8,p5,pW,qa,pX⟩:=bc8 jr.out;clear c)
 (try go_wp2_with fail)
 refine g.out _ _ kp fun hHeld=>?_
 clear g K;try simp only[Act.put,pu1,pu2,pu3,pu4,pu5,pu6]
 refine zaB 5 (h:=fun K g=>?_);go_simp
 (go_at_call 10;(with_reducible refine(Mt.cols N m rc rA _).mono ?_);rintro e w6 ⟨rfl,c⟩;have jq:=hid (zad c jn.out);have il:=hid (zad c jr.out);have mR:=hid (mQ.out.below c);have g9:=hid (lm.out.below c);have mE:=hid (lx.out.below c);have ir:=hid (js.out.trans ((c).mono js.out.size));obtain⟨rN,rO,rP,rQ,rS,sa,rT,se,rU,rW,qb,p6⟩:=bc6 jq.out;obtain⟨oQ,rY,oS,r1,oU,r3,oW,r5,oY,r7,pl,o2,qi,qf,qh,qe⟩:=bc8 il.out;clear c)
 (try go_wp2_with fail)
 refine g.out _ _ kp fun hHeld=>?_
 clear g K;try simp only[Act.put,pu1,pu2,pu3,pu4,pu5,pu6]
 refine zaw [6,7] ?_;repeat refine tkL (hS:=hHeld) (h:=?_)
 refine zao ?_;refine zaM (h:=?_);clear q7 qW q8 qS rt rg ru rh rF ro rG rq rH rs rR rI rx ri ry rj rz rk rK rC rL rD rM rE lv lj lw lh rm q5 rn q6 o0 r9 oN sb oO rV pY pT oP rX oR rZ oT r2 oV r4 oX r6 oZ r8 p5 pW qa pX;have jy:=hid (show Basis m f (zt0 (zc3 rows) (zg8 rows)) (zKa N m)by rw[←n.out];exact zSU am.out);go_wp2_with fail
 with_reducible refine(pfirst rA2 rc2 bA2 bz2 kA2 kc2 eA2 ec2 gA gc m f nC N lA2 1 (zt0 (zc3 rows) (zg8 rows)) (zwh (zg8 rows)) (zKb m (zjD cost rows)) (zca nC rows m) _ g9.out n.out jy.out jA.out).mono ?_
 rintro e w7 ⟨wn,q,Cz,cz,tA,tc,rfl,hT,hCz,hbn,c⟩;have im:=hid (zad c jq.out);have io:=hid (zad c il.out);have mS:=hid (mR.out.below c);have lu:=hid (g9.out.below c);have lr:=hid (mE.out.below c);have HT:=hid (show zhi wn w7 wn.heap.size q rA2 rc2 lA2 bA2 bz2 kA2 kc2 eA2 ec2 m f 1 nC (zt0 (zc3 rows) (zg8 rows)) (zwh (zg8 rows)) (zKb m (zjD cost rows)) (zca nC rows m) tA tc (zKa N m)from hT);have jD:=hid (show VecS w7 w6.heap.size (.slice Cz f cz) (zJG N m)from hCz)
 have iE:=hid (ir.out.trans ((c).mono ir.out.size));obtain⟨pb,o4,pe,o5,pV,nW,os,nZ,ot,n2,ou,nQ⟩:=bc6 im.out;obtain⟨pf,o6,ph,o7,pi,o8,pj,o9,pk,o1,po,o3,mW,mg,mX,mi⟩:=bc8 io.out;clear hT hCz hbn c;have kk:((f:Int) != (N:Int)+(m:Int))=false:=by have:=n.out;simp;omega
 have sx:(N:Int)+(m:Int)≤64:=by have:=n.out;omega
 have sw:(0:Int)≤(N:Int)+(m:Int):=by omega
 have kl:((N:Int) != (N:Int))=false:=by simp
 have km:((m:Int) != (m:Int))=false:=by simp
 have kn:((nC:Int) != (nC:Int))=false:=by simp
 clear rN rO rP rQ rS sa rT se rU rW qb p6 oQ rY oS r1 oU r3 oW r5 oY r7 pl o2 qi qf qh qe;go_wp2_with fail
 with_reducible refine(Mt.cols f m rc2 rA2 _).mono ?_
 rintro e w8 ⟨rfl,c⟩;have iW:=hid (zad c im.out);have iX:=hid (zad c io.out);have mr:=hid (mS.out.below c);have lt:=hid (lu.out.below c);have lp:=hid (lr.out.below c);have ln:=hid (HT.out.below c);have nc:=hid (jD.out.below c);have iV:=hid (iE.out.trans ((c).mono iE.out.size));obtain⟨pK,pO,pL,pP,pU,ld,mj,mb,ml,mc,mm,me⟩:=bc6 iW.out;obtain⟨pM,pQ,pN,pS,pZ,p7,p3,p8,p4,p9,lf,le,mn,mf,mh,ma⟩:=bc8 iX.out;clear c;go_wp2_with fail
 with_reducible refine(pmay rA2 rc2 bA2 bz2 kA2 kc2 eA2 ec2 gA gc m f nC N _ (by have:=n.out;omega) a4).mono ?_
 rintro e w9 ⟨M,cM,rfl,hm,c⟩;have iL:=hid (zad c iW.out);have iM:=hid (zad c iX.out);have ms:=hid (mr.out.below c);have mT:=hid (lt.out.below c);have nf:=hid (lp.out.below c);have f1:=hid (ln.out.below c);have nd:=hid (nc.out.below c);have iF:=hid (iV.out.trans ((c).mono iV.out.size));obtain⟨pB,pG,pC,pH,nT,nG,nX,nu,n0,nw,n3,ny⟩:=bc6 iL.out;obtain⟨pE,pI,pF,pJ,n6,nE,n9,nk,oc,nn,og,ns,ok,nJ,oo,nN⟩:=bc8 iM.out;clear hm c
 clear pb o4 pe o5 pV nW os nZ ot n2 ou nQ pf o6 ph o7 pi o8 pj o9 pk o1 po o3 mW mg mX mi pK pO pL pP pU ld mj mb ml mc mm me pM pQ pN pS pZ p7 p3 p8 p4 p9 lf le mn mf mh ma;go_wp2_with fail
 with_reducible refine(Tb.point f1.out).mono ?_
 rintro e e9 ⟨P,cP,rfl,hv,c⟩;have iy:=hid (zad c iL.out);have iz:=hid (zad c iM.out);have mt:=hid (ms.out.below c);have c7:=hid (mT.out.below c);have g8:=hid (nf.out.below c);have li:=hid (f1.out.below c);have ne:=hid (nd.out.below c);have jS:=hid (show VecS e9 w9.heap.size (.slice P f cP) (zh1 f (zKa N m) (za5 (zt0 (zc3 rows) (zg8 rows)) (zwh (zg8 rows)) (zKa N m)))from hv);have iG:=hid (iF.out.trans ((c).mono iF.out.size));obtain⟨pw,ps,px,pt,nV,nH,nY,nv,n1,nx,n4,nz⟩:=bc6 iy.out
 obtain⟨py,pu,pz,pv,n7,nF,oa,nl,od,np,oh,nt,ol,nK,op,nO⟩:=bc8 iz.out;clear hv c;have jR:=hid (fun q F=>Nat.le_trans (yju li.out q F) (Nat.le_trans jW.out (by decide:_≤4000000)));go_wp2_with fail
 with_reducible refine(pback rA2 rc2 bA2 bz2 kA2 kc2 eA2 ec2 gA gc m f nC N ((zg8 rows).map sgI) 0 bA2 bz2 0 (zwh (zg8 rows)) 1 _ g8.out (zVI (zg8 rows)) c7.out.B H8.out (Nat.le_refl 1) c7.out.zb a3).mono ?_
 rintro e bJ ⟨Y2,nY2,cY2,rfl,hv,c⟩;have d3:=hid (zad c iy.out);have d2:=hid (zad c iz.out);have aR:=hid (mt.out.below c);have aw:=hid (c7.out.below c);have b5:=hid (g8.out.below c);have gQ:=hid (ne.out.below c);have b7:=hid (jS.out.below c);have HY:=hid (show VecS bJ e9.heap.size (.slice Y2 nY2 cY2) (bkL ((zg8 rows).map sgI) (zwh (zg8 rows)) m)from hv);have cH:=hid (iG.out.trans ((c).mono iG.out.size));obtain⟨iH,iA,iI,iB,h6,h3,fw,h7,fx,fJ,gP,gw⟩:=bc6 d3.out
 obtain⟨iJ,iC,iK,iD,fX,fT,iY,fV,fU,fW,fY,fZ,gK,gx,gL,gy⟩:=bc8 d2.out;obtain rfl:m=nY2:=by rw[hv.len,zSJ,zUh,al.out]
 clear hv c kk kl km kn;clear pB pG pC pH nT nG nX nu n0 nw n3 ny pE pI pF pJ n6 nE n9 nk oc nn og ns ok nJ oo nN pw ps px pt nV nH nY nv n1 nx n4 nz py pu pz pv n7 nF oa nl od np oh nt ol nK op nO;go_wp2
 go_loopw [13] (fun i wr=>∃k:Nat,i=.int .i64 k∧k≤m∧Below bJ.heap.size bJ wr)
  (fun i _=>m-(intOf i).toNat)
 case atStart=>exact⟨0,rfl,Nat.zero_le _,Below.refl _ _⟩
 case round =>
  obtain⟨k,rfl,hk,d⟩:=hrel;by_cases s:k<m
  ·as_aux_lemma =>
    have cS:=hid (zTW (el (zg8 rows) k));have aq:k<(zg8 rows).length:=by rw[al.out];exact s
    have bB:k<(zwh (zg8 rows)).length:=by rw[zUh];exact aq
    obtain⟨bg,rfl,_,_⟩:=(b5.out).has (by have:=n.out;omega);obtain⟨G,rfl,_,_⟩:=(aw.out.B).has (by have:=n.out;omega);obtain⟨b0,rfl,_,_⟩:=(aR.out.B).has (by have:=n.out;omega);obtain⟨by_,rfl,_,_⟩:=(HY.out).has (by have:=n.out;omega);obtain⟨z,rfl,_,_⟩:=(b7.out).has (by have:=n.out;omega);have eW:((zg8 rows).map sgI)[k]? = some (sgI (el (zg8 rows) k)):=by rw[List.getElem?_map,zaH aq];rfl
    have l0:=(b5.out.below d).at_ eW;obtain⟨pg,pA,pm,pc,pD,pn,pd,p0,p1,p2,pR⟩:=(aw.out.B.below d).at_ (zaH (xs:=zwh (zg8 rows)) (j:=k) bB);obtain⟨qg,qA,qm,qc,qD,qn,qd,q0,q1,q2,qR⟩:=(aR.out.B.below d).at_ (zaH (xs:=zg8 rows) (j:=k) aq);obtain⟨vg,X,vm,Z,Y,vn,vd,v0,v1,r,vR⟩:=(HY.out.below d).at_ (zaH (xs:=bkL ((zg8 rows).map sgI) (zwh (zg8 rows)) m) (j:=k) (by rw[zSJ];exact bB))
    obtain⟨O,H,T,sc,I,V,J,s0,s1,s2,sR⟩:=(b7.out.below d).at_ (zaH (xs:=zh1 f (zKa N m) (za5 (zt0 (zc3 rows) (zg8 rows)) (zwh (zg8 rows)) (zKa N m))) (j:=(N+k)) (by rw[zl8];have:=n.out;omega));rw[yop al.out s]at vR;have ar:=yor am.out al.out s;rw[n.out]at ar;rw[ar]at sR;have a2:(zc3 rows)[k]? = some ((zc3 rows).getD k []):=zaO (by rw[am.out.len];exact s);have ap:=yoq (b:=zg8 rows) a2;rw[am.out.len]at ap;have cO:=hid (am.out.row k s);have eL:=hid (aR.out.zA _ (List.mem_of_getElem? a2))
    have bu:=hid (aw.out.zA _ (List.mem_of_getElem? ap));have cN:=hid (aw.out.rl _ (List.mem_of_getElem? ap));have jO:=hid (show decide ((el (zwh (zg8 rows)) k).num.sign<0)=false from decide_eq_false (by have:=zrO (ynv aq);omega));have jP:=hid (show decide ((el (zwh (zg8 rows)) k).num<0)=false from decide_eq_false fun h=>ynv aq (zeh.1 h));have eM:=hid (aw.out.zb _ (List.mem_of_getElem? (zaH bB)));have eN:=hid (aR.out.zb _ (List.mem_of_getElem? (zaH aq)))
    generalize (zc3 rows).getD k []=r0 at a2 ap cO eL bu cN;generalize hgv:sgI (el (zg8 rows) k)=gv at cS l0 ap bu cN;clear eW hgv;have jt:=hid a2;have jz:=hid ap;have aZ:=hid (zad d d3.out);have a0:=hid (zad d d2.out);have ca:=hid (aR.out.below d);have bk:=hid (aw.out.below d);have b6:=hid (b5.out.below d);have aO:=hid (gQ.out.below d);have aQ:=hid (b7.out.below d);have bU:=hid (HY.out.below d);have HW:=hid (show Bel bJ wr from Bel.mk d)
    have jU:=hid (show RatS wr pg (.slice pA pm pc) (.slice pD pn pd) (el (zwh (zg8 rows)) k)from pR);have jV:=hid (show RatS wr qg (.slice qA qm qc) (.slice qD qn qd) (el (zg8 rows) k)from qR);have cQ:=hid (show RatS wr vg (.slice X vm Z) (.slice Y vn vd) (el (zg8 rows) k)from vR);have bs:=hid (show RatS wr O (.slice H T sc) (.slice I V J) (el (zwh (zg8 rows)) k)from sR);have ax:=hid (cH.out.trans ((d).mono cH.out.size));obtain⟨cx,cn,cy,co,bP,cm,bK,cl,bL,bQ,cb,bZ⟩:=bc6 aZ.out
    obtain⟨cB,cp,cD,cq,cE,cr,cF,ct,cG,cu,cw,cv,cc,b1,cd,b4⟩:=bc8 a0.out;have dY:wr.cell? ⟨bg,k,none⟩=some (.int .i64 gv):=l0;have kq:=zaa dY;have dZ:wr.cell? ⟨G,k*3,none⟩=some (.bool pg):=p0;have kG:=zaa dZ;have d0:wr.cell? ⟨G,k*3+1,none⟩=some (.slice pA pm pc):=p1;have kI:=zaa d0;have d1:wr.cell? ⟨G,k*3+2,none⟩=some (.slice pD pn pd):=p2;have kK:=zaa d1;have dS:wr.cell? ⟨b0,k*3,none⟩=some (.bool qg):=q0;have kM:=zaa dS;have dT:wr.cell? ⟨b0,k*3+1,none⟩=some (.slice qA qm qc):=q1;have kO:=zaa dT
    have dU:wr.cell? ⟨b0,k*3+2,none⟩=some (.slice qD qn qd):=q2;have kQ:=zaa dU;have dV:wr.cell? ⟨by_,k*3,none⟩=some (.bool vg):=v0;have kU:=zaa dV;have dW:wr.cell? ⟨by_,k*3+1,none⟩=some (.slice X vm Z):=v1;have kY:=zaa dW;have dX:wr.cell? ⟨by_,k*3+2,none⟩=some (.slice Y vn vd):=r;have k2:=zaa dX;have dN:wr.cell? ⟨z,(N+k)*3,none⟩=some (.bool O):=s0;have kt:=zaa dN;have db:wr.cell? ⟨z,(N+k)*3+1,none⟩=some (.slice H T sc):=s1;have kx:=zaa db
    have de:wr.cell? ⟨z,(N+k)*3+2,none⟩=some (.slice I V J):=s2;have kC:=zaa de;have kg:(0:Int)≤(k:Int):=Int.natCast_nonneg _;have kh:(k:Int)<(m:Int):=by omega
    clear d a2 ap ar aq bB l0 p0 p1 p2 pR q0 q1 q2 qR v0 v1 r vR s0 s1 s2 sR;clear iH iA iI iB h6 h3 fw h7 fx fJ gP gw iJ iC iK iD fX fT iY fV fU fW fY fZ gK gx gL gy;go_wp2_with fail
    with_reducible refine(Mt.row f m rc2 rA2 lA2 (zt0 (zc3 rows) (zg8 rows)) 0 k (scale ((gv:Int):Rat) r0++zdL m k) _ bk.out.rows jz.out cN.out a4 a3).mono ?_
    rintro e v1 ⟨A3,c3,rfl,hv,c⟩;have ad:=hid (zad c aZ.out);have ak:=hid (zad c a0.out);have aS:=hid (ca.out.below c);have bo:=hid (bk.out.below c);have bp:=hid (b6.out.below c);have aP:=hid (aO.out.below c);have aU:=hid (aQ.out.below c);have bd:=hid (bU.out.below c);have mH:=hid (HW.out.below c);have ng:=hid (jU.out.below c);have mL:=hid (jV.out.below c);have mO:=hid (cQ.out.below c);have mN:=hid (bs.out.below c)
    have j6:=hid (show VecS v1 wr.heap.size (.slice A3 f c3) (scale ((gv:Int):Rat) r0++zdL m k)from hv);have ae:=hid (ax.out.trans ((c).mono ax.out.size));obtain⟨dQ,dO,dR,dP,dE,dq,dG,dt,dI,dv,dB,dx⟩:=bc6 ad.out;obtain⟨ev,ep,ew,eq,ex,er,ey,es,ez,et,eB,eu,em,ej,en,ek⟩:=bc8 ak.out;have aL:=zab c dY;have fe:=zaa aL;have aM:=zab c dZ;have fh:=zaa aM;have aN:=zab c d0;have fk:=zaa aN;have aF:=zab c d1;have fn:=zaa aF;have aH:=zab c dS;have fq:=zaa aH;have aJ:=zab c dT;have ft:=zaa aJ;have cZ:=zab c dU
    have kR:=zaa cZ;have di:=zab c dV;have kV:=zaa di;have dk:=zab c dW;have kZ:=zaa dk;have dm:=zab c dX;have k3:=zaa dm;have c9:=zab c dN;have ku:=zaa c9;have dc:=zab c db;have ky:=zaa dc;have df:=zab c de;have kD:=zaa df;clear hv c;go_wp2_with fail
    with_reducible refine(Mt.row N m rc rA lA (zc3 rows) 0 k r0 _ aS.out.rows jt.out cO.out (by have:=n.out;omega) a3).mono ?_
    rintro e r ⟨A4,c4,rfl,hv,c⟩;have ag:=hid (zad c ad.out);have ah:=hid (zad c ak.out);have bh:=hid (aS.out.below c);have br:=hid (bo.out.below c);have bq:=hid (bp.out.below c);have bi:=hid (aP.out.below c);have bj:=hid (aU.out.below c);have be:=hid (bd.out.below c);have dh:=hid (mH.out.below c);have mK:=hid (ng.out.below c);have mM:=hid (mL.out.below c);have b8:=hid (mO.out.below c);have c8:=hid (mN.out.below c);have mV:=hid (j6.out.below c)
    have j7:=hid (show VecS r v1.heap.size (.slice A4 N c4) r0 from hv);have af:=hid (ae.out.trans ((c).mono ae.out.size));obtain⟨d4,d8,d5,d9,dF,dr,dH,du,dJ,dw,dC,dy⟩:=bc6 ag.out;obtain⟨d6,ea,d7,eb,ed,eg,ee,eh,ef,ei,dK,dp,dL,dz,dM,dA⟩:=bc8 ah.out;have aV:=zab c aL;have ff:=zaa aV;have aW:=zab c aM;have fi:=zaa aW;have aX:=zab c aN;have fl:=zaa aX;have aG:=zab c aF;have fo:=zaa aG;have aI:=zab c aH;have fr:=zaa aI;have aK:=zab c aJ;have fu:=zaa aK;have c0:=zab c cZ;have kS:=zaa c0
    have dj:=zab c di;have kW:=zaa dj;have dl:=zab c dk;have k0:=zaa dl;have dn:=zab c dm;have k4:=zaa dn;have da:=zab c c9;have kv:=zaa da;have dd:=zab c dc;have kz:=zaa dd;have dg:=zab c df;have kE:=zaa dg;clear hv c;go_wp2_with fail
    with_reducible refine(Vc.unit m k a3 s _).mono ?_
    rintro e v3 ⟨U,nU,cU,rfl,hv,c⟩;have ay:=hid (zad c ag.out);have aj:=hid (zad c ah.out);have bY:=hid (bh.out.below c);have aT:=hid (br.out.below c);have bX:=hid (bq.out.below c);have bW:=hid (bi.out.below c);have b9:=hid (bj.out.below c);have bV:=hid (be.out.below c);have dD:=hid (dh.out.below c);have mo:=hid (mK.out.below c);have mp:=hid (mM.out.below c);have c2:=hid (b8.out.below c);have c1:=hid (c8.out.below c);have bl:=hid (mV.out.below c);have mq:=hid (j7.out.below c)
    have HU:=hid (show VecS v3 r.heap.size (.slice U nU cU) (zdL m k)from hv);have ai:=hid (af.out.trans ((c).mono af.out.size));obtain⟨iN,iR,iO,iS,hM,ds,hO,hw,hP,hy,hL,hC⟩:=bc6 ay.out;obtain⟨iP,iT,iQ,iU,iZ,i2,i0,i3,i1,i4,hQ,hH,hR,hI,hU,hJ⟩:=bc8 aj.out;have ce:=zab c aV;have fg:=zaa ce;have cg:=zab c aW;have fj:=zaa cg;have ci:=zab c aX;have fm:=zaa ci;have bR:=zab c aG;have fp:=zaa bR;have bS:=zab c aI;have fs:=zaa bS;have bT:=zab c aK;have fv:=zaa bT;have lb:=zab c c0;have kT:=zaa lb
    have mI:=zab c dj;have kX:=zaa mI;have mJ:=zab c dl;have k1:=zaa mJ;have nh:=zab c dn;have k5:=zaa nh;have mY:=zab c da;have kw:=zaa mY;have mZ:=zab c dd;have kB:=zaa mZ;have mD:=zab c dg;have kF:=zaa mD;obtain rfl:m=nU:=by rw[hv.len,zfM]
    clear hv c;obtain⟨b3,rfl,_,_⟩:=bl.out.has (by have:=n.out;omega);have eI:=hid (yqa (u:=zdL m k) (show(scale ((gv:Int):Rat) r0).length=N by rw[zfH,cO.out]));have j8:=hid (show VecS v3 wr.heap.size (.slice (some ⟨b3,0,none⟩) N c3) (scale ((gv:Int):Rat) r0)by have h:=bl.out.cut N (by have:=n.out;omega);rw[eI.out.1]at h;exact h);have j9:=hid (show ykR v3 (some ⟨b3,N*3,none⟩) (zdL m k)by have h:=bl.out.from_ N;rw[eI.out.2]at h;exact h);have sq:=bl.out.form.2.1;have ke:=bl.out.form.2.2.1
    unfold maxLen at ke;have so:N≤c3:=by have:=n.out;omega
    have sk:N≤f:=by have:=n.out;omega
    have sl:(N:Int)≤(f:Int):=by omega
    have sj:(0:Int)≤(N:Int):=Int.natCast_nonneg _
    clear cx cn cy co bP cm bK cl bL bQ cb bZ cB cp cD cq cE cr cF ct cG cu cw cv cc b1 cd b4 dY kq dZ kG d0 kI d1 kK dS kM dT kO dU kQ dV kU dW kY dX k2 dN kt db kx de kC dQ dO dR dP dE dq dG dt dI dv dB dx ev ep ew eq ex er ey es ez et eB eu em ej en ek aL fe aM fh aN fk aF fn aH fq aJ ft cZ kR di kV dk kZ dm k3 c9 ku dc ky df kD d4 d8 d5 d9 dF dr dH du dJ dw dC dy d6 ea d7 eb ed eg ee eh ef ei dK dp dL dz dM dA aV ff aW fi aX fl aG fo aI fr aK fu c0 kS dj kW dl k0 dn k4 da kv dd kz dg kE
    go_wp2_with fail
    have cJ:=hid (show I64 gv by rcases cS.out with e | e<;>rw[e]<;>exact⟨by decide,by decide⟩);have jH:=hid (zu9 gv cJ.out);have eF:=hid (show ∀a b:Nat,a≤1→b≤1→4*(a+b)+8≤LIM from fun a b h1 h2=>by rw[zaP];omega);have ki:(0:Int)≤(N:Int)+(k:Int):=by omega
    have sr:(N:Int)+(k:Int)<(f:Int):=by have:=n.out;omega
    have eK:=hid (show IntKind.i64.wrap ((N:Int)+(k:Int))=((N+k:Nat):Int)by rw[IntKind.wrap_i64];omega);have ss:(0:Int)≤((N+k:Nat):Int):=Int.natCast_nonneg _;have st:((N+k:Nat):Int)<(f:Int):=by omega
    have eJ:=hid (show((N:Int)+(k:Int)).toNat=N+k by omega);have jB:=hid (show ¬c3=N by have:=n.out;omega);have j0:=hid (show f-N=m by have:=n.out;omega)
    dsimp only[List.append]
    refine zaS (S:=fun w'=>w'.cell? ⟨t.heap.size,0,none⟩=some (.slice rA2 m rc2)∧w'.cell? ⟨t.heap.size,1,none⟩=some (.int .i64 (f:Int))∧w'.cell? ⟨t.heap.size,2,none⟩=some (.slice (some ⟨G,0,none⟩) m bz2)∧w'.cell? ⟨t.heap.size,3,none⟩=some (.slice kA2 f kc2)∧w'.cell? ⟨t.heap.size,4,none⟩=some (.int .i64 (nC:Int))∧w'.cell? ⟨t.heap.size,5,none⟩=some (.slice eA2 m ec2)∧w'.cell? ⟨t.heap.size,6,none⟩=some (.slice (some ⟨bg,0,none⟩) m gc)∧w'.cell? ⟨t.heap.size,7,none⟩=some (.int .i64 (N:Int))∧w'.cell? ⟨bg,k,none⟩=some (.int .i64 gv)∧w'.cell? ⟨G,k*3,none⟩=some (.bool pg)∧w'.cell? ⟨G,k*3+1,none⟩=some (.slice pA pm pc)∧w'.cell? ⟨G,k*3+2,none⟩=some (.slice pD pn pd)∧w'.cell? ⟨b0,k*3,none⟩=some (.bool qg)∧w'.cell? ⟨b0,k*3+1,none⟩=some (.slice qA qm qc)∧w'.cell? ⟨b0,k*3+2,none⟩=some (.slice qD qn qd)∧w'.cell? ⟨by_,k*3,none⟩=some (.bool vg)∧w'.cell? ⟨by_,k*3+1,none⟩=some (.slice X vm Z)∧w'.cell? ⟨by_,k*3+2,none⟩=some (.slice Y vn vd)∧w'.cell? ⟨z,(N+k)*3,none⟩=some (.bool O)∧w'.cell? ⟨z,(N+k)*3+1,none⟩=some (.slice H T sc)∧w'.cell? ⟨z,(N+k)*3+2,none⟩=some (.slice I V J)∧w'.cell? ⟨E.heap.size,2,none⟩=some (.slice (some ⟨b0,0,none⟩) m bc_)) [] (h:=fun hHeld=>?_)
    have ko:=cS.out;rcases ko with hg1 | hg1
    all_goals
     first
     | (obtain⟨cX,bx⟩:=ysV hg1;clear hg1;refine zaw [0,1,2,3,4] ?_;(repeat refine tkL (hS:=hHeld) (h:=?_));refine zao ?_;clear cX bx)
     | (have cX:=ysW hg1;clear hg1;refine zaw [0,1,2] ?_;(repeat refine tkL (hS:=hHeld) (h:=?_));refine zao ?_;refine zaw [3,4] ?_;(repeat refine skL (hS:=hHeld) (h:=?_));refine zao ?_;clear cX)
    all_goals as_aux_lemma =>
     refine zaw [5,6,7,8,9,10,12] ?_;repeat refine tkL (hS:=hHeld) (h:=?_)
     refine zao ?_;refine zaB 11 (h:=fun K g=>?_);go_simp
     (go_at_call 19;(with_reducible refine(Rt.int gv cJ.out.1 cJ.out.2 _).mono ?_);rintro e u1 ⟨g5,A5,m5,c5,D5,md5,cd5,rfl,v,c⟩;have az:=hid (zad c aj.out);have eo:=hid (dD.out.drew.below c);have lI:=hid (mo.out.drew.below c);have lM:=hid (mp.out.drew.below c);have f3:=hid (c2.out.drew.below c);have f2:=hid (c1.out.drew.below c);have lF:=hid (mq.out.drew.below c);have mu:=hid (HU.out.drew.below c);have l5:=hid (j8.out.drew.below c);have l6:=hid (j9.out.drew.below c);have jL:=hid (show RatS u1 g5 (.slice A5 m5 c5) (.slice D5 md5 cd5) ((gv:Int):Rat)from v);have aY:=hid (ai.out.trans ((It.bdrew0' c).mono ai.out.size));obtain⟨i5,hE,i6,hG,i7,hu,i8,hx,i9,hA,ja,hD,vO,v9,vX,wi⟩:=bc8 az.out;have cf:=zab c fg;have kr:=zaa cf;have ch:=zab c fj;have kH:=zaa ch;have cj:=zab c fm;have kJ:=zaa cj;have bM:=zab c fp;have kL:=zaa bM;have bN:=zab c fs;have kN:=zaa bN;have bO:=zab c fv;have kP:=zaa bO;have fH:=zab c kT;have t1:=zaa fH;have gE:=zab c kX;have t9:=zaa gE;have gS:=zab c k1;have uh:=zaa gS;have gZ:=zab c k5;have uq:=zaa gZ;have gu:=zab c kw;have sP:=zaa gu;have ga:=zab c kB;have sY:=zaa ga;have gi:=zab c kF;have s9:=zaa gi;have ha:=zab c ds;have ti:=zaa ha;clear v c)
     (try go_wp2_with fail)
     refine g.out _ _ kp fun hHeld=>?_
     clear g K;try simp only[Act.put,pu1,pu2,pu3,pu4,pu5,pu6]
     refine zaB 13 (h:=fun K g=>?_);go_simp
     (go_at_call 18;(with_reducible refine(Vc.scaleS 1 H8.out g5 A5 m5 c5 D5 md5 cd5 ((gv:Int):Rat) A4 N c4 r0 v1.heap.size _ lF.out jL.out (by have:=n.out;omega) eL.out jH.out).mono ?_);rintro e u2 ⟨T5,n5,cT,rfl,hv,c⟩;have bm:=hid (zad c az.out);have mx:=hid (eo.out.below c);have lJ:=hid (lI.out.below c);have lN:=hid (lM.out.below c);have lU:=hid (f3.out.below c);have lQ:=hid (f2.out.below c);have mv:=hid (mu.out.below c);have lG:=hid (l5.out.below c);have l7:=hid (l6.out.below c);have j2:=hid (show VecS u2 u1.heap.size (.slice T5 n5 cT) (scale ((gv:Int):Rat) r0)from hv);have bn:=hid (aY.out.trans ((c).mono aY.out.size));obtain⟨oy,ow,oz,ox,oK,oF,oL,oG,oM,oH,l9,lX,vP,wa,vY,wj⟩:=bc8 bm.out;have h8:=zab c cf;have sI:=zaa h8;have ia:=zab c ch;have tr:=zaa ia;have ib:=zab c cj;have ty:=zaa ib;have ic:=zab c bM;have tG:=zaa ic;have ie:=zab c bN;have tN:=zaa ie;have ih:=zab c bO;have tU:=zaa ih;have ij:=zab c fH;have t2:=zaa ij;have gF:=zab c gE;have ua:=zaa gF;have gT:=zab c gS;have ui:=zaa gT;have g0:=zab c gZ;have ur:=zaa g0;have f4:=zab c gu;have sQ:=zaa f4;have gb:=zab c ga;have sZ:=zaa gb;have gj:=zab c gi;have ta:=zaa gj;have hd:=zab c ha;have tj:=zaa hd;clear hv c)
     (try go_wp2_with fail)
     refine g.out _ _ kp fun hHeld=>?_
     clear g K;try simp only[Act.put,pu1,pu2,pu3,pu4,pu5,pu6]
     refine zaB 14 (h:=fun K g=>?_);go_simp
     (go_at_call 17;(with_reducible refine(ynL 1 H8.out (some ⟨b3,0,none⟩) N c3 (scale ((gv:Int):Rat) r0) wr.heap.size T5 n5 cT u1.heap.size _ lG.out j2.out (fun q F=>bu.out q (List.mem_append_left _ F))).mono ?_);rintro e u3 ⟨rfl,c⟩;have ck:=hid (zad c bm.out);have my:=hid (mx.out.below c);have lK:=hid (lJ.out.below c);have lO:=hid (lN.out.below c);have lV:=hid (lU.out.below c);have lR:=hid (lQ.out.below c);have l4:=hid (mv.out.below c);have lH:=hid (l7.out.below c);have hZ:=hid (bn.out.trans ((c).mono bn.out.size));obtain⟨oA,oD,oB,oE,k8,oI,k6,oJ,k7,k9,lZ,lY,vQ,wb,vZ,wk⟩:=bc8 ck.out;have fR:=zab c h8;have sJ:=zaa fR;have fS:=zab c ia;have ts:=zaa fS;have fL:=zab c ib;have tz:=zaa fL;have fM:=zab c ic;have tH:=zaa fM;have fN:=zab c ie;have tO:=zaa fN;have fO:=zab c ih;have tV:=zaa fO;have fP:=zab c ij;have t3:=zaa fP;have gG:=zab c gF;have ub:=zaa gG;have gU:=zab c gT;have uj:=zaa gU;have g1:=zab c g0;have us:=zaa g1;have f5:=zab c f4;have sS:=zaa f5;have gd:=zab c gb;have s3:=zaa gd;have gl:=zab c gj;have tb:=zaa gl;have he:=zab c hd;have tk:=zaa he;clear c)
     (try go_wp2_with fail)
     refine g.out _ _ kp fun hHeld=>?_
     clear g K;try simp only[Act.put,pu1,pu2,pu3,pu4,pu5,pu6]
     refine zaw [15,16,17,18,19,20] ?_;repeat refine tkL (hS:=hHeld) (h:=?_)
     refine zao ?_;rw[if_neg jB.out,j0.out];refine zaw [21] ?_;repeat refine tkL (hS:=hHeld) (h:=?_)
     refine zao ?_;refine zaB 22 (h:=fun K g=>?_);go_simp
     (go_at_call 17;(with_reducible refine(ynK 1 H8.out (some ⟨b3,N*3,none⟩) _ _ (zdL m k) U m cU r.heap.size _ lH.out (zfM m k).symm (by omega) l4.out (fun q F=>bu.out q (List.mem_append_right _ F))).mono ?_);rintro e u4 ⟨rfl,c⟩;have hV:=hid (zad c ck.out);have pa:=hid (my.out.below c);have gt:=hid (lK.out.below c);have lP:=hid (lO.out.below c);have lW:=hid (lV.out.below c);have lS:=hid (lR.out.below c);obtain⟨wu,wH,wz,wI,uC,xh,uz,xk,uB,uD,vF,vq,vS,wd,v4,wl⟩:=bc8 hV.out;have iu:=zab c fR;have sK:=zaa iu;have iv:=zab c fS;have tt:=zaa iv;have iw:=zab c fL;have tB:=zaa iw;have ix:=zab c fM;have tI:=zaa ix;have ip:=zab c fN;have tP:=zaa ip;have iq:=zab c fO;have tW:=zaa iq;have fQ:=zab c fP;have t4:=zaa fQ;have gH:=zab c gG;have uc:=zaa gH;have gV:=zab c gU;have uk:=zaa gV;have g2:=zab c g1;have ut:=zaa g2;have f6:=zab c f5;have sT:=zaa f6;have ge:=zab c gd;have s4:=zaa ge;have gn:=zab c gl;have td:=zaa gn;have hh:=zab c he;have tl:=zaa hh;clear c)
     (try go_wp2_with fail)
     refine g.out _ _ kp fun hHeld=>?_
     clear g K;try simp only[Act.put,pu1,pu2,pu3,pu4,pu5,pu6]
     refine zaw [23,24,25,26,27,28,29,30,31] ?_;repeat refine tkL (hS:=hHeld) (h:=?_)
     refine zao ?_;refine zaB 32 (h:=fun K g=>?_);go_simp
     (go_at_call 20;(with_reducible refine(Rt.sign pg pA pm pc pD pn pd (el (zwh (zg8 rows)) k) _ gt.out).mono ?_);rintro e u5 ⟨rfl,c⟩;have hX:=hid (zad c hV.out);have mz:=hid (pa.out.below c);have lL:=hid (gt.out.below c);have lC:=hid (lP.out.below c);have lE:=hid (lW.out.below c);have lT:=hid (lS.out.below c);obtain⟨xf,wv,xg,wA,uy,xi,uA,xl,uG,uE,vG,vr,vT,we,v5,wm⟩:=bc8 hX.out;have fy:=zab c iu;have sL:=zaa fy;have fz:=zab c iv;have tu:=zaa fz;have fB:=zab c iw;have tC:=zaa fB;have fD:=zab c ix;have tJ:=zaa fD;have fF:=zab c ip;have tQ:=zaa fF;have fG:=zab c iq;have tX:=zaa fG;have fI:=zab c fQ;have t5:=zaa fI;have gI:=zab c gH;have ud:=zaa gI;have gW:=zab c gV;have ul:=zaa gW;have g3:=zab c g2;have uu:=zaa g3;have f7:=zab c f6;have sU:=zaa f7;have gf:=zab c ge;have s5:=zaa gf;have gp:=zab c gn;have te:=zaa gp;have ho:=zab c hh;have tm:=zaa ho;clear c)
     (try go_wp2_with fail)
     refine g.out _ _ kp fun hHeld=>?_
     clear g K;try simp only[Act.put,pu1,pu2,pu3,pu4,pu5,pu6]
     have su:=jO.out;have sv:=jP.out;refine zaw [33,34,35,36,37,38,39,40,41,42,43,44] ?_;repeat refine tkL (hS:=hHeld) (h:=?_)
     refine zao ?_;refine zaB 45 (h:=fun K g=>?_);go_simp
     (go_at_call 21;(with_reducible refine(Ct.same_yes vg X vm Z Y vn vd (el (zg8 rows) k) qg qA qm qc qD qn qd (el (zg8 rows) k) _ lE.out lC.out (eF.out _ _ eN.out eN.out) rfl).mono ?_);rintro e u6 ⟨rfl,c⟩;have h0:=hid (zad c hX.out);have mA:=hid (mz.out.below c);have lB:=hid (lL.out.below c);have lD:=hid (lT.out.below c);obtain⟨ww,wy,wB,wC,xn,xj,xo,xm,xp,uF,vH,vs,vU,wf,v6,wo⟩:=bc8 h0.out;have h9:=zab c fy;have sM:=zaa h9;have fA:=zab c fz;have tv:=zaa fA;have fC:=zab c fB;have tD:=zaa fC;have fE:=zab c fD;have tK:=zaa fE;have ig:=zab c fF;have tR:=zaa ig;have ii:=zab c fG;have tY:=zaa ii;have ik:=zab c fI;have t6:=zaa ik;have gJ:=zab c gI;have ue:=zaa gJ;have gX:=zab c gW;have um:=zaa gX;have g4:=zab c g3;have uv:=zaa g4;have f8:=zab c f7;have sV:=zaa f8;have gg:=zab c gf;have s6:=zaa gg;have gq:=zab c gp;have tf:=zaa gq;have hs:=zab c ho;have tn:=zaa hs;clear c)
     (try go_wp2_with fail)
     refine g.out _ _ kp fun hHeld=>?_
     clear g K;try simp only[Act.put,pu1,pu2,pu3,pu4,pu5,pu6]
     refine zaw [46,47,48,49,50,51,52] ?_;repeat refine tkL (hS:=hHeld) (h:=?_)
     refine zao ?_
     (try rw[eK.out])
     refine zaw [53] ?_;repeat refine tkL (hS:=hHeld) (h:=?_)
     refine zao ?_
     (try simp only[eJ.out])
     refine zaw [54,55,56,57,58,59,60] ?_;repeat refine tkL (hS:=hHeld) (h:=?_)
     refine zao ?_;refine zaB 61 (h:=fun K g=>?_);go_simp
     (go_at_call 21;(with_reducible refine(Ct.same_yes O H T sc I V J (el (zwh (zg8 rows)) k) pg pA pm pc pD pn pd (el (zwh (zg8 rows)) k) _ lD.out lB.out (eF.out _ _ eM.out eM.out) rfl).mono ?_);rintro e u7 ⟨rfl,c⟩;have fK:=hid (zad c h0.out);have mB:=hid (mA.out.below c);obtain⟨uM,uH,uN,uI,vM,vx,vz,vk,vC,vo,vI,vt,vV,wg,v7,wp⟩:=bc8 fK.out;have gM:=zab c h9;have sN:=zaa gM;have gN:=zab c fA;have tw:=zaa gN;have gO:=zab c fC;have tE:=zaa gO;have gz:=zab c fE;have tL:=zaa gz;have gB:=zab c ig;have tS:=zaa gB;have gC:=zab c ii;have tZ:=zaa gC;have gD:=zab c ik;have t7:=zaa gD;have gR:=zab c gJ;have uf:=zaa gR;have gY:=zab c gX;have uo:=zaa gY;have g7:=zab c g4;have uw:=zaa g7;have f9:=zab c f8;have sW:=zaa f9;have gh:=zab c gg;have s7:=zaa gh;have gr:=zab c gq;have tg:=zaa gr;have ht:=zab c hs;have tp:=zaa ht;clear c)
     (try go_wp2_with fail)
     refine g.out _ _ kp fun hHeld=>?_
     clear g K;try simp only[Act.put,pu1,pu2,pu3,pu4,pu5,pu6]
     refine zaw [62,63,64,65,67,68,69] ?_;repeat refine tkL (hS:=hHeld) (h:=?_)
     refine zao ?_
     (try rw[eK.out])
     refine zaB 66 (h:=fun K g=>?_);go_simp
     (go_at_call 12;(with_reducible refine(pmay rA2 rc2 (some ⟨G,0,none⟩) bz2 kA2 kc2 eA2 ec2 (some ⟨bg,0,none⟩) gc m f nC N _ (by have:=n.out;omega) a4).mono ?_);rintro e u8 ⟨M2,cM2,rfl,hm,c⟩;have l8:=hid (zad c fK.out);have mC:=hid (mB.out.below c);obtain⟨vK,vv,vL,vw,vN,vy,vB,vl,vE,vp,vJ,vu,vW,wh,v8,wq⟩:=bc8 l8.out;have m0:=zab c gM;have sO:=zaa m0;have m1:=zab c gN;have tx:=zaa m1;have m2:=zab c gO;have tF:=zaa m2;have m3:=zab c gz;have tM:=zaa m3;have m4:=zab c gB;have tT:=zaa m4;have m7:=zab c gC;have t0:=zaa m7;have m8:=zab c gD;have t8:=zaa m8;have m9:=zab c gR;have ug:=zaa m9;have na:=zab c gY;have up:=zaa na;have nb:=zab c g7;have ux:=zaa nb;have l1:=zab c f9;have sX:=zaa l1;have l2:=zab c gh;have s8:=zaa l2;have l3:=zab c gr;have th:=zaa l3;have ni:=zab c ht;have tq:=zaa ni;obtain⟨gm,rfl,_,_⟩:=hm.has (by omega);have kj:=hm.at_ (ynJ n.out s);clear hm c)
     (try go_wp2_with fail)
     refine g.out _ _ kp fun hHeld=>?_
     clear g K;try simp only[Act.put,pu1,pu2,pu3,pu4,pu5,pu6]
     refine zaw [70] ?_;repeat refine tkL (hS:=hHeld) (h:=?_)
     refine zao ?_
     (try simp only[eJ.out])
     refine zaB 71 (h:=fun K g=>?_);go_simp
     skip
     (try go_wp2_with fail)
     refine g.out _ _ kp fun hHeld=>?_
     clear g K;try simp only[Act.put,pu1,pu2,pu3,pu4,pu5,pu6]
     refine zaw [72] ?_;repeat refine tkL (hS:=hHeld) (h:=?_)
     refine zao ?_;refine zaM (h:=?_);go_wp2;go_roundw
     case rel=>exact⟨k+1,by go_num,by omega,mC.out.b⟩
     case measure=>simp[intOf];omega
  ·obtain rfl:m=k:=by omega
   have sh:=hid d;have aZ:=hid (zad d d3.out);have a0:=hid (zad d d2.out);have ca:=hid (aR.out.below d);have bk:=hid (aw.out.below d);have b6:=hid (b5.out.below d);have aO:=hid (gQ.out.below d);have aQ:=hid (b7.out.below d);have bU:=hid (HY.out.below d);have ax:=hid (cH.out.trans ((d).mono cH.out.size));obtain⟨cx,cn,cy,co,bP,cm,bK,cl,bL,bQ,cb,bZ⟩:=bc6 aZ.out;obtain⟨cB,cp,cD,cq,cE,cr,cF,ct,cG,cu,cw,cv,cc,b1,cd,b4⟩:=bc8 a0.out
   clear iH iA iI iB h6 h3 fw h7 fx fJ gP gw iJ iC iK iD fX fT iY fV fU fW fY fZ gK gx gL gy;clear d s hk;go_wp2
   go_loopw [21] (fun i x=>∃j:Nat,i=.int .i64 j∧j≤N∧Below wr.heap.size wr x)
    (fun i _=>N-(intOf i).toNat)
   case atStart=>exact⟨0,rfl,Nat.zero_le _,Below.refl _ _⟩
   case round =>
    obtain⟨j,rfl,hj,d⟩:=hrel;rename World=>x
    by_cases s:j<N
    ·as_aux_lemma =>
      have eX:j<f:=by have:=n.out;omega
      obtain⟨z,rfl,_,_⟩:=aQ.out.has (by omega);obtain⟨bf,rfl,_,_⟩:=aO.out.has (by omega);obtain⟨O,H,T,sc,I,V,J,s0,s1,s2,sR⟩:=(aQ.out.below d).at_ (zaH (xs:=zh1 f (zKa N m) (za5 (zt0 (zc3 rows) (zg8 rows)) (zwh (zg8 rows)) (zKa N m))) (j:=j) (by rw[zl8];exact eX));obtain⟨vg,X,vm,Z,Y,vn,vd,v0,v1,r,vR⟩:=(aO.out.below d).at_ (zaH (xs:=zJG N m) (j:=j) (by rw[zSD,n.out];exact eX));have ar:=yos am.out al.out s;rw[n.out]at ar;rw[ar]at sR;rw[zTq s]at vR;have ad:=hid (zad d aZ.out)
      have ak:=hid (zad d a0.out);have aS:=hid (ca.out.below d);have bo:=hid (bk.out.below d);have bp:=hid (b6.out.below d);have aP:=hid (aO.out.below d);have aU:=hid (aQ.out.below d);have bd:=hid (bU.out.below d);have HW:=hid (show Bel wr x from Bel.mk d);have bs:=hid (show RatS x O (.slice H T sc) (.slice I V J) 0 from sR);have cQ:=hid (show RatS x vg (.slice X vm Z) (.slice Y vn vd) 0 from vR);have ae:=hid (ax.out.trans ((d).mono ax.out.size))
      obtain⟨dQ,dO,dR,dP,dE,dq,dG,dt,dI,dv,dB,dx⟩:=bc6 ad.out;obtain⟨ev,ep,ew,eq,ex,er,ey,es,ez,et,eB,eu,em,ej,en,ek⟩:=bc8 ak.out;have aL:x.cell? ⟨z,j*3,none⟩=some (.bool O):=s0;have fe:=zaa aL;have aM:x.cell? ⟨z,j*3+1,none⟩=some (.slice H T sc):=s1;have fh:=zaa aM;have aN:x.cell? ⟨z,j*3+2,none⟩=some (.slice I V J):=s2;have fk:=zaa aN;have aF:x.cell? ⟨bf,j*3,none⟩=some (.bool vg):=v0;have fn:=zaa aF;have aH:x.cell? ⟨bf,j*3+1,none⟩=some (.slice X vm Z):=v1;have fq:=zaa aH
      have aJ:x.cell? ⟨bf,j*3+2,none⟩=some (.slice Y vn vd):=r;have ft:=zaa aJ;have kg:(0:Int)≤(j:Int):=Int.natCast_nonneg _;have kh:(j:Int)<(N:Int):=by omega
      have ki:(j:Int)<(f:Int):=by omega
      have e0:zr 0=true:=by decide
      clear d ar s0 s1 s2 sR v0 v1 r vR;clear cx cn cy co bP cm bK cl bL bQ cb bZ cB cp cD cq cE cr cF ct cG cu cw cv cc b1 cd b4;go_wp2_with fail
      with_reducible refine(Rt.zero O H T sc I V J 0 _ bs.out).mono ?_
      rintro e v1 ⟨rfl,c⟩;have ag:=hid (zad c ad.out);have ah:=hid (zad c ak.out);have bh:=hid (aS.out.below c);have br:=hid (bo.out.below c);have bq:=hid (bp.out.below c);have bi:=hid (aP.out.below c);have bj:=hid (aU.out.below c);have be:=hid (bd.out.below c);have dh:=hid (HW.out.below c);have c8:=hid (bs.out.below c);have b8:=hid (cQ.out.below c);have af:=hid (ae.out.trans ((c).mono ae.out.size));obtain⟨d4,d8,d5,d9,dF,dr,dH,du,dJ,dw,dC,dy⟩:=bc6 ag.out
      obtain⟨d6,ea,d7,eb,ed,eg,ee,eh,ef,ei,dK,dp,dL,dz,dM,dA⟩:=bc8 ah.out;have aV:=zab c aL;have ff:=zaa aV;have aW:=zab c aM;have fi:=zaa aW;have aX:=zab c aN;have fl:=zaa aX;have aG:=zab c aF;have fo:=zaa aG;have aI:=zab c aH;have fr:=zaa aI;have aK:=zab c aJ;have fu:=zaa aK;clear c;rw[e0];go_wp2_with fail
      with_reducible refine(Rt.zero vg X vm Z Y vn vd 0 _ b8.out).mono ?_
      rintro e r ⟨rfl,c⟩;have ay:=hid (zad c ag.out);have aj:=hid (zad c ah.out);have bY:=hid (bh.out.below c);have aT:=hid (br.out.below c);have bX:=hid (bq.out.below c);have bW:=hid (bi.out.below c);have b9:=hid (bj.out.below c);have bV:=hid (be.out.below c);have dD:=hid (dh.out.below c);have c1:=hid (c8.out.below c);have c2:=hid (b8.out.below c);have ai:=hid (af.out.trans ((c).mono af.out.size));obtain⟨iN,iR,iO,iS,hM,ds,hO,hw,hP,hy,hL,hC⟩:=bc6 ay.out
      obtain⟨iP,iT,iQ,iU,iZ,i2,i0,i3,i1,i4,hQ,hH,hR,hI,hU,hJ⟩:=bc8 aj.out;have ce:=zab c aV;have fg:=zaa ce;have cg:=zab c aW;have fj:=zaa cg;have ci:=zab c aX;have fm:=zaa ci;have bR:=zab c aG;have fp:=zaa bR;have bS:=zab c aI;have fs:=zaa bS;have bT:=zab c aK;have fv:=zaa bT;clear c;rw[e0];go_wp2_with fail
      with_reducible refine(pmay rA2 rc2 bA2 bz2 kA2 kc2 eA2 ec2 gA gc m f nC N _ (by have:=n.out;omega) a4).mono ?_
      rintro e v3 ⟨M2,cM2,rfl,hm,c⟩;have az:=hid (zad c ay.out);have cI:=hid (zad c aj.out);have lo:=hid (bY.out.below c);have gs:=hid (aT.out.below c);have ll:=hid (bX.out.below c);have lk:=hid (bW.out.below c);have ly:=hid (b9.out.below c);have lc:=hid (bV.out.below c);have eo:=hid (dD.out.below c);have f2:=hid (c1.out.below c);have f3:=hid (c2.out.below c);have aY:=hid (ai.out.trans ((c).mono ai.out.size));obtain⟨i5,hE,i6,hG,i7,hu,i8,hx,i9,hA,ja,hD⟩:=bc6 az.out
      obtain⟨nR,nB,nS,nD,n8,nj,ob,nm,oe,nr,oj,nI,om,nM,oq,nP⟩:=bc8 cI.out;have cf:=zab c ce;have kr:=zaa cf;have ch:=zab c cg;have kH:=zaa ch;have cj:=zab c ci;have kJ:=zaa cj;have bM:=zab c bR;have kL:=zaa bM;have bN:=zab c bS;have kN:=zaa bN;have bO:=zab c bT;have kP:=zaa bO;obtain⟨gm,rfl,_,_⟩:=hm.has (by omega);have kj:=hm.at_ (yo8 n.out s);clear hm c;go_wp2;go_roundw
      case rel=>exact⟨j+1,by go_num,by omega,eo.out.b⟩
      case measure=>simp[intOf];omega
    ·as_aux_lemma =>
      obtain rfl:N=j:=by omega
      have ad:=hid (zad d aZ.out);have ak:=hid (zad d a0.out);have aS:=hid (ca.out.below d);have bo:=hid (bk.out.below d);have bp:=hid (b6.out.below d);have aP:=hid (aO.out.below d);have aU:=hid (aQ.out.below d);have bd:=hid (bU.out.below d);have ae:=hid (ax.out.trans ((d).mono ax.out.size));obtain⟨dQ,dO,dR,dP,dE,dq,dG,dt,dI,dv,dB,dx⟩:=bc6 ad.out;obtain⟨ev,ep,ew,eq,ex,er,ey,es,ez,et,eB,eu,em,ej,en,ek⟩:=bc8 ak.out;clear d s hj
      clear cx cn cy co bP cm bK cl bL bQ cb bZ cB cp cD cq cE cr cF ct cG cu cw cv cc b1 cd b4;have jC:=hid (yot am.out al.out);have jQ:=hid (show ∀q∈(zh1 f (zKa N m) (za5 (zt0 (zc3 rows) (zg8 rows)) (zwh (zg8 rows)) (zKa N m))),mw q≤4000000 from jR.out);have jF:=hid (show(zJG N m).length=f by rw[zSD,n.out]);go_wp2_with fail
      with_reducible refine(Vc.dot_ok Cz f cz (zJG N m) P f cP (zh1 f (zKa N m) (za5 (zt0 (zc3 rows) (zg8 rows)) (zwh (zg8 rows)) (zKa N m))) w6.heap.size w9.heap.size _ aP.out aU.out (by rw[jF.out,zl8]) (by omega) (fun q F=>Nat.le_trans (zTR N m q F) (by decide)) jQ.out).mono ?_
      rintro e v1 ⟨g5,A5,m5,c5,D5,md5,cd5,rfl,v,c⟩;have ag:=hid (zad c ad.out);have ah:=hid (zad c ak.out);have bh:=hid (aS.out.below c);have br:=hid (bo.out.below c);have bq:=hid (bp.out.below c);have bi:=hid (aP.out.below c);have bj:=hid (aU.out.below c);have be:=hid (bd.out.below c);have HV:=hid (show RatS v1 g5 (.slice A5 m5 c5) (.slice D5 md5 cd5) (zai m (el (zwh (zg8 rows))))from(by have h:=v;have e:=jC.out;rw[n.out]at e;rw[e]at h;exact h))
      have af:=hid (ae.out.trans ((c).mono ae.out.size));obtain⟨d4,d8,d5,d9,dF,dr,dH,du,dJ,dw,dC,dy⟩:=bc6 ag.out;obtain⟨d6,ea,d7,eb,ed,eg,ee,eh,ef,ei,dK,dp,dL,dz,dM,dA⟩:=bc8 ah.out;clear v c;have D:=zae v1 (.cells #[.bool g5,.slice A5 m5 c5,.slice D5 md5 cd5] 66);have ay:=hid (zad D ag.out);have aj:=hid (zad D ah.out);have bY:=hid (bh.out.below D);have aT:=hid (br.out.below D);have bX:=hid (bq.out.below D);have bW:=hid (bi.out.below D);have b9:=hid (bj.out.below D);have bV:=hid (be.out.below D)
      have mF:=hid (HV.out.below D);have ai:=hid (af.out.trans ((D).mono af.out.size));obtain⟨iN,iR,iO,iS,hM,ds,hO,hw,hP,hy,hL,hC⟩:=bc6 ay.out;obtain⟨iP,iT,iQ,iU,iZ,i2,i0,i3,i1,i4,hQ,hH,hR,hI,hU,hJ⟩:=bc8 aj.out;have KV:=hid (zal v1 #[.bool g5,.slice A5 m5 c5,.slice D5 md5 cd5] 66);obtain⟨xA,xD,xB,xE,xF,xC⟩:=bc3 KV.out;go_wp2_with fail
      with_reducible refine(Rt.sum bA2 m bz2 (zwh (zg8 rows)) 0 1 _ aT.out.B a3 aT.out.zb (by rw[zaP];decide)).mono ?_
      rintro e r ⟨g6,A6,m6,c6,D6,md6,cd6,rfl,v,c⟩;have az:=hid (zad c ay.out);have cI:=hid (zad c aj.out);have h4:=hid (zad c KV.out);have lo:=hid (bY.out.below c);have gs:=hid (aT.out.below c);have ll:=hid (bX.out.below c);have lk:=hid (bW.out.below c);have ly:=hid (b9.out.below c);have lc:=hid (bV.out.below c);have la:=hid (mF.out.below c);have j4:=hid (show RatS r g6 (.slice A6 m6 c6) (.slice D6 md6 cd6) (zai m (el (zwh (zg8 rows))))from v);have aY:=hid (ai.out.trans ((c).mono ai.out.size))
      obtain⟨i5,hE,i6,hG,i7,hu,i8,hx,i9,hA,ja,hD⟩:=bc6 az.out;obtain⟨nR,nB,nS,nD,n8,nj,ob,nm,oe,nr,oj,nI,om,nM,oq,nP⟩:=bc8 cI.out;obtain⟨xq,wW,xu,wZ,xx,wT⟩:=bc3 h4.out;clear v c;have ao:=zae r (.cells #[.bool g6,.slice A6 m6 c6,.slice D6 md6 cd6] 66);have bm:=hid (zad ao az.out);have hY:=hid (zad ao cI.out);have h5:=hid (zad ao h4.out);have lz:=hid (gs.out.below ao);have mG:=hid (la.out.below ao);have mU:=hid (j4.out.below ao);have bn:=hid (aY.out.trans ((ao).mono aY.out.size))
      obtain⟨oy,ow,oz,ox,oK,oF,oL,oG,oM,oH,l9,lX⟩:=bc6 bm.out;obtain⟨wD,wJ,wF,wL,ws,wN,xb,wP,xd,wR,vb,uX,vf,uZ,vi,u9⟩:=bc8 hY.out;obtain⟨xr,wX,xv,w0,xy,wU⟩:=bc3 h5.out;have KU:=hid (zal r #[.bool g6,.slice A6 m6 c6,.slice D6 md6 cd6] 66);obtain⟨uR,uU,uS,uV,uT,uW⟩:=bc3 KU.out;have jX:=hid (show mw (zai m (el (zwh (zg8 rows))))≤200 by have h1:=zxI zo5 (el (zwh (zg8 rows))) 1 m (fun i hi=>zrz lz.out.zb (by rw[zUh,al.out];exact hi));omega);go_wp2_with fail
      with_reducible refine(Ct.same_yes g5 A5 m5 c5 D5 md5 cd5 _ g6 A6 m6 c6 D6 md6 cd6 _ _ mG.out mU.out (by have:=jX.out;rw[zaP];omega) rfl).mono ?_
      rintro e v3 ⟨rfl,c⟩;have ck:=hid (zad c bm.out);have ov:=hid (zad c hY.out);have oC:=hid (zad c h5.out);have lg:=hid (zad c KU.out);have hZ:=hid (bn.out.trans ((c).mono bn.out.size));obtain⟨oA,oD,oB,oE,k8,oI,k6,oJ,k7,k9,lZ,lY⟩:=bc6 ck.out;obtain⟨wE,wK,wG,wM,wt,wO,xc,wQ,xe,wS,ve,uY,vh,u0,vj,va⟩:=bc8 ov.out;obtain⟨xt,wY,xw,xa,xz,wV⟩:=bc3 oC.out;obtain⟨uO,uJ,uP,uK,uQ,uL⟩:=bc3 lg.out;clear c;go_wp2;go_ret
      exact⟨rfl,hZ.out⟩
