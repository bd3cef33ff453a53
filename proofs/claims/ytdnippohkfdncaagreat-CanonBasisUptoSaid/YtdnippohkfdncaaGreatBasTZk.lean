/- Contracts and lemmas: BasT Tb1 Tb2. Conditions: as each says. -/
import Derived.Test.YtdnippohkfdncaaGreatIntsZk
import Derived.Test.YtdnippohkfdncaaGreatLuTZk
import Derived.Test.YtdnippohkfdncaaGreatMat6Zk
set_option linter.all false
set_option maxHeartbeats 8000000
set_option maxRecDepth 100000
namespace Go.Proofs.YtdnippohkfdncaaGreat
open Go.RowKit Am
open Lib (hid)
attribute [local go_sem ↓] Go.wp_at_zero Go.wp_at_succ
namespace Bs
theorem solveT(H q n S T:Nat)(C:List (List Rat))(A:OA)(cA:Nat)(v:List Rat)(H':Nat)(w:World)(l:zjE w H q n S C)(f:VecS w H' (.slice A n cA) v)(r:n≤64)(zv:∀x∈v,mw x≤T)(bl:zpS n S T≤LIM) :
  Calls Tryz.prog 131 #[.pointer (some ⟨q,0,none⟩),.slice A n cA] w (zcd w (zlA n C v) true):=by
 obtain⟨cz,cc,lc,K,ql,F,D,eA,ec,le,es,p⟩:=l;have bm:=zoC p.right.base.1 p.right.base.2.1 p.right.base.2.2 p.fac;have HN:=hid r;have HF:=hid bm;have aE:=hid bl;have cG:es.length≤9223372036854775807:=by have:=p.few;omega
 have cN:n≤9223372036854775807:=by omega
 have HP:=hid p;have bR:=hid f;have W:=hid (Below.refl w.heap.size w);obtain⟨k0,_,k1,_,k2,cR⟩:=bc3 p.blk;have bQ:=hid (zo1 p.right (v:=v) f.len.symm);have bc:=hid (fun t (ht:t≤es.length)=>zr1 (t:=t) zo5 p.right (v:=v) (T:=T) f.len.symm (fun i hi=>zrz zv (by rw[←f.len];exact hi)) ht);have bL:=hid (fun t e (R:es[t]? = some e)=>zrn zo5 p.right R);clear p f r bm zv bl;go_enter Tryz.func131,Tryz.ntmps131;go_wp2_with fail
 with_reducible refine(Vc.copy A n cA v H' _ bR.out (by have:=HN.out;omega)).mono ?_
 rintro e w1 ⟨B,c1,rfl,hv1,hb⟩;have HX:=hid (show VecS w1 w.heap.size (.slice B n c1) v from hv1);have co:=hid (W.out.trans ((hb).mono W.out.size));have cp:=zab hb k2;have cT:=zaa cp;clear hv1 hb;have bW:=hid (show VecS w1 w.heap.size (.slice B n c1) (zep n (es.drop es.length) v)by rw[zuL];exact HX.out);go_wp2
 go_loopw [7] (fun i wr=>∃t:Nat,i=.int .i64 ((t:Int)-1)∧t≤es.length∧VecS wr w.heap.size (.slice B n c1) (zep n (es.drop t) v)∧Below w.heap.size w wr)
  (fun i _=>(intOf i+1).toNat)
 case atStart=>exact⟨es.length,rfl,Nat.le_refl _,bW.out,co.out⟩
 case round =>
  obtain⟨t1,rfl,ht,f,l⟩:=hrel;cases t1 with
  | zero =>
   have ar:=hid f;have Y:=hid l;have cQ:=zab l k1;clear f l;rw[show((0:Nat):Int)-1 = -1 from rfl];go_wp2_with fail
   refine(Lu.solveT K ql n (uB n S) (tB n S T) F B c1 (zep n (es.drop 0) v) w.heap.size _ (HP.out.lu.below Y.out) ar.out HN.out HF.out.1.pr HF.out.2 HF.out.1.piv (zrD ar.out.len.symm (bc.out 0 (Nat.zero_le _))) (zC4 aE.out)).mono ?_;rintro e w2 ⟨B2,n2,c2,rfl,hv2,hb2⟩;have bS:=hid hv2;have bJ:=hid hb2;clear hv2 hb2;go_wp2;refine bodyPost_ret (v:=.tuple #[.slice B2 n2 c2,.bool true]) (by simp[results,Tryz.results131,go_sem]) rfl ?_
   exact⟨_,_,_,rfl,by have h:=bS.out.base Y.out.size;rw[List.drop_zero,←zxF HP.out.fac,bQ.out]at h;exact h,Y.out.trans (bJ.out.mono Y.out.size)⟩
  | succ t =>
   have b8:t<es.length:=by omega
   rw[show((t+1:Nat):Int)-1=(t:Int)by omega];obtain⟨⟨k,a⟩,R⟩:∃e,es[t]? = some e:=⟨es[t],List.getElem?_eq_getElem b8⟩
   obtain⟨hk,aj,aL,aO⟩:=bL.out t _ R
   dsimp only at hk aj aL aO
   have aQ:=bc.out (t+1) ht;have az:=zsb (n:=n) R v
   dsimp only at az
   have aP:(zep n (es.drop (t+1)) v).length=n:=f.len.symm;obtain⟨X,hX⟩:∃X,X=zep n (es.drop (t+1)) v:=⟨_,rfl⟩
   rw[←hX]at f aQ az aP;have bN:=hid az;have aJ:=hid aP;have aK:=hid aQ;have au:=hid aO;have bd:=hid aj;have bO:=hid aL;obtain⟨be,rfl,_,_⟩:=HP.out.etas.has (by omega);obtain⟨Ae,s,y0,y1,u⟩:=(HP.out.etas.below l).at_ R
   dsimp only at y0 y1 u
   rw[aj]at y1 u;obtain⟨g,rfl,cD,cE⟩:=u.has (by omega);obtain⟨bI,b1,_,aC,ai⟩:=HP.out.etas.at_ R
   dsimp only at aC ai
   rw[aj]at aC ai;have bp:Value.slice bI n b1=.slice (some ⟨g,0,none⟩) n s:=by have h1:=zab l aC;rw[y1]at h1;injection h1 with h1;exact h1.symm
   rw[bp]at ai;have bU:=hid ai;clear bp ai aC;obtain⟨d,rfl,bk,cF⟩:=f.has (by omega);have HV:=hid (show VecS wr w.heap.size (.slice (some ⟨d,0,none⟩) n c1) X from f);have HW:=hid (show Bel w wr from Bel.mk l);have c6:=zab l k2;have c7:wr.cell? ⟨be,t*2,none⟩=some (.int .i64 (k:Int)):=y0;have c8:wr.cell? ⟨be,t*2+1,none⟩=some (.slice (some ⟨g,0,none⟩) n s):=y1
   have L2:=hid (show ∀j,j<n→4*(mw (el a j)+mw (el X j))+8≤LIM∧4*(mw (zhB k a X j)+mw (el a j*el X j))+8≤LIM from fun j hj=>by have h3:=zC2 aE.out;have h5:=aK.out j hj;have h6:=au.out j hj;have h7:=zdI (el a j) (el X j);have h8:=zl2 zo5 au.out aK.out hk (Nat.le_of_lt hj);omega);have L1:=hid (show 4*(mw (zhB k a X n)+mw (el a k))+8≤LIM by have h3:=zC2 aE.out;have h6:=au.out k hk;have h8:=zl2 zo5 au.out aK.out hk (Nat.le_refl n);omega);clear f l R aj aL aO aQ az aP hX u y0 y1
   have cH:(0:Int)≤(t:Int):=Int.natCast_nonneg _;have cI:(t:Int)<(es.length:Int):=by omega
   have cJ:(0:Int)≤(k:Int):=Int.natCast_nonneg _;have cK:(k:Int)<(n:Int):=by omega
   have b6:d≠wr.heap.size:=by omega
   go_wp2_with fail
   have bj:=zae wr (.cells #[.int .i64 (k:Int),.slice (some ⟨g,0,none⟩) n s] 254);have cs:=hid (HV.out.below bj);have cr:=hid (HW.out.below bj);have KE:=hid (zal wr #[.int .i64 (k:Int),.slice (some ⟨g,0,none⟩) n s] 254);have bT:=hid cs.out;have bK:=hid cr.out.b;have KE:=hid (zal wr #[.int .i64 (k:Int),.slice (some ⟨g,0,none⟩) n s] 254);go_wp2
   go_loopw [39] (fun i aR=>∃j:Nat,i=.int .i64 j∧j≤n∧VecS aR w.heap.size (.slice (some ⟨d,0,none⟩) n c1) (zeJ k a X j)∧aR.heap[wr.heap.size]? = some (.cells #[.int .i64 (k:Int),.slice (some ⟨g,0,none⟩) n s] 254 (0,0))∧Below w.heap.size w aR)
    (fun i _=>n-(intOf i).toNat)
   case atStart=>exact⟨0,rfl,Nat.zero_le _,by rw[zsa];exact bT.out,KE.out,bK.out⟩
   case round =>
    rename World=>wz
    obtain⟨j,rfl,hj,f,U,l⟩:=hrel;have u:=bU.out.below l;have V:(zeJ k a X j)[k]? = some (zhB k a X j):=zuI (by rw[aJ.out];exact hk);have e0:=zac U 0;have e1:=zac U 1;simp only[List.getElem?_toArray,List.getElem?_cons_zero,List.getElem?_cons_succ]at e0 e1;by_cases bn:j<n
    ·have aM:=zaH (xs:=a) (j:=j) (by have:=bd.out;omega);have cL:(0:Int)≤(j:Int):=Int.natCast_nonneg _;have cM:(j:Int)<(n:Int):=by omega
     by_cases ay:j=k
     ·obtain rfl:k=j:=ay.symm;have ar:=hid f;have aG:=hid U;have Y:=hid l;clear f U l V aM u;go_wp2;go_roundw
      case rel=>exact⟨k+1,by go_num,by omega,by rw[←zr9];exact ar.out,aG.out,Y.out⟩
      case measure=>simp[intOf];omega
     ·have bq:(zeJ k a X j)[j]? = some (el X j):=zuH ay (by rw[aJ.out];exact bn);obtain⟨gj,Aj,mj,cj,Dj,aA,av,p0,p1,p2,bh⟩:=f.at_ bq;obtain⟨gk,y,mk,L,E,M,I,r0,r1,r2,Q⟩:=f.at_ V;obtain⟨gv,Av,P,cv,G,O,J,s0,s1,s2,ah⟩:=u.at_ aM;have ac:=hid (zuJ (k:=k) (w:=a) (z:=X) ay);have aH:=hid (L2.out j bn);have cO:((j:Int) == (k:Int))=false:=by simp;omega
      generalize zhB k a X j=pk at V Q ac aH;have HV:=hid (show VecS wz w.heap.size (.slice (some ⟨d,0,none⟩) n c1) (zeJ k a X j)from f);have bP:=hid (show RatS wz gj (.slice Aj mj cj) (.slice Dj aA av) (el X j)from bh);have aq:=hid (show RatS wz gk (.slice y mk L) (.slice E M I) pk from Q);have ab:=hid (show RatS wz gv (.slice Av P cv) (.slice G O J) (el a j)from ah);have HW:=hid (show Bel w wz from Bel.mk l);have an:=hid (W.out.trans ((l).mono W.out.size))
      have a0:wz.cell? ⟨wr.heap.size,0,none⟩=some (.int .i64 (k:Int)):=e0;have aS:=zaa a0;have a1:wz.cell? ⟨wr.heap.size,1,none⟩=some (.slice (some ⟨g,0,none⟩) n s):=e1;have aT:=zaa a1;have a3:wz.cell? ⟨d,j*3,none⟩=some (.bool gj):=p0;have aU:=zaa a3;have a4:wz.cell? ⟨d,j*3+1,none⟩=some (.slice Aj mj cj):=p1;have aV:=zaa a4;have a5:wz.cell? ⟨d,j*3+2,none⟩=some (.slice Dj aA av):=p2;have aW:=zaa a5;have a6:wz.cell? ⟨d,k*3,none⟩=some (.bool gk):=r0;have aX:=zaa a6
      have a7:wz.cell? ⟨d,k*3+1,none⟩=some (.slice y mk L):=r1;have aY:=zaa a7;have a8:wz.cell? ⟨d,k*3+2,none⟩=some (.slice E M I):=r2;have aZ:=zaa a8;have ci:wz.cell? ⟨g,j*3,none⟩=some (.bool gv):=s0;have cg:=zaa ci;have cl:wz.cell? ⟨g,j*3+1,none⟩=some (.slice Av P cv):=s1;have ch:=zaa cl;have ct:wz.cell? ⟨g,j*3+2,none⟩=some (.slice G O J):=s2;have cf:=zaa ct;have aG:=hid U;clear f U l bq V aM u bh Q ah e0 e1 p0 p1 p2 r0 r1 r2 s0 s1 s2 ay;go_wp2_with fail
      refine za2 (S:=fun w'=>w'.cell? ⟨wr.heap.size,0,none⟩=some (.int .i64 (k:Int))∧w'.cell? ⟨wr.heap.size,1,none⟩=some (.slice (some ⟨g,0,none⟩) n s)∧w'.cell? ⟨d,j*3,none⟩=some (.bool gj)∧w'.cell? ⟨d,j*3+1,none⟩=some (.slice Aj mj cj)∧w'.cell? ⟨d,j*3+2,none⟩=some (.slice Dj aA av)∧w'.cell? ⟨d,k*3,none⟩=some (.bool gk)∧w'.cell? ⟨d,k*3+1,none⟩=some (.slice y mk L)∧w'.cell? ⟨d,k*3+2,none⟩=some (.slice E M I)∧w'.cell? ⟨g,j*3,none⟩=some (.bool gv)∧w'.cell? ⟨g,j*3+1,none⟩=some (.slice Av P cv)∧w'.cell? ⟨g,j*3+2,none⟩=some (.slice G O J)) 20 (h:=fun hHeld=>?_)
      refine zaw [0,1,2,3,4,5,6,7,8,9,10,11,12,13,14,15,16] ?_;repeat refine tkE (hS:=hHeld) (h:=?_)
      refine zao ?_;refine zaN 17 (h:=fun K o=>?_);go_simp
      (go_at_call 21;(with_reducible refine(Rt.mul gv Av P cv G O J (el a j) gj Aj mj cj Dj aA av (el X j) _ ab.out.drew bP.out.drew aH.out.1).mono ?_);rintro e u1 ⟨g1,A1,m1,c1_,D1,md1,cd1,rfl,r,hb⟩;have Z:=hid (HV.out.drew.below hb);have bH:=hid (aq.out.drew.below hb);have cm:=hid (ab.out.drew.below hb);have a2:=hid (HW.out.drew.below hb);have HM:=hid (show RatS u1 g1 (.slice A1 m1 c1_) (.slice D1 md1 cd1) (el a j*el X j)from r);have cn:=hid (an.out.trans ((It.bdrew0' hb).mono an.out.size));have bu:=zab hb aS;have bv:=zab hb aT;have bz:=zab hb aU;have bB:=zab hb aV;have bC:=zab hb aW;have bD:=zab hb aX;have bE:=zab hb aY;have bF:=zab hb aZ;have cu:=zab hb cg;have cw:=zab hb ch;have cq:=zab hb cf;have bX:=hid (zad hb (show wz.drew.heap[wr.heap.size]? = _ from aG.out));clear r hb)
      (try go_wp2_with fail)
      refine o.out _ _ kp fun hHeld=>?_
      clear o K;try simp only[Act.put,pu1,pu2,pu3,pu4,pu5,pu6]
      refine zaN 18 (h:=fun K o=>?_);go_simp
      (go_at_call 132;(with_reducible refine(Rt.sub gk y mk L E M I pk g1 A1 m1 c1_ D1 md1 cd1 (el a j*el X j) _ bH.out HM.out aH.out.2).mono ?_);rintro e u2 ⟨g2,A2,m2,c2,D2,md2,cd2,rfl,r,hb⟩;have aD:=hid (Z.out.below hb);have cx:=hid (a2.out.below hb);have HS:=hid (show RatS u2 g2 (.slice A2 m2 c2) (.slice D2 md2 cd2) (pk-el a j*el X j)from r);have c0:=zab hb bu;have c3:=zab hb bv;have c4:=zab hb bz;have c5:=zab hb bB;have cU:=zab hb bC;have cV:=zab hb bD;have cW:=zab hb bE;have cX:=zab hb bF;have cY:=zab hb cu;have cZ:=zab hb cw;have c9:=zab hb cq;have bY:=hid (zad hb bX.out);have ca:=aD.out.fro (k*3);have of1:=aD.out.fro (k*3+1);have cb:=aD.out.fro (k*3+2);clear r hb)
      (try go_wp2_with fail)
      refine o.out _ _ kp fun hHeld=>?_
      clear o K;try simp only[Act.put,pu1,pu2,pu3,pu4,pu5,pu6]
      refine zaw [19] ?_;repeat refine tkE (hS:=hHeld) (h:=?_)
      refine zao ?_;refine zba (h:=fun K o=>?_);go_simp;refine o.out _ _ ?_;clear o K;try simp only[Act.put,pu1,pu2,pu3,pu4,pu5,pu6]
      refine za1 (h:=?_);go_wp2;go_roundw
      case rel=>exact⟨j+1,by go_num,by omega,by rw[←ac.out];exact aD.out.store k HS.out,zpB bY.out (Ne.symm b6) _ _ _,(Bel.set3 cx.out bk _ _ _).b⟩
      case measure=>simp[intOf];omega
    ·obtain rfl:n=j:=by omega
     have bo:=zaH (xs:=a) (j:=k) (by have:=bd.out;omega);obtain⟨gk,y,mk,L,E,M,I,r0,r1,r2,Q⟩:=f.at_ V;obtain⟨gv,Av,P,cv,G,O,J,s0,s1,s2,ah⟩:=u.at_ bo;have ac:=hid (zr8 (k:=k) (w:=a) aJ.out);have ba:=hid L1.out;generalize zhB k a X n=pk at V Q ac ba;have HV:=hid (show VecS wz w.heap.size (.slice (some ⟨d,0,none⟩) n c1) (zeJ k a X n)from f);have aq:=hid (show RatS wz gk (.slice y mk L) (.slice E M I) pk from Q);have ab:=hid (show RatS wz gv (.slice Av P cv) (.slice G O J) (el a k)from ah)
     have HW:=hid (show Bel w wz from Bel.mk l);have an:=hid (W.out.trans ((l).mono W.out.size));have a0:wz.cell? ⟨wr.heap.size,0,none⟩=some (.int .i64 (k:Int)):=e0;have aS:=zaa a0;have a1:wz.cell? ⟨wr.heap.size,1,none⟩=some (.slice (some ⟨g,0,none⟩) n s):=e1;have aT:=zaa a1;have a3:wz.cell? ⟨d,k*3,none⟩=some (.bool gk):=r0;have aU:=zaa a3;have a4:wz.cell? ⟨d,k*3+1,none⟩=some (.slice y mk L):=r1;have aV:=zaa a4;have a5:wz.cell? ⟨d,k*3+2,none⟩=some (.slice E M I):=r2;have aW:=zaa a5
     have a6:wz.cell? ⟨g,k*3,none⟩=some (.bool gv):=s0;have aX:=zaa a6;have a7:wz.cell? ⟨g,k*3+1,none⟩=some (.slice Av P cv):=s1;have aY:=zaa a7;have a8:wz.cell? ⟨g,k*3+2,none⟩=some (.slice G O J):=s2;have aZ:=zaa a8;clear f U l V bo u Q ah e0 e1 r0 r1 r2 s0 s1 s2;go_wp2_with fail
     refine za2 (S:=fun w'=>w'.cell? ⟨wr.heap.size,0,none⟩=some (.int .i64 (k:Int))∧w'.cell? ⟨wr.heap.size,1,none⟩=some (.slice (some ⟨g,0,none⟩) n s)∧w'.cell? ⟨d,k*3,none⟩=some (.bool gk)∧w'.cell? ⟨d,k*3+1,none⟩=some (.slice y mk L)∧w'.cell? ⟨d,k*3+2,none⟩=some (.slice E M I)∧w'.cell? ⟨g,k*3,none⟩=some (.bool gv)∧w'.cell? ⟨g,k*3+1,none⟩=some (.slice Av P cv)∧w'.cell? ⟨g,k*3+2,none⟩=some (.slice G O J)) 19 (h:=fun hHeld=>?_);refine zaw [0,1,2,3,4,5,6,7,8,9,10,11,12,13] ?_
     repeat refine tkE (hS:=hHeld) (h:=?_)
     refine zao ?_;refine zaN 14 (h:=fun K o=>?_);go_simp
     (go_at_call 145;(with_reducible refine(Rt.div gk y mk L E M I pk gv Av P cv G O J (el a k) _ aq.out.drew ab.out.drew bO.out ba.out).mono ?_);rintro e u1 ⟨g2,A2,m2,c2,D2,md2,cd2,rfl,r,hb⟩;have Z:=hid (HV.out.drew.below hb);have bH:=hid (aq.out.drew.below hb);have cm:=hid (ab.out.drew.below hb);have a2:=hid (HW.out.drew.below hb);have HS:=hid (show RatS u1 g2 (.slice A2 m2 c2) (.slice D2 md2 cd2) (pk/el a k)from r);have cn:=hid (an.out.trans ((It.bdrew0' hb).mono an.out.size));have bu:=zab hb aS;have bv:=zab hb aT;have bz:=zab hb aU;have bB:=zab hb aV;have bC:=zab hb aW;have bD:=zab hb aX;have bE:=zab hb aY;have bF:=zab hb aZ;have ca:=Z.out.fro (k*3);have of1:=Z.out.fro (k*3+1);have cb:=Z.out.fro (k*3+2);clear r hb)
     (try go_wp2_with fail)
     refine o.out _ _ kp fun hHeld=>?_
     clear o K;try simp only[Act.put,pu1,pu2,pu3,pu4,pu5,pu6]
     refine zaw [15,16] ?_;repeat refine tkE (hS:=hHeld) (h:=?_)
     refine zao ?_;refine zfQ (i:=17) (v:=?_) rfl (by kernel_rfl) (fun _ _ _ h=>h) (Or.inl ⟨by rfl,?_⟩) ?_
     rotate_left
     ·((intro w b5;(try dsimp only at b5);go_simp);(try with_reducible rfl))
     try simp only[Act.put,pu1,pu2,pu3,pu4,pu5,pu6]
     refine zaw [18] ?_;repeat refine tkE (hS:=hHeld) (h:=?_)
     refine zao ?_;refine zba (h:=fun K o=>?_);go_simp;refine o.out _ _ ?_;clear o K;try simp only[Act.put,pu1,pu2,pu3,pu4,pu5,pu6]
     refine za1 (h:=?_);go_wp2;go_roundw
     case rel=>exact⟨t,by go_num,by omega,by rw[bN.out,←ac.out];exact Z.out.store k HS.out,(Bel.set3 a2.out bk _ _ _).b⟩
     case measure=>first | (simp[intOf];done) | (simp[intOf];omega)
end Bs
def pB (m S:Nat):Nat:=64*(sB m S S+S+1)+1
def zor (m S:Nat):Nat:=zpS m S S+40*pB m S+100
theorem ziY{m S:Nat}(h:zor m S≤LIM):zpS m S S≤LIM:=by unfold zor at h;omega
theorem zos{m S:Nat}(h:zor m S≤LIM):40*pB m S+100≤LIM:=by unfold zor at h;omega
theorem zt3{N m S T:Nat}{A:List (List Rat)}{y:List Rat}(f:A.length=m)(hm:m≤64)(zA:∀r∈A,∀q∈r,mw q≤T)(e:∀q∈y,mw q≤S)(h1:1≤S)(d:1≤T):∀q∈byL N A y,mw q≤64*(S+T+1)+1:=fun q a=>by
 rw[←zq8]at a;have:=zu8 e zA h1 d A.length q a;have:=Nat.mul_le_mul_right (S+T+1) (show A.length≤64 by omega);omega
theorem zw7(m:Nat):1≤4^m:=Nat.pow_pos (by omega)
theorem zma(m S T:Nat):1≤sB m S T:=by
 unfold sB xB;have:=zw7 m;have:=Nat.mul_le_mul_right (T+4*uB m S+4) this;omega
theorem zqF{m r S:Nat}(hS:1≤S)(hr:r<m):∀x∈zdL m r,mw x≤S:=zrD (zfM m r) fun i a=>by
 rw[zge hr];split
 ·exact Nat.le_trans mw1 hS
 ·exact Nat.le_trans mw0 hS
section
variable {W0 w:World} {H q:Nat} {rA:OA} {rc:Nat} {lA:List Value} {bA:OA} {bc_:Nat} {kA:OA} {kc:Nat} {eA:OA} {ec m N S own:Nat} {A:List (List Rat)} {b c:List Rat} {left:List Int}
  {tA:OA} {tc:Nat} {cols:List Nat}
theorem ziO(a:Basis m N A cols)(f:zhg mw m S (bc A cols))(hS:1≤S){r:Nat}(hr:r<m):∀x∈zbf A cols r,mw x≤sB m S S:=by
 have e:=a.len;unfold zbf;rw[e];refine zrD (ze1 a.sq a.reg _).2 (zlj zo5 a.sq a.reg f fun i d=>?_);exact zqF hS hr _ (List.mem_of_getElem? (zaH (by rw[zfM];exact d)))
theorem zoT{cs:List Rat}(a:Basis m N A cols)(hc:cs.length=N){T:Nat}(g:∀x∈cs,mw x≤T):∀x∈cols.map (fun j=>el cs j),mw x≤T:=fun x f=>by
 obtain⟨j,hj,rfl⟩:=List.mem_map.1 f;obtain⟨i,e⟩:=List.mem_iff_getElem?.1 hj;have h1:=a.lt i (by rw[←a.len];exact(List.getElem?_eq_some_iff.1 e).1);rw[getD_some (d:=0) e]at h1;exact zrz g (by omega)
theorem znb(a:Basis m N A cols)(f:zhg mw m S (bc A cols)){cs:List Rat}(hc:cs.length=N)(zc:∀x∈cs,mw x≤S):∀x∈zcl A cols cs,mw x≤sB m S S:=by
 have d:=a.len;unfold zcl;rw[d];refine zrD (ze1 a.sq a.reg _).2 (zlj zo5 a.sq a.reg f fun i e=>?_);exact zoT a hc zc _ (List.mem_of_getElem? (zaH (by rw[List.length_map,d];exact e)))
namespace Tb
theorem basis(h:zhi W0 w H q rA rc lA bA bc_ kA kc eA ec m N S own A b c left tA tc cols) :
  Calls Tryz.prog 69 #[.pointer (some ⟨q,0,none⟩)] w fun e w'=>∃(f:OA) (c':Nat),e=.returned (.slice f m c')∧IntsS w' w.heap.size (.slice f m c') cols∧Below w.heap.size w w':=by
 obtain⟨qb,xA,xc,a⟩:=h;have d:=hid a;have k:=a.std.hm;obtain⟨_,_,_,_,_,_,_,_,_,_,_,_,l,_⟩:=bc9 a.blk;clear a;go_enter Tryz.func69,Tryz.ntmps69;go_wp2_with fail
 refine(Sl.clone tA m tc (cols.map fun(x:Nat)=>(x:Int)) H _ d.out.colsI.toZ (by omega)).mono ?_;rintro e w1 ⟨A1,c1,rfl,hv,hb⟩;have i:=hid (show(cols.map fun(x:Nat)=>(x:Int)).length=m by rw[List.length_map,d.out.basis.len]);have j:=hid hv;have g:=hid hb;clear hv hb;go_wp2;go_ret
 exact⟨A1,c1,by rw[←d.out.basis.len];rfl,by have h:=j.out.toS;rw[i.out]at h;exact h,g.out⟩
theorem values(h:zhi W0 w H q rA rc lA bA bc_ kA kc eA ec m N S own A b c left tA tc cols) :
  Calls Tryz.prog 163 #[.pointer (some ⟨q,0,none⟩)] w fun e w'=>∃(d:OA) (c':Nat),e=.returned (.slice d m c')∧VecS w' w.heap.size (.slice d m c') (za5 A b cols)∧Below w.heap.size w w':=by
 obtain⟨qb,xA,xc,a⟩:=h;have g:=hid a;have j:=a.std.hm;obtain⟨_,_,_,_,_,_,_,_,_,_,_,_,_,_,_,_,k,_⟩:=bc9 a.blk;clear a;go_enter Tryz.func163,Tryz.ntmps163;go_wp2_with fail
 refine(Vc.copy xA m xc (za5 A b cols) H _ g.out.x (by omega)).mono ?_;rintro e w1 ⟨A1,c1,rfl,hv,hb⟩;have i:=hid hv;have f:=hid hb;clear hv hb;go_wp2;go_ret
 exact⟨A1,c1,rfl,i.out,f.out⟩
theorem weights(h:zhi W0 w H q rA rc lA bA bc_ kA kc eA ec m N S own A b c left tA tc cols)(r:Nat)(hr:r<m)(l:zor m S≤LIM) :
  Calls Tryz.prog 66 #[.pointer (some ⟨q,0,none⟩),.int .i64 (r:Int)] w (zcd w (zbf A cols r) true):=by
 obtain⟨qb,xA,xc,d⟩:=h;have a:=hid d;have y:=d.std.hm;have g:=hid (Below.refl w.heap.size w);obtain⟨_,_,_,_,_,_,_,_,_,_,_,_,z,_,s,_⟩:=bc9 d.blk;clear d;have i:=hid hr;have n:=hid l;clear hr l;go_enter Tryz.func66,Tryz.ntmps66;go_wp2_with fail
 with_reducible refine(Vc.unit m r (by omega) i.out _).mono ?_
 rintro e w1 ⟨B,n1,c1,rfl,hv1,hb⟩;have x:=hid (a.out.below hb);have j:=hid (show VecS w1 w.heap.size (.slice B n1 c1) (zdL m r)from hv1);have f:=hid (g.out.trans ((hb).mono g.out.size));have C:=zab hb s;clear hv1 hb;obtain rfl:m=n1:=by rw[j.out.len,zfM]
 go_wp2_with fail
 with_reducible refine(Bs.solveT H qb m S S (bc A cols) B c1 (zdL m r) w.heap.size _ x.out.bas j.out (by omega) (zqF a.out.std.hS i.out) (ziY n.out)).mono ?_
 rintro e t ⟨B2,n2,c2,rfl,hv2,hb⟩;have k:=hid (show VecS t w1.heap.size (.slice B2 n2 c2) (zlA m (bc A cols) (zdL m r))from hv2);have u:=hid (f.out.trans ((hb).mono f.out.size));clear hv2 hb;have o:=hid (show zlA m (bc A cols) (zdL m r)=zbf A cols r by unfold zbf;rw[a.out.basis.len]);obtain rfl:m=n2:=by rw[k.out.len,(ze1 a.out.basis.sq a.out.basis.reg _).2]
 have p:=hid (show w.heap.size≤w1.heap.size from f.out.size);go_wp2;refine bodyPost_ret (v:=.tuple #[.slice B2 m c2,.bool true]) (by simp[results,Tryz.results66,go_sem]) rfl ?_;exact⟨_,_,_,rfl,by rw[←o.out];exact k.out.base p.out,u.out⟩
theorem line(h:zhi W0 w H q rA rc lA bA bc_ kA kc eA ec m N S own A b c left tA tc cols)(r:Nat)(hr:r<m)(p:zor m S≤LIM) :
  Calls Tryz.prog 129 #[.pointer (some ⟨q,0,none⟩),.int .i64 (r:Int)] w (zcd w (zk8 N A cols r) true):=by
 obtain⟨qb,xA,xc,d⟩:=h;have a:=hid d;have K:=d.std.hm;have J:=d.std.hN;have j:=hid (Below.refl w.heap.size w);obtain⟨y,_,z,_,_,_,_,_,_,_,_,_,L,_,C,_⟩:=bc9 d.blk;clear d;have f:=hid hr;have k:=hid p;clear hr p;go_enter Tryz.func129,Tryz.ntmps129;go_wp2_with fail
 with_reducible refine(Vc.unit m r (by omega) f.out _).mono ?_
 rintro e w1 ⟨B,n1,c1,rfl,hv1,hb⟩;have t:=hid (a.out.below hb);have l:=hid (show VecS w1 w.heap.size (.slice B n1 c1) (zdL m r)from hv1);have s:=hid (j.out.trans ((hb).mono j.out.size));have E:=zab hb y;have F:=zab hb z;have P:=zab hb C;clear hv1 hb;obtain rfl:m=n1:=by rw[l.out.len,zfM]
 go_wp2_with fail
 with_reducible refine(Bs.solveT H qb m S S (bc A cols) B c1 (zdL m r) w.heap.size _ t.out.bas l.out (by omega) (zqF a.out.std.hS f.out) (ziY k.out)).mono ?_
 rintro e g ⟨B2,n2,c2,rfl,hv2,hb⟩;have I:=hid (t.out.below hb);have n:=hid (show VecS g w1.heap.size (.slice B2 n2 c2) (zlA m (bc A cols) (zdL m r))from hv2);have i:=hid (s.out.trans ((hb).mono s.out.size));have M:=zab hb E;have O:=zab hb F;clear hv2 hb;have o:=hid (show zlA m (bc A cols) (zdL m r)=zbf A cols r by unfold zbf;rw[a.out.basis.len]);obtain rfl:m=n2:=by rw[n.out.len,(ze1 a.out.basis.sq a.out.basis.reg _).2]
 go_wp2_with fail
 with_reducible refine(Mt.by_ N m rc rA lA A 0 B2 m c2 (zlA m (bc A cols) (zdL m r)) w1.heap.size (sB m S S) S _ I.out.stdN.rows a.out.std.rl n.out (by omega) (by omega) a.out.std.zA (by rw[o.out];exact ziO a.out.basis a.out.bas.good.2.2 a.out.std.hS f.out) (zma m S S) a.out.std.hS (by have h1:=zos k.out;unfold pB at h1;omega)).mono ?_
 rintro e D ⟨B3,n3,c3,rfl,hv3,hb⟩;have u:=hid (show VecS D g.heap.size (.slice B3 n3 c3) (byL N A (zlA m (bc A cols) (zdL m r)))from hv3);have G:=hid (i.out.trans ((hb).mono i.out.size));clear hv3 hb;have x:=hid (show w.heap.size≤g.heap.size from i.out.size);go_wp2;refine bodyPost_ret (v:=.tuple #[.slice B3 n3 c3,.bool true]) (by simp[results,Tryz.results129,go_sem]) rfl ?_;exact⟨_,_,_,rfl,by have h:=u.out.base x.out;rw[o.out]at h;exact h,G.out⟩
theorem column(h:zhi W0 w H q rA rc lA bA bc_ kA kc eA ec m N S own A b c left tA tc cols)(j:Nat)(hj:j<N)(l:zor m S≤LIM) :
  Calls Tryz.prog 97 #[.pointer (some ⟨q,0,none⟩),.int .i64 (j:Int)] w (zcd w (zav A cols j) true):=by
 obtain⟨qb,xA,xc,d⟩:=h;have a:=hid d;have z:=d.std.hm;have y:=d.std.hN;have g:=hid (Below.refl w.heap.size w);obtain⟨C,_,D,_,_,_,_,_,_,_,_,_,_,_,s,_⟩:=bc9 d.blk;clear d;have i:=hid hj;have n:=hid l;clear hj l;go_enter Tryz.func97,Tryz.ntmps97;go_wp2_with fail
 with_reducible refine(Mt.col N m rc rA lA A 0 j _ a.out.stdN.rows a.out.std.rl i.out (by omega) (by omega)).mono ?_
 rintro e w1 ⟨B,n1,c1,rfl,hv1,hb⟩;have x:=hid (a.out.below hb);have k:=hid (show VecS w1 w.heap.size (.slice B n1 c1) (zb4 A j)from hv1);have f:=hid (g.out.trans ((hb).mono g.out.size));have E:=zab hb s;clear hv1 hb;obtain rfl:m=n1:=by rw[k.out.len,zbH,←a.out.std.rows.nlen]
 go_wp2_with fail
 with_reducible refine(Bs.solve H qb m S S (bc A cols) B c1 (zb4 A j) w.heap.size _ x.out.bas k.out (by omega) (a.out.std.zcol i.out) a.out.std.hS (ziY n.out)).mono ?_
 rintro e t ⟨B2,n2,c2,rfl,hv2,hb⟩;have o:=hid (show VecS t w1.heap.size (.slice B2 n2 c2) (zes m (bc A cols) (zb4 A j))from hv2);have u:=hid (f.out.trans ((hb).mono f.out.size));clear hv2 hb;have p:=hid (show zes m (bc A cols) (zb4 A j)=zav A cols j by unfold zav;rw[a.out.basis.len]);have r:=hid (show w.heap.size≤w1.heap.size from f.out.size);go_wp2;refine bodyPost_ret (v:=.tuple #[.slice B2 n2 c2,.bool true]) (by simp[results,Tryz.results97,go_sem]) rfl ?_
 exact⟨_,_,_,rfl,by rw[←p.out];exact o.out.base r.out,u.out⟩
end Tb
end
section
variable {W0 w:World} {H q:Nat} {rA:OA} {rc:Nat} {lA:List Value} {bA:OA} {bc_:Nat} {kA:OA} {kc:Nat} {eA:OA} {ec m N S own:Nat} {A:List (List Rat)} {b c:List Rat} {left:List Int}
  {tA:OA} {tc:Nat} {cols:List Nat}
namespace Tb
theorem duals(h:zhi W0 w H q rA rc lA bA bc_ kA kc eA ec m N S own A b c left tA tc cols)(E:OA)(sc:Nat)(cs:List Rat)(J:Nat)(a:VecS w J (.slice E N sc) cs)(zc:∀x∈cs,mw x≤S)(z:zor m S≤LIM) :
  Calls Tryz.prog 67 #[.pointer (some ⟨q,0,none⟩),.slice E N sc] w (zcd w (zcl A cols cs) true):=by
 obtain⟨qb,xA,xc,l⟩:=h;have f:=hid l;have aG:=l.std.hm;have aB:=l.std.hN;have s:=hid (Below.refl w.heap.size w);obtain⟨X,aI,k1,_,k2,aK,_,_,_,_,Y,aL,Z,aM,k7,_,k8,aN⟩:=bc9 l.blk;clear l;have u:=hid a;have V:=hid zc;have M:=hid z;have t:=hid a.len.symm;clear a zc z;go_enter Tryz.func67,Tryz.ntmps67;go_wp2_with fail
 with_reducible refine(Mt.cols N m rc rA _).mono ?_
 rintro e w1 ⟨rfl,hb⟩;have I:=hid (f.out.below hb);have ak:=hid (u.out.below hb);have F:=hid (s.out.trans ((hb).mono s.out.size));have ad:=zab hb X;have a3:=zaa ad;have ae:=zab hb k2;have a4:=zaa ae;have ag:=zab hb Y;have a5:=zaa ag;have G:=zab hb Z;have a6:=zaa G;have ai:=zab hb k7;have aj:=zab hb k8;have a7:=zaa aj;clear hb;have aH:m≤9223372036854775807:=by omega
 go_wp2_with (at_make;go_must (refine zdv rfl _ _ rfl m _ rfl rfl rfl (by omega) w1.heap.size rfl ?_;intro w2 C o;have Q:=hid C;have K:=hid o;have m6:=zab o G;clear C o))
 go_loopw [29] (fun i wr=>∃k:Nat,i=.int .i64 k∧k≤m∧VecS wr w1.heap.size (.slice (some ⟨w1.heap.size,0,none⟩) m m) (mix (cols.map fun j=>el cs j) k)∧Below w1.heap.size w1 wr)
  (fun i _=>m-(intOf i).toNat)
 case atStart=>exact⟨0,rfl,Nat.zero_le _,by rw[zhW,List.length_map,f.out.basis.len];exact Q.out,K.out⟩
 case round =>
  obtain⟨k,rfl,hk,a,g⟩:=hrel;by_cases p:k<m
  ·obtain⟨j,hj⟩:∃j,cols[k]? = some j:=⟨cols[k]'(by rw[f.out.basis.len];exact p),List.getElem?_eq_getElem _⟩
   have W:j<N:=by have:=f.out.basis.lt k p;rw[getD_some (d:=0) hj]at this;exact this
   have D:=zaH (xs:=cs) (j:=j) (by rw[t.out];exact W);obtain⟨bt,rfl,_,_⟩:=f.out.colsI.has (by omega);obtain⟨bs,rfl,_,_⟩:=u.out.has (by omega);have p0:=(I.out.colsI.below g).at_ hj;obtain⟨ga,Aa,ma,ca,Da,aQ,ax,a0,a1,a2,y⟩:=(ak.out.below g).at_ D;have B:=zld (k:=k) (rs:=cols.map fun j=>el cs j) (by rw[List.length_map,f.out.basis.len];exact p);obtain⟨go,Ao,mo,co,Do,aR,ay,o0,o1,o2,_⟩:=a.at_ B;have aW:=a.fro (k*3);have of1:=a.fro (k*3+1);have aX:=a.fro (k*3+2);have n:=hid a;have L:=hid (Bel.mk g)
   have T:=hid y;have P:=hid (zhV (rs:=cols.map fun j=>el cs j) (k:=k) (q:=el cs j) (by rw[List.getElem?_map,hj];rfl));clear a g y B D;have aC:(0:Int)≤(k:Int):=Int.natCast_nonneg _;have aD:(k:Int)<(m:Int):=by omega
   have aE:(0:Int)≤(j:Int):=Int.natCast_nonneg _;have aF:(j:Int)<(N:Int):=by omega
   go_wp2;go_roundw
   case rel=>exact⟨k+1,by go_num,by omega,by rw[←P.out];exact n.out.store k T.out,(Bel.set3 L.out (Nat.le_refl _) _ _ _).b⟩
   case measure=>simp[intOf];omega
  ·obtain rfl:k=m:=by omega
   have O:=hid (show mix (cols.map fun j=>el cs j) k=cols.map fun j=>el cs j by have h:=zlc (cols.map fun j=>el cs j);rw[List.length_map,f.out.basis.len]at h;exact h);rw[O.out]at a;have ah:=hid (I.out.below g);have n:=hid (show VecS wr w1.heap.size (.slice (some ⟨w1.heap.size,0,none⟩) k k) (cols.map fun j=>el cs j)from a);have r:=hid (F.out.trans ((g).mono F.out.size));have a8:=zab g ai;clear a g;go_wp2_with fail
   with_reducible refine(Bs.solveT H qb k S S (bc A cols) (some ⟨w1.heap.size,0,none⟩) k (cols.map fun j=>el cs j) w1.heap.size _ ah.out.bas n.out (by omega) (zoT f.out.basis t.out V.out) (ziY M.out)).mono ?_
   rintro e w3 ⟨B3,n3,c3,rfl,hv3,hb⟩;have R:=hid (show VecS w3 wr.heap.size (.slice B3 n3 c3) (zlA k (bc A cols) (cols.map fun j=>el cs j))from hv3);have af:=hid (r.out.trans ((hb).mono r.out.size));clear hv3 hb;have U:=hid (show w.heap.size≤wr.heap.size from r.out.size);go_wp2;refine bodyPost_ret (v:=.tuple #[.slice B3 n3 c3,.bool true]) (by simp[results,Tryz.results67,go_sem]) rfl ?_;exact⟨_,_,_,rfl,by have h:=R.out.base U.out;unfold zcl;rw[f.out.basis.len];exact h,af.out⟩
theorem prices(h:zhi W0 w H q rA rc lA bA bc_ kA kc eA ec m N S own A b c left tA tc cols)(g:OA)(sc:Nat)(cs:List Rat)(i:Nat)(l:VecS w i (.slice g N sc) cs)(zc:∀x∈cs,mw x≤S)(u:zor m S≤LIM) :
  Calls Tryz.prog 95 #[.pointer (some ⟨q,0,none⟩),.slice g N sc] w (zcd w (zaC N A cols cs) true):=by
 obtain⟨qb,xA,xc,d⟩:=h;have a:=hid d;have O:=d.std.hm;have M:=d.std.hN;have p:=hid (Below.refl w.heap.size w);obtain⟨E,_,F,_⟩:=bc9 d.blk;clear d;have s:=hid l;have f:=hid zc;have j:=hid u;have k:=hid l.len.symm;clear l zc u;go_enter Tryz.func95,Tryz.ntmps95;go_wp2_with fail
 with_reducible refine(duals a.out.toS g sc cs i s.out f.out j.out).mono ?_
 rintro e w1 ⟨B,n1,c1,rfl,hv1,hb⟩;have K:=hid (a.out.below hb);have L:=hid (s.out.below hb);have t:=hid (show VecS w1 w.heap.size (.slice B n1 c1) (zcl A cols cs)from hv1);have y:=hid (p.out.trans ((hb).mono p.out.size));have P:=zab hb E;have Q:=zab hb F;clear hv1 hb;obtain rfl:m=n1:=by rw[t.out.len];exact(a.out.basis.duals_ok cs).2.symm
 go_wp2_with fail
 with_reducible refine(Mt.by_ N m rc rA lA A 0 B m c1 (zcl A cols cs) w.heap.size (sB m S S) S _ K.out.stdN.rows a.out.std.rl t.out (by omega) (by omega) a.out.std.zA (znb a.out.basis a.out.bas.good.2.2 k.out f.out) (zma m S S) a.out.std.hS (by have h1:=zos j.out;unfold pB at h1;omega)).mono ?_
 rintro e n ⟨B3,n3,c3,rfl,hv3,hb⟩;have I:=hid (L.out.below hb);have r:=hid (show VecS n w1.heap.size (.slice B3 n3 c3) (byL N A (zcl A cols cs))from hv3);have o:=hid (y.out.trans ((hb).mono y.out.size));clear hv3 hb;obtain rfl:N=n3:=by rw[r.out.len,zkb]
 go_wp2_with fail
 with_reducible refine(Vc.subS (pB m S) (by have h1:=zos j.out;omega) (by unfold pB;omega) g N sc cs B3 N c3 (byL N A (zcl A cols cs)) i w1.heap.size _ I.out r.out (by rw[k.out,zkb]) (by omega) (fun x D=>Nat.le_trans (f.out x D) (by unfold pB;omega)) (zt3 a.out.basis.rect.len (by omega) a.out.std.zA (znb a.out.basis a.out.bas.good.2.2 k.out f.out) (zma m S S) a.out.std.hS)).mono ?_
 rintro e G ⟨B4,n4,c4,rfl,hv4,hb⟩;have z:=hid (show VecS G n.heap.size (.slice B4 n4 c4) (zly cs (-1) (byL N A (zcl A cols cs)))from hv4);have J:=hid (o.out.trans ((hb).mono o.out.size));clear hv4 hb;have C:=hid (show w.heap.size≤n.heap.size from o.out.size);go_wp2;refine bodyPost_ret (v:=.tuple #[.slice B4 n4 c4,.bool true]) (by simp[results,Tryz.results95,go_sem]) rfl ?_;exact⟨_,_,_,rfl,z.out.base C.out,J.out⟩
end Tb
end
