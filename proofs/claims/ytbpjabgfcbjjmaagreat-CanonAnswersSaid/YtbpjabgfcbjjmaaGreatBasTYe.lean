/- Contracts and lemmas: BasT Tb1 Tb2. Conditions: as each says. -/
import Derived.Test.YtbpjabgfcbjjmaaGreatIntsYe
import Derived.Test.YtbpjabgfcbjjmaaGreatMat4Ye
import Derived.Test.YtbpjabgfcbjjmaaGreatMat6Ye
set_option linter.all false
set_option maxHeartbeats 8000000
set_option maxRecDepth 100000
namespace Go.Proofs.YtbpjabgfcbjjmaaGreat
open Go.RowKit Am Tryz
attribute [local go_sem ↓] Go.wp_at_zero Go.wp_at_succ
variable {cs:List Rat}{S T m r:Nat}
namespace Bs
theorem solveT(H q n S T:Nat)(C:List (List Rat))(A:OA)(cA:Nat)(v:List Rat)(H':Nat)(w:World)(l:zjE w H q n S C)(a:VecS w H' (A,n,cA) v)(r:n<=64)(zv:∀x∈v,mw x<=T)(bo:zpS n S T<=LIM) :
  Calls prog 124 #[.pointer (some ⟨q,0,none⟩),(A,n,cA)] w (zcd w (zlA n C v) true):=by
 obtain⟨cD,cc,lc,K,ql,F,D,eA,ec,le,es,o⟩:=l;have aO:=zoC o.right.base.1 o.right.base.2.1 o.right.base.2.2 o.fac;refine μ3 r aO bo λHN HF aG=>?_;have cJ:es.length<=9223372036854775807:=by have:=o.few;omega
 have cQ:n<=9223372036854775807:=ω;refine μ3 o a (Zj w.heap.size w) λHP bU W=>?_;obtain⟨k0,_,k1,_,k2,cU⟩:=bc3 o.blk;refine μ4 (zo1 o.right (v:=v) a.len.symm) (λt (ht:t<=es.length)=>zr1 (t:=t) zo5 o.right (v:=v) (T:=T) a.len.symm (λi hi=>zrz zv (by rw[<-a.len];exact hi)) ht) (ywj (b:=zep n (es.drop 0) v) (x:=cB n (S+T)) zo5 aO.1 (yv8 o.right.base.1 o.right.base.2.2) (zr1 (t:=0) zo5 o.right (v:=v) (T:=T) a.len.symm (λi hi=>zrz zv (by rw[<-a.len];exact hi)) (Zb _)) (λi hi=>by rw[Yx,<-zxF o.fac,zo1 o.right a.len.symm];exact ywh zo5 o.right.good.1 o.right.good.2.1 o.right.good.2.2 (λi hi=>zrz zv (by rw[<-a.len];exact hi)) i hi)) (λt e (R:es[t]? = some e)=>zrn zo5 o.right R) λbS bT bR bM=>?_;clear o a r aO zv bo;go_enter func124,ntmps124;go_wp2_with fail
 refine(Vc.copy A n cA v H' _ bU.o (by have:=HN.o;omega)).mono ?_;rintro e w1 ⟨B,c1,rfl,hv1,hb⟩;have HX:=un (hv1);have cq:=un (W.o.trans ((hb).mono W.o.size));have cr:=zab hb k2;have cW:=zaa cr;clear hv1 hb;have bZ:=un (show VecS w1 w (B,n,c1) (zep n (es.drop es.length) v)by rw[zuL];exact HX.o);go_wp2
 go_loopw [7] (λi wr=>∃t:Nat,i=.int .i64 ((t:Int)-1)/\t<=es.length/\VecS wr w (B,n,c1) (zep n (es.drop t) v)/\Below w w wr)
  (λi _=>(intOf i+1).toNat)
 case atStart=>exact⟨es.length,rfl,Za _,bZ.o,cq.o⟩
 obtain⟨t1,rfl,ht,a,l⟩:=hrel;cases t1 with
 | zero =>
  have aL:=un a;have Y:=un l;have cT:=zab l k1;clear a l;rw[show((0:Nat):Int)-1 = -1 from rfl];go_wp2_with fail
  refine(Lu.solveT K ql n (uB n S) (xB n (uB n S) (cB n (S+T)) (tB n S T)) F B c1 (zep n (es.drop 0) v) w.heap.size _ (HP.o.lu.below Y.o) aL.o HN.o HF.o.1.pr HF.o.2 HF.o.1.piv bR.o (zC4 aG.o)).mono ?_;rintro e w2 ⟨B2,n2,c2,rfl,hv2,hb2⟩;have bV:=un hv2;have bK:=un hb2;clear hv2 hb2;go_wp2;refine Zh (v:=.tuple #[(B2,n2,c2),true]) (by simp[results,results124,go_sem]) rfl ?_;exact⟨_,_,_,rfl,by have h:=bV.o.base Y.o.size;rw[Yx,<-zxF HP.o.fac,bS.o]at h;exact h,Y.o.trans (bK.o.mono Y.o.size)⟩
 | succ t =>
  have ca:t<es.length:=ω;rw[show((t+1:Nat):Int)-1=(t:Int)by omega];obtain⟨⟨k,d⟩,R⟩:∃e,es[t]? = some e:=⟨es[t],Ze ca⟩
  obtain⟨hk,aj,aP,aS⟩:=bM.o t _ R
  dsimp only at hk aj aP aS
  have aU:=bT.o (t+1) ht;have aA:=zsb (n:=n) R v
  dsimp only at aA
  have aT:(zep n (es.drop (t+1)) v).length=n:=a.len.symm;obtain⟨X,hX⟩:∃X,X=zep n (es.drop (t+1)) v:=⟨_,rfl⟩
  rw[<-hX]at a aU aA aT;refine μ6 aA aT aU aS aj aP λbO aM aN av bh bP=>?_;obtain⟨be,rfl,_,_⟩:=HP.o.etas.has ω;obtain⟨Ae,s,y0,y1,u⟩:=(HP.o.etas.below l).at_ R
  dsimp only at y0 y1 u
  rw[aj]at y1 u;obtain⟨g,rfl,cG,cH⟩:=u.has ω;obtain⟨bJ,b4,_,aD,ai⟩:=HP.o.etas.at_ R
  dsimp only at aD ai
  rw[aj]at aD ai;have br:Value.slice bJ n b4=.slice (some ⟨g,0,none⟩) n s:=by have h1:=zab l aD;rw[y1]at h1;injection h1 with h1;exact h1.symm
  rw[br]at ai;have bX:=un ai;clear br ai aD;obtain⟨f,rfl,bn,cI⟩:=a.has ω;have HV:=un (a);have HW:=un (Bel.mk l);have c9:=zab l k2;have da:χ wr be (t*2) (.int .i64 (k:Int)):=y0;have db:χ wr be (t*2+1) (g,n,s):=y1;have L2:=un (show ∀j,j<n->4*(mw (el d j)+mw (el X j))+8<=LIM/\4*(mw (zhB k d X j)+mw (el d j*el X j))+8<=LIM from λj hj=>by have h3:=zC2 aG.o;have h5:=aN.o j hj;have h6:=av.o j hj;have h7:=zdI (el d j) (el X j);have h8:=zl2 zo5 av.o aN.o hk (Xi hj);omega);have L1:=un (show 4*(mw (zhB k d X n)+mw (el d k))+8<=LIM by have h3:=zC2 aG.o;have h6:=av.o k hk;have h8:=zl2 zo5 av.o aN.o hk (Za n);omega);clear a l R aj aP aS aU aA aT hX u y0 y1;have cK:(0:Int)<=(t:Int):=Zf _;have cL:(t:Int)<(es.length:Int):=ω;have cM:(0:Int)<=(k:Int):=Zf _;have cN:(k:Int)<(n:Int):=ω;have b9:f≠wr.heap.size:=ω;go_wp2_with fail
  have bm:=zae wr (.cells #[(k:Int),(g,n,s)] 248);refine μ3 (HV.o.below bm) (HW.o.below bm) (zal wr #[(k:Int),(g,n,s)] 248) λcu ct KE=>?_;refine μ3 cu.o ct.o.b (zal wr #[(k:Int),(g,n,s)] 248) λbW bL KE=>?_;go_wp2
  go_loopw [39] (λi aV=>∃j:Nat,i=.int .i64 j/\j<=n/\VecS aV w (f,n,c1) (zeJ k d X j)/\θ aV wr.heap.size #[(k:Int),(g,n,s)] 248/\Below w w aV)
   (λi _=>n-(intOf i).toNat)
  case atStart=>exact⟨0,rfl,Zb _,by rw[zsa];exact bW.o,KE.o,bL.o⟩
  rename World=>wz
  obtain⟨j,rfl,hj,a,U,l⟩:=hrel;have u:=bX.o.below l;have V:(zeJ k d X j)[k]? = some (zhB k d X j):=zuI (by rw[aM.o];exact hk);have e0:=zac U 0;have e1:=zac U 1;simp only[Xa,Z9,XH]at e0 e1;by_cases bp:j<n
  ·have aQ:=zaH (xs:=d) (j:=j) (by have:=bh.o;omega);have cO:(0:Int)<=(j:Int):=Zf _;have cP:(j:Int)<(n:Int):=ω
   by_cases az:j=k
   ·obtain rfl:k=j:=az.symm;refine μ3 a U l λaL aI Y=>?_;clear a U l V aQ u;go_wp2;go_roundw
    case rel=>exact⟨k+1,by go_num,ω,by rw[<-zr9];exact aL.o,aI.o,Y.o⟩
    case measure=>simp[intOf];omega
   have bs:(zeJ k d X j)[j]? = some (el X j):=zuH az (by rw[aM.o];exact bp);obtain⟨gj,Aj,mj,cj,Dj,aB,aw,p0,p1,p2,bk⟩:=a.at_ bs;obtain⟨gk,y,mk,L,E,M,I,r0,r1,r2,Q⟩:=a.at_ V;obtain⟨gv,Av,P,cv,G,O,J,s0,s1,s2,ah⟩:=u.at_ aQ;have ac:=un (zuJ (k:=k) (w:=d) (z:=X) az);have aJ:=un (L2.o j bp);have cR:((j:Int) == (k:Int))=false:=by simp;omega
   generalize zhB k d X j=pk at V Q ac aJ;refine μ6 (a) (show RatS wz gj (Aj,mj,cj) (Dj,aB,aw) (el X j)from bk) (show RatS wz gk (y,mk,L) (E,M,I) pk from Q) (show RatS wz gv (Av,P,cv) (G,O,J) (el d j)from ah) (Bel.mk l) (W.o.trans ((l).mono W.o.size)) λHV bQ au ab HW ap=>?_;have a4:=e0;have aW:=zaa a4;have a5:=e1;have aX:=zaa a5;have a7:=p0;have aY:=zaa a7;have a8:=p1;have aZ:=zaa a8;have a9:χ wz f (j*3+2) (Dj,aB,aw):=p2;have a0:=zaa a9;have ba:χ wz f (k*3) (.bool gk):=r0;have a1:=zaa ba;have bb:χ wz f (k*3+1) (y,mk,L):=r1;have a2:=zaa bb;have bc:χ wz f (k*3+2) (E,M,I):=r2;have a3:=zaa bc;have cm:χ wz g (j*3) (.bool gv):=s0;have ci:=zaa cm;have cn:χ wz g (j*3+1) (Av,P,cv):=s1;have cl:=zaa cn;have cw:χ wz g (j*3+2) (G,O,J):=s2;have ch:=zaa cw;have aI:=un U;clear a U l bs V aQ u bk Q ah e0 e1 p0 p1 p2 r0 r1 r2 s0 s1 s2 az;go_wp2_with fail
   refine za2 (S:=λw'=>χ w' wr.heap.size 0 (.int .i64 (k:Int))/\χ w' wr.heap.size 1 (g,n,s)/\χ w' f (j*3) (.bool gj)/\χ w' f (j*3+1) (Aj,mj,cj)/\χ w' f (j*3+2) (Dj,aB,aw)/\χ w' f (k*3) (.bool gk)/\χ w' f (k*3+1) (y,mk,L)/\χ w' f (k*3+2) (E,M,I)/\χ w' g (j*3) (.bool gv)/\χ w' g (j*3+1) (Av,P,cv)/\χ w' g (j*3+2) (G,O,J)) 20 (h:=λhHeld=>?_);refine zaw [0,1,2,3,4,5,6,7,8,9,10,11,12,13,14,15,16] ?_;repeat refine tkE (hS:=hHeld) (h:=?_)
   refine zao ?_;refine zaN 17 (h:=λK p=>?_);go_simp;(go_at_call 29;(refine(Rt.mul gv Av P cv G O J (el d j) gj Aj mj cj Dj aB aw (el X j) _ ab.o.drew bQ.o.drew aJ.o.1).mono ?_);rintro e u1 ⟨g1,A1,m1,c1_,D1,md1,cd1,rfl,r,hb⟩;refine μ6 (HV.o.drew.below hb) (au.o.drew.below hb) (ab.o.drew.below hb) (HW.o.drew.below hb) (r) (ap.o.trans ((It.bdrew0' hb).mono ap.o.size)) λZ bI co a6 HM cp=>?_;have bz:=zab hb aW;have bB:=zab hb aX;have bC:=zab hb aY;have bD:=zab hb aZ;have bE:=zab hb a0;have bF:=zab hb a1;have bG:=zab hb a2;have bH:=zab hb a3;have cx:=zab hb ci;have cy:=zab hb cl;have cs:=zab hb ch;have b0:=un (zad hb (show wz.drew.heap[wr.heap.size]? = _ from aI.o));clear r hb);(try go_wp2_with fail);refine shutOn p λhHeld=>?_;clear p K;refine zaN 18 (h:=λK p=>?_);go_simp;(go_at_call 31;(refine(Rt.sub gk y mk L E M I pk g1 A1 m1 c1_ D1 md1 cd1 (el d j*el X j) _ bI.o HM.o aJ.o.2).mono ?_);rintro e u2 ⟨g2,A2,m2,c2,D2,md2,cd2,rfl,r,hb⟩;refine μ3 (Z.o.below hb) (a6.o.below hb) (r) λaE cz HS=>?_;have c5:=zab hb bz;have c6:=zab hb bB;have c7:=zab hb bC;have c8:=zab hb bD;have cX:=zab hb bE;have cY:=zab hb bF;have cZ:=zab hb bG;have c0:=zab hb bH;have c3:=zab hb cx;have c4:=zab hb cy;have dc:=zab hb cs;have b1:=un (zad hb b0.o);have cd:=aE.o.fro (k*3);have of1:=aE.o.fro (k*3+1);have cf:=aE.o.fro (k*3+2);clear r hb);(try go_wp2_with fail);refine shutOn p λhHeld=>?_;clear p K;refine zaw [19] ?_;repeat refine tkE (hS:=hHeld) (h:=?_)
   refine zao ?_;refine zba (h:=λK p=>?_);go_simp;refine shutOff p ?_;clear p K;refine za1 (h:=?_);go_wp2;go_roundw
   case rel=>exact⟨j+1,by go_num,ω,by rw[<-ac.o];exact aE.o.store k HS.o,zpB b1.o (Z4 b9) _ _ _,(Bel.set3 cz.o bn _ _ _).b⟩
   case measure=>simp[intOf];omega
  obtain rfl:n=j:=ω;have bq:=zaH (xs:=d) (j:=k) (by have:=bh.o;omega);obtain⟨gk,y,mk,L,E,M,I,r0,r1,r2,Q⟩:=a.at_ V;obtain⟨gv,Av,P,cv,G,O,J,s0,s1,s2,ah⟩:=u.at_ bq;have ac:=un (zr8 (k:=k) (w:=d) aM.o);have bf:=un L1.o;generalize zhB k d X n=pk at V Q ac bf;refine μ5 (a) (show RatS wz gk (y,mk,L) (E,M,I) pk from Q) (show RatS wz gv (Av,P,cv) (G,O,J) (el d k)from ah) (Bel.mk l) (W.o.trans ((l).mono W.o.size)) λHV au ab HW ap=>?_;have a4:=e0;have aW:=zaa a4;have a5:=e1;have aX:=zaa a5;have a7:=r0;have aY:=zaa a7;have a8:=r1;have aZ:=zaa a8;have a9:=r2;have a0:=zaa a9;have ba:χ wz g (k*3) (.bool gv):=s0;have a1:=zaa ba;have bb:χ wz g (k*3+1) (Av,P,cv):=s1;have a2:=zaa bb;have bc:χ wz g (k*3+2) (G,O,J):=s2;have a3:=zaa bc;clear a U l V bq u Q ah e0 e1 r0 r1 r2 s0 s1 s2;go_wp2_with fail
  refine za2 (S:=λw'=>χ w' wr.heap.size 0 (.int .i64 (k:Int))/\χ w' wr.heap.size 1 (g,n,s)/\χ w' f (k*3) (.bool gk)/\χ w' f (k*3+1) (y,mk,L)/\χ w' f (k*3+2) (E,M,I)/\χ w' g (k*3) (.bool gv)/\χ w' g (k*3+1) (Av,P,cv)/\χ w' g (k*3+2) (G,O,J)) 19 (h:=λhHeld=>?_);refine zaw [0,1,2,3,4,5,6,7,8,9,10,11,12,13] ?_;repeat refine tkE (hS:=hHeld) (h:=?_)
  refine zao ?_;refine zaN 14 (h:=λK p=>?_);go_simp;(go_at_call 159;(refine(Rt.div gk y mk L E M I pk gv Av P cv G O J (el d k) _ au.o.drew ab.o.drew bP.o bf.o).mono ?_);rintro e u1 ⟨g2,A2,m2,c2,D2,md2,cd2,rfl,r,hb⟩;refine μ6 (HV.o.drew.below hb) (au.o.drew.below hb) (ab.o.drew.below hb) (HW.o.drew.below hb) (r) (ap.o.trans ((It.bdrew0' hb).mono ap.o.size)) λZ bI co a6 HS cp=>?_;have bz:=zab hb aW;have bB:=zab hb aX;have bC:=zab hb aY;have bD:=zab hb aZ;have bE:=zab hb a0;have bF:=zab hb a1;have bG:=zab hb a2;have bH:=zab hb a3;have cd:=Z.o.fro (k*3);have of1:=Z.o.fro (k*3+1);have cf:=Z.o.fro (k*3+2);clear r hb);(try go_wp2_with fail);refine shutOn p λhHeld=>?_;clear p K;refine zaw [15,16] ?_;repeat refine tkE (hS:=hHeld) (h:=?_)
  refine zao ?_;refine zfQ (i:=17) (v:=?_) rfl ξ (λ_ _ _ h=>h) (Or.inl ⟨by rfl,?_⟩) ?_
  rotate_left
  ·((intro w b8;(try dsimp only at b8);go_simp);(try with_reducible rfl))
  try simp only[Act.put,pu1,pu2,pu3,pu4,pu5,pu6]
  refine zaw [18] ?_;repeat refine tkE (hS:=hHeld) (h:=?_)
  refine zao ?_;refine zba (h:=λK p=>?_);go_simp;refine shutOff p ?_;clear p K;refine za1 (h:=?_);go_wp2;go_roundw
  case rel=>exact⟨t,by go_num,ω,by rw[bO.o,<-ac.o];exact Z.o.store k HS.o,(Bel.set3 a6.o bn _ _ _).b⟩
  case measure=>first | (simp[intOf];done) | (simp[intOf];omega)
end Bs
def pB (m S:Nat):Nat:=64*(sB m S S+S+1)+1
def zor (m S:Nat):Nat:=zpS m S S+40*pB m S+100
theorem ziY(h:zor m S<=LIM):zpS m S S<=LIM:=by unfold zor at h;omega
theorem zos(h:zor m S<=LIM):40*pB m S+100<=LIM:=by unfold zor at h;omega
theorem zt3{N:Nat}{A:List (List Rat)}{y:List Rat}(f:A.length=m)(hm:m<=64)(zA:∀r∈A,∀q∈r,mw q<=T)(e:∀q∈y,mw q<=S)(h1:1<=S)(d:1<=T):∀q∈byL N A y,mw q<=64*(S+T+1)+1:=λq a=>by rw[<-zq8]at a;have:=zu8 e zA h1 d A.length q a;have:=ZV (S+T+1) (show A.length<=64 by omega);omega
theorem zma(m S T:Nat):1<=sB m S T:=by unfold sB xB zB;omega
theorem zqF(hS:1<=S)(hr:r<m):∀x∈zdL m r,mw x<=S:=zrD (zfM m r) λi hi=>by rw[zge hr];grind[Nat.le_trans,mw1,mw0]
section
variable {W0 w:World} {H q:Nat} {rA:OA} {rc:Nat} {lA:List Value} {bA:OA} {bc_:Nat} {kA:OA} {kc:Nat} {eA:OA} {ec m N S own:Nat} {A:List (List Rat)} {b c:List Rat} {left:List Int}
  {tA:OA} {tc:Nat} {cols:List Nat}
theorem ziO(a:Basis m N A cols)(e:zhg mw m S (bc A cols))(hS:1<=S)(hr:r<m):∀x∈zbf A cols r,mw x<=sB m S S:=by have d:=a.len;unfold zbf;rw[d];refine zrD (ze1 a.sq a.reg _).2 (zlj zo5 a.sq a.reg e λi hi=>?_);exact zqF hS hr _ (Zz (zaH (by rw[zfM];exact hi)))
theorem zoT(a:Basis m N A cols)(hc:cs.length=N)(f:∀x∈cs,mw x<=T):∀x∈cols.map (λj=>el cs j),mw x<=T:=λx e=>by obtain⟨j,hj,rfl⟩:=ZH.1 e;obtain⟨i,hi⟩:=Xv.1 hj;have h1:=a.lt i (by rw[<-a.len];exact(ZF.1 hi).1);rw[getD_some (d:=0) hi]at h1;grind[zrz]
theorem znb(a:Basis m N A cols)(e:zhg mw m S (bc A cols))(hc:cs.length=N)(zc:∀x∈cs,mw x<=S):∀x∈zcl A cols cs,mw x<=sB m S S:=by have d:=a.len;unfold zcl;rw[d];refine zrD (ze1 a.sq a.reg _).2 (zlj zo5 a.sq a.reg e λi hi=>?_);exact zoT a hc zc _ (Zz (zaH (by rw[ZK,d];exact hi)))
namespace Tb
theorem basis(h:zhi W0 w H q rA rc lA bA bc_ kA kc eA ec m N S own A b c left tA tc cols) :
  Calls prog 95 #[.pointer (some ⟨q,0,none⟩)] w λe w'=>∃(f:OA) (c':Nat),e=.returned (f,m,c')/\IntsS w' w (f,m,c') cols/\Below w w w':=by
 obtain⟨qb,xA,xc,a⟩:=h;have d:=un a;have k:=a.std.hm;obtain⟨_,_,_,_,_,_,_,_,_,_,_,_,l,_⟩:=bc9 a.blk;clear a;go_enter func95,ntmps95;go_wp2_with fail
 refine(Sl.clone tA m tc (cols.map fun(x:Nat)=>(x:Int)) H _ d.o.colsI.toZ ω).mono ?_;rintro e w1 ⟨A1,c1,rfl,hv,hb⟩;refine μ3 (show(cols.map fun(x:Nat)=>(x:Int)).length=m by rw[ZK,d.o.basis.len]) hv hb λi j g=>?_;clear hv hb;go_wp2;go_ret;exact⟨A1,c1,by rw[<-d.o.basis.len];rfl,by have h:=j.o.toS;rw[i.o]at h;exact h,g.o⟩
theorem values(h:zhi W0 w H q rA rc lA bA bc_ kA kc eA ec m N S own A b c left tA tc cols) :
  Calls prog 177 #[.pointer (some ⟨q,0,none⟩)] w λe w'=>∃(d:OA) (c':Nat),e=.returned (d,m,c')/\VecS w' w (d,m,c') (za5 A b cols)/\Below w w w':=by
 obtain⟨qb,xA,xc,a⟩:=h;have g:=un a;have j:=a.std.hm;obtain⟨_,_,_,_,_,_,_,_,_,_,_,_,_,_,_,_,k,_⟩:=bc9 a.blk;clear a;go_enter func177,ntmps177;go_wp2_with fail
 refine(Vc.copy xA m xc (za5 A b cols) H _ g.o.x ω).mono ?_;rintro e w1 ⟨A1,c1,rfl,hv,hb⟩;have i:=un hv;have f:=un hb;clear hv hb;go_wp2;go_ret;exact⟨A1,c1,rfl,i.o,f.o⟩
theorem line(h:zhi W0 w H q rA rc lA bA bc_ kA kc eA ec m N S own A b c left tA tc cols)(r:Nat)(hr:r<m)(p:zor m S<=LIM) :
  Calls prog 150 #[.pointer (some ⟨q,0,none⟩),(r:Int)] w (zcd w (zk8 N A cols r) true):=by
 obtain⟨qb,xA,xc,d⟩:=h;have a:=un d;have K:=d.std.hm;have J:=d.std.hN;have j:=un (Zj w.heap.size w);obtain⟨y,_,z,_,_,_,_,_,_,_,_,_,L,_,C,_⟩:=bc9 d.blk;clear d;have f:=un hr;have k:=un p;clear hr p;go_enter func150,ntmps150;go_wp2_with fail
 refine(Vc.unit m r ω f.o _).mono ?_;rintro e w1 ⟨B,n1,c1,rfl,hv1,hb⟩;refine μ3 (a.o.below hb) (hv1) (j.o.trans ((hb).mono j.o.size)) λt l s=>?_;have E:=zab hb y;have F:=zab hb z;have P:=zab hb C;clear hv1 hb;obtain rfl:m=n1:=by rw[l.o.len,zfM]
 go_wp2_with fail
 refine(Bs.solveT H qb m S S (bc A cols) B c1 (zdL m r) w.heap.size _ t.o.bas l.o ω (zqF a.o.std.hS f.o) (ziY k.o)).mono ?_;rintro e g ⟨B2,n2,c2,rfl,hv2,hb⟩;refine μ3 (t.o.below hb) (hv2) (s.o.trans ((hb).mono s.o.size)) λI n i=>?_;have M:=zab hb E;have O:=zab hb F;clear hv2 hb;have o:=un (show zlA m (bc A cols) (zdL m r)=zbf A cols r by unfold zbf;rw[a.o.basis.len]);obtain rfl:m=n2:=by rw[n.o.len,(ze1 a.o.basis.sq a.o.basis.reg _).2]
 go_wp2_with fail
 refine(Mt.by_ N m rc rA lA A 0 B2 m c2 (zlA m (bc A cols) (zdL m r)) w1.heap.size (sB m S S) S _ I.o.stdN.rows a.o.std.rl n.o ω ω a.o.std.zA (by rw[o.o];exact ziO a.o.basis a.o.bas.good.2.2 a.o.std.hS f.o) (zma m S S) a.o.std.hS (by have h1:=zos k.o;unfold pB at h1;omega)).mono ?_;rintro e D ⟨B3,n3,c3,rfl,hv3,hb⟩;have u:=un (hv3);have G:=un (i.o.trans ((hb).mono i.o.size));clear hv3 hb;have x:=un (i.o.size);go_wp2;refine Zh (v:=.tuple #[(B3,n3,c3),true]) (by simp[results,results150,go_sem]) rfl ?_;exact⟨_,_,_,rfl,by have h:=u.o.base x.o;rw[o.o]at h;exact h,G.o⟩
theorem column(h:zhi W0 w H q rA rc lA bA bc_ kA kc eA ec m N S own A b c left tA tc cols)(j:Nat)(hj:j<N)(l:zor m S<=LIM) :
  Calls prog 120 #[.pointer (some ⟨q,0,none⟩),(j:Int)] w (zcd w (zav A cols j) true):=by
 obtain⟨qb,xA,xc,d⟩:=h;have a:=un d;have z:=d.std.hm;have y:=d.std.hN;have g:=un (Zj w.heap.size w);obtain⟨C,_,D,_,_,_,_,_,_,_,_,_,_,_,s,_⟩:=bc9 d.blk;clear d;have i:=un hj;have n:=un l;clear hj l;go_enter func120,ntmps120;go_wp2_with fail
 refine(Mt.col N m rc rA lA A 0 j _ a.o.stdN.rows a.o.std.rl i.o ω ω).mono ?_;rintro e w1 ⟨B,n1,c1,rfl,hv1,hb⟩;refine μ3 (a.o.below hb) (hv1) (g.o.trans ((hb).mono g.o.size)) λx k f=>?_;have E:=zab hb s;clear hv1 hb;obtain rfl:m=n1:=by rw[k.o.len,zbH,<-a.o.std.rows.nlen]
 go_wp2_with fail
 refine(Bs.solve H qb m S S (bc A cols) B c1 (zb4 A j) w.heap.size _ x.o.bas k.o ω (a.o.std.zcol i.o) a.o.std.hS (ziY n.o)).mono ?_;rintro e t ⟨B2,n2,c2,rfl,hv2,hb⟩;have o:=un (hv2);have u:=un (f.o.trans ((hb).mono f.o.size));clear hv2 hb;have p:=un (show zes m (bc A cols) (zb4 A j)=zav A cols j by unfold zav;rw[a.o.basis.len]);have r:=un (f.o.size);go_wp2;refine Zh (v:=.tuple #[(B2,n2,c2),true]) (by simp[results,results120,go_sem]) rfl ?_;exact⟨_,_,_,rfl,by rw[<-p.o];exact o.o.base r.o,u.o⟩
end Tb
end
section
variable {W0 w:World} {H q:Nat} {rA:OA} {rc:Nat} {lA:List Value} {bA:OA} {bc_:Nat} {kA:OA} {kc:Nat} {eA:OA} {ec m N S own:Nat} {A:List (List Rat)} {b c:List Rat} {left:List Int}
  {tA:OA} {tc:Nat} {cols:List Nat}
namespace Tb
theorem duals(h:zhi W0 w H q rA rc lA bA bc_ kA kc eA ec m N S own A b c left tA tc cols)(E:OA)(sc:Nat)(cs:List Rat)(J:Nat)(a:VecS w J (E,N,sc) cs)(zc:∀x∈cs,mw x<=S)(z:zor m S<=LIM) :
  Calls prog 52 #[.pointer (some ⟨q,0,none⟩),(E,N,sc)] w (zcd w (zcl A cols cs) true):=by
 obtain⟨qb,xA,xc,l⟩:=h;have f:=un l;have aF:=l.std.hm;have aA:=l.std.hN;have s:=un (Zj w.heap.size w);obtain⟨X,aH,k1,_,k2,aJ,_,_,_,_,Y,aK,Z,aL,k7,_,k8,aM⟩:=bc9 l.blk;clear l;refine μ4 a zc z a.len.symm λu V M t=>?_;clear a zc z;go_enter func52,ntmps52;go_wp2_with fail
 refine(Mt.cols N m rc rA _).mono ?_;rintro e w1 ⟨rfl,hb⟩;refine μ3 (f.o.below hb) (u.o.below hb) (s.o.trans ((hb).mono s.o.size)) λI ak F=>?_;have ad:=zab hb X;have aZ:=zaa ad;have ae:=zab hb k2;have a3:=zaa ae;have ag:=zab hb Y;have a4:=zaa ag;have G:=zab hb Z;have a5:=zaa G;have ai:=zab hb k7;have aj:=zab hb k8;have a6:=zaa aj;clear hb;have aG:m<=9223372036854775807:=ω;go_wp2_with (at_make;go_must (refine zdv rfl _ _ rfl m _ rfl rfl rfl ω w1.heap.size rfl ?_;intro w2 C o;have Q:=un C;have K:=un o;have m6:=zab o G;clear C o))
 go_loopw [29] (λi wr=>∃k:Nat,i=.int .i64 k/\k<=m/\VecS wr w1 (w1.heap.size,m,m) (mix (cols.map λj=>el cs j) k)/\Below w1 w1 wr)
  (λi _=>m-(intOf i).toNat)
 case atStart=>exact⟨0,rfl,Zb _,by rw[zhW,ZK,f.o.basis.len];exact Q.o,K.o⟩
 obtain⟨k,rfl,hk,a,g⟩:=hrel;by_cases p:k<m
 ·obtain⟨j,hj⟩:∃j,cols[k]? = some j:=⟨cols[k]'(by rw[f.o.basis.len];exact p),Ze _⟩
  have W:j<N:=by have:=f.o.basis.lt k p;rw[getD_some (d:=0) hj]at this;exact this
  have D:=zaH (xs:=cs) (j:=j) (by rw[t.o];exact W);obtain⟨bt,rfl,_,_⟩:=f.o.colsI.has ω;obtain⟨bs,rfl,_,_⟩:=u.o.has ω;have p0:=(I.o.colsI.below g).at_ hj;obtain⟨ga,Aa,ma,ca,Da,aP,ax,a0,a1,a2,y⟩:=(ak.o.below g).at_ D;have B:=zld (k:=k) (rs:=cols.map λj=>el cs j) (by rw[ZK,f.o.basis.len];exact p);obtain⟨go,Ao,mo,co,Do,aQ,ay,o0,o1,o2,_⟩:=a.at_ B;have aV:=a.fro (k*3);have of1:=a.fro (k*3+1);have aW:=a.fro (k*3+2);refine μ4 a (Bel.mk g) y (zhV (rs:=cols.map λj=>el cs j) (k:=k) (q:=el cs j) (by rw[Z2,hj];rfl)) λn L T P=>?_;clear a g y B D;have aB:(0:Int)<=(k:Int):=Zf _;have aC:(k:Int)<(m:Int):=ω;have aD:(0:Int)<=(j:Int):=Zf _;have aE:(j:Int)<(N:Int):=ω;go_wp2;go_roundw
  case rel=>exact⟨k+1,by go_num,ω,by rw[<-P.o];exact n.o.store k T.o,(Bel.set3 L.o (Za _) _ _ _).b⟩
  case measure=>simp[intOf];omega
 obtain rfl:k=m:=ω;have O:=un (show mix (cols.map λj=>el cs j) k=cols.map λj=>el cs j by have h:=zlc (cols.map λj=>el cs j);rw[ZK,f.o.basis.len]at h;exact h);rw[O.o]at a;refine μ3 (I.o.below g) (a) (F.o.trans ((g).mono F.o.size)) λah n r=>?_;have a7:=zab g ai;clear a g;go_wp2_with fail
 refine(Bs.solveT H qb k S S (bc A cols) (some ⟨w1,0,none⟩) k (cols.map λj=>el cs j) w1.heap.size _ ah.o.bas n.o ω (zoT f.o.basis t.o V.o) (ziY M.o)).mono ?_;rintro e w3 ⟨B3,n3,c3,rfl,hv3,hb⟩;have R:=un (hv3);have af:=un (r.o.trans ((hb).mono r.o.size));clear hv3 hb;have U:=un (r.o.size);go_wp2;refine Zh (v:=.tuple #[(B3,n3,c3),true]) (by simp[results,results52,go_sem]) rfl ?_;exact⟨_,_,_,rfl,by have h:=R.o.base U.o;unfold zcl;rw[f.o.basis.len];exact h,af.o⟩
theorem prices(h:zhi W0 w H q rA rc lA bA bc_ kA kc eA ec m N S own A b c left tA tc cols)(g:OA)(sc:Nat)(cs:List Rat)(i:Nat)(l:VecS w i (g,N,sc) cs)(zc:∀x∈cs,mw x<=S)(u:zor m S<=LIM) :
  Calls prog 118 #[.pointer (some ⟨q,0,none⟩),(g,N,sc)] w (zcd w (zaC N A cols cs) true):=by
 obtain⟨qb,xA,xc,d⟩:=h;have a:=un d;have O:=d.std.hm;have M:=d.std.hN;have p:=un (Zj w.heap.size w);obtain⟨E,_,F,_⟩:=bc9 d.blk;clear d;refine μ4 l zc u l.len.symm λs f j k=>?_;clear l zc u;go_enter func118,ntmps118;go_wp2_with fail
 refine(duals a.o.toS g sc cs i s.o f.o j.o).mono ?_;rintro e w1 ⟨B,n1,c1,rfl,hv1,hb⟩;refine μ4 (a.o.below hb) (s.o.below hb) (hv1) (p.o.trans ((hb).mono p.o.size)) λK L t y=>?_;have P:=zab hb E;have Q:=zab hb F;clear hv1 hb;obtain rfl:m=n1:=by rw[t.o.len];exact(a.o.basis.duals_ok cs).2.symm
 go_wp2_with fail
 refine(Mt.by_ N m rc rA lA A 0 B m c1 (zcl A cols cs) w.heap.size (sB m S S) S _ K.o.stdN.rows a.o.std.rl t.o ω ω a.o.std.zA (znb a.o.basis a.o.bas.good.2.2 k.o f.o) (zma m S S) a.o.std.hS (by have h1:=zos j.o;unfold pB at h1;omega)).mono ?_;rintro e n ⟨B3,n3,c3,rfl,hv3,hb⟩;refine μ3 (L.o.below hb) (hv3) (y.o.trans ((hb).mono y.o.size)) λI r o=>?_;clear hv3 hb;obtain rfl:N=n3:=by rw[r.o.len,zkb]
 go_wp2_with fail
 refine(Vc.subS (pB m S) (by have h1:=zos j.o;omega) (by unfold pB;omega) g N sc cs B3 N c3 (byL N A (zcl A cols cs)) i w1.heap.size _ I.o r.o (by rw[k.o,zkb]) ω (λx D=>Zl (f.o x D) (by unfold pB;omega)) (zt3 a.o.basis.rect.len ω a.o.std.zA (znb a.o.basis a.o.bas.good.2.2 k.o f.o) (zma m S S) a.o.std.hS)).mono ?_;rintro e G ⟨B4,n4,c4,rfl,hv4,hb⟩;have z:=un (show VecS G n (B4,n4,c4) (zly cs (-1) (byL N A (zcl A cols cs)))from hv4);have J:=un (o.o.trans ((hb).mono o.o.size));clear hv4 hb;have C:=un (o.o.size);go_wp2;refine Zh (v:=.tuple #[(B4,n4,c4),true]) (by simp[results,results118,go_sem]) rfl ?_;exact⟨_,_,_,rfl,z.o.base C.o,J.o⟩
end Tb
end
