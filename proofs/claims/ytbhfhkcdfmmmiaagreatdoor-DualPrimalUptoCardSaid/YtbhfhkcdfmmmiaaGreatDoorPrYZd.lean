/- Contracts and lemmas: PrY. Conditions: as each says. -/
import Derived.Test.YtbhfhkcdfmmmiaaGreatDoorPrRZd
set_option linter.all false
set_option maxHeartbeats 2000000
set_option maxRecDepth 100000
namespace Go.Proofs.YtbhfhkcdfmmmiaaGreatDoor
open Go.RowKit Am
open Lib (hid)
attribute [local go_sem ↓] Go.wp_at_zero Go.wp_at_succ
variable {cols:List Nat}{col:List Rat}{NN j k:Nat}
def zTj (NN:Nat) (cols:List Nat) (col:List Rat) (j k:Nat):List Rat:=(List.range NN).map fun i=>way k (fun l=>cols.getD l 0) (fun r _=>el col r) j i
theorem zSN(NN:Nat)(cols:List Nat)(col:List Rat)(j k:Nat):(zTj NN cols col j k).length=NN:=by simp[zTj]
theorem zTf{i:Nat}(h:i<NN):(zTj NN cols col j k)[i]? = some (way k (fun l=>cols.getD l 0) (fun r _=>el col r) j i):=by
 unfold zTj;rw[List.getElem?_map,List.getElem?_range h];rfl
theorem zVE:(List.replicate NN (0:Rat)).set j 1=zTj NN cols col j 0:=by
 apply List.ext_getElem?;intro i;rw[List.getElem?_set,List.length_replicate];by_cases a:i<NN
 ·rw[zTf a,List.getElem?_replicate,if_pos a];unfold way pt;by_cases e:j=i
  ·subst e;rw[if_pos rfl,if_pos a,if_pos rfl];simp only[zai,Rat.add_zero]
  ·rw[if_neg e,if_neg (Ne.symm e)];simp only[zai,Rat.add_zero]
 ·rw[List.getElem?_eq_none (l:=zTj _ _ _ _ _) (by rw[zSN];omega)];by_cases e:j=i
  ·rw[if_pos e,if_neg (by omega)]
  ·rw[if_neg e,List.getElem?_eq_none (by simpa using a)]
theorem zWJ(hc:cols.getD k 0<NN):(zTj NN cols col j k).set (cols.getD k 0) (way k (fun l=>cols.getD l 0) (fun r _=>el col r) j (cols.getD k 0)-el col k)=zTj NN cols col j (k+1):=by
 apply List.ext_getElem?;intro i;rw[List.getElem?_set,zSN];by_cases a:i<NN
 ·rw[zTf a,zTf a];unfold way pt;rw[zai];by_cases e:cols.getD k 0=i
  ·rw[if_pos e,if_pos hc,if_pos e,←e];congr 1;grind
  ·rw[if_neg e,if_neg e];congr 1;grind
 ·rw[List.getElem?_eq_none (l:=zTj _ _ _ _ _) (by rw[zSN];omega),List.getElem?_eq_none (l:=zTj _ _ _ _ _) (by rw[zSN];omega)];by_cases e:cols.getD k 0=i
  ·exfalso;omega
  ·rw[if_neg e]
theorem z0o{Z:Nat}(a:1≤Z)(zc:∀q∈col,mw q≤Z)(j i k:Nat):mw (way k (fun l=>cols.getD l 0) (fun r _=>el col r) j i)≤k*(Z+1)+3:=by
 show mw ((if i=j then (1:Rat)else 0)+pt k (fun l=>cols.getD l 0) (fun l => -el col l) i)≤_
 have h1:mw (pt k (fun l=>cols.getD l 0) (fun l => -el col l) i)≤k*(Z+1)+1:=zrK (fun l=>by
  split
  ·rw[zhY];exact zDJ a zc l
  ·exact Nat.le_trans mw0 a) k
 have d:mw (if i=j then (1:Rat)else 0)≤1:=by split;exact mw1;exact mw0
 generalize k*(Z+1)=T at h1 ⊢;have e:=zrI (if i=j then (1:Rat)else 0) (pt k (fun l=>cols.getD l 0) (fun l => -el col l) i);omega
section
variable {W0 w:World} {H q:Nat} {rA:OA} {rc:Nat} {lA:List Value} {bA:OA} {bc_:Nat} {kA:OA} {kc:Nat} {eA:OA} {ec m NN S own:Nat} {A:List (List Rat)} {b c:List Rat} {left:List Int}
  {tA:OA} {tc:Nat} {cols:List Nat}
namespace Pr
theorem pray(h:zhi W0 w H q rA rc lA bA bc_ kA kc eA ec m NN S own A b c left tA tc cols)(gA:OA)(gc N j:Nat)(hj:j<NN)(aw:zor m S≤LIM)(hZ:4*(m*(sB m S S+1)+3+sB m S S)+8≤LIM)(aQ:own≤NN) :
  Calls Tryz.prog 37 #[.agg #[(rA,m,rc),(NN:Int),(bA,m,bc_),(kA,NN,kc),(own:Int),(eA,m,ec),(gA,m,gc),(N:Int)],.pointer (some ⟨q,0,none⟩),(j:Int)] w fun e w'=>∃(A':OA) (c':Nat),e=.returned (A',own,c')∧VecS w' w.heap.size (A',own,c') ((zTj NN cols (zav A cols j) j m).take own)∧Below w.heap.size w w':=by
 have O:=hid h.basis;have aF:=hid aw;have aN:=hid hZ;have HJ:=hid hj;have db:=h.std.hm;have dc:=h.std.hN;have c7:(0:Int)≤(j:Int):=Int.natCast_nonneg _;have c8:¬(j:Int)<0:=by omega
 have c9:(j:Int)<(NN:Int):=by omega
 have da:¬(NN:Int)≤(j:Int):=by omega
 have an:=hid (show ∀x∈zav A cols j,mw x≤sB m S S by
  obtain⟨_,_,_,hP⟩:=h;exact zVc hP.basis hP.bas.good.2.2 (hP.std.zcol hj))
 have HP:=hid h;clear aw hZ h;obtain⟨W,T⟩:∃W,(w.alloc (.cells #[(rA,m,rc),(NN:Int),(bA,m,bc_),(kA,NN,kc),(own:Int),(eA,m,ec),(gA,m,gc),(N:Int)] 95))=W:=⟨_,rfl⟩
 have y:=hid (show W.heap[w.heap.size]? = some (.cells #[(rA,m,rc),(NN:Int),(bA,m,bc_),(kA,NN,kc),(own:Int),(eA,m,ec),(gA,m,gc),(N:Int)] 95 (0,0))by rw[←T];exact zam (by simp));have t:=hid (show Below w.heap.size w W by rw[←T];exact zae w _);have HT:=hid (show zhi W0 W H q rA rc lA bA bc_ kA kc eA ec m NN S own A b c left tA tc cols by rw[←T];exact(HP.out).alloc _);obtain⟨bU,bY,bV,bQ,b2,b7,cK,cx,cM,cA,bm,bk,bD,bw,bt,bx⟩:=bc8 y.out
 go_enter Tryz.func37,Tryz.ntmps37;go_upto_region 4 with (at_make;go_must (refine zdv rfl _ _ rfl NN _ rfl rfl rfl (by omega) W.heap.size rfl ?_;intro w1 ho ag;have az:=hid (zad ag y.out);have HO:=hid (show VecS w1 W.heap.size (.slice (some ⟨W.heap.size,0,none⟩) NN NN) (List.replicate NN 0)from ho);have aO:=hid (show Bel W w1 from Bel.mk ag);obtain⟨bS,bW,bT,bX,b1,b4,cL,cy,cN,cC,bn,bl,bL,bz,bM,bB⟩:=bc8 az.out;clear ho ag))
 clear T;obtain⟨C,s,F,z,u,G,B,y0,y1,p,E⟩:=HO.out.at_ (k:=j) (q:=0) (by rw[List.getElem?_replicate,if_pos HJ.out]);clear E;go_cut[] (fun wy=>VecS wy W.heap.size (.slice (some ⟨W.heap.size,0,none⟩) NN NN) (zTj NN cols (zav A cols j) j 0)∧Below W.heap.size W wy)
 case first =>
  go_wp2_with fail
  with_reducible refine(Rt.int 1 (by decide) (by decide) _).mono ?_
  rintro e u1 ⟨g1,A1,m1,c1,D1,md1,cd1,rfl,hn,hb⟩;have bR:=hid (zad hb az.out);have Y:=hid (HO.out.below hb);have a4:=hid (aO.out.below hb);have HM:=hid (show RatS u1 g1 (A1,m1,c1) (D1,md1,cd1) ((1:Int):Rat)from hn);obtain⟨dJ,dH,dK,dI,dQ,dN,d1,dX,d2,dV,ds,dr,dy,dv,dz,dt⟩:=bc8 bR.out;have z0:=zab hb y0;have z1:=zab hb y1;have z2:=zab hb p;have aS:=Y.out.fro (j*3);have of1:=Y.out.fro (j*3+1);have aT:=Y.out.fro (j*3+2);clear hn hb;go_wp2;go_meet
  case rel=>exact⟨by rw[←zVE];exact VecS.store Y.out j HM.out,(Bel.set3 a4.out (Nat.le_refl _) _ _ _).b⟩
 case rest =>
  obtain⟨g,a⟩:=hcut;rename World=>w2
  clear y0 y1 p;have cV:=hid a;have aA:=hid (zad a y.out);have ay:=hid (HT.out.below a);have v:=hid (show VecS w2 W.heap.size (.slice (some ⟨W.heap.size,0,none⟩) NN NN) (zTj NN cols (zav A cols j) j 0)from g);have HW:=hid (show Bel W w2 from Bel.mk a);obtain⟨cd,bZ,ce,b0,cp,cn,bj,cR,bd,cT,bf,cO,bG,br,bI,bu⟩:=bc8 aA.out;have aP:W.heap.size<w2.heap.size:=(g.lt rfl).2;clear g a;clear bU bY bV bQ b2 b7 cK cx cM cA bm bk bD bw bt bx bS bW bT bX b1 b4 cL cy cN cC bn bl bL bz bM bB;go_wp2_with fail
  with_reducible refine(Tb.column ay.out j HJ.out aF.out).mono ?_
  rintro e w3 ⟨A3,n3,c3,rfl,g,hb⟩;have aB:=hid (zad hb aA.out);have a5:=hid (ay.out.below hb);have cm:=hid (v.out.below hb);have ci:=hid (HW.out.below hb);have aE:=hid (show VecS w3 w2.heap.size (A3,n3,c3) (zav A cols j)from g);obtain⟨b8,b5,b9,b6,cr,co,cz,cs,cD,ct,bg,cP,bH,bs,bJ,bv⟩:=bc8 aB.out;obtain rfl:m=n3:=by rw[g.len,(O.out.column_ok j).2]
  have aR:=hb.size;clear g hb;go_wp2_with fail
  with_reducible refine(Tb.basis a5.out).mono ?_
  rintro e w4 ⟨B0,cB,rfl,n,hb⟩;have cc:=hid (zad hb aB.out);have cq:=hid (cm.out.below hb);have cv:=hid (ci.out.below hb);have bP:=hid (aE.out.below hb);have aH:=hid (show IntsS w4 w2.heap.size (B0,m,cB) cols from(n.base aR));obtain⟨dO,dL,dP,dM,dY,dW,d3,dZ,d4,d0,dp,d6,dB,dA,dC,dw⟩:=bc8 cc.out;clear n hb;clear cd bZ ce b0 cp cn bj cR bd cT bf cO bG br bI bu b8 b5 b9 b6 cr co cz cs cD ct bg cP bH bs bJ bv;go_wp2
  go_loopw [38] (fun i wr=>∃k:Nat,i=.int .i64 k∧k≤m∧VecS wr W.heap.size (.slice (some ⟨W.heap.size,0,none⟩) NN NN) (zTj NN cols (zav A cols j) j k)∧VecS wr w2.heap.size (A3,m,c3) (zav A cols j)∧IntsS wr w2.heap.size (B0,m,cB) cols∧Below W.heap.size W wr)
   (fun i _=>m-(intOf i).toNat)
  case atStart=>exact⟨0,rfl,Nat.zero_le _,cq.out,bP.out,aH.out,cv.out.b⟩
  case round =>
   obtain⟨k,rfl,hk,g,hc,n,a⟩:=hrel;by_cases ai:k<m
   ·obtain⟨o,rfl,_,_⟩:=hc.has (by omega);obtain⟨bi,rfl,_,_⟩:=n.has (by omega);have ah:=O.out.lt k ai;have l0:=n.at_ (zaO (L:=cols) (i:=k) (d:=0) (by rw[O.out.len];exact ai));obtain⟨C,s,F,z,u,G,B,y0,y1,p,E⟩:=g.at_ (zTf ah);obtain⟨R,J,V,P,M,X,Q,z0,z1,z2,au⟩:=hc.at_ (zaH (xs:=zav A cols j) (j:=k) (by rw[(O.out.column_ok j).2];exact ai));have aa:=hid (zWJ (col:=zav A cols j) (j:=j) ah)
    have ap:=hid (show 4*(mw (way k (fun l=>cols.getD l 0) (fun r _=>el (zav A cols j) r) j (cols.getD k 0))+mw (el (zav A cols j) k))+8≤LIM by have h1:=z0o (zma m S S) an.out j (cols.getD k 0) k (cols:=cols);have h2:=zDJ (zma m S S) an.out k;have h3:=aN.out;have h4:k*(sB m S S+1)≤m*(sB m S S+1):=Nat.mul_le_mul_right _ hk;omega);generalize way k (fun l=>cols.getD l 0) (fun r _=>el (zav A cols j) r) j (cols.getD k 0)=wv at E aa ap;generalize cols.getD k 0=f at l0 ah y0 y1 p aa
    have Z:=hid (zad a y.out);have a3:=hid (HT.out.below a);have aK:=hid (show RatS wr C (s,F,z) (u,G,B) wv from E);have aL:=hid (show RatS wr R (J,V,P) (M,X,Q) (el (zav A cols j) k)from au);have v:=hid (show VecS wr W.heap.size (.slice (some ⟨W.heap.size,0,none⟩) NN NN) (zTj NN cols (zav A cols j) j k)from g);have HC:=hid (show VecS wr w2.heap.size (o,m,c3) (zav A cols j)from hc)
    have HI:=hid (show IntsS wr w2.heap.size (bi,m,cB) cols from n);have HW:=hid (show Bel W wr from Bel.mk a);have aC:=hid (t.out.trans ((a).mono t.out.size));obtain⟨cj,ch,cl,cf,bh,cQ,bc,cS,be,cU,bF,bC,bN,bK,bO,bE⟩:=bc8 Z.out;have cu:wr.cell? ⟨bi,k,none⟩=some (.int .i64 ((f:Nat):Int)):=l0;have aW:=zaa cu;have cE:wr.cell? ⟨W.heap.size,f*3,none⟩=some (.bool C):=y0;have aX:=zaa cE;have cF:wr.cell? ⟨W.heap.size,f*3+1,none⟩=some (s,F,z):=y1;have aY:=zaa cF
    have cG:wr.cell? ⟨W.heap.size,f*3+2,none⟩=some (u,G,B):=p;have aZ:=zaa cG;have cH:wr.cell? ⟨o,k*3,none⟩=some (.bool R):=z0;have a0:=zaa cH;have cI:wr.cell? ⟨o,k*3+1,none⟩=some (J,V,P):=z1;have a1:=zaa cI;have cJ:wr.cell? ⟨o,k*3+2,none⟩=some (M,X,Q):=z2;have a2:=zaa cJ;have c0:(0:Int)≤(k:Int):=Int.natCast_nonneg _;have c4:(k:Int)<(m:Int):=by omega
    have c5:(0:Int)≤(f:Int):=Int.natCast_nonneg _;have c6:(f:Int)<(NN:Int):=by omega
    clear g hc n a l0 y0 y1 p z0 z1 z2 E au;go_wp2_with fail
    refine za2 (S:=fun w'=>w'.cell? ⟨W.heap.size,f*3,none⟩=some (.bool C)∧w'.cell? ⟨W.heap.size,f*3+1,none⟩=some (s,F,z)∧w'.cell? ⟨W.heap.size,f*3+2,none⟩=some (u,G,B)∧w'.cell? ⟨o,k*3,none⟩=some (.bool R)∧w'.cell? ⟨o,k*3+1,none⟩=some (J,V,P)∧w'.cell? ⟨o,k*3+2,none⟩=some (M,X,Q)) 12 (h:=fun hHeld=>?_);refine zaw [0,1,2,3,4,5,6,7,8,9] ?_;repeat refine tkE (hS:=hHeld) (h:=?_)
    refine zao ?_;refine zaN 10 (h:=fun K D=>?_);go_simp
    (go_at_call 82;(with_reducible refine(Rt.sub C s F z u G B wv R J V P M X Q (el (zav A cols j) k) _ aK.out.drew aL.out.drew ap.out).mono ?_);rintro e u2 ⟨g2,A2,m2,c2,D2,md2,cd2,rfl,hn,hb⟩;have cg:=hid (zad hb Z.out);have I:=hid (v.out.drew.below hb);have bp:=hid (HC.out.drew.below hb);have bq:=hid (HI.out.drew.below hb);have bo:=hid (HW.out.drew.below hb);have HS:=hid (show RatS u2 g2 (A2,m2,c2) (D2,md2,cd2) (wv-el (zav A cols j) k)from hn);obtain⟨dT,dR,dU,dS,dq,d7,dm,d8,dn,d5,dx,du,dF,dD,dG,dE⟩:=bc8 cg.out;have cw:=zab hb aW;have df:=zaa cw;have a9:=zab hb aX;have dg:=zaa a9;have ba:=zab hb aY;have dh:=zaa ba;have bb:=zab hb aZ;have di:=zaa bb;have a6:=zab hb a0;have dj:=zaa a6;have a7:=zab hb a1;have dk:=zaa a7;have a8:=zab hb a2;have dl:=zaa a8;have aS:=I.out.fro (f*3);have of1:=I.out.fro (f*3+1);have aT:=I.out.fro (f*3+2);clear hn hb)
    (try go_wp2_with fail)
    refine D.out _ _ kp fun hHeld=>?_
    clear D K;try simp only[Act.put,pu1,pu2,pu3,pu4,pu5,pu6]
    refine zaw [11] ?_;repeat refine tkE (hS:=hHeld) (h:=?_)
    refine zao ?_;refine zba (h:=fun K D=>?_);go_simp;refine D.out _ _ ?_;clear D K;try simp only[Act.put,pu1,pu2,pu3,pu4,pu5,pu6]
    refine za1 (h:=?_);go_wp2;obtain⟨cW,U⟩:=I.out.ratBlk;go_roundw
    case rel=>exact⟨k+1,by go_num,by omega,by rw[←aa.out];exact VecS.store I.out f HS.out,VecS.set3 bp.out U (by decide) aP _ _ _ _ _ _,((bq.out.tk (TKeep.set U _) (by decide)).tk (TKeep.set (zar _ U) _) (by decide)).tk (TKeep.set (zar _ (zar _ U)) _) (by decide),(Bel.set3 bo.out (Nat.le_refl _) _ _ _).b⟩
    case measure=>simp[intOf];omega
   ·obtain rfl:m=k:=by omega
    have Z:=hid (zad a y.out);have a3:=hid (HT.out.below a);have v:=hid (show VecS wr W.heap.size (.slice (some ⟨W.heap.size,0,none⟩) NN NN) (zTj NN cols (zav A cols j) j m)from g);have aC:=hid (t.out.trans ((a).mono t.out.size));obtain⟨cj,ch,cl,cf,bh,cQ,bc,cS,be,cU,bF,bC,bN,bK,bO,bE⟩:=bc8 Z.out;have dd:(own:Int)≤(NN:Int):=by omega
    have de:(0:Int)≤(own:Int):=Int.natCast_nonneg _;clear g hc n a;go_wp2;go_ret
    exact⟨_,_,rfl,(v.out.cut own aQ).base t.out.size,aC.out⟩
end Pr
end
