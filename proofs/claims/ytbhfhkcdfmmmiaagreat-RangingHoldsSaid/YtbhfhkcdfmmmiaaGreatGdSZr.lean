/- Contracts and lemmas: PrY GdS PrS Ng Shp Own. Conditions: as each says. -/
import Derived.Test.YtbhfhkcdfmmmiaaGreatPrFZr
import Derived.Test.YtbhfhkcdfmmmiaaGreatPrBZr
set_option linter.all false
set_option maxHeartbeats 2000000
set_option maxRecDepth 100000
namespace Go.Proofs.YtbhfhkcdfmmmiaaGreat
open Go.RowKit Am Go.Proofs.Tryz
attribute [local go_sem ↓] Go.wp_at_zero Go.wp_at_succ
variable {A:List (List Rat)}{cols:List Nat}{rows:List PRow}{b col cost ys:List Rat}{B N NN S Z i j k m nC:Nat}
def zTj (NN:Nat) (cols:List Nat) (col:List Rat) (j k:Nat):List Rat:=(List.range NN).map fun i=>way k (fun l=>cols.getD l 0) (fun r _=>el col r) j i
theorem zSN(NN:Nat)(cols:List Nat)(col:List Rat)(j k:Nat):(zTj NN cols col j k).length=NN:=by simp[zTj]
theorem zTf(h:i<NN):(zTj NN cols col j k)[i]? = some (way k (fun l=>cols.getD l 0) (fun r _=>el col r) j i):=by
 unfold zTj;rw[List.getElem?_map,List.getElem?_range h];rfl
theorem zVE:(List.replicate NN (0:Rat)).set j 1=zTj NN cols col j 0:=by
 apply List.ext_getElem?;intro i;rw[List.getElem?_set,List.length_replicate];by_cases a:i<NN
 ·rw[zTf a,List.getElem?_replicate,if_pos a];unfold way pt;by_cases e:j=i
  ·subst e;rw[if_pos rfl,if_pos a,if_pos rfl];simp only[zai,Rat.add_zero]
  ·rw[if_neg e,if_neg (Ne.symm e)];simp only[zai,Rat.add_zero]
 ·rw[List.getElem?_eq_none (l:=zTj _ _ _ _ _) (by rw[zSN];omega)];by_cases e:j=i
  ·rw[if_pos e,if_neg (by omega)]
  ·rw[if_neg e,List.getElem?_eq_none (by simpa using a)]
theorem zWJ(hc:cols.getD k 0<NN):(zTj NN cols col j k).set (cols.getD k 0) (way k (fun l=>cols.getD l 0) (fun r _=>el col r) j (cols.getD k 0)-el col k)=zTj NN cols col j (k+1):=by
 apply List.ext_getElem?;intro i;rw[List.getElem?_set,zSN];by_cases a:i<NN
 ·rw[zTf a,zTf a];unfold way pt;rw[zai];by_cases e:cols.getD k 0=i
  ·rw[if_pos e,if_pos hc,if_pos e,←e];congr 1;grind
  ·rw[if_neg e,if_neg e];congr 1;grind
 ·rw[List.getElem?_eq_none (l:=zTj _ _ _ _ _) (by rw[zSN];omega),List.getElem?_eq_none (l:=zTj _ _ _ _ _) (by rw[zSN];omega)];by_cases e:cols.getD k 0=i
  ·exfalso;omega
  ·rw[if_neg e]
theorem z0o(a:1≤Z)(zc:∀q∈col,mw q≤Z)(j i k:Nat):mw (way k (fun l=>cols.getD l 0) (fun r _=>el col r) j i)≤k*(Z+1)+3:=by
 show mw ((if i=j then (1:Rat)else 0)+pt k (fun l=>cols.getD l 0) (fun l => -el col l) i)≤_
 have h1:mw (pt k (fun l=>cols.getD l 0) (fun l => -el col l) i)≤k*(Z+1)+1:=zrK (fun l=>by
  split
  ·rw[zhY];exact zDJ a zc l
  ·exact Nat.le_trans mw0 a) k
 have d:mw (if i=j then (1:Rat)else 0)≤1:=by split;exact mw1;exact mw0
 generalize k*(Z+1)=T at h1 ⊢;have e:=zrI (if i=j then (1:Rat)else 0) (pt k (fun l=>cols.getD l 0) (fun l => -el col l) i);omega
section
variable {W0 w:World} {H q:Nat} {rA:OA} {rc:Nat} {lA:List Value} {bA:OA} {bc_:Nat} {kA:OA} {kc:Nat} {eA:OA} {ec m NN S own:Nat} {A:List (List Rat)} {b c:List Rat} {left:List Int}
  {tA:OA} {tc:Nat} {cols:List Nat}
namespace Pr
theorem pray(h:zhi W0 w H q rA rc lA bA bc_ kA kc eA ec m NN S own A b c left tA tc cols)(gA:OA)(gc N j:Nat)(hj:j<NN)(ax:zor m S≤LIM)(hZ:4*(m*(sB m S S+1)+3+sB m S S)+8≤LIM)(aR:own≤NN) :
  Calls prog 75 #[.agg #[(rA,m,rc),(NN:Int),(bA,m,bc_),(kA,NN,kc),(own:Int),(eA,m,ec),(gA,m,gc),(N:Int)],.pointer (some ⟨q,0,none⟩),(j:Int)] w fun e w'=>∃(A':OA) (c':Nat),e=.returned (A',own,c')∧VecS w' w (A',own,c') ((zTj NN cols (zav A cols j) j m).take own)∧Below w w w':=by
 have P:=un h.basis;have aG:=un ax;have aO:=un hZ;have HJ:=un hj;have dc:=h.std.hm;have dd:=h.std.hN;have c8:(0:Int)≤(j:Int):=Int.natCast_nonneg _;have c9:¬(j:Int)<0:=by omega
 have da:(j:Int)<(NN:Int):=by omega
 have db:¬(NN:Int)≤(j:Int):=by omega
 have ao:=un (show ∀x∈zav A cols j,mw x≤sB m S S by
  obtain⟨_,_,_,hP⟩:=h;exact zVc hP.basis hP.bas.good.2.2 (hP.std.zcol hj))
 have HP:=un h;clear ax hZ h;obtain⟨W,U⟩:∃W,(w.alloc (.cells #[(rA,m,rc),(NN:Int),(bA,m,bc_),(kA,NN,kc),(own:Int),(eA,m,ec),(gA,m,gc),(N:Int)] 117))=W:=⟨_,rfl⟩
 have z:=un (show W.heap[w.heap.size]? = some (.cells #[(rA,m,rc),(NN:Int),(bA,m,bc_),(kA,NN,kc),(own:Int),(eA,m,ec),(gA,m,gc),(N:Int)] 117 (0,0))by rw[←U];exact zam (by simp));have u:=un (show Below w w W by rw[←U];exact zae w _);have HT:=un (show zhi W0 W H q rA rc lA bA bc_ kA kc eA ec m NN S own A b c left tA tc cols by rw[←U];exact(HP.o).alloc _);obtain⟨bV,bZ,bW,bR,b4,b8,cL,cy,cN,cC,bn,bl,bE,bx,bu,bz⟩:=bc8 z.o
 go_enter func75,ntmps75;go_upto_region 4 with (at_make;go_must (refine zdv rfl _ _ rfl NN _ rfl rfl rfl (by omega) W.heap.size rfl ?_;intro w1 ho ah;have aA:=un (zad ah z.o);have HO:=un (show VecS w1 W.heap.size (.slice (some ⟨W.heap.size,0,none⟩) NN NN) (List.replicate NN 0)from ho);have aP:=un (show Bel W w1 from Bel.mk ah);obtain⟨bT,bX,bU,bY,b2,b5,cM,cz,cO,cD,bo,bm,bM,bB,bN,bC⟩:=bc8 aA.o;clear ho ah))
 clear U;obtain⟨D,t,G,B,v,I,C,y0,y1,s,F⟩:=HO.o.at_ (k:=j) (q:=0) (by rw[List.getElem?_replicate,if_pos HJ.o]);clear F;go_cut[] (fun wy=>VecS wy W.heap.size (.slice (some ⟨W.heap.size,0,none⟩) NN NN) (zTj NN cols (zav A cols j) j 0)∧Below W.heap.size W wy)
 case first =>
  go_wp2_with fail
  with_reducible refine(Rt.int 1 (by decide) (by decide) _).mono ?_
  rintro e u1 ⟨g1,A1,m1,c1,D1,md1,cd1,rfl,hn,hb⟩;have bS:=un (zad hb aA.o);have Z:=un (HO.o.below hb);have a5:=un (aP.o.below hb);have HM:=un (show RatS u1 g1 (A1,m1,c1) (D1,md1,cd1) ((1:Int):Rat)from hn);obtain⟨dK,dI,dL,dJ,dR,dO,d2,dY,d3,dW,dt,ds,dz,dw,dA,du⟩:=bc8 bS.o;have z0:=zab hb y0;have z1:=zab hb y1;have z2:=zab hb s;have aT:=Z.o.fro (j*3);have of1:=Z.o.fro (j*3+1);have aU:=Z.o.fro (j*3+2);clear hn hb;go_wp2;go_meet
  case rel=>exact⟨by rw[←zVE];exact VecS.store Z.o j HM.o,(Bel.set3 a5.o (Nat.le_refl _) _ _ _).b⟩
 case rest =>
  obtain⟨g,a⟩:=hcut;rename World=>w2
  clear y0 y1 s;have cW:=un a;have aB:=un (zad a z.o);have az:=un (HT.o.below a);have y:=un (show VecS w2 W.heap.size (.slice (some ⟨W.heap.size,0,none⟩) NN NN) (zTj NN cols (zav A cols j) j 0)from g);have HW:=un (show Bel W w2 from Bel.mk a);obtain⟨ce,b0,cf,b1,cq,co,bk,cS,be,cU,bg,cP,bH,bs,bJ,bv⟩:=bc8 aB.o;have aQ:W.heap.size<w2.heap.size:=(g.lt rfl).2;clear g a;clear bV bZ bW bR b4 b8 cL cy cN cC bn bl bE bx bu bz bT bX bU bY b2 b5 cM cz cO cD bo bm bM bB bN bC;go_wp2_with fail
  with_reducible refine(Tb.column az.o j HJ.o aG.o).mono ?_
  rintro e w3 ⟨A3,n3,c3,rfl,g,hb⟩;have aC:=un (zad hb aB.o);have a6:=un (az.o.below hb);have cn:=un (y.o.below hb);have cj:=un (HW.o.below hb);have aF:=un (show VecS w3 w2 (A3,n3,c3) (zav A cols j)from g);obtain⟨b9,b6,cc,b7,cs,cp,cA,ct,cE,cu,bh,cQ,bI,bt,bK,bw⟩:=bc8 aC.o;obtain rfl:m=n3:=by rw[g.len,(P.o.column_ok j).2]
  have aS:=hb.size;clear g hb;go_wp2_with fail
  with_reducible refine(Tb.basis a6.o).mono ?_
  rintro e w4 ⟨B0,cB,rfl,o,hb⟩;have cd:=un (zad hb aC.o);have cr:=un (cn.o.below hb);have cw:=un (cj.o.below hb);have bQ:=un (aF.o.below hb);have aI:=un (show IntsS w4 w2 (B0,m,cB) cols from(o.base aS));obtain⟨dP,dM,dQ,dN,dZ,dX,d4,d0,d5,d1,dq,d7,dC,dB,dD,dx⟩:=bc8 cd.o;clear o hb;clear ce b0 cf b1 cq co bk cS be cU bg cP bH bs bJ bv b9 b6 cc b7 cs cp cA ct cE cu bh cQ bI bt bK bw;go_wp2
  go_loopw [38] (fun i wr=>∃k:Nat,i=.int .i64 k∧k≤m∧VecS wr W.heap.size (.slice (some ⟨W.heap.size,0,none⟩) NN NN) (zTj NN cols (zav A cols j) j k)∧VecS wr w2 (A3,m,c3) (zav A cols j)∧IntsS wr w2 (B0,m,cB) cols∧Below W.heap.size W wr)
   (fun i _=>m-(intOf i).toNat)
  case atStart=>exact⟨0,rfl,Nat.zero_le _,cr.o,bQ.o,aI.o,cw.o.b⟩
  case round =>
   obtain⟨k,rfl,hk,g,hc,o,a⟩:=hrel;by_cases aj:k<m
   ·obtain⟨p,rfl,_,_⟩:=hc.has (by omega);obtain⟨bi,rfl,_,_⟩:=o.has (by omega);have ai:=P.o.lt k aj;have l0:=o.at_ (zaO (L:=cols) (i:=k) (d:=0) (by rw[P.o.len];exact aj));obtain⟨D,t,G,B,v,I,C,y0,y1,s,F⟩:=g.at_ (zTf ai);obtain⟨T,M,X,Q,O,Y,R,z0,z1,z2,av⟩:=hc.at_ (zaH (xs:=zav A cols j) (j:=k) (by rw[(P.o.column_ok j).2];exact aj));have ab:=un (zWJ (col:=zav A cols j) (j:=j) ai)
    have aq:=un (show 4*(mw (way k (fun l=>cols.getD l 0) (fun r _=>el (zav A cols j) r) j (cols.getD k 0))+mw (el (zav A cols j) k))+8≤LIM by have h1:=z0o (zma m S S) ao.o j (cols.getD k 0) k (cols:=cols);have h2:=zDJ (zma m S S) ao.o k;have h3:=aO.o;have h4:k*(sB m S S+1)≤m*(sB m S S+1):=Nat.mul_le_mul_right _ hk;omega);generalize way k (fun l=>cols.getD l 0) (fun r _=>el (zav A cols j) r) j (cols.getD k 0)=wv at F ab aq;generalize cols.getD k 0=f at l0 ai y0 y1 s ab
    have aa:=un (zad a z.o);have a4:=un (HT.o.below a);have aL:=un (show RatS wr D (t,G,B) (v,I,C) wv from F);have aM:=un (show RatS wr T (M,X,Q) (O,Y,R) (el (zav A cols j) k)from av);have y:=un (show VecS wr W.heap.size (.slice (some ⟨W.heap.size,0,none⟩) NN NN) (zTj NN cols (zav A cols j) j k)from g);have HC:=un (show VecS wr w2 (p,m,c3) (zav A cols j)from hc)
    have HI:=un (show IntsS wr w2 (bi,m,cB) cols from o);have HW:=un (show Bel W wr from Bel.mk a);have aD:=un (u.o.trans ((a).mono u.o.size));obtain⟨cl,ci,cm,cg,bj,cR,bd,cT,bf,cV,bG,bD,bO,bL,bP,bF⟩:=bc8 aa.o;have cv:wr.cell? ⟨bi,k,none⟩=some (.int .i64 ((f:Nat):Int)):=l0;have aX:=zaa cv;have cF:wr.cell? ⟨W.heap.size,f*3,none⟩=some (.bool D):=y0;have aY:=zaa cF;have cG:wr.cell? ⟨W.heap.size,f*3+1,none⟩=some (t,G,B):=y1;have aZ:=zaa cG
    have cH:wr.cell? ⟨W.heap.size,f*3+2,none⟩=some (v,I,C):=s;have a0:=zaa cH;have cI:wr.cell? ⟨p,k*3,none⟩=some (.bool T):=z0;have a1:=zaa cI;have cJ:wr.cell? ⟨p,k*3+1,none⟩=some (M,X,Q):=z1;have a2:=zaa cJ;have cK:wr.cell? ⟨p,k*3+2,none⟩=some (O,Y,R):=z2;have a3:=zaa cK;have c4:(0:Int)≤(k:Int):=Int.natCast_nonneg _;have c5:(k:Int)<(m:Int):=by omega
    have c6:(0:Int)≤(f:Int):=Int.natCast_nonneg _;have c7:(f:Int)<(NN:Int):=by omega
    clear g hc o a l0 y0 y1 s z0 z1 z2 F av;go_wp2_with fail
    refine za2 (S:=fun w'=>w'.cell? ⟨W.heap.size,f*3,none⟩=some (.bool D)∧w'.cell? ⟨W.heap.size,f*3+1,none⟩=some (t,G,B)∧w'.cell? ⟨W.heap.size,f*3+2,none⟩=some (v,I,C)∧w'.cell? ⟨p,k*3,none⟩=some (.bool T)∧w'.cell? ⟨p,k*3+1,none⟩=some (M,X,Q)∧w'.cell? ⟨p,k*3+2,none⟩=some (O,Y,R)) 12 (h:=fun hHeld=>?_);refine zaw [0,1,2,3,4,5,6,7,8,9] ?_;repeat refine tkE (hS:=hHeld) (h:=?_)
    refine zao ?_;refine zaN 10 (h:=fun K E=>?_);go_simp
    (go_at_call 37;(with_reducible refine(Rt.sub D t G B v I C wv T M X Q O Y R (el (zav A cols j) k) _ aL.o.drew aM.o.drew aq.o).mono ?_);rintro e u2 ⟨g2,A2,m2,c2,D2,md2,cd2,rfl,hn,hb⟩;have ch:=un (zad hb aa.o);have J:=un (y.o.drew.below hb);have bq:=un (HC.o.drew.below hb);have br:=un (HI.o.drew.below hb);have bp:=un (HW.o.drew.below hb);have HS:=un (show RatS u2 g2 (A2,m2,c2) (D2,md2,cd2) (wv-el (zav A cols j) k)from hn);obtain⟨dU,dS,dV,dT,dr,d8,dn,d9,dp,d6,dy,dv,dG,dE,dH,dF⟩:=bc8 ch.o;have cx:=zab hb aX;have dg:=zaa cx;have ba:=zab hb aY;have dh:=zaa ba;have bb:=zab hb aZ;have di:=zaa bb;have bc:=zab hb a0;have dj:=zaa bc;have a7:=zab hb a1;have dk:=zaa a7;have a8:=zab hb a2;have dl:=zaa a8;have a9:=zab hb a3;have dm:=zaa a9;have aT:=J.o.fro (f*3);have of1:=J.o.fro (f*3+1);have aU:=J.o.fro (f*3+2);clear hn hb)
    (try go_wp2_with fail)
    refine E.o _ _ kp fun hHeld=>?_
    clear E K;try simp only[Act.put,pu1,pu2,pu3,pu4,pu5,pu6]
    refine zaw [11] ?_;repeat refine tkE (hS:=hHeld) (h:=?_)
    refine zao ?_;refine zba (h:=fun K E=>?_);go_simp;refine E.o _ _ ?_;clear E K;try simp only[Act.put,pu1,pu2,pu3,pu4,pu5,pu6]
    refine za1 (h:=?_);go_wp2;obtain⟨cX,V⟩:=J.o.ratBlk;go_roundw
    case rel=>exact⟨k+1,by go_num,by omega,by rw[←ab.o];exact VecS.store J.o f HS.o,VecS.set3 bq.o V (by decide) aQ _ _ _ _ _ _,((br.o.tk (TKeep.set V _) (by decide)).tk (TKeep.set (zar _ V) _) (by decide)).tk (TKeep.set (zar _ (zar _ V)) _) (by decide),(Bel.set3 bp.o (Nat.le_refl _) _ _ _).b⟩
    case measure=>simp[intOf];omega
   ·obtain rfl:m=k:=by omega
    have aa:=un (zad a z.o);have a4:=un (HT.o.below a);have y:=un (show VecS wr W.heap.size (.slice (some ⟨W.heap.size,0,none⟩) NN NN) (zTj NN cols (zav A cols j) j m)from g);have aD:=un (u.o.trans ((a).mono u.o.size));obtain⟨cl,ci,cm,cg,bj,cR,bd,cT,bf,cV,bG,bD,bO,bL,bP,bF⟩:=bc8 aa.o;have de:(own:Int)≤(NN:Int):=by omega
    have df:(0:Int)≤(own:Int):=Int.natCast_nonneg _;clear g hc o a;go_wp2;go_ret
    exact⟨_,_,rfl,(y.o.cut own aR).base u.o.size,aD.o⟩
end Pr
end
theorem zVF:∀n,n≤4→sB n 1 1≤1000000:=by decide +kernel
theorem zWc:∀n,n≤4→zor n 1≤LIM:=by unfold LIM;decide +kernel
structure Shape (nC:Nat) (rows:List PRow):Prop where
  co:∀p∈rows,p.coef.length=nC
  kd:Kinds rows
structure GoodS (S nC m:Nat) (cost:List Rat) (rows:List PRow):Prop where
  sc:∀q∈cost,mw q≤S
  rw_:∀p∈rows,p.coef.length=nC∧(∀q∈p.coef,mw q≤S)∧mw p.rhs≤S
  kd:Kinds rows
  h1:1≤S
  hS:S≤4000000
  hc:nC≤24
  hr:m≤20
  cap:zor m S≤LIM
  sb:sB m S S≤4000000
theorem Good1.toS(h:Good1 nC m cost rows):GoodS 1 nC m cost rows :=
 ⟨h.sc,h.rw_,h.kd,Nat.le_refl _,by decide,by have:=h.hc;omega,by have:=h.hr;omega,zWc m h.hr,Nat.le_trans (zVF m h.hr) (by decide)⟩
theorem GoodS.sh(h:GoodS S nC m cost rows):Shape nC rows:=⟨fun p a=>(h.rw_ p a).1,h.kd⟩
theorem zTX{c:List Rat}{r s:RunOut}{d:(List Nat × Nat) × Bool}(hN:N+m=NN)(hr:pivs (zBX NN (zt0 A b) (zwh b) (zJG N m) (zKc N m)) B (zKa N m)=r)
  (i:zSz N NN (zt0 A b) (B-r.n) m 0 (r.cols,0)=d) (l:pivs (zBX NN (zt0 A b) (zwh b) (zKb m c) (zKc N m)) (B-(r.n+d.1.2)) d.1.1=s) :
  (r.err=true→zSA N m A b c B=.spent r.n)∧(r.err=false→0<zSB N m A b r.cols→zSA N m A b c B=.none r.cols r.n) ∧
  (r.err=false→¬0<zSB N m A b r.cols→d.2=true→zSA N m A b c B=.spent (r.n+d.1.2)) ∧
  (r.err=false→¬0<zSB N m A b r.cols→d.2=false→s.err=true→zSA N m A b c B=.spent (r.n+d.1.2+s.n)) ∧
  (r.err=false→¬0<zSB N m A b r.cols→d.2=false→s.err=false→s.at_=none→zSA N m A b c B=.best s.cols (r.n+d.1.2+s.n)) ∧
  (∀j,r.err=false→¬0<zSB N m A b r.cols→d.2=false→s.err=false→s.at_=some j→zSA N m A b c B=.falls s.cols j (r.n+d.1.2+s.n)):=by
 subst hN;unfold zSA;simp only[hr,i,l];refine⟨fun h=>by rw[if_pos h],fun h a=>by rw[h,if_pos a];rfl,fun h a e=>by rw[h,if_neg a,if_pos e];rfl,fun h a e f=>by rw[h,if_neg a,e,if_pos f];rfl,fun h a e f g=>by rw[h,if_neg a,e,f,g];rfl,fun j h a e f g=>by rw[h,if_neg a,e,f,g];rfl⟩
def zVM (w:World) (nC m N NN:Nat) (A0:List (List Rat)) (b0 c0:List Rat) (B:Nat) (o:Out) (e:Ending) (w':World):Prop :=
  Below w w w'∧match o with
    | .spent _=>∃ev,e=.returned (.tuple #[.agg #[.int .i64 0,(),(),(),.int .i64 0],ev])∧Spent w' B ev
    | .none cols n=>∃(Y:OA) (cY:Nat),e=.returned (.tuple #[.agg #[.int .i64 2,(),(Y,m,cY),(),(n:Int)],.nilIface])∧VecS w' w (Y,m,cY) (bkL (b0.map sgI) (zcl (zt0 A0 b0) cols (zJG N m)) m)
    | .best cols n=>∃(P:OA) (cP:Nat) (Y:OA) (cY:Nat),e=.returned (.tuple #[.agg #[.int .i64 1,(P,nC,cP),(Y,m,cY),(),(n:Int)],.nilIface])∧VecS w' w (P,nC,cP) ((zh1 NN cols (za5 (zt0 A0 b0) (zwh b0) cols)).take nC)∧VecS w' w (Y,m,cY) (bkL (b0.map sgI) (zcl (zt0 A0 b0) cols (zKb m c0)) m)
    | .falls cols j n=>∃(P:OA) (cP:Nat) (D:OA) (cD:Nat),e=.returned (.tuple #[.agg #[.int .i64 3,(P,nC,cP),(),(D,nC,cD),(n:Int)],.nilIface])∧VecS w' w (P,nC,cP) ((zh1 NN cols (za5 (zt0 A0 b0) (zwh b0) cols)).take nC)∧VecS w' w (D,nC,cD) ((zTj NN cols (zav (zt0 A0 b0) cols j) j m).take nC)
namespace Pr
open Du (zCr)
theorem zYk(rA:OA)(rc:Nat)(lA:List Value)(bA:OA)(bc_:Nat)(kA:OA)(kc:Nat)(eA:OA)(ec m N NN S own:Nat)(d:List (List Rat))(a f:List Rat)(left:List Int)(w:World)(hS:StdP w rA rc lA bA bc_ kA kc eA ec m N S d a f left)(o:NN≤64)(j:N+m=NN)(hl:left.length=m)(l:8*S+8≤LIM) :
  Calls prog 53 #[.agg #[(rA,m,rc),(N:Int),(bA,m,bc_),(kA,N,kc),(own:Int),(eA,m,ec)]] w fun e w'=>∃(rA:OA) (rc:Nat) (lA:List Value) (bA:OA) (bc_:Nat) (kA:OA) (kc:Nat) (eA:OA) (ec:Nat) (g:OA) (i:Nat),
   e=.returned (.tuple #[.agg #[(rA,m,rc),(NN:Int),(bA,m,bc_),(kA,NN,kc),(own:Int),(eA,m,ec),(g,m,i),(N:Int)],.nilIface]) ∧
   StdP w' rA rc lA bA bc_ kA kc eA ec m NN S (zt0 d a) (zwh a) (zKb m f) left∧IntsZ w' 0 (g,m,i) (a.map sgI)∧Below w w w':=by
 subst j;exact pbegin rA rc lA bA bc_ kA kc eA ec m N S own d a f left w hS o hl l
theorem psolve(S:Nat)(C:OA)(nC Z:Nat)(R:OA)(m cR:Nat)(cost:List Rat)(rows:List PRow)(N NN B:Nat)(w:World)(hc:VecS w 0 (C,nC,Z) cost)(hr:RowsS w 0 (R,m,cR) rows)(hg:GoodS S nC m cost rows)(hN:nC+cnt rows m=N)(aZ:N+m=NN)(F:B≤1000000) :
  Calls prog 29 #[.agg #[(C,nC,Z),(R,m,cR)],(B:Int)] w (zVM w nC m N NN (zc3 rows) (zg8 rows) (zjD cost rows) B (zSA N m (zc3 rows) (zg8 rows) (zjD cost rows) B)):=by
 have jy:=un hc.len;have jz:=un hr.len;have HG:=un hg;have HN:=un hN;have ai:=un aZ;have jC:=zgO rows m;have c9:=hg.hr;have jB:=hg.hc;have bC:NN≤64:=by omega
 have da:m≤64:=by omega
 have cL:=un (show Rows nC rows from fun p G=>⟨(hg.rw_ p G).1,fun q hq=>Nat.le_trans ((hg.rw_ p G).2.1 q hq) hg.hS,Nat.le_trans (hg.rw_ p G).2.2 hg.hS⟩);have az:=un hg.cap;have cQ:=un hg.sb;have H8:=un (show 8*S+8≤LIM by rw[zaP];have:=hg.hS;omega);have cO:=un (show 8*sB m S S+8≤LIM by rw[zaP];have:=hg.sb;omega);have cJ:=un (show 4*(m*(sB m S S+1)+3+sB m S S)+8≤LIM by rw[zaP];have h1:=hg.sb;have h2:m*(sB m S S+1)≤20*(sB m S S+1):=Nat.mul_le_mul_right _ c9;omega);have bh:=un F
 have cI:=un (show Rect m N (zc3 rows)by have:=zlk (n:=nC) (rows:=rows) fun k hk=>(hg.rw_ _ (List.mem_of_getElem? (zaO hk))).1;rw[←hr.len,hN]at this;exact this);have cw:=un (show(zg8 rows).length=m by rw[zxG,←hr.len]);obtain⟨r,aE⟩:∃r,pivs (zBX NN (zt0 (zc3 rows) (zg8 rows)) (zwh (zg8 rows)) (zJG N m) (zKc N m)) B (zKa N m)=r:=⟨_,rfl⟩
 obtain⟨d,aD⟩:∃d,zSz N NN (zt0 (zc3 rows) (zg8 rows)) (B-r.n) m 0 (r.cols,0)=d:=⟨_,rfl⟩
 obtain⟨s,ae⟩:∃s,pivs (zBX NN (zt0 (zc3 rows) (zg8 rows)) (zwh (zg8 rows)) (zKb m (zjD cost rows)) (zKc N m)) (B-(r.n+d.1.2)) d.1.1=s:=⟨_,rfl⟩
 have O:=un (zTX aZ aE aD ae);have cH:=un aE;have cr:=un aD;have cK:=un (show r.n≤B by rw[←aE];exact zLj _ _ _);have cs:=un (show d.1.2≤B-r.n by have h:=zSH m 0 (r.cols,0) (own:=N) (N:=NN) (A:=zt0 (zc3 rows) (zg8 rows)) (B:=B-r.n);rw[aD]at h;exact h.2 (Nat.zero_le _));obtain⟨n,hn⟩:∃n,r.n+d.1.2=n:=⟨_,rfl⟩
 rw[hn]at O ae;have cN:=un ae;have cA:=un hn;have cz:=un (show n≤B by have:=cK.o;have:=cs.o;omega);have bl:=un (show s.n≤B-n by rw[←ae];exact zLj _ _ _);have cS:=un (show ∀j,Basis m NN (zt0 (zc3 rows) (zg8 rows)) s.cols→s.err=false→s.at_=some j→j<NN by
  intro j c5 h1 h2;obtain⟨e1,_,_,e4,_⟩:=zoW (zBX NN (zt0 (zc3 rows) (zg8 rows)) (zwh (zg8 rows)) (zKb m (zjD cost rows)) (zKc N m)) (B-n) d.1.1;rw[ae]at e1 e4;have e:=e4 h1;rw[h2,←e1]at e;exact(zSR c5 (by rw[zSS];unfold zjD;rw[List.length_append,List.length_replicate,←hc.len,←hr.len];omega) e).1)
 generalize hoo:zSA N m (zc3 rows) (zg8 rows) (zjD cost rows) B=o at *
 clear hg hN aZ F aE aD ae hn hoo;obtain⟨W,U⟩:∃W,((w.alloc (.cells #[(C,nC,Z),(R,m,cR)] 31)).alloc (.cells #[.int .i64 0,(),(),(),.int .i64 0] 76))=W:=⟨_,rfl⟩
 have bo:=un (show W.heap[w.heap.size]? = some (.cells #[(C,nC,Z),(R,m,cR)] 31 (0,0))by rw[←U];exact zak (zam (by simp)));have bp:=un (show W.heap[w.heap.size+1]? = some (.cells #[.int .i64 0,(),(),(),.int .i64 0] 76 (0,0))by rw[←U];exact zam (by simp));have BB:=un (show Below w w W by rw[←U];exact(zae w _).alloc (by simp) _);have HZ:=un (show w.heap.size+2≤W.heap.size by rw[←U];simp)
 have HC:=un (show VecS W 0 (C,nC,Z) cost by rw[←U];exact((hc).alloc _).alloc _);have HR:=un (show RowsS W 0 (R,m,cR) rows by rw[←U];exact((hr).alloc _).alloc _);obtain⟨f2,ga,f3,fX⟩:=bc2 bo.o;obtain⟨gt,gp,gR,gj,gm,gy,gC,gf,gH,gM,hA,g3,jb,iS,iM,ij,jd,iW,iP,im⟩:=bf5 bp.o;clear hc hr;go_enter func29,ntmps29;go_wp2_with fail
 clear U;with_reducible refine(Pb.standardN S HG.o.h1 C nC Z R m cR cost rows N HN.o _ HC.o HR.o (by omega) (by omega) cL.o HG.o.kd HG.o.sc (fun p G=>(HG.o.rw_ p G).2)).mono ?_
 rintro e w1 ⟨rA,rc,lA,bA,bc_,kA,kc,eA,ec,rfl,hst,hb⟩;have cd:=un (zad hb bo.o);have ca:=un (zad hb bp.o);have cU:=un (show StdP w1 rA rc lA bA bc_ kA kc eA ec m N S (zc3 rows) (zg8 rows) (zjD cost rows) (zca nC rows m)from hst);have cc:=un (BB.o.trans ((hb).mono BB.o.size));obtain⟨f0,f8,f1,f9⟩:=bc2 cd.o;obtain⟨gq,f6,gN,gh,gu,fW,gJ,gn,gg,gz,gX,gL,jc,iT,iN,ik,je,iX,iQ,io⟩:=bf5 ca.o;clear hst hb
 have aC:=zae w1 (.cells #[(rA,m,rc),(N:Int),(bA,m,bc_),(kA,N,kc),(nC:Int),(eA,m,ec)] 113);have cb:=un (zad aC cd.o);have ce:=un (zad aC ca.o);have jo:=un (cU.o.below aC);have cf:=un (cc.o.trans ((aC).mono cc.o.size));obtain⟨f4,fY,f5,fZ⟩:=bc2 cb.o;obtain⟨gr,f7,ge,gv,gs,fV,gO,gi,gB,gl,hC,g4,iU,ih,ic,hx,iY,hZ,ie,hy⟩:=bf5 ce.o
 have KS:=un (zal w1 #[(rA,m,rc),(N:Int),(bA,m,bc_),(kA,N,kc),(nC:Int),(eA,m,ec)] 113);obtain⟨ha,g7,hd,g8,hV,gU,i3,jf,jq,jh,js,jj⟩:=bc6 KS.o;go_wp2_with fail
 with_reducible refine(zYk rA rc lA bA bc_ kA kc eA ec m N NN S nC (zc3 rows) (zg8 rows) (zjD cost rows) (zca nC rows m) _ jo.o bC ai.o (zsk _ _ _) H8.o).mono ?_
 rintro e t ⟨rA2,rc2,lA2,bA2,bz2,kA2,kc2,eA2,ec2,gA,gc,rfl,hst,hz,hb⟩;have cg:=un (zad hb cb.o);have cj:=un (zad hb ce.o);have cl:=un (zad hb KS.o);have cT:=un (show StdP t rA2 rc2 lA2 bA2 bz2 kA2 kc2 eA2 ec2 m NN S (zt0 (zc3 rows) (zg8 rows)) (zwh (zg8 rows)) (zKb m (zjD cost rows)) (zca nC rows m)from hst);have cu:=un (show IntsZ t 0 (gA,m,gc) ((zg8 rows).map sgI)from hz);have ch:=un (cf.o.trans ((hb).mono cf.o.size));obtain⟨g5,gb,g6,gd⟩:=bc2 cg.o
 obtain⟨iq,hf,iJ,hJ,ir,hh,ix,hL,iB,hQ,iy,hM,iV,ii,iO,il,iZ,h0,iR,ip⟩:=bf5 cj.o;obtain⟨jl,i8,jm,i9,jn,ja,jp,jg,jr,ji,jt,jk⟩:=bc6 cl.o;clear hst hz hb;have ad:=zae t (.cells #[(rA2,m,rc2),(NN:Int),(bA2,m,bz2),(kA2,NN,kc2),(nC:Int),(eA2,m,ec2),(gA,m,gc),(N:Int)] 117);have av:=un (zad ad cg.o);have ag:=un (zad ad cj.o);have ax:=un (zad ad cl.o);have bc:=un (cT.o.below ad);have b7:=un (cu.o.below ad)
 have X:=un (ch.o.trans ((ad).mono ch.o.size));obtain⟨gP,gw,gQ,gx⟩:=bc2 av.o;obtain⟨g0,gF,gV,gI,g1,gG,gW,gK,iu,hi,hu,g9,iC,hR,hH,g2,iD,hU,hI,gS⟩:=bf5 ag.o;obtain⟨iv,hj,iw,ho,iE,hX,i4,h6,iK,h7,iL,h8⟩:=bc6 ax.o;have KT:=un (zal t #[(rA2,m,rc2),(NN:Int),(bA2,m,bz2),(kA2,NN,kc2),(nC:Int),(eA2,m,ec2),(gA,m,gc),(N:Int)] 117);obtain⟨dt,dk,du,dl,dq,dm,dr,dn,ds,dp,fP,fA,fR,fE,fT,fe⟩:=bc8 KT.o
 clear f2 ga f3 fX gt gp gR gj gm gy gC gf gH gM hA g3 jb iS iM ij jd iW iP im f0 f8 f1 f9 gq f6 gN gh gu fW gJ gn gg gz gX gL jc iT iN ik je iX iQ io f4 fY f5 fZ gr f7 ge gv gs fV gO gi gB gl hC g4 iU ih ic hx iY hZ ie hy ha g7 hd g8 hV gU i3 jf jq jh js jj g5 gb g6 gd iq hf iJ hJ ir hh ix hL iB hQ iy hM iV ii iO il iZ h0 iR ip jl i8 jm i9 jn ja jp jg jr ji jt jk;go_upto_region 5 with fail
 have jH:=HZ.o;have cn:=un X.o;have a6:=cn.o.size;generalize hwS:(t.alloc (.cells #[(rA2,m,rc2),(NN:Int),(bA2,m,bz2),(kA2,NN,kc2),(nC:Int),(eA2,m,ec2),(gA,m,gc),(N:Int)] 117))=wS at *
 clear hwS;go_wp2_with fail
 with_reducible refine(pfeasible rA2 rc2 bA2 bz2 kA2 kc2 eA2 ec2 gA gc m NN nC N lA2 S (zc3 rows) (zg8 rows) (zKb m (zjD cost rows)) (zca nC rows m) 0 _ bc.o b7.o ai.o cI.o cw.o az.o cQ.o B bh.o).mono ?_
 rintro e w3 ⟨F,h⟩;rw[cH.o,cr.o,cA.o]at h;have bg:=un F;have ci:=un (zad F av.o);have aw:=un (zad F ag.o);have ck:=un (zad F ax.o);have b6:=un (zad F KT.o);have di:=un (bc.o.below F);have bd:=un (X.o.trans ((F).mono X.o.size));obtain⟨gY,gD,gZ,gE⟩:=bc2 ci.o;obtain⟨aQ,aL,h9,hs,aR,aM,ia,ht,aS,aN,ib,hw,aT,aO,iz,hE,aU,aP,iA,hG⟩:=bf5 aw.o;obtain⟨i0,h3,i1,h4,i2,h5,i5,iG,i6,iH,i7,iI⟩:=bc6 ck.o;obtain⟨fI,fn,fJ,fp,fK,fr,fL,fu,fM,fx,fQ,fB,fS,fF,fU,ff⟩:=bc8 b6.o;clear F
 rcases h with ⟨f,ev,rfl,E,num,rfl,an,L⟩ | ⟨f,I,Y,cY,rfl,hY⟩ | ⟨f,I,V,ev,rfl,E,num,rfl,an,L⟩ | ⟨f,I,V,wn,q,tA,tc,rfl,hT,bD,bB⟩
 ·have z:=un (O.o.1 f);have ah:=un L;have aj:=un an;clear f L an;go_wp2;refine bodyPost_ret (v:=.tuple #[.agg #[.int .i64 0,(),(),(),.int .i64 0],.iface 224 (.pointer (some ⟨E,0,none⟩))]) (by simp[results,results29,go_sem,aQ,aL,aR,aM,aS,aN,aT,aO,aU,aP]) rfl ?_;have l:=zqy aw.o (.int .i64 0) () () () (.int .i64 0);rw[z.o]
  exact⟨bsc (bsc (bsc (bsc (bsc bd.o)))),_,rfl,E,num,rfl,aj.o,l.blk ah.o (by decide)⟩
 ·have z:=un (O.o.2.1 f I);have HY:=un hY;clear f I hY;go_wp2;refine bodyPost_ret (v:=.tuple #[.agg #[.int .i64 2,(),(Y,m,cY),(),.int .i64 (r.n:Int)],.nilIface]) (by simp[results,results29,go_sem,aQ,aL,aR,aM,aS,aN,aT,aO,aU,aP]) rfl ?_;have l:=zqy aw.o (.int .i64 2) () (Y,m,cY) () (.int .i64 (r.n:Int));rw[z.o];exact⟨bsc (bsc (bsc (bsc (bsc bd.o)))),Y,cY,rfl,(HY.o.base a6).tk l (by decide) (by decide)⟩
 ·have z:=un (O.o.2.2.1 f I V);have ah:=un L;have aj:=un an;clear f I V L an;go_wp2;refine bodyPost_ret (v:=.tuple #[.agg #[.int .i64 0,(),(),(),.int .i64 0],.iface 224 (.pointer (some ⟨E,0,none⟩))]) (by simp[results,results29,go_sem,aQ,aL,aR,aM,aS,aN,aT,aO,aU,aP]) rfl ?_;have l:=zqy aw.o (.int .i64 0) () () () (.int .i64 0);rw[z.o]
  exact⟨bsc (bsc (bsc (bsc (bsc bd.o)))),_,rfl,E,num,rfl,aj.o,l.blk ah.o (by decide)⟩
 ·have cB:=un (O.o.2.2.2.1 f I V);have cE:=un (O.o.2.2.2.2.1 f I V);have cF:=un (fun j=>O.o.2.2.2.2.2 j f I V);have HT:=un hT;have cX:=un bD;have jx:=un bB;clear f I V hT bD bB;clear gP gw gQ gx g0 gF gV gI g1 gG gW gK iu hi hu g9 iC hR hH g2 iD hU hI gS iv hj iw ho iE hX i4 h6 iK h7 iL h8 dt dk du dl dq dm dr dn ds dp fP fA fR fE fT fe;have jE:=cz.o;have jA:=bh.o;go_upto_region 12 with fail
  go_cut[12,13,7] (fun a1 a2 ev wy=>a1=.int .i64 (zbh s.at_)∧a2=.int .i64 (s.n:Int)∧((s.err=false∧ev=.nilIface)∨(s.err=true∧∃E,ev=.iface 224 (.pointer (some ⟨E,0,none⟩))∧wy.heap[E]? = some (.cells #[.string zve,.int .i64 (s.n:Int),.iface 73 (.int .i64 180)] 226 (0,0))))∧zhi wn wy wn.heap.size q rA2 rc2 lA2 bA2 bz2 kA2 kc2 eA2 ec2 m NN S nC (zt0 (zc3 rows) (zg8 rows)) (zwh (zg8 rows)) (zKb m (zjD cost rows)) (zca nC rows m) tA tc s.cols∧Below wS wS wy)
  case first=>as_aux_lemma =>
   go_wp2_with fail
   have cy:=un (show zsn NN N=zKc N m by rw[←ai.o,zUB]);have cZ:=un (show IntKind.i64.wrap ((B:Int)-(n:Int))=((B-n:Nat):Int)by rw[IntKind.wrap_i64];omega)
   refine zaS (S:=fun w'=>w'.cell? ⟨t,0,none⟩=some (rA2,m,rc2)∧w'.cell? ⟨t,1,none⟩=some (.int .i64 (NN:Int))∧w'.cell? ⟨t,2,none⟩=some (bA2,m,bz2)∧w'.cell? ⟨t,3,none⟩=some (kA2,NN,kc2)∧w'.cell? ⟨t,4,none⟩=some (.int .i64 (nC:Int))∧w'.cell? ⟨t,5,none⟩=some (eA2,m,ec2)∧w'.cell? ⟨t,6,none⟩=some (gA,m,gc)∧w'.cell? ⟨t,7,none⟩=some (.int .i64 (N:Int))) [] (h:=fun hHeld=>?_)
   refine zaw [0,1,2,3,4,6,7,8] ?_;repeat refine tkL (hS:=hHeld) (h:=?_)
   refine zao ?_;rw[cZ.o];refine zaB 5 (h:=fun K a=>?_);go_simp
   (go_at_call 55;(with_reducible refine(pmay rA2 rc2 bA2 bz2 kA2 kc2 eA2 ec2 gA gc m NN nC N _ (by have:=ai.o;omega) bC).mono ?_);rintro e v1 ⟨M,cM,rfl,hm,hb⟩;have gT:=un (zad hb ci.o);have iF:=un (zad hb aw.o);have ig:=un (zad hb ck.o);have df:=un (zad hb b6.o);have b8:=un (di.o.drew.below hb);have dj:=un (HT.o.drew.below hb);have HM:=un (show BoolsS v1 w3 (M,NN,cM) (zKc N m)from(by have h:=hm;rw[cy.o]at h;exact h));obtain⟨m1,mY,m2,mX⟩:=bc2 gT.o;obtain⟨ni,m3,ns,m8,nj,m4,nt,m9,nx,nf,nu,na,ny,ng,nv,nb,nz,nh,nw,nc⟩:=bf5 iF.o;obtain⟨nk,m5,nl,m6,nm,m7,nA,nn,nB,np,nD,nr⟩:=bc6 ig.o;obtain⟨lf,k3,lg,k6,lh,k9,li,lc,lj,kR,lk,kU,lm,kY,lo,ls⟩:=bc8 df.o;have x:Below w3 w3 v1:=It.bdrew0' hb;clear hm hb)
   (try go_wp2_with fail)
   refine a.o _ _ kp fun hHeld=>?_
   clear a K;try simp only[Act.put,pu1,pu2,pu3,pu4,pu5,pu6]
   refine zaB 9 (h:=fun K a=>?_);go_simp
   (go_at_call 56;(with_reducible refine(prun dj.o kA2 kc2 0 (zKb m (zjD cost rows)) b8.o.C b8.o.zc M NN cM w3.heap.size (zKc N m) HM.o az.o ((B-n:Nat):Int) (by omega)).mono ?_);rintro e v2 ⟨ev,rfl,am,hT2,hb2,hk2⟩;rw[show(((B-n:Nat):Int)).toNat=B-n from Int.toNat_natCast _,cN.o]at am hT2 ⊢;have ct:=un am;have cW:=un hT2;have y:=un (show Below wS wS v2 from(bg.o.trans (x.mono bg.o.size)).trans (hb2.mono cX.o));have hD:=un (zad y.o av.o);have ju:=un (zad y.o ag.o);have jv:=un (zad y.o ax.o);have dg:=un (zad y.o KT.o);obtain⟨nd,mZ,ne,m0⟩:=bc2 hD.o;obtain⟨lM,nU,lF,nE,lN,nW,lG,nF,lO,nZ,lH,nG,lP,n1,lI,nH,lQ,n3,lJ,nI⟩:=bf5 ju.o;obtain⟨lR,n4,lS,nO,lT,nP,lU,nQ,lK,nR,lL,nS⟩:=bc6 jv.o;obtain⟨l9,mc,ma,md,mb,me,mh,mf,mi,mg,ll,kV,ln,kZ,lp,lt⟩:=bc8 dg.o;clear am hT2 hb2 hk2)
   (try go_wp2_with fail)
   refine a.o _ _ kp fun hHeld=>?_
   clear a K;try simp only[Act.put,pu1,pu2,pu3,pu4,pu5,pu6]
   refine zaw [10,11,12,13,14,15,16] ?_;repeat refine tkL (hS:=hHeld) (h:=?_)
   refine zao ?_;refine zaM (h:=?_);go_wp2;go_meet;exact⟨rfl,rfl,ct.o,cW.o,y.o⟩
  case rest =>
   rename World=>w4
   obtain⟨rfl,rfl,am,bw,T⟩:=hcut;have eb:=un (zad T av.o);have bQ:=un (zad T ag.o);have ed:=un (zad T ax.o);have ea:=un (zad T KT.o);have d5:=un (X.o.trans ((T).mono X.o.size));obtain⟨dO,dV,dP,dW⟩:=bc2 eb.o;obtain⟨bM,bO,e8,eP,bN,bP,e9,eQ,bX,b0,fa,eR,bY,b1,fc,eS,bZ,b2,fd,eT⟩:=bf5 bQ.o;obtain⟨dQ,dX,dR,dY,dS,dZ,dT,d0,a9,d1,fl,eI⟩:=bc6 ed.o;obtain⟨dU,d2,ee,d3,ef,d4,fs,eM,fv,eO,fy,ey,fC,eB,fG,eD⟩:=bc8 ea.o;have u:=un T;have Q:=un bw;clear T bw
   rcases am with ⟨f,rfl⟩ | ⟨f,E,rfl,L⟩
   ·have HE:=un f;have ay:=un Q.o.basis;clear f;have a5:nC≤NN:=by have:=HN.o;have:=ai.o;omega
    have jF:(nC:Int)≤(NN:Int):=by omega
    go_upto_region 15 with fail
    go_cut[14] (fun ov wy=>∃(ob:Nat) (P:OA) (g:Nat),ov=.pointer (some ⟨ob,0,none⟩)∧wS.heap.size≤ob∧wy.heap[ob]? = some (.cells #[.int .i64 1,(P,nC,g),(),(),.int .i64 ((n+s.n:Nat):Int)] 76 (0,0))∧VecS wy wS (P,nC,g) ((zh1 NN s.cols (za5 (zt0 (zc3 rows) (zg8 rows)) (zwh (zg8 rows)) s.cols)).take nC)∧zhi wn wy wn.heap.size q rA2 rc2 lA2 bA2 bz2 kA2 kc2 eA2 ec2 m NN S nC (zt0 (zc3 rows) (zg8 rows)) (zwh (zg8 rows)) (zKb m (zjD cost rows)) (zca nC rows m) tA tc s.cols∧Below wS wS wy)
    case first =>
     have jG:=bl.o;have bn:=un (show IntKind.i64.wrap ((n:Int)+(s.n:Int))=((n+s.n:Nat):Int)by rw[IntKind.wrap_i64];omega);go_wp2_with fail
     refine zaS (S:=fun w'=>w'.cell? ⟨w1,4,none⟩=some (.int .i64 (nC:Int))) [10] (h:=fun hHeld=>?_);refine zaw [0,2,3,5,6,7] ?_;repeat refine tkL (hS:=hHeld) (h:=?_)
     refine zao ?_;refine zme (i:=1) (j:=9) rfl rfl (by kernel_rfl) (fun K a=>?_) (fun K a=>?_)
     ·skip
      go_simp
      (go_at_call 74;(with_reducible refine(Tb.point Q.o.drew).mono ?_);rintro e v1 ⟨P,g,rfl,hv,hb⟩;have x:Below w4 w4 v1:=It.bdrew0' hb;have z4:=zab x a9;have le:=cell_al (ob:=(.cells #[.int .i64 0,(),(),(),.int .i64 0] 76)) z4;have bm:=un (Q.o.below x);have y:=un (u.o.trans (x.mono u.o.size));have c6:=hv.form.2.1;have c7:=hv.form.2.2.1;have c8:nC≤g:=(by omega);have aW:=un ((hv.cut nC a5).base (u.o.size));clear hv;clear hb x)
      (try go_wp2_with fail)
      refine a.o _ _ kp fun hHeld=>?_
      clear a K;try simp only[Act.put,pu1,pu2,pu3,pu4,pu5,pu6]
      refine zaw [4,8] ?_;repeat refine tkL (hS:=hHeld) (h:=?_)
      refine zao ?_;refine zaB 9 (h:=fun K a=>?_);go_simp;refine a.o _ _ kp fun hHeld=>?_
      clear a K;try simp only[Act.put,pu1,pu2,pu3,pu4,pu5,pu6]
      refine zay 10 (h:=fun K a=>?_);go_simp;refine a.o _ _ ?_;clear a K;try simp only[Act.put,pu1,pu2,pu3,pu4,pu5,pu6]
      refine zaM (h:=?_);go_wp2;go_meet;rw[bn.o]
      case rel=>exact⟨v1.heap.size,P,g,rfl,y.o.size,zal _ _ _,aW.o.alloc _,bm.o.alloc _,y.o.alloc y.o.size _⟩
     ·skip
      go_simp;refine a.o _ _ kp fun hHeld=>?_
      clear a K;try simp only[Act.put,pu1,pu2,pu3,pu4,pu5,pu6]
      refine zaB 1 (h:=fun K a=>?_);go_simp
      (go_at_call 74;(first | (with_reducible refine(Tb.point (Q.o.drew.alloc _)).mono ?_) | (with_reducible refine(Tb.point ((Q.o.alloc _).drew)).mono ?_));rintro e v1 ⟨P,g,rfl,hv,hb⟩;have x:Below w4 w4 v1:=((zap w4 1).trans ((zae _ _).mono (Nat.le_refl _))).trans (hb.mono (by simp));have a3:v1.heap[w4.heap.size]? = some (.cells #[.int .i64 0,(),(),(),.int .i64 0] 76 (0,0)):=(zad hb (zal w4.drew #[.int .i64 0,(),(),(),.int .i64 0] 76));have z4:=zab x a9;have bi:=un a3;have bm:=un (Q.o.below x);have y:=un (u.o.trans (x.mono u.o.size));have c6:=hv.form.2.1;have c7:=hv.form.2.2.1;have c8:nC≤g:=(by omega);have aW:=un ((hv.cut nC a5).base (Nat.le_trans u.o.size (by simp)));clear hv;have co:=un x;obtain⟨o0,jK,jT,jU,o1,jM,of1,jV,o2,jO,jW,jX,o3,jQ,jY,jZ,o4,jS,j0,j1⟩:=bf5 a3;clear hb x a3)
      (try go_wp2_with fail)
      refine a.o _ _ kp fun hHeld=>?_
      clear a K;try simp only[Act.put,pu1,pu2,pu3,pu4,pu5,pu6]
      refine zaw [4,8] ?_;repeat refine tkL (hS:=hHeld) (h:=?_)
      refine zao ?_;refine zay 10 (h:=fun K a=>?_);go_simp;refine a.o _ _ ?_;clear a K;try simp only[Act.put,pu1,pu2,pu3,pu4,pu5,pu6]
      refine zaM (h:=?_);go_wp2;go_meet;rw[bn.o];have l:=zqy bi.o (.int .i64 1) (P,nC,g) () () (.int .i64 ((n+s.n:Nat):Int))
      case rel=>exact⟨w4.heap.size,P,g,rfl,u.o.size,zar _ (zar _ (zar _ (zar _ (zar _ bi.o)))),aW.o.tk l (by decide) (by decide),Q.o.below (((((co.o.setCell (p:=⟨w4,0,none⟩) (Nat.le_refl _) _).setCell (p:=⟨w4,1,none⟩) (Nat.le_refl _) _).setCell (p:=⟨w4,2,none⟩) (Nat.le_refl _) _).setCell (p:=⟨w4,3,none⟩) (Nat.le_refl _) _).setCell (p:=⟨w4,4,none⟩) (Nat.le_refl _) _),(((((y.o.setCell (p:=⟨w4,0,none⟩) u.o.size _).setCell (p:=⟨w4,1,none⟩) u.o.size _).setCell (p:=⟨w4,2,none⟩) u.o.size _).setCell (p:=⟨w4,3,none⟩) u.o.size _).setCell (p:=⟨w4,4,none⟩) u.o.size _)⟩
    case rest =>
     rename World=>w5
     obtain⟨ob,P,g,rfl,db,hO,hP,bx,J⟩:=hcut;have a7:=un (zad J av.o);have be:=un (zad J ag.o);have a8:=un (zad J ax.o);have ba:=un (zad J KT.o);have aJ:=un (bc.o.below J);have b3:=un (b7.o.below J);have aq:=un (X.o.trans ((J).mono X.o.size));obtain⟨l7,l3,l8,l4⟩:=bc2 a7.o;obtain⟨nT,nJ,l0,lV,nV,nK,l1,lW,nX,nL,l2,lX,n0,nM,l5,lY,n2,nN,l6,lZ⟩:=bf5 be.o;obtain⟨mj,mB,mm,mD,mo,mF,mH,mq,mJ,ms,mL,mu⟩:=bc6 a8.o;obtain⟨k0,ky,k4,kB,k7,kD,la,kF,ld,kf,kS,kh,kW,kj,lq,kl⟩:=bc8 ba.o
     have jw:=un J;have aB:=un bx;have bk:=un hP;have aY:=un hO;have jI:w.heap.size+1<ob:=by have h1:=(Array.getElem?_eq_some_iff.1 ag.o).1;omega
     obtain⟨lu,kn,kM,j2,lw,kq,kO,j4,ly,ks,kG,j6,lB,ku,kI,j8,lD,kw,kK,ka⟩:=bf5 aY.o;clear J bx hP hO db;clear gY gD gZ gE aQ aL h9 hs aR aM ia ht aS aN ib hw aT aO iz hE aU aP iA hG i0 h3 i1 h4 i2 h5 i5 iG i6 iH i7 iI fI fn fJ fp fK fr fL fu fM fx fQ fB fS fF fU ff dO dV dP dW bM bO e8 eP bN bP e9 eQ bX b0 fa eR bY b1 fc eS bZ b2 fd eT dQ dX dR dY dS dZ dT d0 a9 d1 fl eI dU d2 ee d3 ef d4 fs eM fv eO fy ey fC eB fG eD;cases hat:s.at_ with
     | none =>
      have G:zbh none = -1:=rfl;rw[G];have z:=un (cE.o HE.o hat);clear hat G;go_wp2_with fail
      with_reducible refine(Tb.duals aB.o kA2 kc2 (zKb m (zjD cost rows)) 0 aJ.o.C aJ.o.zc az.o).mono ?_
      rintro e w6 ⟨Y,nY,cY,rfl,hv,hb⟩;have aH:=un (zad hb a7.o);have au:=un (zad hb be.o);have aI:=un (zad hb a8.o);have aK:=un (zad hb ba.o);have af:=un (zad hb aY.o);have fO:=un (aJ.o.below hb);have b4:=un (b3.o.below hb);have b9:=un (aB.o.below hb);have bb:=un (bk.o.below hb);have HY:=un (show VecS w6 w5 (Y,nY,cY) (zcl (zt0 (zc3 rows) (zg8 rows)) s.cols (zKb m (zjD cost rows)))from hv);have ar:=un (aq.o.trans ((hb).mono aq.o.size))
      obtain⟨dB,dH,dC,dI⟩:=bc2 aH.o;obtain⟨bH,bK,er,eg,bI,bL,es,eh,bR,bU,et,ei,bS,bV,eu,ej,bT,bW,ew,ek⟩:=bf5 au.o;obtain⟨dv,dL,dw,dM,d6,dN,d7,dx,d8,dy,d9,dz⟩:=bc6 aI.o;obtain⟨fm,eJ,fo,eK,fq,eL,ft,eN,fw,ex,fz,ez,fD,eC,fH,eE⟩:=bc8 aK.o;obtain⟨fg,eF,eZ,eU,fh,eG,e0,eV,fi,eH,e2,eW,fj,e6,e3,eX,fk,e7,e5,eY⟩:=bf5 af.o;obtain rfl:m=nY:=by rw[hv.len,(ay.o.duals_ok _).2]
      clear hv hb;have c1:=un (show ∀q∈zcl (zt0 (zc3 rows) (zg8 rows)) s.cols (zKb m (zjD cost rows)),mw q≤sB m S S by
       obtain⟨_,_,_,hP⟩:=b9.o;exact znb ay.o hP.bas.good.2.2 hP.std.clen hP.std.zc)
      go_wp2_with fail
      with_reducible refine(pback rA2 rc2 bA2 bz2 kA2 kc2 eA2 ec2 gA gc m NN nC N ((zg8 rows).map sgI) 0 Y cY w5.heap.size (zcl (zt0 (zc3 rows) (zg8 rows)) s.cols (zKb m (zjD cost rows))) (sB m S S) _ b4.o (zVI (zg8 rows)) HY.o cO.o (zma _ _ _) c1.o da).mono ?_
      rintro e w7 ⟨Y2,nY2,cY2,rfl,hv,hb⟩;have dF:=un (zad hb aH.o);have bJ:=un (zad hb au.o);have dG:=un (zad hb aI.o);have fN:=un (zad hb aK.o);have b5:=un (zad hb af.o);have dh:=un (bb.o.below hb);have c0:=un (show VecS w7 w (Y2,nY2,cY2) (bkL ((zg8 rows).map sgI) (zcl (zt0 (zc3 rows) (zg8 rows)) s.cols (zKb m (zjD cost rows))) m)from(hv.base (show w.heap.size≤w6.heap.size from(ar).o.size)));have dA:=un (ar.o.trans ((hb).mono ar.o.size))
      obtain⟨mx,mz,my,mA⟩:=bc2 dF.o;obtain⟨dD,dJ,mS,mN,dE,dK,mT,mO,el,eo,mU,mP,em,ep,mV,mQ,en,eq,mW,mR⟩:=bf5 bJ.o;obtain⟨ml,mC,mn,mE,mG,mp,mI,mr,mK,mt,mM,mv⟩:=bc6 dG.o;obtain⟨k2,kz,k5,kC,k8,kE,lb,ke,kQ,kg,kT,ki,kX,kk,lr,km⟩:=bc8 fN.o;obtain⟨lv,ko,kN,j3,lx,kr,kP,j5,lz,kt,kH,j7,lC,kv,kJ,j9,lE,kx,kL,kb⟩:=bf5 b5.o;obtain rfl:m=nY2:=by rw[hv.len,zSJ,(ay.o.duals_ok _).2]
      clear hv hb;go_wp2;refine bodyPost_ret (v:=.tuple #[.agg #[.int .i64 1,(P,nC,g),(Y2,m,cY2),(),.int .i64 ((n+s.n:Nat):Int)],.nilIface]) (by simp[results,results29,go_sem,dD,dJ,dE,dK,el,eo,em,ep,en,eq]) rfl ?_;have ao:=TKeep.set (o:=2) (b5.o) (Y2,m,cY2)
      have a0:(w7.setCell ⟨ob,2,none⟩ (Y2,m,cY2)).heap[w.heap.size+1]? = some (.cells #[.int .i64 0,(),(),(),.int .i64 0] 76 (0,0)):=by rw[Below.heap_setCell _ _ _ _ (by show w.heap.size+1≠ob;omega)];exact bJ.o
      have l:=zqy a0 (.int .i64 1) (P,nC,g) (Y2,m,cY2) () (.int .i64 ((n+s.n:Nat):Int));rw[z.o]
      exact⟨((((((dA.o.setCell (p:=⟨ob,2,none⟩) (by show w.heap.size≤ob;omega) _).setCell (p:=⟨w.heap.size+1,0,none⟩) (by show w.heap.size≤w.heap.size+1;omega) _).setCell (p:=⟨w.heap.size+1,1,none⟩) (by show w.heap.size≤w.heap.size+1;omega) _).setCell (p:=⟨w.heap.size+1,2,none⟩) (by show w.heap.size≤w.heap.size+1;omega) _).setCell (p:=⟨w.heap.size+1,3,none⟩) (by show w.heap.size≤w.heap.size+1;omega) _).setCell (p:=⟨w.heap.size+1,4,none⟩) (by show w.heap.size≤w.heap.size+1;omega) _),P,g,Y2,cY2,rfl,(((dh.o.base a6).tk ao (by decide) (by decide)).tk l (by decide) (by decide)),((c0.o.tk ao (by decide) (by decide)).tk l (by decide) (by decide))⟩
     | some j =>
      have G:zbh (some j)=(j:Int):=rfl;rw[G];have z:=un (cF.o j HE.o hat);have cv:=un (cS.o j ay.o HE.o hat);have jD:(0:Int)≤(j:Int):=Int.natCast_nonneg _;clear hat G;go_wp2_with fail
      with_reducible refine(pray aB.o gA gc N j cv.o az.o cJ.o a5).mono ?_
      rintro e w6 ⟨D,cD,rfl,hv,hb⟩;have aH:=un (zad hb a7.o);have au:=un (zad hb be.o);have aI:=un (zad hb a8.o);have aK:=un (zad hb ba.o);have af:=un (zad hb aY.o);have fO:=un (aJ.o.below hb);have b4:=un (b3.o.below hb);have b9:=un (aB.o.below hb);have bb:=un (bk.o.below hb);have HD:=un (show VecS w6 w (D,nC,cD) ((zTj NN s.cols (zav (zt0 (zc3 rows) (zg8 rows)) s.cols j) j m).take nC)from(hv.base (show w.heap.size≤w5.heap.size from(aq).o.size)))
      have ar:=un (aq.o.trans ((hb).mono aq.o.size));obtain⟨dB,dH,dC,dI⟩:=bc2 aH.o;obtain⟨bH,bK,er,eg,bI,bL,es,eh,bR,bU,et,ei,bS,bV,eu,ej,bT,bW,ew,ek⟩:=bf5 au.o;obtain⟨dv,dL,dw,dM,d6,dN,d7,dx,d8,dy,d9,dz⟩:=bc6 aI.o;obtain⟨fm,eJ,fo,eK,fq,eL,ft,eN,fw,ex,fz,ez,fD,eC,fH,eE⟩:=bc8 aK.o;obtain⟨fg,eF,eZ,eU,fh,eG,e0,eV,fi,eH,e2,eW,fj,e6,e3,eX,fk,e7,e5,eY⟩:=bf5 af.o;clear hv hb;go_wp2
      refine bodyPost_ret (v:=.tuple #[.agg #[.int .i64 3,(P,nC,g),(),(D,nC,cD),.int .i64 ((n+s.n:Nat):Int)],.nilIface]) (by simp[results,results29,go_sem,bH,bK,bI,bL,bR,bU,bS,bV,bT,bW]) rfl ?_;have ao:=TKeep.set (o:=0) (af.o) (.int .i64 3);have bE:=TKeep.set (o:=3) (zar (o:=0) (.int .i64 3) (af.o)) (D,nC,cD)
      have a0:((w6.setCell ⟨ob,0,none⟩ (.int .i64 3)).setCell ⟨ob,3,none⟩ (D,nC,cD)).heap[w.heap.size+1]? = some (.cells #[.int .i64 0,(),(),(),.int .i64 0] 76 (0,0)):=by rw[Below.heap_setCell _ _ _ _ (by show w.heap.size+1≠ob;omega),Below.heap_setCell _ _ _ _ (by show w.heap.size+1≠ob;omega)];exact au.o
      have l:=zqy a0 (.int .i64 3) (P,nC,g) () (D,nC,cD) (.int .i64 ((n+s.n:Nat):Int));rw[z.o]
      exact⟨(((((((ar.o.setCell (p:=⟨ob,0,none⟩) (by show w.heap.size≤ob;omega) _).setCell (p:=⟨ob,3,none⟩) (by show w.heap.size≤ob;omega) _).setCell (p:=⟨w.heap.size+1,0,none⟩) (by show w.heap.size≤w.heap.size+1;omega) _).setCell (p:=⟨w.heap.size+1,1,none⟩) (by show w.heap.size≤w.heap.size+1;omega) _).setCell (p:=⟨w.heap.size+1,2,none⟩) (by show w.heap.size≤w.heap.size+1;omega) _).setCell (p:=⟨w.heap.size+1,3,none⟩) (by show w.heap.size≤w.heap.size+1;omega) _).setCell (p:=⟨w.heap.size+1,4,none⟩) (by show w.heap.size≤w.heap.size+1;omega) _),P,g,D,cD,rfl,((((bb.o.base a6).tk ao (by decide) (by decide)).tk bE (by decide) (by decide)).tk l (by decide) (by decide)),(((HD.o.tk ao (by decide) (by decide)).tk bE (by decide) (by decide)).tk l (by decide) (by decide))⟩
   ·have z:=un (cB.o f);have ah:=un L;have aj:=un (show s.n≤B by have:=bl.o;omega);clear f L;go_wp2;refine bodyPost_ret (v:=.tuple #[.agg #[.int .i64 0,(),(),(),.int .i64 0],.iface 224 (.pointer (some ⟨E,0,none⟩))]) (by simp[results,results29,go_sem,bM,bO,bN,bP,bX,b0,bY,b1,bZ,b2]) rfl ?_;have l:=zqy bQ.o (.int .i64 0) () () () (.int .i64 0);rw[z.o]
    exact⟨bsc (bsc (bsc (bsc (bsc d5.o)))),_,rfl,E,s.n,rfl,aj.o,l.blk ah.o (by decide)⟩
end Pr
theorem zLu(a:Basis m N A cols)(zA:∀r∈A,∀q∈r,mw q≤S):zhg mw m S (bc A cols):=fun j hj i f=>by
 rw[ztZ (by rw[a.len];exact hj) (by rw[a.rect.len];exact f)];have e:=zaO (L:=A) (i:=i) (d:=[]) (by rw[a.rect.len];exact f);have hm:=List.mem_of_getElem? e;exact zA _ hm _ (List.mem_of_getElem? (zaH (by rw[a.rect.row i f];exact a.lt j hj)))
section
variable {n:Nat} {rows:List PRow} (hl:∀k,k<rows.length→(rows.getD k default).coef.length=n)
include hl
end
theorem zWQ(a:b.length=m)(d:ys.length=m)(h:i<m):el (bkL (b.map sgI) ys m) i=sgn (el b i)*el ys i:=by
 rw[znd (zTv (by omega)),if_pos h,List.getD_eq_getElem?_getD,List.getElem?_map,zaH (xs:=b) (j:=i) (by omega)];show((sgI (el b i):Int):Rat)*_=_
 rw[zUb]
def zWY (p:PRow) (d:List Rat):Prop:=(p.kind=1→dot p.coef d≤0)∧(p.kind=2→0≤dot p.coef d)∧(p.kind=3→dot p.coef d=0)
structure Signs (m:Nat) (rows:List PRow) (y:List Rat):Prop where
  ly:y.length=m
  s1:∀k,k<m→(rows.getD k default).kind=1→el y k≤0
  s2:∀k,k<m→(rows.getD k default).kind=2→0≤el y k
def zUQ (nC m:Nat) (rows:List PRow) (y:List Rat):Prop:=Signs m rows y∧(∀j,j<nC→zai m (fun i=>el y i*el (rows.getD i default).coef j)≤0)∧0<sb y rows
def zUP (nC m:Nat) (cost:List Rat) (rows:List PRow) (x y:List Rat):Prop:=Signs m rows y∧x.length=nC∧znD cost rows x=true∧(∀j,j<nC→zai m (fun i=>el y i*el (rows.getD i default).coef j)≤el cost j)∧dot cost x=sb y rows
def zUE (nC:Nat) (cost:List Rat) (rows:List PRow) (x d:List Rat):Prop:=x.length=nC∧znD cost rows x=true∧d.length=nC∧(∀j,0≤el d j)∧(∀p∈rows,zWY p d)∧dot cost d<0
section
variable {nC m N:Nat} {cost:List Rat} {rows:List PRow} (hg:Shape nC rows) (hlc:cost.length=nC) (hlr:rows.length=m) (hN:nC+cnt rows m=N)
include hg hlc hlr hN
theorem zSE:∀k,k<rows.length→(rows.getD k default).coef.length=nC:=fun k hk=>hg.co _ (List.mem_of_getElem? (zaO hk))
theorem zVA:Rect m N (zc3 rows):=by have:=zlk (zSE hg hlc hlr hN);rw[hlr,hN]at this;exact this
theorem zVz:(zg8 rows).length=m:=by rw[zxG,hlr]
end
theorem z6Q(g:Basis m N A cols)(a:1≤Z)(zc:∀q∈col,mw q≤Z)(j:Nat):∀q∈zTj N cols col j m,mw q≤Z+2:=fun q o=>by
 obtain⟨i,f⟩:=List.mem_iff_getElem?.1 o;have hl:=(List.getElem?_eq_some_iff.1 f).1;rw[zSN]at hl;have e:=f;rw[zTf hl]at e;injection e with e;rw[←e];show mw ((if i=j then (1:Rat)else 0)+pt m (fun l=>cols.getD l 0) (fun l => -el col l) i)≤_
 have p:mw (if i=j then (1:Rat)else 0)≤1:=by split;exact mw1;exact mw0
 have h1:mw (pt m (fun l=>cols.getD l 0) (fun l => -el col l) i)≤Z:=by
  by_cases d:Bas m (fun k=>cols.getD k 0) i
  ·obtain⟨k,hk,rfl⟩:=d;rw[zA7 g.inj _ hk,zhY];exact zDJ a zc k
  ·rw[zyz _ d];exact Nat.le_trans mw0 a
 have r:=zrI (if i=j then (1:Rat)else 0) (pt m (fun l=>cols.getD l 0) (fun l => -el col l) i);omega
theorem z6K(e:b.length=m)(d:ys.length=m)(g:∀q∈ys,mw q≤S):∀q∈bkL (b.map sgI) ys m,mw q≤S:=fun q f=>by
 obtain⟨i,a⟩:=List.mem_iff_getElem?.1 f;have hl:=(List.getElem?_eq_some_iff.1 a).1;rw[zSJ,d]at hl;rw[←znd a,zWQ e d hl,zWX];exact zrz g (by omega)
section
variable {S nC m N:Nat} {cost:List Rat} {rows:List PRow} (hg:GoodS S nC m cost rows) (hlc:cost.length=nC) (hlr:rows.length=m) (hN:nC+cnt rows m=N)
include hg hlr in
theorem z6N:∀r∈zc3 rows,∀q∈r,mw q≤S:=fun r hr q a=>by
 unfold zc3 at hr;obtain⟨k,hk,rfl⟩:=List.mem_map.1 hr;rw[List.mem_range]at hk;rcases List.mem_append.1 a with h1 | h1
 ·exact(hg.rw_ _ (List.mem_of_getElem? (zaO hk))).2.1 q h1
 ·exact Nat.le_trans (zsi rows k q h1) hg.h1
include hg in
theorem z6O:∀q∈zg8 rows,mw q≤S:=fun q d=>by
 obtain⟨p,a,rfl⟩:=List.mem_map.1 d;exact(hg.rw_ p a).2.2
include hg in
theorem z6P:∀q∈zjD cost rows,mw q≤S:=fun q a=>by
 rcases List.mem_append.1 a with h1 | h1
 ·exact hg.sc q h1
 ·rw[(List.mem_replicate.1 h1).2];exact Nat.le_trans mw0 hg.h1
include hg hlc hlr hN in
theorem z6F(d:Am.Ends m N (zc3 rows) (zg8 rows) (zjD cost rows) (zSA N m (zc3 rows) (zg8 rows) (zjD cost rows) B)):match zSA N m (zc3 rows) (zg8 rows) (zjD cost rows) B with
  | .spent _=>False
  | .none cols _=>∀q∈bkL ((zg8 rows).map sgI) (zcl (zt0 (zc3 rows) (zg8 rows)) cols (zJG N m)) m,mw q≤sB m S S
  | .best cols _=>(∀q∈(zh1 (N+m) cols (za5 (zt0 (zc3 rows) (zg8 rows)) (zwh (zg8 rows)) cols)).take nC,mw q≤sB m S S)∧∀q∈bkL ((zg8 rows).map sgI) (zcl (zt0 (zc3 rows) (zg8 rows)) cols (zKb m (zjD cost rows))) m,mw q≤sB m S S
  | .falls cols j _=>(∀q∈(zh1 (N+m) cols (za5 (zt0 (zc3 rows) (zg8 rows)) (zwh (zg8 rows)) cols)).take nC,mw q≤sB m S S)∧∀q∈(zTj (N+m) cols (zav (zt0 (zc3 rows) (zg8 rows)) cols j) j m).take nC,mw q≤sB m S S+2:=by
 have p:=zVA hg.sh hlc hlr hN;have e:=zVz hg.sh hlc hlr hN;have hc:(zjD cost rows).length=N:=by unfold zjD;rw[List.length_append,List.length_replicate,hlc,hlr];exact hN
 have zA:=zXc (b:=zg8 rows) hg.h1 (z6N hg hlr);have zb:=zXd (z6O hg);have zc:=zXe (m:=m) hg.h1 (z6P hg);have i:(zwh (zg8 rows)).length=m:=by rw[zUh,e]
 have g:1≤sB m S S:=zma _ _ _
 have P:∀cols,Basis m (N+m) (zt0 (zc3 rows) (zg8 rows)) cols→∀q∈(zh1 (N+m) cols (za5 (zt0 (zc3 rows) (zg8 rows)) (zwh (zg8 rows)) cols)).take nC,mw q≤sB m S S:=fun cols h q a =>
  z0l h (h.vals_ok _).2 (z0n h (zLu h zA) i zb) g q (List.mem_of_mem_take a)
 have Y:∀cols cs,Basis m (N+m) (zt0 (zc3 rows) (zg8 rows)) cols→cs.length=N+m→(∀q∈cs,mw q≤S)→∀q∈bkL ((zg8 rows).map sgI) (zcl (zt0 (zc3 rows) (zg8 rows)) cols cs) m,mw q≤sB m S S:=fun cols cs h l z =>
  z6K e (h.duals_ok cs).2 (znb h (zLu h zA) l z)
 generalize zSA N m (zc3 rows) (zg8 rows) (zjD cost rows) B=o at d ⊢;cases d with
 | none h f s v=>exact Y _ _ h (by simp[zJG]) fun q a=>Nat.le_trans (zTR N m q a) hg.h1
 | best h s=>exact⟨P _ h.basis,Y _ _ h.basis (by simp[zKb,hc]) zc⟩
 | falls h s =>
  rename_i cols j k
  refine⟨P _ h.basis,fun q a=>z6Q h.basis g (zVc h.basis (zLu h.basis zA) fun q a=>?_) j q (List.mem_of_mem_take a)⟩;obtain⟨r,hr,rfl⟩:=List.mem_map.1 a;exact zDJ hg.h1 (zA r hr) j
end
