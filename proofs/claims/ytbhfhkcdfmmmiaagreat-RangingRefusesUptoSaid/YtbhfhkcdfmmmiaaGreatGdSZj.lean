/- Contracts and lemmas: PrY GdS PrS Ng Shp Own. Conditions: as each says. -/
import Derived.Test.YtbhfhkcdfmmmiaaGreatPrFZj
import Derived.Test.YtbhfhkcdfmmmiaaGreatPrBZj
set_option linter.all false
set_option maxHeartbeats 2000000
set_option maxRecDepth 100000
namespace Go.Proofs.YtbhfhkcdfmmmiaaGreat
open Go.RowKit Am Go.Proofs.Tryz
attribute [local go_sem ↓] Go.wp_at_zero Go.wp_at_succ
variable {A:List (List Rat)}{cols:List Nat}{rows:List PRow}{b col cost y ys:List Rat}{B N NN S Z i j k m n nC t:Nat}{z:Nat→Rat}
def zTj (NN:Nat) (cols:List Nat) (col:List Rat) (j k:Nat):List Rat:=(List.range NN).map fun i=>way k (fun l=>cols.getD l 0) (fun r _=>el col r) j i
theorem zSN(NN:Nat)(cols:List Nat)(col:List Rat)(j k:Nat):(zTj NN cols col j k).length=NN:=by simp[zTj]
theorem zTf(h:i<NN):(zTj NN cols col j k)[i]? = some (way k (fun l=>cols.getD l 0) (fun r _=>el col r) j i):=by
 unfold zTj;rw[Zw,Z4 h];rfl
theorem zVE:(List.replicate NN (0:Rat)).set j 1=zTj NN cols col j 0:=by
 apply ZT;intro i;rw[Xg,Zr];by_cases hi:i<NN
 ·rw[zTf hi,ZJ,if_pos hi];unfold way pt;by_cases e:j=i
  ·subst e;rw[if_pos rfl,if_pos hi,if_pos rfl];simp only[zai,Rat.add_zero]
  ·rw[if_neg e,if_neg (ZM e)];simp only[zai,Rat.add_zero]
 simp_all[Xq,zSN,if_pos,if_neg]
theorem zWJ(hc:cols.getD k 0<NN):(zTj NN cols col j k).set (cols.getD k 0) (way k (fun l=>cols.getD l 0) (fun r _=>el col r) j (cols.getD k 0)-el col k)=zTj NN cols col j (k+1):=by
 apply ZT;intro i;rw[Xg,zSN];by_cases hi:i<NN
 ·rw[zTf hi,zTf hi];unfold way pt;rw[zai];by_cases e:cols.getD k 0=i
  ·rw[if_pos e,if_pos hc,if_pos e,←e];congr 1;grind
  ·rw[if_neg e,if_neg e];congr 1;grind
 simp_all[Xq,zSN,if_neg]
theorem z0o(a:1≤Z)(zc:∀q∈col,mw q≤Z)(j i k:Nat):mw (way k (fun l=>cols.getD l 0) (fun r _=>el col r) j i)≤k*(Z+1)+3:=by
 show mw ((if i=j then (1:Rat)else 0)+pt k (fun l=>cols.getD l 0) (fun l => -el col l) i)≤_
 have h1:mw (pt k (fun l=>cols.getD l 0) (fun l => -el col l) i)≤k*(Z+1)+1:=zrK (fun l=>by
  split
  ·rw[zhY];exact zDJ a zc l
  ·exact Zc mw0 a) k
 grind[mw1,mw0,zrI]
section
variable {W0 w:World} {H q:Nat} {rA:OA} {rc:Nat} {lA:List Value} {bA:OA} {bc_:Nat} {kA:OA} {kc:Nat} {eA:OA} {ec m NN S own:Nat} {A:List (List Rat)} {b c:List Rat} {left:List Int}
  {tA:OA} {tc:Nat} {cols:List Nat}
namespace Pr
theorem pray(h:zhi W0 w H q rA rc lA bA bc_ kA kc eA ec m NN S own A b c left tA tc cols)(gA:OA)(gc N j:Nat)(hj:j<NN)(aw:zor m S≤LIM)(hZ:4*(m*(sB m S S+1)+3+sB m S S)+8≤LIM)(aQ:own≤NN) :
  Calls prog 75 #[.agg #[(rA,m,rc),(NN:Int),(bA,m,bc_),(kA,NN,kc),(own:Int),(eA,m,ec),(gA,m,gc),(N:Int)],.pointer (some ⟨q,0,none⟩),(j:Int)] w fun e w'=>∃(A':OA) (c':Nat),e=.returned (A',own,c')∧VecS w' w (A',own,c') ((zTj NN cols (zav A cols j) j m).take own)∧Below w w w':=by
 have O:=un h.basis;have aF:=un aw;have aN:=un hZ;have HJ:=un hj;have db:=h.std.hm;have dc:=h.std.hN;have c7:(0:Int)≤(j:Int):=Zf _;have c8:¬(j:Int)<0:=by omega
 have c9:(j:Int)<(NN:Int):=by omega
 have da:¬(NN:Int)≤(j:Int):=by omega
 have an:=un (show ∀x∈zav A cols j,mw x≤sB m S S by
  obtain⟨_,_,_,hP⟩:=h;exact zVc hP.basis hP.bas.good.2.2 (hP.std.zcol hj))
 have HP:=un h;clear aw hZ h;obtain⟨W,T⟩:∃W,(w.alloc (.cells #[(rA,m,rc),(NN:Int),(bA,m,bc_),(kA,NN,kc),(own:Int),(eA,m,ec),(gA,m,gc),(N:Int)] 117))=W:=⟨_,rfl⟩
 have y:=un (show W.heap[w.heap.size]? = some (.cells #[(rA,m,rc),(NN:Int),(bA,m,bc_),(kA,NN,kc),(own:Int),(eA,m,ec),(gA,m,gc),(N:Int)] 117 (0,0))by rw[←T];exact zam (by simp));have t:=un (show Below w w W by rw[←T];exact zae w _);have HT:=un (show zhi W0 W H q rA rc lA bA bc_ kA kc eA ec m NN S own A b c left tA tc cols by rw[←T];exact(HP.o).alloc _);obtain⟨_,_,_,_,_,_,cK,_⟩:=bc8 y.o
 go_enter func75,ntmps75;go_upto_region 4 with (at_make;go_must (refine zdv rfl _ _ rfl NN _ rfl rfl rfl (by omega) W.heap.size rfl ?_;intro w1 ho ag;have HO:=un (show VecS w1 W.heap.size (.slice (some ⟨W.heap.size,0,none⟩) NN NN) (List.replicate NN 0)from ho);have aO:=un (show Bel W w1 from Bel.mk ag);clear ho ag))
 clear T;obtain⟨C,s,F,z,u,G,B,y0,y1,p,E⟩:=HO.o.at_ (k:=j) (q:=0) (by rw[ZJ,if_pos HJ.o]);clear E;go_cut[] (fun wy=>VecS wy W.heap.size (.slice (some ⟨W.heap.size,0,none⟩) NN NN) (zTj NN cols (zav A cols j) j 0)∧Below W.heap.size W wy)
 case first =>
  go_wp2_with fail
  refine(Rt.int 1 (by decide) (by decide) _).mono ?_
  rintro e u1 ⟨g1,A1,m1,c1,D1,md1,cd1,rfl,hn,hb⟩;have Y:=un (HO.o.below hb);have a4:=un (aO.o.below hb);have HM:=un (show RatS u1 g1 (A1,m1,c1) (D1,md1,cd1) ((1:Int):Rat)from hn);have z0:=zab hb y0;have z1:=zab hb y1;have z2:=zab hb p;have aS:=Y.o.fro (j*3);have of1:=Y.o.fro (j*3+1);have aT:=Y.o.fro (j*3+2);clear hn hb;go_wp2;go_meet
  case rel=>exact⟨by rw[←zVE];exact VecS.store Y.o j HM.o,(Bel.set3 a4.o (Za _) _ _ _).b⟩
 case rest =>
  obtain⟨g,a⟩:=hcut;rename World=>w2
  clear y0 y1 p;have aA:=un (zad a y.o);have ay:=un (HT.o.below a);have v:=un (show VecS w2 W.heap.size (.slice (some ⟨W.heap.size,0,none⟩) NN NN) (zTj NN cols (zav A cols j) j 0)from g);have HW:=un (show Bel W w2 from Bel.mk a);obtain⟨cd,_⟩:=bc8 aA.o;have aP:W.heap.size<w2.heap.size:=(g.lt rfl).2;clear g a;clear cK;go_wp2_with fail
  refine(Tb.column ay.o j HJ.o aF.o).mono ?_
  rintro e w3 ⟨A3,n3,c3,rfl,g,hb⟩;have aB:=un (zad hb aA.o);have a5:=un (ay.o.below hb);have cm:=un (v.o.below hb);have ci:=un (HW.o.below hb);have aE:=un (show VecS w3 w2 (A3,n3,c3) (zav A cols j)from g);obtain⟨_,_,_,_,_,_,_,cs,_⟩:=bc8 aB.o;obtain rfl:m=n3:=by rw[g.len,(O.o.column_ok j).2]
  have aR:=hb.size;clear g hb;go_wp2_with fail
  refine(Tb.basis a5.o).mono ?_
  rintro e w4 ⟨B0,cB,rfl,hi,hb⟩;have cq:=un (cm.o.below hb);have cv:=un (ci.o.below hb);have bP:=un (aE.o.below hb);have aH:=un (show IntsS w4 w2 (B0,m,cB) cols from(hi.base aR));clear hi hb;clear cd cs;go_wp2
  go_loopw [38] (fun i wr=>∃k:Nat,i=.int .i64 k∧k≤m∧VecS wr W.heap.size (.slice (some ⟨W.heap.size,0,none⟩) NN NN) (zTj NN cols (zav A cols j) j k)∧VecS wr w2 (A3,m,c3) (zav A cols j)∧IntsS wr w2 (B0,m,cB) cols∧Below W.heap.size W wr)
   (fun i _=>m-(intOf i).toNat)
  case atStart=>exact⟨0,rfl,Zb _,cq.o,bP.o,aH.o,cv.o.b⟩
  case round =>
   obtain⟨k,rfl,hk,g,hc,hi,a⟩:=hrel;by_cases ai:k<m
   ·obtain⟨o,rfl,_,_⟩:=hc.has (by omega);obtain⟨bi,rfl,_,_⟩:=hi.has (by omega);have ah:=O.o.lt k ai;have l0:=hi.at_ (zaO (L:=cols) (i:=k) (d:=0) (by rw[O.o.len];exact ai));obtain⟨C,s,F,z,u,G,B,y0,y1,p,E⟩:=g.at_ (zTf ah);obtain⟨R,J,V,P,M,X,Q,z0,z1,z2,au⟩:=hc.at_ (zaH (xs:=zav A cols j) (j:=k) (by rw[(O.o.column_ok j).2];exact ai));have aa:=un (zWJ (col:=zav A cols j) (j:=j) ah)
    have ap:=un (show 4*(mw (way k (fun l=>cols.getD l 0) (fun r _=>el (zav A cols j) r) j (cols.getD k 0))+mw (el (zav A cols j) k))+8≤LIM by have h1:=z0o (zma m S S) an.o j (cols.getD k 0) k (cols:=cols);have h2:=zDJ (zma m S S) an.o k;have h3:=aN.o;have h4:k*(sB m S S+1)≤m*(sB m S S+1):=Zt _ hk;omega);generalize way k (fun l=>cols.getD l 0) (fun r _=>el (zav A cols j) r) j (cols.getD k 0)=wv at E aa ap;generalize cols.getD k 0=f at l0 ah y0 y1 p aa
    have Z:=un (zad a y.o);have aK:=un (show RatS wr C (s,F,z) (u,G,B) wv from E);have aL:=un (show RatS wr R (J,V,P) (M,X,Q) (el (zav A cols j) k)from au);have v:=un (show VecS wr W.heap.size (.slice (some ⟨W.heap.size,0,none⟩) NN NN) (zTj NN cols (zav A cols j) j k)from g);have HC:=un (show VecS wr w2 (o,m,c3) (zav A cols j)from hc)
    have HI:=un (show IntsS wr w2 (bi,m,cB) cols from hi);have HW:=un (show Bel W wr from Bel.mk a);have aC:=un (t.o.trans ((a).mono t.o.size));obtain⟨_,_,_,_,_,_,_,_,be,_⟩:=bc8 Z.o;have cu:wr.cell? ⟨bi,k,none⟩=some (.int .i64 ((f:Nat):Int)):=l0;have cE:wr.cell? ⟨W.heap.size,f*3,none⟩=some (.bool C):=y0;have aX:=zaa cE;have cF:wr.cell? ⟨W.heap.size,f*3+1,none⟩=some (s,F,z):=y1;have aY:=zaa cF
    have cG:wr.cell? ⟨W.heap.size,f*3+2,none⟩=some (u,G,B):=p;have aZ:=zaa cG;have cH:wr.cell? ⟨o,k*3,none⟩=some (.bool R):=z0;have a0:=zaa cH;have cI:wr.cell? ⟨o,k*3+1,none⟩=some (J,V,P):=z1;have a1:=zaa cI;have cJ:wr.cell? ⟨o,k*3+2,none⟩=some (M,X,Q):=z2;have a2:=zaa cJ;have c0:(0:Int)≤(k:Int):=Zf _;have c4:(k:Int)<(m:Int):=by omega
    have c5:(0:Int)≤(f:Int):=Zf _;have c6:(f:Int)<(NN:Int):=by omega
    clear g hc hi a l0 y0 y1 p z0 z1 z2 E au;go_wp2_with fail
    refine za2 (S:=fun w'=>w'.cell? ⟨W.heap.size,f*3,none⟩=some (.bool C)∧w'.cell? ⟨W.heap.size,f*3+1,none⟩=some (s,F,z)∧w'.cell? ⟨W.heap.size,f*3+2,none⟩=some (u,G,B)∧w'.cell? ⟨o,k*3,none⟩=some (.bool R)∧w'.cell? ⟨o,k*3+1,none⟩=some (J,V,P)∧w'.cell? ⟨o,k*3+2,none⟩=some (M,X,Q)) 12 (h:=fun hHeld=>?_);refine zaw [0,1,2,3,4,5,6,7,8,9] ?_;repeat refine tkE (hS:=hHeld) (h:=?_)
    refine zao ?_;refine zaN 10 (h:=fun K D=>?_);go_simp
    (go_at_call 37;(refine(Rt.sub C s F z u G B wv R J V P M X Q (el (zav A cols j) k) _ aK.o.drew aL.o.drew ap.o).mono ?_);rintro e u2 ⟨g2,A2,m2,c2,D2,md2,cd2,rfl,hn,hb⟩;have I:=un (v.o.drew.below hb);have bp:=un (HC.o.drew.below hb);have bq:=un (HI.o.drew.below hb);have bo:=un (HW.o.drew.below hb);have HS:=un (show RatS u2 g2 (A2,m2,c2) (D2,md2,cd2) (wv-el (zav A cols j) k)from hn);have a9:=zab hb aX;have ba:=zab hb aY;have bb:=zab hb aZ;have a6:=zab hb a0;have a7:=zab hb a1;have a8:=zab hb a2;have aS:=I.o.fro (f*3);have of1:=I.o.fro (f*3+1);have aT:=I.o.fro (f*3+2);clear hn hb)
    (try go_wp2_with fail)
    refine shutOn D fun hHeld=>?_
    clear D K
    refine zaw [11] ?_;repeat refine tkE (hS:=hHeld) (h:=?_)
    refine zao ?_;refine zba (h:=fun K D=>?_);go_simp;refine shutOff D ?_;clear D K
    refine za1 (h:=?_);go_wp2;obtain⟨cW,U⟩:=I.o.ratBlk;go_roundw
    case rel=>exact⟨k+1,by go_num,by omega,by rw[←aa.o];exact VecS.store I.o f HS.o,VecS.set3 bp.o U (by decide) aP _ _ _ _ _ _,((bq.o.tk (TKeep.set U _) (by decide)).tk (TKeep.set (zar _ U) _) (by decide)).tk (TKeep.set (zar _ (zar _ U)) _) (by decide),(Bel.set3 bo.o (Za _) _ _ _).b⟩
    case measure=>simp[intOf];omega
   ·obtain rfl:m=k:=by omega
    have Z:=un (zad a y.o);have v:=un (show VecS wr W.heap.size (.slice (some ⟨W.heap.size,0,none⟩) NN NN) (zTj NN cols (zav A cols j) j m)from g);have aC:=un (t.o.trans ((a).mono t.o.size));obtain⟨_,_,_,_,_,_,_,_,be,_⟩:=bc8 Z.o;have dd:(own:Int)≤(NN:Int):=by omega
    have de:(0:Int)≤(own:Int):=Zf _;clear g hc hi a;go_wp2;go_ret
    exact⟨_,_,rfl,(v.o.cut own aQ).base t.o.size,aC.o⟩
end Pr
end
theorem zVF:∀n,n≤4→sB n 1 1≤1000000:=by decide +kernel
theorem zWc:∀n,n≤4→zor n 1≤LIM:=by unfold LIM;decide +kernel
structure Shape (nC:Nat) (rows:List PRow):Prop where
  co:∀p∈rows,p.coef.length=nC
  kd:Kinds rows
structure GoodS (S nC m:Nat) (cost:List Rat) (rows:List PRow):Prop where
  sc:∀q∈cost,mw q≤S
  rw_:∀p∈rows,p.coef.length=nC∧(∀q∈p.coef,mw q≤S)∧mw p.rhs≤S
  kd:Kinds rows
  h1:1≤S
  hS:S≤4000000
  hc:nC≤24
  hr:m≤20
  cap:zor m S≤LIM
  sb:sB m S S≤4000000
theorem Good1.toS(h:Good1 nC m cost rows):GoodS 1 nC m cost rows :=
 ⟨h.sc,h.rw_,h.kd,Za _,by decide,by have:=h.hc;omega,by have:=h.hr;omega,zWc m h.hr,Zc (zVF m h.hr) (by decide)⟩
theorem GoodS.sh(h:GoodS S nC m cost rows):Shape nC rows:=⟨fun p a=>(h.rw_ p a).1,h.kd⟩
theorem zTX{c:List Rat}{r s:RunOut}{d:(List Nat × Nat) × Bool}(hN:N+m=NN)(hr:pivs (zBX NN (zt0 A b) (zwh b) (zJG N m) (zKc N m)) B (zKa N m)=r)
  (i:zSz N NN (zt0 A b) (B-r.n) m 0 (r.cols,0)=d) (l:pivs (zBX NN (zt0 A b) (zwh b) (zKb m c) (zKc N m)) (B-(r.n+d.1.2)) d.1.1=s) :
  (r.err=true→zSA N m A b c B=.spent r.n)∧(r.err=false→0<zSB N m A b r.cols→zSA N m A b c B=.none r.cols r.n) ∧
  (r.err=false→¬0<zSB N m A b r.cols→d.2=true→zSA N m A b c B=.spent (r.n+d.1.2)) ∧
  (r.err=false→¬0<zSB N m A b r.cols→d.2=false→s.err=true→zSA N m A b c B=.spent (r.n+d.1.2+s.n)) ∧
  (r.err=false→¬0<zSB N m A b r.cols→d.2=false→s.err=false→s.at_=none→zSA N m A b c B=.best s.cols (r.n+d.1.2+s.n)) ∧
  (∀j,r.err=false→¬0<zSB N m A b r.cols→d.2=false→s.err=false→s.at_=some j→zSA N m A b c B=.falls s.cols j (r.n+d.1.2+s.n)):=by
 subst hN;unfold zSA;grind
def zVM (w:World) (nC m N NN:Nat) (A0:List (List Rat)) (b0 c0:List Rat) (B:Nat) (o:Out) (e:Ending) (w':World):Prop :=
  Below w w w'∧match o with
    | .spent _=>∃ev,e=.returned (.tuple #[.agg #[.int .i64 0,(),(),(),.int .i64 0],ev])∧Spent w' B ev
    | .none cols n=>∃(Y:OA) (cY:Nat),e=.returned (.tuple #[.agg #[.int .i64 2,(),(Y,m,cY),(),(n:Int)],.nilIface])∧VecS w' w (Y,m,cY) (bkL (b0.map sgI) (zcl (zt0 A0 b0) cols (zJG N m)) m)
    | .best cols n=>∃(P:OA) (cP:Nat) (Y:OA) (cY:Nat),e=.returned (.tuple #[.agg #[.int .i64 1,(P,nC,cP),(Y,m,cY),(),(n:Int)],.nilIface])∧VecS w' w (P,nC,cP) ((zh1 NN cols (za5 (zt0 A0 b0) (zwh b0) cols)).take nC)∧VecS w' w (Y,m,cY) (bkL (b0.map sgI) (zcl (zt0 A0 b0) cols (zKb m c0)) m)
    | .falls cols j n=>∃(P:OA) (cP:Nat) (D:OA) (cD:Nat),e=.returned (.tuple #[.agg #[.int .i64 3,(P,nC,cP),(),(D,nC,cD),(n:Int)],.nilIface])∧VecS w' w (P,nC,cP) ((zh1 NN cols (za5 (zt0 A0 b0) (zwh b0) cols)).take nC)∧VecS w' w (D,nC,cD) ((zTj NN cols (zav (zt0 A0 b0) cols j) j m).take nC)
namespace Pr
open Du (zCr)
theorem zYk(rA:OA)(rc:Nat)(lA:List Value)(bA:OA)(bc_:Nat)(kA:OA)(kc:Nat)(eA:OA)(ec m N NN S own:Nat)(d:List (List Rat))(a f:List Rat)(left:List Int)(w:World)(hS:StdP w rA rc lA bA bc_ kA kc eA ec m N S d a f left)(o:NN≤64)(j:N+m=NN)(hl:left.length=m)(l:8*S+8≤LIM) :
  Calls prog 53 #[.agg #[(rA,m,rc),(N:Int),(bA,m,bc_),(kA,N,kc),(own:Int),(eA,m,ec)]] w fun e w'=>∃(rA:OA) (rc:Nat) (lA:List Value) (bA:OA) (bc_:Nat) (kA:OA) (kc:Nat) (eA:OA) (ec:Nat) (g:OA) (i:Nat),
   e=.returned (.tuple #[.agg #[(rA,m,rc),(NN:Int),(bA,m,bc_),(kA,NN,kc),(own:Int),(eA,m,ec),(g,m,i),(N:Int)],.nilIface]) ∧
   StdP w' rA rc lA bA bc_ kA kc eA ec m NN S (zt0 d a) (zwh a) (zKb m f) left∧IntsZ w' 0 (g,m,i) (a.map sgI)∧Below w w w':=by
 subst j;exact pbegin rA rc lA bA bc_ kA kc eA ec m N S own d a f left w hS o hl l
theorem psolve(S:Nat)(C:OA)(nC Z:Nat)(R:OA)(m cR:Nat)(cost:List Rat)(rows:List PRow)(N NN B:Nat)(w:World)(hc:VecS w 0 (C,nC,Z) cost)(hr:RowsS w 0 (R,m,cR) rows)(hg:GoodS S nC m cost rows)(hN:nC+cnt rows m=N)(aZ:N+m=NN)(F:B≤1000000) :
  Calls prog 29 #[.agg #[(C,nC,Z),(R,m,cR)],(B:Int)] w (zVM w nC m N NN (zc3 rows) (zg8 rows) (zjD cost rows) B (zSA N m (zc3 rows) (zg8 rows) (zjD cost rows) B)):=by
 have HG:=un hg;have HN:=un hN;have ai:=un aZ;have jC:=zgO rows m;have c9:=hg.hr;have jB:=hg.hc;have bC:NN≤64:=by omega
 have da:m≤64:=by omega
 have cL:=un (show Rows nC rows from fun p G=>⟨(hg.rw_ p G).1,fun q hq=>Zc ((hg.rw_ p G).2.1 q hq) hg.hS,Zc (hg.rw_ p G).2.2 hg.hS⟩);have az:=un hg.cap;have cQ:=un hg.sb;have H8:=un (show 8*S+8≤LIM by rw[zaP];have:=hg.hS;omega);have cO:=un (show 8*sB m S S+8≤LIM by rw[zaP];have:=hg.sb;omega);have cJ:=un (show 4*(m*(sB m S S+1)+3+sB m S S)+8≤LIM by rw[zaP];have h1:=hg.sb;have h2:m*(sB m S S+1)≤20*(sB m S S+1):=Zt _ c9;omega);have bh:=un F
 have cI:=un (show Rect m N (zc3 rows)by have:=zlk (n:=nC) (rows:=rows) fun k hk=>(hg.rw_ _ (Zh (zaO hk))).1;rw[←hr.len,hN]at this;exact this);have cw:=un (show(zg8 rows).length=m by rw[zxG,←hr.len]);obtain⟨r,aE⟩:∃r,pivs (zBX NN (zt0 (zc3 rows) (zg8 rows)) (zwh (zg8 rows)) (zJG N m) (zKc N m)) B (zKa N m)=r:=⟨_,rfl⟩
 obtain⟨d,aD⟩:∃d,zSz N NN (zt0 (zc3 rows) (zg8 rows)) (B-r.n) m 0 (r.cols,0)=d:=⟨_,rfl⟩
 obtain⟨s,ae⟩:∃s,pivs (zBX NN (zt0 (zc3 rows) (zg8 rows)) (zwh (zg8 rows)) (zKb m (zjD cost rows)) (zKc N m)) (B-(r.n+d.1.2)) d.1.1=s:=⟨_,rfl⟩
 have O:=un (zTX aZ aE aD ae);have cH:=un aE;have cr:=un aD;have cK:=un (show r.n≤B by rw[←aE];exact zLj _ _ _);have cs:=un (show d.1.2≤B-r.n by have h:=zSH m 0 (r.cols,0) (own:=N) (N:=NN) (A:=zt0 (zc3 rows) (zg8 rows)) (B:=B-r.n);rw[aD]at h;exact h.2 (Zb _));obtain⟨n,hn⟩:∃n,r.n+d.1.2=n:=⟨_,rfl⟩
 rw[hn]at O ae;have cN:=un ae;have cA:=un hn;have cz:=un (show n≤B by have:=cK.o;have:=cs.o;omega);have bl:=un (show s.n≤B-n by rw[←ae];exact zLj _ _ _);have cS:=un (show ∀j,Basis m NN (zt0 (zc3 rows) (zg8 rows)) s.cols→s.err=false→s.at_=some j→j<NN by
  intro j c5 h1 h2;obtain⟨e1,_,_,e4,_⟩:=zoW (zBX NN (zt0 (zc3 rows) (zg8 rows)) (zwh (zg8 rows)) (zKb m (zjD cost rows)) (zKc N m)) (B-n) d.1.1;rw[ae]at e1 e4;have e:=e4 h1;rw[h2,←e1]at e;exact(zSR c5 (by rw[zSS];unfold zjD;rw[Zj,Zr,←hc.len,←hr.len];omega) e).1)
 generalize hoo:zSA N m (zc3 rows) (zg8 rows) (zjD cost rows) B=o at *
 clear hg hN aZ F aE aD ae hn hoo;obtain⟨W,U⟩:∃W,((w.alloc (.cells #[(C,nC,Z),(R,m,cR)] 31)).alloc (.cells #[.int .i64 0,(),(),(),.int .i64 0] 76))=W:=⟨_,rfl⟩
 have bo:=un (show W.heap[w.heap.size]? = some (.cells #[(C,nC,Z),(R,m,cR)] 31 (0,0))by rw[←U];exact zak (zam (by simp)));have bp:=un (show W.heap[w.heap.size+1]? = some (.cells #[.int .i64 0,(),(),(),.int .i64 0] 76 (0,0))by rw[←U];exact zam (by simp));have BB:=un (show Below w w W by rw[←U];exact(zae w _).alloc (by simp) _)
 have HC:=un (show VecS W 0 (C,nC,Z) cost by rw[←U];exact((hc).alloc _).alloc _);have HR:=un (show RowsS W 0 (R,m,cR) rows by rw[←U];exact((hr).alloc _).alloc _);obtain⟨f2,_,f3,_⟩:=bc2 bo.o;clear hc hr;go_enter func29,ntmps29;go_wp2_with fail
 clear U;refine(Pb.standardN S HG.o.h1 C nC Z R m cR cost rows N HN.o _ HC.o HR.o (by omega) (by omega) cL.o HG.o.kd HG.o.sc (fun p G=>(HG.o.rw_ p G).2)).mono ?_
 rintro e w1 ⟨rA,rc,lA,bA,bc_,kA,kc,eA,ec,rfl,hst,hb⟩;have ca:=un (zad hb bp.o);have cU:=un (show StdP w1 rA rc lA bA bc_ kA kc eA ec m N S (zc3 rows) (zg8 rows) (zjD cost rows) (zca nC rows m)from hst);have cc:=un (BB.o.trans ((hb).mono BB.o.size));clear hst hb
 have aC:=zae w1 (.cells #[(rA,m,rc),(N:Int),(bA,m,bc_),(kA,N,kc),(nC:Int),(eA,m,ec)] 113);have ce:=un (zad aC ca.o);have jo:=un (cU.o.below aC);have cf:=un (cc.o.trans ((aC).mono cc.o.size))
 have KS:=un (zal w1 #[(rA,m,rc),(N:Int),(bA,m,bc_),(kA,N,kc),(nC:Int),(eA,m,ec)] 113);obtain⟨ha,_,hd,_,hV,_,i3,_,jq,_,js,_⟩:=bc6 KS.o;go_wp2_with fail
 refine(zYk rA rc lA bA bc_ kA kc eA ec m N NN S nC (zc3 rows) (zg8 rows) (zjD cost rows) (zca nC rows m) _ jo.o bC ai.o (zsk _ _ _) H8.o).mono ?_
 rintro e t ⟨rA2,rc2,lA2,bA2,bz2,kA2,kc2,eA2,ec2,gA,gc,rfl,hst,hz,hb⟩;have cj:=un (zad hb ce.o);have cl:=un (zad hb KS.o);have cT:=un (show StdP t rA2 rc2 lA2 bA2 bz2 kA2 kc2 eA2 ec2 m NN S (zt0 (zc3 rows) (zg8 rows)) (zwh (zg8 rows)) (zKb m (zjD cost rows)) (zca nC rows m)from hst);have cu:=un (show IntsZ t 0 (gA,m,gc) ((zg8 rows).map sgI)from hz);have ch:=un (cf.o.trans ((hb).mono cf.o.size))
 clear hst hz hb;have ad:=zae t (.cells #[(rA2,m,rc2),(NN:Int),(bA2,m,bz2),(kA2,NN,kc2),(nC:Int),(eA2,m,ec2),(gA,m,gc),(N:Int)] 117);have ag:=un (zad ad cj.o);have ax:=un (zad ad cl.o);have bc:=un (cT.o.below ad);have b7:=un (cu.o.below ad)
 have X:=un (ch.o.trans ((ad).mono ch.o.size));have KT:=un (zal t #[(rA2,m,rc2),(NN:Int),(bA2,m,bz2),(kA2,NN,kc2),(nC:Int),(eA2,m,ec2),(gA,m,gc),(N:Int)] 117);obtain⟨dt,_,du,_,dq,_,dr,_,ds,_,fP,_,fR,_,fT,_⟩:=bc8 KT.o
 clear f2 f3 ha hd hV i3 jq js;go_upto_region 5 with fail
 have cn:=un X.o;have a6:=cn.o.size;generalize hwS:(t.alloc (.cells #[(rA2,m,rc2),(NN:Int),(bA2,m,bz2),(kA2,NN,kc2),(nC:Int),(eA2,m,ec2),(gA,m,gc),(N:Int)] 117))=wS at *
 clear hwS;go_wp2_with fail
 refine(pfeasible rA2 rc2 bA2 bz2 kA2 kc2 eA2 ec2 gA gc m NN nC N lA2 S (zc3 rows) (zg8 rows) (zKb m (zjD cost rows)) (zca nC rows m) 0 _ bc.o b7.o ai.o cI.o cw.o az.o cQ.o B bh.o).mono ?_
 rintro e w3 ⟨F,h⟩;rw[cH.o,cr.o,cA.o]at h;have bg:=un F;have aw:=un (zad F ag.o);have b6:=un (zad F KT.o);have di:=un (bc.o.below F);have bd:=un (X.o.trans ((F).mono X.o.size));obtain⟨aQ,aL,h9,_,aR,aM,ia,_,aS,aN,ib,_,aT,aO,iz,_,aU,aP,iA,_⟩:=bf5 aw.o;obtain⟨fI,_,fJ,_,fK,_,fL,_,fM,_,fQ,_,fS,_,fU,_⟩:=bc8 b6.o;clear F
 rcases h with ⟨f,ev,rfl,E,num,rfl,an,L⟩ | ⟨f,I,Y,cY,rfl,hY⟩ | ⟨f,I,V,ev,rfl,E,num,rfl,an,L⟩ | ⟨f,I,V,wn,q,tA,tc,rfl,hT,bD,bB⟩
 ·have z:=un (O.o.1 f);have ah:=un L;have aj:=un an;clear f L an;go_wp2;refine Zd (v:=.tuple #[.agg #[.int .i64 0,(),(),(),.int .i64 0],.iface 224 (.pointer (some ⟨E,0,none⟩))]) (by simp[results,results29,go_sem,aQ,aL,aR,aM,aS,aN,aT,aO,aU,aP]) rfl ?_;have l:=zqy aw.o (.int .i64 0) () () () (.int .i64 0);rw[z.o]
  exact⟨bsc (bsc (bsc (bsc (bsc bd.o)))),_,rfl,E,num,rfl,aj.o,l.blk ah.o (by decide)⟩
 ·have z:=un (O.o.2.1 f I);have HY:=un hY;clear f I hY;go_wp2;refine Zd (v:=.tuple #[.agg #[.int .i64 2,(),(Y,m,cY),(),.int .i64 (r.n:Int)],.nilIface]) (by simp[results,results29,go_sem,aQ,aL,aR,aM,aS,aN,aT,aO,aU,aP]) rfl ?_;have l:=zqy aw.o (.int .i64 2) () (Y,m,cY) () (.int .i64 (r.n:Int));rw[z.o];exact⟨bsc (bsc (bsc (bsc (bsc bd.o)))),Y,cY,rfl,(HY.o.base a6).tk l (by decide) (by decide)⟩
 ·have z:=un (O.o.2.2.1 f I V);have ah:=un L;have aj:=un an;clear f I V L an;go_wp2;refine Zd (v:=.tuple #[.agg #[.int .i64 0,(),(),(),.int .i64 0],.iface 224 (.pointer (some ⟨E,0,none⟩))]) (by simp[results,results29,go_sem,aQ,aL,aR,aM,aS,aN,aT,aO,aU,aP]) rfl ?_;have l:=zqy aw.o (.int .i64 0) () () () (.int .i64 0);rw[z.o]
  exact⟨bsc (bsc (bsc (bsc (bsc bd.o)))),_,rfl,E,num,rfl,aj.o,l.blk ah.o (by decide)⟩
 ·have cB:=un (O.o.2.2.2.1 f I V);have cE:=un (O.o.2.2.2.2.1 f I V);have cF:=un (fun j=>O.o.2.2.2.2.2 j f I V);have HT:=un hT;have cX:=un bD;clear f I V hT bD bB;clear dt du dq dr ds fP fR fT;have jE:=cz.o;have jA:=bh.o;go_upto_region 12 with fail
  go_cut[12,13,7] (fun a1 a2 ev wy=>a1=.int .i64 (zbh s.at_)∧a2=.int .i64 (s.n:Int)∧((s.err=false∧ev=.nilIface)∨(s.err=true∧∃E,ev=.iface 224 (.pointer (some ⟨E,0,none⟩))∧wy.heap[E]? = some (.cells #[.string zve,.int .i64 (s.n:Int),.iface 73 (.int .i64 180)] 226 (0,0))))∧zhi wn wy wn.heap.size q rA2 rc2 lA2 bA2 bz2 kA2 kc2 eA2 ec2 m NN S nC (zt0 (zc3 rows) (zg8 rows)) (zwh (zg8 rows)) (zKb m (zjD cost rows)) (zca nC rows m) tA tc s.cols∧Below wS wS wy)
  case first=>as_aux_lemma =>
   go_wp2_with fail
   have cy:=un (show zsn NN N=zKc N m by rw[←ai.o,zUB]);have cZ:=un (show IntKind.i64.wrap ((B:Int)-(n:Int))=((B-n:Nat):Int)by rw[Yy];omega)
   refine zaS (S:=fun w'=>w'.cell? ⟨t,0,none⟩=some (rA2,m,rc2)∧w'.cell? ⟨t,1,none⟩=some (.int .i64 (NN:Int))∧w'.cell? ⟨t,2,none⟩=some (bA2,m,bz2)∧w'.cell? ⟨t,3,none⟩=some (kA2,NN,kc2)∧w'.cell? ⟨t,4,none⟩=some (.int .i64 (nC:Int))∧w'.cell? ⟨t,5,none⟩=some (eA2,m,ec2)∧w'.cell? ⟨t,6,none⟩=some (gA,m,gc)∧w'.cell? ⟨t,7,none⟩=some (.int .i64 (N:Int))) [] (h:=fun hHeld=>?_)
   refine zaw [0,1,2,3,4,6,7,8] ?_;repeat refine tkL (hS:=hHeld) (h:=?_)
   refine zao ?_;rw[cZ.o];refine zaB 5 (h:=fun K a=>?_);go_simp
   (go_at_call 55;(refine(pmay rA2 rc2 bA2 bz2 kA2 kc2 eA2 ec2 gA gc m NN nC N _ (by have:=ai.o;omega) bC).mono ?_);rintro e v1 ⟨M,cM,rfl,hm,hb⟩;have df:=un (zad hb b6.o);have b8:=un (di.o.drew.below hb);have dj:=un (HT.o.drew.below hb);have HM:=un (show BoolsS v1 w3 (M,NN,cM) (zKc N m)from(by have h:=hm;rw[cy.o]at h;exact h));obtain⟨lf,_,lg,_,lh,_,li,_,lj,_,lk,_,lm,_,lo,_⟩:=bc8 df.o;have x:Below w3 w3 v1:=It.bdrew0' hb;clear hm hb)
   (try go_wp2_with fail)
   refine shutOn a fun hHeld=>?_
   clear a K
   refine zaB 9 (h:=fun K a=>?_);go_simp
   (go_at_call 56;(refine(prun dj.o kA2 kc2 0 (zKb m (zjD cost rows)) b8.o.C b8.o.zc M NN cM w3.heap.size (zKc N m) HM.o az.o ((B-n:Nat):Int) (by omega)).mono ?_);rintro e v2 ⟨ev,rfl,am,hT2,hb2,hk2⟩;rw[show(((B-n:Nat):Int)).toNat=B-n from Ye _,cN.o]at am hT2 ⊢;have ct:=un am;have cW:=un hT2;have y:=un (show Below wS wS v2 from(bg.o.trans (x.mono bg.o.size)).trans (hb2.mono cX.o));have dg:=un (zad y.o KT.o);obtain⟨l9,_,ma,_,mb,_,mh,_,mi,_,ll,_,ln,_,lp,_⟩:=bc8 dg.o;clear am hT2 hb2 hk2)
   (try go_wp2_with fail)
   refine shutOn a fun hHeld=>?_
   clear a K
   refine zaw [10,11,12,13,14,15,16] ?_;repeat refine tkL (hS:=hHeld) (h:=?_)
   refine zao ?_;refine zaM (h:=?_);go_wp2;go_meet;exact⟨rfl,rfl,ct.o,cW.o,y.o⟩
  case rest =>
   rename World=>w4
   obtain⟨rfl,rfl,am,bw,T⟩:=hcut;have bQ:=un (zad T ag.o);have ed:=un (zad T ax.o);have d5:=un (X.o.trans ((T).mono X.o.size));obtain⟨bM,bO,e8,_,bN,bP,e9,_,bX,b0,fa,_,bY,b1,fc,_,bZ,b2,fd,_⟩:=bf5 bQ.o;obtain⟨_,_,_,_,_,_,_,_,a9,_⟩:=bc6 ed.o;have u:=un T;have Q:=un bw;clear T bw
   rcases am with ⟨f,rfl⟩ | ⟨f,E,rfl,L⟩
   ·have HE:=un f;have ay:=un Q.o.basis;clear f;have a5:nC≤NN:=by have:=HN.o;have:=ai.o;omega
    go_upto_region 15 with fail
    go_cut[14] (fun ov wy=>∃(ob:Nat) (P:OA) (g:Nat),ov=.pointer (some ⟨ob,0,none⟩)∧wS.heap.size≤ob∧wy.heap[ob]? = some (.cells #[.int .i64 1,(P,nC,g),(),(),.int .i64 ((n+s.n:Nat):Int)] 76 (0,0))∧VecS wy wS (P,nC,g) ((zh1 NN s.cols (za5 (zt0 (zc3 rows) (zg8 rows)) (zwh (zg8 rows)) s.cols)).take nC)∧zhi wn wy wn.heap.size q rA2 rc2 lA2 bA2 bz2 kA2 kc2 eA2 ec2 m NN S nC (zt0 (zc3 rows) (zg8 rows)) (zwh (zg8 rows)) (zKb m (zjD cost rows)) (zca nC rows m) tA tc s.cols∧Below wS wS wy)
    case first =>
     have jG:=bl.o;have bn:=un (show IntKind.i64.wrap ((n:Int)+(s.n:Int))=((n+s.n:Nat):Int)by rw[Yy];omega);go_wp2_with fail
     refine zaS (S:=fun w'=>w'.cell? ⟨w1,4,none⟩=some (.int .i64 (nC:Int))) [10] (h:=fun hHeld=>?_);refine zaw [0,2,3,5,6,7] ?_;repeat refine tkL (hS:=hHeld) (h:=?_)
     refine zao ?_;refine zme (i:=1) (j:=9) rfl rfl (by kernel_rfl) (fun K a=>?_) (fun K a=>?_)
     ·skip
      go_simp
      (go_at_call 74;(refine(Tb.point Q.o.drew).mono ?_);rintro e v1 ⟨P,g,rfl,hv,hb⟩;have x:Below w4 w4 v1:=It.bdrew0' hb;have z4:=zab x a9;have le:=cell_al (ob:=(.cells #[.int .i64 0,(),(),(),.int .i64 0] 76)) z4;have bm:=un (Q.o.below x);have y:=un (u.o.trans (x.mono u.o.size));have c6:=hv.form.2.1;have c8:nC≤g:=(by omega);have aW:=un ((hv.cut nC a5).base (u.o.size));clear hv;clear hb x)
      (try go_wp2_with fail)
      refine shutOn a fun hHeld=>?_
      clear a K
      refine zaw [4,8] ?_;repeat refine tkL (hS:=hHeld) (h:=?_)
      refine zao ?_;refine zaB 9 (h:=fun K a=>?_);go_simp;refine shutOn a fun hHeld=>?_
      clear a K
      refine zay 10 (h:=fun K a=>?_);go_simp;refine shutOff a ?_;clear a K
      refine zaM (h:=?_);go_wp2;go_meet;rw[bn.o]
      case rel=>exact⟨v1.heap.size,P,g,rfl,y.o.size,zal _ _ _,aW.o.alloc _,bm.o.alloc _,y.o.alloc y.o.size _⟩
     ·skip
      go_simp;refine shutOn a fun hHeld=>?_
      clear a K
      refine zaB 1 (h:=fun K a=>?_);go_simp
      (go_at_call 74;(first | (refine(Tb.point (Q.o.drew.alloc _)).mono ?_) | (refine(Tb.point ((Q.o.alloc _).drew)).mono ?_));rintro e v1 ⟨P,g,rfl,hv,hb⟩;have x:Below w4 w4 v1:=((zap w4 1).trans ((zae _ _).mono (Za _))).trans (hb.mono (by simp));have a3:v1.heap[w4.heap.size]? = some (.cells #[.int .i64 0,(),(),(),.int .i64 0] 76 (0,0)):=(zad hb (zal w4.drew #[.int .i64 0,(),(),(),.int .i64 0] 76));have z4:=zab x a9;have bi:=un a3;have bm:=un (Q.o.below x);have y:=un (u.o.trans (x.mono u.o.size));have c6:=hv.form.2.1;have c8:nC≤g:=(by omega);have aW:=un ((hv.cut nC a5).base (Zc u.o.size (by simp)));clear hv;have co:=un x;obtain⟨o0,_,jT,_,o1,_,of1,_,o2,_,jW,_,o3,_,jY,_,o4,_,j0,_⟩:=bf5 a3;clear hb x a3)
      (try go_wp2_with fail)
      refine shutOn a fun hHeld=>?_
      clear a K
      refine zaw [4,8] ?_;repeat refine tkL (hS:=hHeld) (h:=?_)
      refine zao ?_;refine zay 10 (h:=fun K a=>?_);go_simp;refine shutOff a ?_;clear a K
      refine zaM (h:=?_);go_wp2;go_meet;rw[bn.o];have l:=zqy bi.o (.int .i64 1) (P,nC,g) () () (.int .i64 ((n+s.n:Nat):Int))
      case rel=>exact⟨w4.heap.size,P,g,rfl,u.o.size,zar _ (zar _ (zar _ (zar _ (zar _ bi.o)))),aW.o.tk l (by decide) (by decide),Q.o.below (((((co.o.setCell (p:=⟨w4,0,none⟩) (Za _) _).setCell (p:=⟨w4,1,none⟩) (Za _) _).setCell (p:=⟨w4,2,none⟩) (Za _) _).setCell (p:=⟨w4,3,none⟩) (Za _) _).setCell (p:=⟨w4,4,none⟩) (Za _) _),(((((y.o.setCell (p:=⟨w4,0,none⟩) u.o.size _).setCell (p:=⟨w4,1,none⟩) u.o.size _).setCell (p:=⟨w4,2,none⟩) u.o.size _).setCell (p:=⟨w4,3,none⟩) u.o.size _).setCell (p:=⟨w4,4,none⟩) u.o.size _)⟩
    case rest =>
     rename World=>w5
     obtain⟨ob,P,g,rfl,db,hO,hP,bx,J⟩:=hcut;have be:=un (zad J ag.o);have a8:=un (zad J ax.o);have ba:=un (zad J KT.o);have aJ:=un (bc.o.below J);have b3:=un (b7.o.below J);have aq:=un (X.o.trans ((J).mono X.o.size));obtain⟨_,_,_,_,_,_,_,_,_,ms,_⟩:=bc6 a8.o;obtain⟨k0,_,k4,_,k7,_,la,_,ld,_,kS,_,kW,_,lq,_⟩:=bc8 ba.o
     have aB:=un bx;have bk:=un hP;have aY:=un hO;have jI:w.heap.size+1<ob:=by have h1:=(ZI.1 ag.o).1;omega
     clear J bx hP hO db;clear aQ aL h9 aR aM ia aS aN ib aT aO iz aU aP iA fI fJ fK fL fM fQ fS fU bM bO e8 bN bP e9 bX b0 fa bY b1 fc bZ b2 fd a9;cases hat:s.at_ with
     | none =>
      have G:zbh none = -1:=rfl;rw[G];have z:=un (cE.o HE.o hat);clear hat G;go_wp2_with fail
      refine(Tb.duals aB.o kA2 kc2 (zKb m (zjD cost rows)) 0 aJ.o.C aJ.o.zc az.o).mono ?_
      rintro e w6 ⟨Y,nY,cY,rfl,hv,hb⟩;have au:=un (zad hb be.o);have aK:=un (zad hb ba.o);have af:=un (zad hb aY.o);have b4:=un (b3.o.below hb);have b9:=un (aB.o.below hb);have bb:=un (bk.o.below hb);have HY:=un (show VecS w6 w5 (Y,nY,cY) (zcl (zt0 (zc3 rows) (zg8 rows)) s.cols (zKb m (zjD cost rows)))from hv);have ar:=un (aq.o.trans ((hb).mono aq.o.size))
      obtain⟨bH,bK,er,_,bI,bL,es,_,bR,bU,et,_,bS,bV,eu,_,bT,bW,ew,_⟩:=bf5 au.o;obtain⟨fm,_,fo,_,fq,_,ft,_,fw,_,fz,_,fD,_,fH,_⟩:=bc8 aK.o;obtain⟨fg,_,eZ,_,fh,_,_,_,fi,_,_,_,fj,_,e3,_,fk,_⟩:=bf5 af.o;obtain rfl:m=nY:=by rw[hv.len,(ay.o.duals_ok _).2]
      clear hv hb;have c1:=un (show ∀q∈zcl (zt0 (zc3 rows) (zg8 rows)) s.cols (zKb m (zjD cost rows)),mw q≤sB m S S by
       obtain⟨_,_,_,hP⟩:=b9.o;exact znb ay.o hP.bas.good.2.2 hP.std.clen hP.std.zc)
      go_wp2_with fail
      refine(pback rA2 rc2 bA2 bz2 kA2 kc2 eA2 ec2 gA gc m NN nC N ((zg8 rows).map sgI) 0 Y cY w5.heap.size (zcl (zt0 (zc3 rows) (zg8 rows)) s.cols (zKb m (zjD cost rows))) (sB m S S) _ b4.o (zVI (zg8 rows)) HY.o cO.o (zma _ _ _) c1.o da).mono ?_
      rintro e w7 ⟨Y2,nY2,cY2,rfl,hv,hb⟩;have bJ:=un (zad hb au.o);have b5:=un (zad hb af.o);have dh:=un (bb.o.below hb);have c0:=un (show VecS w7 w (Y2,nY2,cY2) (bkL ((zg8 rows).map sgI) (zcl (zt0 (zc3 rows) (zg8 rows)) s.cols (zKb m (zjD cost rows))) m)from(hv.base (show w.heap.size≤w6.heap.size from(ar).o.size)));have dA:=un (ar.o.trans ((hb).mono ar.o.size))
      obtain⟨dD,dJ,mS,_,dE,dK,mT,_,el,eo,mU,_,em,ep,mV,_,en,eq,mW,_⟩:=bf5 bJ.o;obtain⟨lv,_,_,_,lx,_,_,_,lz,_,kH,_,lC,_,_,_,lE,_⟩:=bf5 b5.o;obtain rfl:m=nY2:=by rw[hv.len,zSJ,(ay.o.duals_ok _).2]
      clear hv hb;go_wp2;refine Zd (v:=.tuple #[.agg #[.int .i64 1,(P,nC,g),(Y2,m,cY2),(),.int .i64 ((n+s.n:Nat):Int)],.nilIface]) (by simp[results,results29,go_sem,dD,dJ,dE,dK,el,eo,em,ep,en,eq]) rfl ?_;have ao:=TKeep.set (o:=2) (b5.o) (Y2,m,cY2)
      have a0:(w7.setCell ⟨ob,2,none⟩ (Y2,m,cY2)).heap[w.heap.size+1]? = some (.cells #[.int .i64 0,(),(),(),.int .i64 0] 76 (0,0)):=by rw[Zk _ _ _ _ (by show w.heap.size+1≠ob;omega)];exact bJ.o
      have l:=zqy a0 (.int .i64 1) (P,nC,g) (Y2,m,cY2) () (.int .i64 ((n+s.n:Nat):Int));rw[z.o]
      exact⟨((((((dA.o.setCell (p:=⟨ob,2,none⟩) (by show w.heap.size≤ob;omega) _).setCell (p:=⟨w.heap.size+1,0,none⟩) (by show w.heap.size≤w.heap.size+1;omega) _).setCell (p:=⟨w.heap.size+1,1,none⟩) (by show w.heap.size≤w.heap.size+1;omega) _).setCell (p:=⟨w.heap.size+1,2,none⟩) (by show w.heap.size≤w.heap.size+1;omega) _).setCell (p:=⟨w.heap.size+1,3,none⟩) (by show w.heap.size≤w.heap.size+1;omega) _).setCell (p:=⟨w.heap.size+1,4,none⟩) (by show w.heap.size≤w.heap.size+1;omega) _),P,g,Y2,cY2,rfl,(((dh.o.base a6).tk ao (by decide) (by decide)).tk l (by decide) (by decide)),((c0.o.tk ao (by decide) (by decide)).tk l (by decide) (by decide))⟩
     | some j =>
      have G:zbh (some j)=(j:Int):=rfl;rw[G];have z:=un (cF.o j HE.o hat);have cv:=un (cS.o j ay.o HE.o hat);have jD:(0:Int)≤(j:Int):=Zf _;clear hat G;go_wp2_with fail
      refine(pray aB.o gA gc N j cv.o az.o cJ.o a5).mono ?_
      rintro e w6 ⟨D,cD,rfl,hv,hb⟩;have au:=un (zad hb be.o);have aK:=un (zad hb ba.o);have af:=un (zad hb aY.o);have b4:=un (b3.o.below hb);have b9:=un (aB.o.below hb);have bb:=un (bk.o.below hb);have HD:=un (show VecS w6 w (D,nC,cD) ((zTj NN s.cols (zav (zt0 (zc3 rows) (zg8 rows)) s.cols j) j m).take nC)from(hv.base (show w.heap.size≤w5.heap.size from(aq).o.size)))
      have ar:=un (aq.o.trans ((hb).mono aq.o.size));obtain⟨bH,bK,er,_,bI,bL,es,_,bR,bU,et,_,bS,bV,eu,_,bT,bW,ew,_⟩:=bf5 au.o;obtain⟨fm,_,fo,_,fq,_,ft,_,fw,_,fz,_,fD,_,fH,_⟩:=bc8 aK.o;obtain⟨fg,_,eZ,_,fh,_,_,_,fi,_,_,_,fj,_,e3,_,fk,_⟩:=bf5 af.o;clear hv hb;go_wp2
      refine Zd (v:=.tuple #[.agg #[.int .i64 3,(P,nC,g),(),(D,nC,cD),.int .i64 ((n+s.n:Nat):Int)],.nilIface]) (by simp[results,results29,go_sem,bH,bK,bI,bL,bR,bU,bS,bV,bT,bW]) rfl ?_;have ao:=TKeep.set (o:=0) (af.o) (.int .i64 3);have bE:=TKeep.set (o:=3) (zar (o:=0) (.int .i64 3) (af.o)) (D,nC,cD)
      have a0:((w6.setCell ⟨ob,0,none⟩ (.int .i64 3)).setCell ⟨ob,3,none⟩ (D,nC,cD)).heap[w.heap.size+1]? = some (.cells #[.int .i64 0,(),(),(),.int .i64 0] 76 (0,0)):=by rw[Zk _ _ _ _ (by show w.heap.size+1≠ob;omega),Zk _ _ _ _ (by show w.heap.size+1≠ob;omega)];exact au.o
      have l:=zqy a0 (.int .i64 3) (P,nC,g) () (D,nC,cD) (.int .i64 ((n+s.n:Nat):Int));rw[z.o]
      exact⟨(((((((ar.o.setCell (p:=⟨ob,0,none⟩) (by show w.heap.size≤ob;omega) _).setCell (p:=⟨ob,3,none⟩) (by show w.heap.size≤ob;omega) _).setCell (p:=⟨w.heap.size+1,0,none⟩) (by show w.heap.size≤w.heap.size+1;omega) _).setCell (p:=⟨w.heap.size+1,1,none⟩) (by show w.heap.size≤w.heap.size+1;omega) _).setCell (p:=⟨w.heap.size+1,2,none⟩) (by show w.heap.size≤w.heap.size+1;omega) _).setCell (p:=⟨w.heap.size+1,3,none⟩) (by show w.heap.size≤w.heap.size+1;omega) _).setCell (p:=⟨w.heap.size+1,4,none⟩) (by show w.heap.size≤w.heap.size+1;omega) _),P,g,D,cD,rfl,((((bb.o.base a6).tk ao (by decide) (by decide)).tk bE (by decide) (by decide)).tk l (by decide) (by decide)),(((HD.o.tk ao (by decide) (by decide)).tk bE (by decide) (by decide)).tk l (by decide) (by decide))⟩
   ·have z:=un (cB.o f);have ah:=un L;have aj:=un (show s.n≤B by have:=bl.o;omega);clear f L;go_wp2;refine Zd (v:=.tuple #[.agg #[.int .i64 0,(),(),(),.int .i64 0],.iface 224 (.pointer (some ⟨E,0,none⟩))]) (by simp[results,results29,go_sem,bM,bO,bN,bP,bX,b0,bY,b1,bZ,b2]) rfl ?_;have l:=zqy bQ.o (.int .i64 0) () () () (.int .i64 0);rw[z.o]
    exact⟨bsc (bsc (bsc (bsc (bsc d5.o)))),_,rfl,E,s.n,rfl,aj.o,l.blk ah.o (by decide)⟩
end Pr
theorem zNy{xs:List Rat}(h:∀k,k<xs.length→0≤el xs k):(xs.any fun q=>decide (q<0))=false:=by
 rw[YE];grind[List.mem_iff_getElem?,List.getElem?_eq_some_iff,znd,decide_eq_false,Rat.not_lt]
theorem zLu(a:Basis m N A cols)(zA:∀r∈A,∀q∈r,mw q≤S):zhg mw m S (bc A cols):=fun j hj i hi=>by
 rw[ztZ (by rw[a.len];exact hj) (by rw[a.rect.len];exact hi)];have e:=zaO (L:=A) (i:=i) (d:=[]) (by rw[a.rect.len];exact hi);have hm:=Zh e;exact zA _ hm _ (Zh (zaH (by rw[a.rect.row i hi];exact a.lt j hj)))
section
variable {n:Nat} {rows:List PRow} (hl:∀k,k<rows.length→(rows.getD k default).coef.length=n)
theorem zUo(h:t<rows.length)(a:(rows.getD t default).kind≠3):cnt rows t<cnt rows rows.length:=by
 have h1:cnt rows (t+1)=cnt rows t+1:=by rw[cnt,if_neg a]
 have d:=zyi rows (j:=t+1) (k:=rows.length) (by omega);omega
theorem zX7(hi:(rows.getD i default).kind≠3)(a:(rows.getD t default).kind≠3)(e:cnt rows i=cnt rows t):i=t:=by
 have h1:cnt rows (i+1)=cnt rows i+1:=by rw[cnt,if_neg hi]
 have d:cnt rows (t+1)=cnt rows t+1:=by rw[cnt,if_neg a]
 rcases Xr i t with h | h | h
 ·have:=zyi rows (j:=i+1) (k:=t) (by omega);omega
 ·exact h
 ·have:=zyi rows (j:=t+1) (k:=i) (by omega);omega
include hl
theorem zWW(h:k<rows.length)(hj:j<n):en (zc3 rows) k j=el (rows.getD k default).coef j:=by
 unfold en;rw[zrT h,zkF (by rw[hl k h];exact hj)]
theorem zXg(y:Nat→Rat)(d:t<rows.length)(a:(rows.getD t default).kind≠3):zai rows.length (fun i=>y i*en (zc3 rows) i (n+cnt rows t))=y t*((zfI (rows.getD t default).kind:Int):Rat):=by
 have hc:=zUo d a;rw[zbI (k:=t) d fun i hi e=>by
  rw[zvs hl hi hc,if_neg (fun h=>e (zX7 h.1 a h.2.symm))];grind,zvs hl d hc,if_pos ⟨a,rfl⟩]
theorem zUC(z:Nat→Rat)(hi:i<rows.length):zai (n+cnt rows rows.length) (fun j=>en (zc3 rows) i j*z j)=zai n (fun j=>el (rows.getD i default).coef j*z j)+(if (rows.getD i default).kind=3 then 0 else ((zfI (rows.getD i default).kind:Int):Rat)*z (n+cnt rows i)):=by
 rw[zgc _ n,zaj (g:=fun j=>el (rows.getD i default).coef j*z j) fun j hj=>by rw[zWW hl hi hj]]
 congr 1
 by_cases a:(rows.getD i default).kind=3
 ·rw[if_pos a];exact zcn fun t d=>by rw[zvs hl hi d,if_neg (fun h=>h.1 a)];grind
 ·rw[if_neg a,zbI (k:=cnt rows i) (zUo hi a) fun t d e=>by rw[zvs hl hi d,if_neg (fun h=>e h.2)];grind,zvs hl hi (zUo hi a),if_pos ⟨a,rfl⟩]
end
theorem zYn{k:Int}(h:k=1):((zfI k:Int):Rat)=1:=by unfold zfI;rw[if_pos h];rfl
theorem zYo{k:Int}(h:k≠1):((zfI k:Int):Rat) = -1:=by unfold zfI;rw[if_neg h];rfl
theorem zTB(a:cost.length=n):el (zjD cost rows) j=if j<n then el cost j else 0:=by
 unfold zjD;by_cases h:j<n
 ·rw[if_pos h,zkF (by omega)]
 ·rw[if_neg h];unfold el;rw[Zi,Zy (by omega),ZJ];split<;>rfl
theorem zUp{K:Nat}(a:cost.length=n)(z:Nat→Rat):zai (n+K) (fun j=>el (zjD cost rows) j*z j)=zai n fun j=>el cost j*z j:=by
 rw[zgc _ n,zcn (f:=fun t=>el (zjD cost rows) (n+t)*z (n+t)) fun t _=>by rw[zTB a,if_neg (by omega)];grind,zaj (g:=fun j=>el cost j*z j) fun j hj=>by rw[zTB a,if_pos hj]];grind
theorem zWQ(a:b.length=m)(d:ys.length=m)(h:i<m):el (bkL (b.map sgI) ys m) i=sgn (el b i)*el ys i:=by
 rw[znd (zTv (by omega)),if_pos h,Zi,Zw,zaH (xs:=b) (j:=i) (by omega)];show((sgI (el b i):Int):Rat)*_=_
 rw[zUb]
def zWY (p:PRow) (d:List Rat):Prop:=(p.kind=1→dot p.coef d≤0)∧(p.kind=2→0≤dot p.coef d)∧(p.kind=3→dot p.coef d=0)
structure Signs (m:Nat) (rows:List PRow) (y:List Rat):Prop where
  ly:y.length=m
  s1:∀k,k<m→(rows.getD k default).kind=1→el y k≤0
  s2:∀k,k<m→(rows.getD k default).kind=2→0≤el y k
def zUQ (nC m:Nat) (rows:List PRow) (y:List Rat):Prop:=Signs m rows y∧(∀j,j<nC→zai m (fun i=>el y i*el (rows.getD i default).coef j)≤0)∧0<sb y rows
def zUP (nC m:Nat) (cost:List Rat) (rows:List PRow) (x y:List Rat):Prop:=Signs m rows y∧x.length=nC∧znD cost rows x=true∧(∀j,j<nC→zai m (fun i=>el y i*el (rows.getD i default).coef j)≤el cost j)∧dot cost x=sb y rows
def zUE (nC:Nat) (cost:List Rat) (rows:List PRow) (x d:List Rat):Prop:=x.length=nC∧znD cost rows x=true∧d.length=nC∧(∀j,0≤el d j)∧(∀p∈rows,zWY p d)∧dot cost d<0
section
variable {nC m N:Nat} {cost:List Rat} {rows:List PRow} (hg:Shape nC rows) (hlc:cost.length=nC) (hlr:rows.length=m) (hN:nC+cnt rows m=N)
include hg hlc hlr hN
theorem zSE:∀k,k<rows.length→(rows.getD k default).coef.length=nC:=fun k hk=>hg.co _ (Zh (zaO hk))
theorem zVA:Rect m N (zc3 rows):=by have:=zlk (zSE hg hlc hlr hN);rw[hlr,hN]at this;exact this
theorem zVz:(zg8 rows).length=m:=by rw[zxG,hlr]
theorem zTr(ly:y.length=m)(h:∀t,t<m→(rows.getD t default).kind≠3→zai m (fun i=>el y i*en (zc3 rows) i (nC+cnt rows t))≤0):Signs m rows y:=by
 have d:∀t,t<m→(rows.getD t default).kind≠3→el y t*((zfI (rows.getD t default).kind:Int):Rat)≤0:=fun t f a=>by
  have:=h t f a;have e:=zXg (zSE hg hlc hlr hN) (el y) (t:=t) (by omega) a;rw[hlr]at e;rw[e]at this;exact this
 refine⟨ly,fun k hk e=>?_,fun k hk e=>?_⟩
 ·have:=d k hk (by omega);rw[zYn e]at this;grind
 ·have:=d k hk (by omega);rw[zYo (by omega)]at this;grind
theorem zTT(g:∀j,0≤z j)(u:∀i,i<m→zai N (fun j=>en (zc3 rows) i j*z j)=el (zg8 rows) i){x:List Rat}(lx:x.length=nC)(ex:∀j,j<nC→el x j=z j):znD cost rows x=true:=by
 have s:=zSE hg hlc hlr hN;rw[zoE (by rw[lx,hlc]) (zNy fun j hj=>by rw[lx]at hj;rw[ex j hj];exact g j),Xx];intro p f;obtain⟨i,hi⟩:=Z0.1 f;have t:=(Zm.1 hi).1;have o:rows.getD i default=p:=zfC hi;have e:=u i (by omega);rw[←hN,←hlr,zUC s z t,o]at e;have r:el (zg8 rows) i=p.rhs:=by unfold zg8;rw[znd (by rw[Zw,hi];rfl)]
 rw[r]at e;have l:dot p.coef x=zai nC fun j=>el p.coef j*z j:=by
  unfold dot ziw;rw[hg.co p f];grind[zaj]
 have d:zdp p x = -(if p.kind=3 then 0 else ((zfI p.kind:Int):Rat)*z (nC+cnt rows i)):=by unfold zdp;rw[l];grind
 have zs:=g (nC+cnt rows i);unfold zdH;have hk:=hg.kd p f;by_cases a:p.kind=1
 ·rw[if_neg (by omega),zYn a]at d;rw[if_pos a,Zs];grind
 ·by_cases k2:p.kind=2
  ·rw[if_neg (by omega),zYo a]at d;rw[if_neg a,if_pos k2,Zs];grind
  grind
theorem zWF(s:∀j,0≤z j)(r:∀i,i<m→zai N (fun j=>en (zc3 rows) i j*z j)=0){d:List Rat}(t:d.length=nC)(g:∀j,j<nC→el d j=z j):∀p∈rows,zWY p d:=fun p f=>by
 obtain⟨i,hi⟩:=Z0.1 f;have o:=(Zm.1 hi).1;have l:rows.getD i default=p:=zfC hi;have e:=r i (by omega);rw[←hN,←hlr,zUC (zSE hg hlc hlr hN) z o,l]at e;have a:dot p.coef d=zai nC fun j=>el p.coef j*z j:=by
  unfold dot ziw;rw[hg.co p f];exact zaj fun j hj=>by rw[g j hj]
 have zs:=s (nC+cnt rows i);refine⟨fun k=>?_,fun k=>?_,fun k=>?_⟩
 ·rw[if_neg (by omega),zYn k]at e;rw[a];grind
 ·rw[if_neg (by omega),zYo (by omega)]at e;rw[a];grind
 grind
theorem zVB:sb y rows=zai m fun i=>el y i*el (zg8 rows) i:=by
 unfold sb zPV;rw[hlr];exact zaj fun i hi=>by unfold zg8;rw[znd (xs:=rows.map fun r=>r.rhs) (a:=(rows.getD i default).rhs) (by rw[Zw,zaO (d:=default) (show i<rows.length by omega)];rfl)]
theorem z6E(I:Am.Ends m N (zc3 rows) (zg8 rows) (zjD cost rows) (zSA N m (zc3 rows) (zg8 rows) (zjD cost rows) B)):match zSA N m (zc3 rows) (zg8 rows) (zjD cost rows) B with
  | .spent _=>False
  | .none cols _=>zUQ nC m rows (bkL ((zg8 rows).map sgI) (zcl (zt0 (zc3 rows) (zg8 rows)) cols (zJG N m)) m)
  | .best cols _=>zUP nC m cost rows ((zh1 (N+m) cols (za5 (zt0 (zc3 rows) (zg8 rows)) (zwh (zg8 rows)) cols)).take nC) (bkL ((zg8 rows).map sgI) (zcl (zt0 (zc3 rows) (zg8 rows)) cols (zKb m (zjD cost rows))) m)
  | .falls cols j _=>zUE nC cost rows ((zh1 (N+m) cols (za5 (zt0 (zc3 rows) (zg8 rows)) (zwh (zg8 rows)) cols)).take nC) ((zTj (N+m) cols (zav (zt0 (zc3 rows) (zg8 rows)) cols j) j m).take nC):=by
 have p:=zVA hg hlc hlr hN;have d:=zVz hg hlc hlr hN;have M:=zSE hg hlc hlr hN;have hc:(zjD cost rows).length=N:=by unfold zjD;rw[Zj,Zr,hlc,hlr];exact hN
 have J:∀t,t<m→(rows.getD t default).kind≠3→nC+cnt rows t<N:=fun t u l=>by
  have:=zUo (rows:=rows) (t:=t) (by omega) l;rw[hlr]at this;omega
 have own:∀(y:Nat→Rat) j,j<nC→zai m (fun i=>y i*en (zc3 rows) i j)=zai m fun i=>y i*el (rows.getD i default).coef j:=fun y j hj=>zaj fun i hi=>by rw[zWW M (by omega) hj]
 have L:∀t,el (zjD cost rows) (nC+t)=0:=fun t=>by rw[zTB hlc,if_neg (by omega)]
 have co:∀j,j<nC→el (zjD cost rows) j=el cost j:=fun j hj=>by rw[zTB hlc,if_pos hj]
 have x:∀cols,((zh1 (N+m) cols (za5 (zt0 (zc3 rows) (zg8 rows)) (zwh (zg8 rows)) cols)).take nC).length=nC:=fun cols=>by rw[Zn,zl8];omega
 have C:∀cols,cols.length=m→∀j,j<nC→el ((zh1 (N+m) cols (za5 (zt0 (zc3 rows) (zg8 rows)) (zwh (zg8 rows)) cols)).take nC) j=pt m (fun k=>cols.getD k 0) (el (za5 (zt0 (zc3 rows) (zg8 rows)) (zwh (zg8 rows)) cols)) j:=fun cols hl j hj=>by rw[zT7 hj,zvg (by omega),hl]
 generalize zSA N m (zc3 rows) (zg8 rows) (zjD cost rows) B=o at I ⊢;cases I with
 | none h f s v =>
  rename_i cols k
  obtain⟨h1,D⟩:=(zTS h f p d s).2 v;have ly:=(h.duals_ok (zJG N m)).2;have a:∀i,i<m→el (bkL ((zg8 rows).map sgI) (zcl (zt0 (zc3 rows) (zg8 rows)) cols (zJG N m)) m) i=sgn (el (zg8 rows) i)*el (zcl (zt0 (zc3 rows) (zg8 rows)) cols (zJG N m)) i:=fun i hi=>zWQ d ly hi
  refine⟨zTr hg hlc hlr hN (by rw[zSJ,ly]) fun t u l=>?_,fun j hj=>?_,?_⟩
  ·rw[zaj fun i hi=>by rw[a i hi]];grind
  ·have:=h1 j (by omega);rw[own _ j hj]at this;rw[zaj fun i hi=>by rw[a i hi]];exact this
  ·rw[zVB hg hlc hlr hN,zaj fun i hi=>by rw[a i hi]];exact D
 | best h s =>
  rename_i cols k
  obtain⟨h1,D⟩:=h.best p d hc s;obtain⟨G,E⟩:=h.fits p d;have hl:=h.basis.len;have ly:=(h.basis.duals_ok (zKb m (zjD cost rows))).2;have a:∀i,i<m→el (bkL ((zg8 rows).map sgI) (zcl (zt0 (zc3 rows) (zg8 rows)) cols (zKb m (zjD cost rows))) m) i=sgn (el (zg8 rows) i)*el (zcl (zt0 (zc3 rows) (zg8 rows)) cols (zKb m (zjD cost rows))) i:=fun i hi=>zWQ d ly hi
  refine⟨zTr hg hlc hlr hN (by rw[zSJ,ly]) fun t u l=>?_,x cols,zTT hg hlc hlr hN G E (x cols) (C cols hl),fun j hj=>?_,?_⟩
  ·rw[zaj fun i hi=>by rw[a i hi]];have:=h1 _ (J t u l);rw[L]at this;exact this
  ·have:=h1 j (by omega);rw[own _ j hj,co j hj]at this;rw[zaj fun i hi=>by rw[a i hi]];exact this
  ·have e:=zUp (K:=cnt rows m) hlc (rows:=rows) (pt m (fun k=>cols.getD k 0) (el (za5 (zt0 (zc3 rows) (zg8 rows)) (zwh (zg8 rows)) cols)));rw[hN]at e;rw[zVB hg hlc hlr hN,zaj (g:=fun i=>sgn (el (zg8 rows) i)*el (zcl (zt0 (zc3 rows) (zg8 rows)) cols (zKb m (zjD cost rows))) i*el (zg8 rows) i) fun i hi=>by rw[a i hi],←D,e];unfold dot ziw;rw[hlc];grind[zaj]
 | falls h s =>
  rename_i cols j k
  obtain⟨hj,w0,wz,wc⟩:=h.ray p d hc s;obtain⟨G,E⟩:=h.fits p d;have hl:=h.basis.len;have F:((zTj (N+m) cols (zav (zt0 (zc3 rows) (zg8 rows)) cols j) j m).take nC).length=nC:=by rw[Zn,zSN];omega
  have z:∀i,i<nC→el ((zTj (N+m) cols (zav (zt0 (zc3 rows) (zg8 rows)) cols j) j m).take nC) i=way m (fun k=>cols.getD k 0) (fun r s=>el (zav (zt0 (zc3 rows) (zg8 rows)) cols s) r) j i:=fun i hi=>by rw[zT7 hi,znd (zTf (by omega))];rfl
  refine⟨x cols,zTT hg hlc hlr hN G E (x cols) (C cols hl),F,fun i=>?_,zWF hg hlc hlr hN w0 wz F z,?_⟩
  ·grind[zDb,Rat.le_refl]
  ·have e:=zUp (K:=cnt rows m) hlc (rows:=rows) (way m (fun k=>cols.getD k 0) (fun r s=>el (zav (zt0 (zc3 rows) (zg8 rows)) cols s) r) j);rw[hN]at e;rw[e]at wc;unfold dot ziw;rw[hlc,zaj fun i hi=>by rw[z i hi]];exact wc
end
theorem z6Q(f:Basis m N A cols)(a:1≤Z)(zc:∀q∈col,mw q≤Z)(j:Nat):∀q∈zTj N cols col j m,mw q≤Z+2:=fun q g=>by
 obtain⟨i,hi⟩:=Z0.1 g;have hl:=(Zm.1 hi).1;rw[zSN]at hl;have e:=hi;rw[zTf hl]at e;injection e with e;rw[←e];show mw ((if i=j then (1:Rat)else 0)+pt m (fun l=>cols.getD l 0) (fun l => -el col l) i)≤_
 have o:mw (if i=j then (1:Rat)else 0)≤1:=by grind[mw1,mw0]
 have h1:mw (pt m (fun l=>cols.getD l 0) (fun l => -el col l) i)≤Z:=by
  by_cases d:Bas m (fun k=>cols.getD k 0) i
  ·obtain⟨k,hk,rfl⟩:=d;rw[zA7 f.inj _ hk,zhY];exact zDJ a zc k
  grind[zyz,Nat.le_trans,mw0]
 have p:=zrI (if i=j then (1:Rat)else 0) (pt m (fun l=>cols.getD l 0) (fun l => -el col l) i);omega
theorem z6K(d:b.length=m)(a:ys.length=m)(zy:∀q∈ys,mw q≤S):∀q∈bkL (b.map sgI) ys m,mw q≤S:=fun q e=>by
 obtain⟨i,hi⟩:=Z0.1 e;have hl:=(Zm.1 hi).1;rw[zSJ,a]at hl;rw[←znd hi,zWQ d a hl,zWX];grind[zrz]
section
variable {S nC m N:Nat} {cost:List Rat} {rows:List PRow} (hg:GoodS S nC m cost rows) (hlc:cost.length=nC) (hlr:rows.length=m) (hN:nC+cnt rows m=N)
include hg hlr in
theorem z6N:∀r∈zc3 rows,∀q∈r,mw q≤S:=fun r hr q a=>by
 unfold zc3 at hr;obtain⟨k,hk,rfl⟩:=Zq.1 hr;rw[Xa]at hk;rcases ZD.1 a with h1 | h1
 ·exact(hg.rw_ _ (Zh (zaO hk))).2.1 q h1
 ·exact Zc (zsi rows k q h1) hg.h1
include hg in
theorem z6O:∀q∈zg8 rows,mw q≤S:=fun q d=>by
 obtain⟨p,a,rfl⟩:=Zq.1 d;exact(hg.rw_ p a).2.2
include hg in
theorem z6P:∀q∈zjD cost rows,mw q≤S:=fun q a=>by
 rcases ZD.1 a with h1 | h1
 ·exact hg.sc q h1
 ·rw[(Yk.1 h1).2];exact Zc mw0 hg.h1
include hg hlc hlr hN in
theorem z6F(d:Am.Ends m N (zc3 rows) (zg8 rows) (zjD cost rows) (zSA N m (zc3 rows) (zg8 rows) (zjD cost rows) B)):match zSA N m (zc3 rows) (zg8 rows) (zjD cost rows) B with
  | .spent _=>False
  | .none cols _=>∀q∈bkL ((zg8 rows).map sgI) (zcl (zt0 (zc3 rows) (zg8 rows)) cols (zJG N m)) m,mw q≤sB m S S
  | .best cols _=>(∀q∈(zh1 (N+m) cols (za5 (zt0 (zc3 rows) (zg8 rows)) (zwh (zg8 rows)) cols)).take nC,mw q≤sB m S S)∧∀q∈bkL ((zg8 rows).map sgI) (zcl (zt0 (zc3 rows) (zg8 rows)) cols (zKb m (zjD cost rows))) m,mw q≤sB m S S
  | .falls cols j _=>(∀q∈(zh1 (N+m) cols (za5 (zt0 (zc3 rows) (zg8 rows)) (zwh (zg8 rows)) cols)).take nC,mw q≤sB m S S)∧∀q∈(zTj (N+m) cols (zav (zt0 (zc3 rows) (zg8 rows)) cols j) j m).take nC,mw q≤sB m S S+2:=by
 have e:=zVz hg.sh hlc hlr hN;have hc:(zjD cost rows).length=N:=by unfold zjD;rw[Zj,Zr,hlc,hlr];exact hN
 have zA:=zXc (b:=zg8 rows) hg.h1 (z6N hg hlr);have zb:=zXd (z6O hg);have zc:=zXe (m:=m) hg.h1 (z6P hg);have i:(zwh (zg8 rows)).length=m:=by rw[zUh,e]
 have g:1≤sB m S S:=zma _ _ _
 have P:∀cols,Basis m (N+m) (zt0 (zc3 rows) (zg8 rows)) cols→∀q∈(zh1 (N+m) cols (za5 (zt0 (zc3 rows) (zg8 rows)) (zwh (zg8 rows)) cols)).take nC,mw q≤sB m S S:=fun cols h q a =>
  z0l h (h.vals_ok _).2 (z0n h (zLu h zA) i zb) g q (Yc a)
 have Y:∀cols cs,Basis m (N+m) (zt0 (zc3 rows) (zg8 rows)) cols→cs.length=N+m→(∀q∈cs,mw q≤S)→∀q∈bkL ((zg8 rows).map sgI) (zcl (zt0 (zc3 rows) (zg8 rows)) cols cs) m,mw q≤sB m S S:=fun cols cs h l z =>
  z6K e (h.duals_ok cs).2 (znb h (zLu h zA) l z)
 generalize zSA N m (zc3 rows) (zg8 rows) (zjD cost rows) B=o at d ⊢;cases d with
 | none h f s v=>exact Y _ _ h (by simp[zJG]) fun q a=>Zc (zTR N m q a) hg.h1
 | best h s=>exact⟨P _ h.basis,Y _ _ h.basis (by simp[zKb,hc]) zc⟩
 | falls h s =>
  rename_i cols j k
  refine⟨P _ h.basis,fun q a=>z6Q h.basis g (zVc h.basis (zLu h.basis zA) fun q a=>?_) j q (Yc a)⟩;obtain⟨r,hr,rfl⟩:=Zq.1 a;exact zDJ hg.h1 (zA r hr) j
end
