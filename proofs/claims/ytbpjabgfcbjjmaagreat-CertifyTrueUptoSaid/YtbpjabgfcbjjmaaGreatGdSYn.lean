/- Contracts and lemmas: Ng PrY GdS PrS Shp Own. Conditions: as each says. -/
import Derived.Test.YtbpjabgfcbjjmaaGreatDuBYn
import Derived.Test.YtbpjabgfcbjjmaaGreatPrBYn
set_option linter.all false
set_option maxHeartbeats 2000000
set_option maxRecDepth 100000
namespace Go.Proofs.YtbpjabgfcbjjmaaGreat
open Go.RowKit Am Go.Proofs.Tryz
variable {A:List (List Rat)}{cols:List Nat}{rows:List PRow}{b col cost y ys:List Rat}{B N NN S Z i j k m n nC t:Nat}{z:Nat->Rat}
def zNy{xs:List Rat}(h:∀k,k<xs.length->0<=el xs k):(xs.any λq=>decide (q<0))=false:=by rw[Ya];grind[List.mem_iff_getElem?,List.getElem?_eq_some_iff,znd,decide_eq_false,Rat.not_lt]
def zLu(a:Basis m N A cols)(zA:∀r∈A,∀q∈r,mw q<=S):zhg mw m S (bc A cols):=λj hj i hi=>by rw[ztZ (by rw[a.len];exact hj) (by rw[a.rect.len];exact hi)];have e:=zaO (L:=A) (i:=i) (d:=[]) (by rw[a.rect.len];exact hi);have hm:=Zj e;exact zA _ hm _ (Zj (zaH (by rw[a.rect.row i hi];exact a.lt j hj)))
attribute [local go_sem ↓] Go.wp_at_zero Go.wp_at_succ
def zTj (NN:Nat) (cols:List Nat) (col:List Rat) (j k:Nat):List Rat:=(List.range NN).map λi=>way k (λl=>cols.getD l 0) (λr _=>el col r) j i
def zSN(NN:Nat)(cols:List Nat)(col:List Rat)(j k:Nat):(zTj NN cols col j k).length=NN:=by simp[zTj]
def zTf(h:i<NN):(zTj NN cols col j k)[i]? = some (way k (λl=>cols.getD l 0) (λr _=>el col r) j i):=by unfold zTj;rw[Z1,XH h];rfl
def zVE:(List.replicate NN (0:Rat)).set j 1=zTj NN cols col j 0:=by
 apply Xf;intro i;rw[Xy,ZQ];by_cases hi:i<NN;rw[zTf hi,Z9,if_pos hi];unfold way pt;by_cases e:j=i;subst e;rw[if_pos rfl,if_pos hi,if_pos rfl];simp only[zai,Rat.add_zero];rw[if_neg e,if_neg (Z6 e)];simp only[zai,Rat.add_zero]
 simp_all[Xl,zSN,if_pos,if_neg]
def zWJ(hc:cols.getD k 0<NN):(zTj NN cols col j k).set (cols.getD k 0) (way k (λl=>cols.getD l 0) (λr _=>el col r) j (cols.getD k 0)-el col k)=zTj NN cols col j (k+1):=by
 apply Xf;intro i;rw[Xy,zSN];by_cases hi:i<NN;rw[zTf hi,zTf hi];unfold way pt;rw[zai];by_cases e:cols.getD k 0=i;rw[if_pos e,if_pos hc,if_pos e,<-e];congr 1;grind
 rw[if_neg e,if_neg e];congr 1;grind
 simp_all[Xl,zSN,if_neg]
def z0o(a:1<=Z)(zc:∀q∈col,mw q<=Z)(j i k:Nat):mw (way k (λl=>cols.getD l 0) (λr _=>el col r) j i)<=k*(Z+1)+3:=by
 show mw ((if i=j then (1:Rat)else 0)+pt k (λl=>cols.getD l 0) (λl => -el col l) i)<=_
 have h1:mw (pt k (λl=>cols.getD l 0) (λl => -el col l) i)<=k*(Z+1)+1:=zrK (λl=>by
  split
  rw[zhY];exact zDJ a zc l;exact Zf mw0 a) k
 grind[mw1,mw0,zrI]
section
variable {W0 w:World} {H q:Nat} {rA:OA} {rc:Nat} {lA:List Value} {bA:OA} {bc_:Nat} {kA:OA} {kc:Nat} {eA:OA} {ec m NN S own:Nat} {A:List (List Rat)} {b c:List Rat} {left:List Int}
  {tA:OA} {tc:Nat} {cols:List Nat}
namespace Pr
def pray(h:zhi W0 w H q rA rc lA bA bc_ kA kc eA ec m NN S own A b c left tA tc cols)(gA:OA)(gc N j:Nat)(hj:j<NN)(aw:zor m S<=LIM)(hZ:4*(m*(sB m S S+1)+3+sB m S S)+8<=LIM)(aQ:own<=NN) :
  Calls prog 51 #[.agg #[(rA,m,rc),(NN:Int),(bA,m,bc_),(kA,NN,kc),(own:Int),(eA,m,ec),(gA,m,gc),(N:Int)],.pointer (some ⟨q,0,none⟩),(j:Int)] w λe w'=>∃(A':OA) (c':Nat),e=.returned (A',own,c')/\VecS w' w (A',own,c') ((zTj NN cols (zav A cols j) j m).take own)/\Below w w w':=by
 refine μ4 h.basis aw hZ hj λO aF aN HJ=>?_;have db:=h.std.hm;have dc:=h.std.hN;have c7:(0:Int)<=(j:Int):=Zg _;have c8:¬(j:Int)<0:=ω;have c9:(j:Int)<(NN:Int):=ω;have da:¬(NN:Int)<=(j:Int):=ω;have an:=un (show ∀x∈zav A cols j,mw x<=sB m S S by obtain⟨_,_,_,hP⟩:=h;exact zVc hP.basis hP.bas.good.2.2 (hP.std.zcol hj));have HP:=un h;clear aw hZ h;obtain⟨W,T⟩:∃W,(w.alloc (.cells #[(rA,m,rc),(NN:Int),(bA,m,bc_),(kA,NN,kc),(own:Int),(eA,m,ec),(gA,m,gc),(N:Int)] 118))=W:=⟨_,rfl⟩
 refine μ3 (show θ W w.heap.size #[(rA,m,rc),(NN:Int),(bA,m,bc_),(kA,NN,kc),(own:Int),(eA,m,ec),(gA,m,gc),(N:Int)] 118by rw[<-T];exact zam σ) (show Below w w W by rw[<-T];exact zae w _) (show zhi W0 W H q rA rc lA bA bc_ kA kc eA ec m NN S own A b c left tA tc cols by rw[<-T];exact(HP.o).alloc _) λy t HT=>?_;obtain⟨_,_,_,_,_,_,cK,_⟩:=bc8 y.o;go_enter func51,ntmps51;go_upto_region 4 with (at_make;go_must (refine zdv rfl _ _ rfl NN _ rfl rfl rfl ω W.heap.size rfl ?_;intro w1 ho ag;have HO:=un (show VecS w1 W.heap.size (.slice (some ⟨W.heap.size,0,none⟩) NN NN) (List.replicate NN 0)from ho);have aO:=un (show Bel W w1 from Bel.mk ag);clear ho ag))
 clear T;obtain⟨C,s,F,z,u,G,B,y0,y1,p,E⟩:=HO.o.at_ (k:=j) (q:=0) (by rw[Z9,if_pos HJ.o]);clear E;go_cut[] (λwy=>VecS wy W.heap.size (.slice (some ⟨W.heap.size,0,none⟩) NN NN) (zTj NN cols (zav A cols j) j 0)/\Below W.heap.size W wy)
 case first =>
  go_wp2_with fail
  refine(Rt.int 1 δ δ _).mono ?_;rintro e u1 ⟨g1,A1,m1,c1,D1,md1,cd1,rfl,hn,hb⟩;refine μ3 (HO.o.below hb) (aO.o.below hb) (show RatS u1 g1 (A1,m1,c1) (D1,md1,cd1) ((1:Int):Rat)from hn) λY a4 HM=>?_;have z0:=zab hb y0;have z1:=zab hb y1;have z2:=zab hb p;have aS:=Y.o.fro (j*3);have of1:=Y.o.fro (j*3+1);have aT:=Y.o.fro (j*3+2);clear hn hb;go_wp2;go_meet
  case rel=>exact⟨by rw[<-zVE];exact VecS.store Y.o j HM.o,(Bel.set3 a4.o (Za _) _ _ _).b⟩
 obtain⟨g,a⟩:=hcut;rename World=>w2
 clear y0 y1 p;refine μ4 (zad a y.o) (HT.o.below a) (show VecS w2 W.heap.size (.slice (some ⟨W.heap.size,0,none⟩) NN NN) (zTj NN cols (zav A cols j) j 0)from g) (show Bel W w2 from Bel.mk a) λaA ay v HW=>?_;obtain⟨cd,_⟩:=bc8 aA.o;have aP:W.heap.size<w2.heap.size:=(g.lt rfl).2;clear g a;clear cK;go_wp2_with fail
 refine(Tb.column ay.o j HJ.o aF.o).mono ?_;rintro e w3 ⟨A3,n3,c3,rfl,g,hb⟩;refine μ5 (zad hb aA.o) (ay.o.below hb) (v.o.below hb) (HW.o.below hb) (show VecS w3 w2 (A3,n3,c3) (zav A cols j)from g) λaB a5 cm ci aE=>?_;obtain⟨_,_,_,_,_,_,_,cs,_⟩:=bc8 aB.o;obtain rfl:m=n3:=by rw[g.len,(O.o.column_ok j).2]
 have aR:=hb.size;clear g hb;go_wp2_with fail
 refine(Tb.basis a5.o).mono ?_;rintro e w4 ⟨B0,cB,rfl,hi,hb⟩;refine μ4 (cm.o.below hb) (ci.o.below hb) (aE.o.below hb) (show IntsS w4 w2 (B0,m,cB) cols from(hi.base aR)) λcq cv bP aH=>?_;clear hi hb;clear cd cs;go_wp2
 go_loopw [38] (λi wr=>∃k:Nat,i=.int .i64 k/\k<=m/\VecS wr W.heap.size (.slice (some ⟨W.heap.size,0,none⟩) NN NN) (zTj NN cols (zav A cols j) j k)/\VecS wr w2 (A3,m,c3) (zav A cols j)/\IntsS wr w2 (B0,m,cB) cols/\Below W.heap.size W wr)
  (λi _=>m-(intOf i).toNat)
 case atStart=>exact⟨0,rfl,Zb _,cq.o,bP.o,aH.o,cv.o.b⟩
 obtain⟨k,rfl,hk,g,hc,hi,a⟩:=hrel;by_cases ai:k<m
 ·obtain⟨o,rfl,_,_⟩:=hc.has ω;obtain⟨bi,rfl,_,_⟩:=hi.has ω;have ah:=O.o.lt k ai;have l0:=hi.at_ (zaO (L:=cols) (i:=k) (d:=0) (by rw[O.o.len];exact ai));obtain⟨C,s,F,z,u,G,B,y0,y1,p,E⟩:=g.at_ (zTf ah);obtain⟨R,J,V,P,M,X,Q,z0,z1,z2,au⟩:=hc.at_ (zaH (xs:=zav A cols j) (j:=k) (by rw[(O.o.column_ok j).2];exact ai));have aa:=un (zWJ (col:=zav A cols j) (j:=j) ah)
  have ap:=un (show 4*(mw (way k (λl=>cols.getD l 0) (λr _=>el (zav A cols j) r) j (cols.getD k 0))+mw (el (zav A cols j) k))+8<=LIM by have h1:=z0o (zma m S S) an.o j (cols.getD k 0) k (cols:=cols);have h2:=zDJ (zma m S S) an.o k;have h3:=aN.o;have h4:k*(sB m S S+1)<=m*(sB m S S+1):=ZV _ hk;omega);generalize way k (λl=>cols.getD l 0) (λr _=>el (zav A cols j) r) j (cols.getD k 0)=wv at E aa ap;generalize cols.getD k 0=f at l0 ah y0 y1 p aa;refine μ8 (zad a y.o) (show RatS wr C (s,F,z) (u,G,B) wv from E) (show RatS wr R (J,V,P) (M,X,Q) (el (zav A cols j) k)from au) (show VecS wr W.heap.size (.slice (some ⟨W.heap.size,0,none⟩) NN NN) (zTj NN cols (zav A cols j) j k)from g) (show VecS wr w2 (o,m,c3) (zav A cols j)from hc) (show IntsS wr w2 (bi,m,cB) cols from hi) (show Bel W wr from Bel.mk a) (t.o.trans ((a).mono t.o.size)) λZ aK aL v HC HI HW aC=>?_;obtain⟨_,_,_,_,_,_,_,_,be,_⟩:=bc8 Z.o;have cu:χ wr bi k (.int .i64 ((f:Nat):Int)):=l0;have cE:χ wr W.heap.size (f*3) (.bool C):=y0;have aX:=zaa cE;have cF:χ wr W.heap.size (f*3+1) (s,F,z):=y1;have aY:=zaa cF;have cG:χ wr W.heap.size (f*3+2) (u,G,B):=p;have aZ:=zaa cG;have cH:χ wr o (k*3) (.bool R):=z0;have a0:=zaa cH;have cI:χ wr o (k*3+1) (J,V,P):=z1;have a1:=zaa cI;have cJ:χ wr o (k*3+2) (M,X,Q):=z2;have a2:=zaa cJ;have c0:(0:Int)<=(k:Int):=Zg _;have c4:(k:Int)<(m:Int):=ω;have c5:(0:Int)<=(f:Int):=Zg _;have c6:(f:Int)<(NN:Int):=ω;clear g hc hi a l0 y0 y1 p z0 z1 z2 E au;go_wp2_with fail
  refine za2 (S:=λw'=>χ w' W.heap.size (f*3) (.bool C)/\χ w' W.heap.size (f*3+1) (s,F,z)/\χ w' W.heap.size (f*3+2) (u,G,B)/\χ w' o (k*3) (.bool R)/\χ w' o (k*3+1) (J,V,P)/\χ w' o (k*3+2) (M,X,Q)) 12 (h:=λhHeld=>?_);refine zaw [0,1,2,3,4,5,6,7,8,9] ?_;repeat refine tkE hHeld ?_
  refine zao ?_;refine zaN 10 (h:=λK D=>?_);go_simp;(go_at_call 31;(refine(Rt.sub C s F z u G B wv R J V P M X Q (el (zav A cols j) k) _ aK.o.drew aL.o.drew ap.o).mono ?_);rintro e u2 ⟨g2,A2,m2,c2,D2,md2,cd2,rfl,hn,hb⟩;refine μ5 (v.o.drew.below hb) (HC.o.drew.below hb) (HI.o.drew.below hb) (HW.o.drew.below hb) (show RatS u2 g2 (A2,m2,c2) (D2,md2,cd2) (wv-el (zav A cols j) k)from hn) λI bp bq bo HS=>?_;have a9:=zab hb aX;have ba:=zab hb aY;have bb:=zab hb aZ;have a6:=zab hb a0;have a7:=zab hb a1;have a8:=zab hb a2;have aS:=I.o.fro (f*3);have of1:=I.o.fro (f*3+1);have aT:=I.o.fro (f*3+2);clear hn hb);(try go_wp2_with fail);refine shutOn D λhHeld=>?_;clear D K;refine zaw [11] ?_;repeat refine tkE hHeld ?_
  refine zao ?_;refine zba (h:=λK D=>?_);go_simp;refine shutOff D ?_;clear D K;refine za1 (h:=?_);go_wp2;obtain⟨cW,U⟩:=I.o.ratBlk;go_roundw
  case rel=>exact⟨k+1,by go_num,ω,by rw[<-aa.o];exact VecS.store I.o f HS.o,VecS.set3 bp.o U δ aP _ _ _ _ _ _,((bq.o.tk (TKeep.set U _) δ).tk (TKeep.set (zar _ U) _) δ).tk (TKeep.set (zar _ (zar _ U)) _) δ,(Bel.set3 bo.o (Za _) _ _ _).b⟩
  case measure=>simp[intOf];omega
 obtain rfl:m=k:=ω;refine μ3 (zad a y.o) (show VecS wr W.heap.size (.slice (some ⟨W.heap.size,0,none⟩) NN NN) (zTj NN cols (zav A cols j) j m)from g) (t.o.trans ((a).mono t.o.size)) λZ v aC=>?_;obtain⟨_,_,_,_,_,_,_,_,be,_⟩:=bc8 Z.o;have dd:(own:Int)<=(NN:Int):=ω;have de:(0:Int)<=(own:Int):=Zg _;clear g hc hi a;go_wp2;go_ret;exact⟨_,_,rfl,(v.o.cut own aQ).base t.o.size,aC.o⟩
end Pr
end
def zVF:∀n,n<=4->sB n 1 1<=1000000:=by decide +kernel
def zWc:∀n,n<=4->zor n 1<=LIM:=by unfold LIM;decide +kernel
structure Shape (nC:Nat) (rows:List PRow):Prop where
  co:∀p∈rows,p.coef.length=nC
  kd:Kinds rows
structure GoodS (S nC m:Nat) (cost:List Rat) (rows:List PRow):Prop where
  sc:∀q∈cost,mw q<=S
  rw_:∀p∈rows,p.coef.length=nC/\(∀q∈p.coef,mw q<=S)/\mw p.rhs<=S
  kd:Kinds rows
  h1:1<=S
  hS:S<=4000000
  hc:nC<=24
  hr:m<=20
  cap:zor m S<=LIM
  sb:sB m S S<=4000000
def Good1.toS(h:Good1 nC m cost rows):GoodS 1 nC m cost rows :=
 ⟨h.sc,h.rw_,h.kd,Za _,δ,by have:=h.hc;omega,by have:=h.hr;omega,zWc m h.hr,Zf (zVF m h.hr) δ⟩
def GoodS.sh(h:GoodS S nC m cost rows):Shape nC rows:=⟨λp a=>(h.rw_ p a).1,h.kd⟩
def zTX{c:List Rat}{r s:RunOut}{d:(List Nat × Nat) × Bool}(hN:N+m=NN)(hr:pivs (zBX NN (zt0 A b) (zwh b) (zJG N m) (zKc N m)) B (zKa N m)=r)
  (i:zSz N NN (zt0 A b) (B-r.n) m 0 (r.cols,0)=d) (l:pivs (zBX NN (zt0 A b) (zwh b) (zKb m c) (zKc N m)) (B-(r.n+d.1.2)) d.1.1=s) :
  (r.err=true->zSA N m A b c B=.spent r.n)/\(r.err=false->0<zSB N m A b r.cols->zSA N m A b c B=.none r.cols r.n) /\
  (r.err=false->¬0<zSB N m A b r.cols->d.2=true->zSA N m A b c B=.spent (r.n+d.1.2)) /\
  (r.err=false->¬0<zSB N m A b r.cols->d.2=false->s.err=true->zSA N m A b c B=.spent (r.n+d.1.2+s.n)) /\
  (r.err=false->¬0<zSB N m A b r.cols->d.2=false->s.err=false->s.at_=none->zSA N m A b c B=.best s.cols (r.n+d.1.2+s.n)) /\
  (∀j,r.err=false->¬0<zSB N m A b r.cols->d.2=false->s.err=false->s.at_=some j->zSA N m A b c B=.falls s.cols j (r.n+d.1.2+s.n)):=by
 subst hN;unfold zSA;grind
def zVM (w:World) (nC m N NN:Nat) (A0:List (List Rat)) (b0 c0:List Rat) (B:Nat) (o:Out) (e:Ending) (w':World):Prop :=
  Below w w w'/\match o with
    | .spent _=>∃ev,e=.returned (.tuple #[.agg #[.int .i64 0,(),(),(),.int .i64 0],ev])/\Spent w' B ev
    | .none cols n=>∃(Y:OA) (cY:Nat),e=.returned (.tuple #[.agg #[.int .i64 2,(),(Y,m,cY),(),(n:Int)],.nilIface])/\VecS w' w (Y,m,cY) (bkL (b0.map sgI) (zcl (zt0 A0 b0) cols (zJG N m)) m)
    | .best cols n=>∃(P:OA) (cP:Nat) (Y:OA) (cY:Nat),e=.returned (.tuple #[.agg #[.int .i64 1,(P,nC,cP),(Y,m,cY),(),(n:Int)],.nilIface])/\VecS w' w (P,nC,cP) ((zh1 NN cols (za5 (zt0 A0 b0) (zwh b0) cols)).take nC)/\VecS w' w (Y,m,cY) (bkL (b0.map sgI) (zcl (zt0 A0 b0) cols (zKb m c0)) m)
    | .falls cols j n=>∃(P:OA) (cP:Nat) (D:OA) (cD:Nat),e=.returned (.tuple #[.agg #[.int .i64 3,(P,nC,cP),(),(D,nC,cD),(n:Int)],.nilIface])/\VecS w' w (P,nC,cP) ((zh1 NN cols (za5 (zt0 A0 b0) (zwh b0) cols)).take nC)/\VecS w' w (D,nC,cD) ((zTj NN cols (zav (zt0 A0 b0) cols j) j m).take nC)
namespace Pr
open Du (zCr)
def zYk(rA:OA)(rc:Nat)(lA:List Value)(bA:OA)(bc_:Nat)(kA:OA)(kc:Nat)(eA:OA)(ec m N NN S own:Nat)(d:List (List Rat))(a f:List Rat)(left:List Int)(w:World)(hS:StdP w rA rc lA bA bc_ kA kc eA ec m N S d a f left)(o:NN<=64)(j:N+m=NN)(hl:left.length=m)(l:8*S+8<=LIM) :
  Calls prog 46 #[.agg #[(rA,m,rc),(N:Int),(bA,m,bc_),(kA,N,kc),(own:Int),(eA,m,ec)]] w λe w'=>∃(rA:OA) (rc:Nat) (lA:List Value) (bA:OA) (bc_:Nat) (kA:OA) (kc:Nat) (eA:OA) (ec:Nat) (g:OA) (i:Nat),
   e=.returned (.tuple #[.agg #[(rA,m,rc),(NN:Int),(bA,m,bc_),(kA,NN,kc),(own:Int),(eA,m,ec),(g,m,i),(N:Int)],.nilIface]) /\
   StdP w' rA rc lA bA bc_ kA kc eA ec m NN S (zt0 d a) (zwh a) (zKb m f) left/\IntsZ w' 0 (g,m,i) (a.map sgI)/\Below w w w':=by
 subst j;exact pbegin rA rc lA bA bc_ kA kc eA ec m N S own d a f left w hS o hl l
def psolve(S:Nat)(C:OA)(nC cC:Nat)(R:OA)(m Z:Nat)(cost:List Rat)(rows:List PRow)(N NN B:Nat)(w:World)(hc:VecS w 0 (C,nC,cC) cost)(hr:RowsS w 0 (R,m,Z) rows)(hg:GoodS S nC m cost rows)(hN:nC+cnt rows m=N)(aY:N+m=NN)(F:B<=1000000) :
  Calls prog 13 #[.agg #[(C,nC,cC),(R,m,Z)],(B:Int)] w (zVM w nC m N NN (zc3 rows) (zg8 rows) (zjD cost rows) B (zSA N m (zc3 rows) (zg8 rows) (zjD cost rows) B)):=by
 refine μ5 hc.len hr.len hg hN aY λjv jw HG HN ah=>?_;have jz:=zgO rows m;have c6:=hg.hr;have jy:=hg.hc;have bB:NN<=64:=ω;have c7:m<=64:=ω;refine μ9 (show Rows nC rows from λp G=>⟨(hg.rw_ p G).1,λq hq=>Zf ((hg.rw_ p G).2.1 q hq) hg.hS,Zf (hg.rw_ p G).2.2 hg.hS⟩) hg.cap hg.sb (show 8*S+8<=LIM by rw[zaP];have:=hg.hS;omega) (show 8*sB m S S+8<=LIM by rw[zaP];have:=hg.sb;omega) (show 4*(m*(sB m S S+1)+3+sB m S S)+8<=LIM by rw[zaP];have h1:=hg.sb;have h2:m*(sB m S S+1)<=20*(sB m S S+1):=ZV _ c6;omega) F (show Rect m N (zc3 rows)by have:=zlk (n:=nC) (rows:=rows) λk hk=>(hg.rw_ _ (Zj (zaO hk))).1;rw[<-hr.len,hN]at this;exact this) (show(zg8 rows).length=m by rw[zxG,<-hr.len]) λcK ay cO H8 cN cI bg cH cv=>?_;obtain⟨r,aD⟩:∃r,pivs (zBX NN (zt0 (zc3 rows) (zg8 rows)) (zwh (zg8 rows)) (zJG N m) (zKc N m)) B (zKa N m)=r:=⟨_,rfl⟩
 obtain⟨d,aC⟩:∃d,zSz N NN (zt0 (zc3 rows) (zg8 rows)) (B-r.n) m 0 (r.cols,0)=d:=⟨_,rfl⟩
 obtain⟨s,ad⟩:∃s,pivs (zBX NN (zt0 (zc3 rows) (zg8 rows)) (zwh (zg8 rows)) (zKb m (zjD cost rows)) (zKc N m)) (B-(r.n+d.1.2)) d.1.1=s:=⟨_,rfl⟩
 refine μ5 (zTX aY aD aC ad) aD aC (show r.n<=B by rw[<-aD];exact zLj _ _ _) (show d.1.2<=B-r.n by have h:=zSH m 0 (r.cols,0) (own:=N) (N:=NN) (A:=zt0 (zc3 rows) (zg8 rows)) (B:=B-r.n);rw[aC]at h;exact h.2 (Zb _)) λO cG cq cJ cr=>?_;obtain⟨n,hn⟩:∃n,r.n+d.1.2=n:=⟨_,rfl⟩
 rw[hn]at O ad;refine μ5 ad hn (show n<=B by have:=cJ.o;have:=cr.o;omega) (show s.n<=B-n by rw[<-ad];exact zLj _ _ _) (show ∀j,Basis m NN (zt0 (zc3 rows) (zg8 rows)) s.cols->s.err=false->s.at_=some j->j<NN by intro j c2 h1 h2;obtain⟨e1,_,_,e4,_⟩:=zoW (zBX NN (zt0 (zc3 rows) (zg8 rows)) (zwh (zg8 rows)) (zKb m (zjD cost rows)) (zKc N m)) (B-n) d.1.1;rw[ad]at e1 e4;have e:=e4 h1;rw[h2,<-e1]at e;exact(zSR c2 (by rw[zSS];unfold zjD;rw[Zz,ZQ,<-hc.len,<-hr.len];omega) e).1) λcL cz cy bk cQ=>?_;generalize hoo:zSA N m (zc3 rows) (zg8 rows) (zjD cost rows) B=o at *
 clear hg hN aY F aD aC ad hn hoo;obtain⟨W,U⟩:∃W,((w.alloc (.cells #[(C,nC,cC),(R,m,Z)] 33)).alloc (.cells #[.int .i64 0,(),(),(),.int .i64 0] 49))=W:=⟨_,rfl⟩
 refine μ6 (show θ W w.heap.size #[(C,nC,cC),(R,m,Z)] 33by rw[<-U];exact zak (zam σ)) (show θ W (w.heap.size+1) #[.int .i64 0,(),(),(),.int .i64 0] 49by rw[<-U];exact zam σ) (show Below w w W by rw[<-U];exact(zae w _).alloc σ _) (show w.heap.size+2<=W.heap.size by rw[<-U];simp) (show VecS W 0 (C,nC,cC) cost by rw[<-U];exact((hc).alloc _).alloc _) (show RowsS W 0 (R,m,Z) rows by rw[<-U];exact((hr).alloc _).alloc _) λbn bo BB HZ HC HR=>?_;obtain⟨fZ,f7,f0,fU⟩:=bc2 bn.o;obtain⟨gq,gl,gO,gg,gi,gv,gy,gb,gE,gJ,hw,g0,i8,iP,iJ,ig,ja,iT,iM,ij⟩:=bf5 bo.o;clear hc hr;go_enter func13,ntmps13;go_wp2_with fail
 clear U;refine(Pb.standardN S HG.o.h1 C nC cC R m Z cost rows N HN.o _ HC.o HR.o ω ω cK.o HG.o.kd HG.o.sc (λp G=>(HG.o.rw_ p G).2)).mono ?_;rintro e w1 ⟨rA,rc,lA,bA,bc_,kA,kc,eA,ec,rfl,hst,hb⟩;refine μ4 (zad hb bn.o) (zad hb bo.o) (show StdP w1 rA rc lA bA bc_ kA kc eA ec m N S (zc3 rows) (zg8 rows) (zjD cost rows) (zca nC rows m)from hst) (BB.o.trans ((hb).mono BB.o.size)) λcc b9 cT cb=>?_;obtain⟨fX,f5,fY,f6⟩:=bc2 cc.o;obtain⟨gm,f3,gK,ge,gr,fT,gG,gj,gd,gw,gU,gI,i9,iQ,iK,ih,jb,iU,iN,ik⟩:=bf5 b9.o;clear hst hb;have aB:=zae w1 (.cells #[(rA,m,rc),(N:Int),(bA,m,bc_),(kA,N,kc),(nC:Int),(eA,m,ec)] 114);refine μ4 (zad aB cc.o) (zad aB b9.o) (cT.o.below aB) (cb.o.trans ((aB).mono cb.o.size)) λca cd jl ce=>?_;obtain⟨f1,fV,f2,fW⟩:=bc2 ca.o;obtain⟨gn,f4,ga,gs,gp,fS,gL,gf,gx,gh,hx,g1,iR,ic,h9,ht,iV,hU,ia,hu⟩:=bf5 cd.o;have KS:=un (zal w1 #[(rA,m,rc),(N:Int),(bA,m,bc_),(kA,N,kc),(nC:Int),(eA,m,ec)] 114);obtain⟨g7,g4,g8,g5,hQ,gR,i0,jc,jn,je,jp,jg⟩:=bc6 KS.o;go_wp2_with fail
 refine(zYk rA rc lA bA bc_ kA kc eA ec m N NN S nC (zc3 rows) (zg8 rows) (zjD cost rows) (zca nC rows m) _ jl.o bB ah.o (zsk _ _ _) H8.o).mono ?_;rintro e t ⟨rA2,rc2,lA2,bA2,bz2,kA2,kc2,eA2,ec2,gA,gc,rfl,hst,hz,hb⟩;refine μ6 (zad hb ca.o) (zad hb cd.o) (zad hb KS.o) (show StdP t rA2 rc2 lA2 bA2 bz2 kA2 kc2 eA2 ec2 m NN S (zt0 (zc3 rows) (zg8 rows)) (zwh (zg8 rows)) (zKb m (zjD cost rows)) (zca nC rows m)from hst) (show IntsZ t 0 (gA,m,gc) ((zg8 rows).map sgI)from hz) (ce.o.trans ((hb).mono ce.o.size)) λcf ci ck cS ct cg=>?_;obtain⟨g2,f8,g3,f9⟩:=bc2 cf.o;obtain⟨im,g9,iG,hG,io,ha,iu,hH,iy,hJ,iv,hI,iS,ie,iL,ii,iW,hV,iO,il⟩:=bf5 ci.o;obtain⟨ji,i5,jj,i6,jk,i7,jm,jd,jo,jf,jq,jh⟩:=bc6 ck.o;clear hst hz hb;have ac:=zae t (.cells #[(rA2,m,rc2),(NN:Int),(bA2,m,bz2),(kA2,NN,kc2),(nC:Int),(eA2,m,ec2),(gA,m,gc),(N:Int)] 118);refine μ6 (zad ac cf.o) (zad ac ci.o) (zad ac ck.o) (cS.o.below ac) (ct.o.below ac) (cg.o.trans ((ac).mono cg.o.size)) λau af aw bb b6 X=>?_;obtain⟨gM,gt,gN,gu⟩:=bc2 au.o;obtain⟨gX,gC,gS,gF,gY,gD,gT,gH,ip,hd,ho,g6,iz,hL,hD,gZ,iA,hM,hE,gP⟩:=bf5 af.o;obtain⟨iq,hf,ir,hh,iB,hR,i1,h3,iH,h4,iI,h5⟩:=bc6 aw.o;have KT:=un (zal t #[(rA2,m,rc2),(NN:Int),(bA2,m,bz2),(kA2,NN,kc2),(nC:Int),(eA2,m,ec2),(gA,m,gc),(N:Int)] 118);obtain⟨dq,dh,dr,di,dm,dj,dn,dk,dp,dl,fM,fx,fO,fB,fQ,fa⟩:=bc8 KT.o;clear fZ f7 f0 fU gq gl gO gg gi gv gy gb gE gJ hw g0 i8 iP iJ ig ja iT iM ij fX f5 fY f6 gm f3 gK ge gr fT gG gj gd gw gU gI i9 iQ iK ih jb iU iN ik f1 fV f2 fW gn f4 ga gs gp fS gL gf gx gh hx g1 iR ic h9 ht iV hU ia hu g7 g4 g8 g5 hQ gR i0 jc jn je jp jg g2 f8 g3 f9 im g9 iG hG io ha iu hH iy hJ iv hI iS ie iL ii iW hV iO il ji i5 jj i6 jk i7 jm jd jo jf jq jh;go_upto_region 5 with fail
 have jE:=HZ.o;have cm:=un X.o;have a5:=cm.o.size;generalize hwS:(t.alloc (.cells #[(rA2,m,rc2),(NN:Int),(bA2,m,bz2),(kA2,NN,kc2),(nC:Int),(eA2,m,ec2),(gA,m,gc),(N:Int)] 118))=wS at *
 clear hwS;go_wp2_with fail
 refine(pfeasible rA2 rc2 bA2 bz2 kA2 kc2 eA2 ec2 gA gc m NN nC N lA2 S (zc3 rows) (zg8 rows) (zKb m (zjD cost rows)) (zca nC rows m) 0 _ bb.o b6.o ah.o cH.o cv.o ay.o cO.o B bg.o).mono ?_;rintro e w3 ⟨F,h⟩;rw[cG.o,cq.o,cz.o]at h;refine μ7 F (zad F au.o) (zad F af.o) (zad F aw.o) (zad F KT.o) (bb.o.below F) (X.o.trans ((F).mono X.o.size)) λbf ch av cj b5 df bc=>?_;obtain⟨gV,gz,gW,gB⟩:=bc2 ch.o;obtain⟨aP,aK,h6,hi,aQ,aL,h7,hj,aR,aM,h8,hs,aS,aN,iw,hA,aT,aO,ix,hC⟩:=bf5 av.o;obtain⟨iX,hX,iY,hZ,iZ,h0,i2,iD,i3,iE,i4,iF⟩:=bc6 cj.o;obtain⟨fF,fk,fG,fm,fH,fo,fI,fr,fJ,fu,fN,fy,fP,fC,fR,fc⟩:=bc8 b5.o;clear F;rcases h with ⟨f,ev,rfl,E,num,rfl,am,L⟩ | ⟨f,I,Y,cY,rfl,hY⟩ | ⟨f,I,V,ev,rfl,E,num,rfl,am,L⟩ | ⟨f,I,V,wn,q,tA,tc,rfl,hT,bC,bz⟩
 ·refine μ3 (O.o.1 f) L am λz ag ai=>?_;clear f L am;go_wp2;refine Zi (v:=.tuple #[.agg #[.int .i64 0,(),(),(),.int .i64 0],.iface 239 (.pointer (some ⟨E,0,none⟩))]) (by simp[results,results13,go_sem,aP,aK,aQ,aL,aR,aM,aS,aN,aT,aO]) rfl ?_;have l:=zqy av.o (.int .i64 0) () () () (.int .i64 0);rw[z.o]
  exact⟨bsc (bsc (bsc (bsc (bsc bc.o)))),_,rfl,E,num,rfl,ai.o,l.blk ag.o δ⟩
 ·have z:=un (O.o.2.1 f I);have HY:=un hY;clear f I hY;go_wp2;refine Zi (v:=.tuple #[.agg #[.int .i64 2,(),(Y,m,cY),(),.int .i64 (r.n:Int)],.nilIface]) (by simp[results,results13,go_sem,aP,aK,aQ,aL,aR,aM,aS,aN,aT,aO]) rfl ?_;have l:=zqy av.o (.int .i64 2) () (Y,m,cY) () (.int .i64 (r.n:Int));rw[z.o];exact⟨bsc (bsc (bsc (bsc (bsc bc.o)))),Y,cY,rfl,(HY.o.base a5).tk l δ δ⟩
 ·refine μ3 (O.o.2.2.1 f I V) L am λz ag ai=>?_;clear f I V L am;go_wp2;refine Zi (v:=.tuple #[.agg #[.int .i64 0,(),(),(),.int .i64 0],.iface 239 (.pointer (some ⟨E,0,none⟩))]) (by simp[results,results13,go_sem,aP,aK,aQ,aL,aR,aM,aS,aN,aT,aO]) rfl ?_;have l:=zqy av.o (.int .i64 0) () () () (.int .i64 0);rw[z.o]
  exact⟨bsc (bsc (bsc (bsc (bsc bc.o)))),_,rfl,E,num,rfl,ai.o,l.blk ag.o δ⟩
 refine μ6 (O.o.2.2.2.1 f I V) (O.o.2.2.2.2.1 f I V) (λj=>O.o.2.2.2.2.2 j f I V) hT bC bz λcA cB cE HT cW ju=>?_;clear f I V hT bC bz;clear gM gt gN gu gX gC gS gF gY gD gT gH ip hd ho g6 iz hL hD gZ iA hM hE gP iq hf ir hh iB hR i1 h3 iH h4 iI h5 dq dh dr di dm dj dn dk dp dl fM fx fO fB fQ fa;have jB:=cy.o;have jx:=bg.o;go_upto_region 12 with fail
 go_cut[12,13,7] (λa1 a2 ev wy=>a1=.int .i64 (zbh s.at_)/\a2=.int .i64 (s.n:Int)/\((s.err=false/\ev=.nilIface)\/(s.err=true/\∃E,ev=.iface 239 (.pointer (some ⟨E,0,none⟩))/\θ wy E #[.string zve,.int .i64 (s.n:Int),.iface 93 (.int .i64 180)] 241))/\zhi wn wy wn.heap.size q rA2 rc2 lA2 bA2 bz2 kA2 kc2 eA2 ec2 m NN S nC (zt0 (zc3 rows) (zg8 rows)) (zwh (zg8 rows)) (zKb m (zjD cost rows)) (zca nC rows m) tA tc s.cols/\Below wS wS wy)
 case first=>as_aux_lemma =>
  go_wp2_with fail
  have cx:=un (show zsn NN N=zKc N m by rw[<-ah.o,zUB]);have cX:=un (show IntKind.i64.wrap ((B:Int)-(n:Int))=((B-n:Nat):Int)by rw[Vj];omega);refine zaS (S:=λw'=>χ w' t 0 (rA2,m,rc2)/\χ w' t 1 (.int .i64 (NN:Int))/\χ w' t 2 (bA2,m,bz2)/\χ w' t 3 (kA2,NN,kc2)/\χ w' t 4 (.int .i64 (nC:Int))/\χ w' t 5 (eA2,m,ec2)/\χ w' t 6 (gA,m,gc)/\χ w' t 7 (.int .i64 (N:Int))) [] (h:=λhHeld=>?_);refine zaw [0,1,2,3,4,6,7,8] ?_;repeat refine tkL hHeld ?_
  refine zao ?_;rw[cX.o];refine zaB 5 (h:=λK a=>?_);go_simp;(go_at_call 49;(refine(pmay rA2 rc2 bA2 bz2 kA2 kc2 eA2 ec2 gA gc m NN nC N _ (by have:=ah.o;omega) bB).mono ?_);rintro e v1 ⟨M,cM,rfl,hm,hb⟩;refine μ7 (zad hb ch.o) (zad hb av.o) (zad hb cj.o) (zad hb b5.o) (df.o.drew.below hb) (HT.o.drew.below hb) (show BoolsS v1 w3 (M,NN,cM) (zKc N m)from(by have h:=hm;rw[cx.o]at h;exact h)) λgQ iC ib dc b7 dg HM=>?_;obtain⟨mY,mV,mZ,mU⟩:=bc2 gQ.o;obtain⟨nf,m0,nn,m5,ng,m1,np,m6,nu,nc,nr,m7,nv,nd,ns,m8,nw,ne,nt,m9⟩:=bf5 iC.o;obtain⟨nh,m2,ni,m3,nj,m4,nx,nk,ny,nl,nz,nm⟩:=bc6 ib.o;obtain⟨lc,kZ,ld,k3,le,k6,lf,k9,lg,kO,lh,kR,lj,kV,ll,lp⟩:=bc8 dc.o;have x:Below w3 w3 v1:=It.bdrew0' hb;clear hm hb);(try go_wp2_with fail);refine shutOn a λhHeld=>?_;clear a K;refine zaB 9 (h:=λK a=>?_);go_simp;(go_at_call 48;(refine(prun dg.o kA2 kc2 0 (zKb m (zjD cost rows)) b7.o.C b7.o.zc M NN cM w3.heap.size (zKc N m) HM.o ay.o ((B-n:Nat):Int) ω).mono ?_);rintro e v2 ⟨ev,rfl,al,hT2,hb2,hk2⟩;rw[show(((B-n:Nat):Int)).toNat=B-n from YH _,cL.o]at al hT2 ⊢;refine μ3 al hT2 (show Below wS wS v2 from(bf.o.trans (x.mono bf.o.size)).trans (hb2.mono cW.o)) λcs cV y=>?_;refine μ4 (zad y.o au.o) (zad y.o af.o) (zad y.o aw.o) (zad y.o KT.o) λhy jr js dd=>?_;obtain⟨na,mW,nb,mX⟩:=bc2 hy.o;obtain⟨lJ,nR,lC,nA,lK,nT,lD,nB,lL,nV,lE,nD,lM,nX,lF,nE,lN,n0,lG,nF⟩:=bf5 jr.o;obtain⟨lO,n1,lP,nL,lQ,nM,lR,nN,lH,nO,lI,nP⟩:=bc6 js.o;obtain⟨l6,l9,l7,ma,l8,mb,me,mc,mf,md,li,kS,lk,kW,lm,lq⟩:=bc8 dd.o;clear al hT2 hb2 hk2);(try go_wp2_with fail);refine shutOn a λhHeld=>?_;clear a K;refine zaw [10,11,12,13,14,15,16] ?_;repeat refine tkL hHeld ?_
  refine zao ?_;refine zaM (h:=?_);go_wp2;go_meet;exact⟨rfl,rfl,cs.o,cV.o,y.o⟩
 rename World=>w4
 obtain⟨rfl,rfl,al,bv,T⟩:=hcut;refine μ5 (zad T au.o) (zad T af.o) (zad T aw.o) (zad T KT.o) (X.o.trans ((T).mono X.o.size)) λd8 bP d9 d7 d2=>?_;obtain⟨dL,dS,dM,dT⟩:=bc2 d8.o;obtain⟨bL,bN,e5,eM,bM,bO,e6,eN,bW,bZ,e7,eO,bX,b0,e8,eP,bY,b1,e9,eQ⟩:=bf5 bP.o;obtain⟨dN,dU,dO,dV,dP,dW,dQ,dX,a8,dY,fi,eF⟩:=bc6 d9.o;obtain⟨dR,dZ,ea,d0,eb,d1,fp,eJ,fs,eL,fv,eu,fz,ex,fD,ez⟩:=bc8 d7.o;have u:=un T;have Q:=un bv;clear T bv;rcases al with ⟨f,rfl⟩ | ⟨f,E,rfl,L⟩
 ·have HE:=un f;have ax:=un Q.o.basis;clear f;have a4:nC<=NN:=by have:=HN.o;have:=ah.o;omega
  have jC:(nC:Int)<=(NN:Int):=ω;go_upto_region 15 with fail
  go_cut[14] (λov wy=>∃(ob:Nat) (P:OA) (g:Nat),ov=.pointer (some ⟨ob,0,none⟩)/\wS.heap.size<=ob/\θ wy ob #[.int .i64 1,(P,nC,g),(),(),.int .i64 ((n+s.n:Nat):Int)] 49/\VecS wy wS (P,nC,g) ((zh1 NN s.cols (za5 (zt0 (zc3 rows) (zg8 rows)) (zwh (zg8 rows)) s.cols)).take nC)/\zhi wn wy wn.heap.size q rA2 rc2 lA2 bA2 bz2 kA2 kc2 eA2 ec2 m NN S nC (zt0 (zc3 rows) (zg8 rows)) (zwh (zg8 rows)) (zKb m (zjD cost rows)) (zca nC rows m) tA tc s.cols/\Below wS wS wy)
  case first =>
   have jD:=bk.o;have bm:=un (show IntKind.i64.wrap ((n:Int)+(s.n:Int))=((n+s.n:Nat):Int)by rw[Vj];omega);go_wp2_with fail
   refine zaS (S:=λw'=>χ w' w1 4 (.int .i64 (nC:Int))) [10] (h:=λhHeld=>?_);refine zaw [0,2,3,5,6,7] ?_;repeat refine tkL hHeld ?_
   refine zao ?_;refine zme (i:=1) (j:=9) rfl rfl ξ (λK a=>?_) (λK a=>?_)
   ·skip
    go_simp;(go_at_call 50;(refine(Tb.point Q.o.drew).mono ?_);rintro e v1 ⟨P,g,rfl,hv,hb⟩;have x:Below w4 w4 v1:=It.bdrew0' hb;have z4:=zab x a8;have lb:=cell_al (ob:=(.cells #[.int .i64 0,(),(),(),.int .i64 0] 49)) z4;have bl:=un (Q.o.below x);have y:=un (u.o.trans (x.mono u.o.size));have c3:=hv.form.2.1;have c4:=hv.form.2.2.1;have c5:nC<=g:=ω;have aV:=un ((hv.cut nC a4).base (u.o.size));clear hv;clear hb x);(try go_wp2_with fail);refine shutOn a λhHeld=>?_;clear a K;refine zaw [4,8] ?_;repeat refine tkL hHeld ?_
    refine zao ?_;refine zaB 9 (h:=λK a=>?_);go_simp;refine shutOn a λhHeld=>?_;clear a K;refine zay 10 (h:=λK a=>?_);go_simp;refine shutOff a ?_;clear a K;refine zaM (h:=?_);go_wp2;go_meet;rw[bm.o]
    case rel=>exact⟨v1.heap.size,P,g,rfl,y.o.size,zal _ _ _,aV.o.alloc _,bl.o.alloc _,y.o.alloc y.o.size _⟩
   skip
   go_simp;refine shutOn a λhHeld=>?_;clear a K;refine zaB 1 (h:=λK a=>?_);go_simp;(go_at_call 50;(first | (refine(Tb.point (Q.o.drew.alloc _)).mono ?_) | (refine(Tb.point ((Q.o.alloc _).drew)).mono ?_));rintro e v1 ⟨P,g,rfl,hv,hb⟩;have x:Below w4 w4 v1:=((zap w4 1).trans ((zae _ _).mono (Za _))).trans (hb.mono σ);have a0:θ v1 w4.heap.size #[.int .i64 0,(),(),(),.int .i64 0] 49:=(zad hb (zal w4.drew #[.int .i64 0,(),(),(),.int .i64 0] 49));have z4:=zab x a8;refine μ3 a0 (Q.o.below x) (u.o.trans (x.mono u.o.size)) λbh bl y=>?_;have c3:=hv.form.2.1;have c4:=hv.form.2.2.1;have c5:nC<=g:=ω;have aV:=un ((hv.cut nC a4).base (Zf u.o.size σ));clear hv;have cn:=un x;obtain⟨o0,jH,jQ,jR,o1,jJ,of1,jS,o2,jL,jT,jU,o3,jN,jV,jW,o4,jP,jX,jY⟩:=bf5 a0;clear hb x a0);(try go_wp2_with fail);refine shutOn a λhHeld=>?_;clear a K;refine zaw [4,8] ?_;repeat refine tkL hHeld ?_
   refine zao ?_;refine zay 10 (h:=λK a=>?_);go_simp;refine shutOff a ?_;clear a K;refine zaM (h:=?_);go_wp2;go_meet;rw[bm.o];have l:=zqy bh.o (.int .i64 1) (P,nC,g) () () (.int .i64 ((n+s.n:Nat):Int))
   case rel=>exact⟨w4.heap.size,P,g,rfl,u.o.size,zar _ (zar _ (zar _ (zar _ (zar _ bh.o)))),aV.o.tk l δ δ,Q.o.below (((((cn.o.setCell (p:=⟨w4,0,none⟩) (Za _) _).setCell (p:=⟨w4,1,none⟩) (Za _) _).setCell (p:=⟨w4,2,none⟩) (Za _) _).setCell (p:=⟨w4,3,none⟩) (Za _) _).setCell (p:=⟨w4,4,none⟩) (Za _) _),(((((y.o.setCell (p:=⟨w4,0,none⟩) u.o.size _).setCell (p:=⟨w4,1,none⟩) u.o.size _).setCell (p:=⟨w4,2,none⟩) u.o.size _).setCell (p:=⟨w4,3,none⟩) u.o.size _).setCell (p:=⟨w4,4,none⟩) u.o.size _)⟩
  rename World=>w5
  obtain⟨ob,P,g,rfl,c8,hO,hP,bw,J⟩:=hcut;refine μ7 (zad J au.o) (zad J af.o) (zad J aw.o) (zad J KT.o) (bb.o.below J) (b6.o.below J) (X.o.trans ((J).mono X.o.size)) λa6 bd a7 a9 aI b2 ap=>?_;obtain⟨l4,l0,l5,l1⟩:=bc2 a6.o;obtain⟨nQ,nG,lX,lS,nS,nH,lY,lT,nU,nI,lZ,lU,nW,nJ,l2,lV,nZ,nK,l3,lW⟩:=bf5 bd.o;obtain⟨mg,my,mi,mA,ml,mC,mE,mn,mG,mp,mI,mr⟩:=bc6 a7.o;obtain⟨kX,kv,k0,kx,k4,kz,k7,kC,la,ka,kP,ke,kT,kg,ln,ki⟩:=bc8 a9.o;refine μ4 J bw hP hO λjt aA bj aX=>?_;have jF:w.heap.size+1<ob:=by have h1:=(ZU.1 af.o).1;omega
  obtain⟨lr,kk,kJ,jZ,lt,km,kL,j1,lv,ko,kD,j3,lx,kr,kF,j5,lz,kt,kH,j7⟩:=bf5 aX.o;clear J bw hP hO c8;clear gV gz gW gB aP aK h6 hi aQ aL h7 hj aR aM h8 hs aS aN iw hA aT aO ix hC iX hX iY hZ iZ h0 i2 iD i3 iE i4 iF fF fk fG fm fH fo fI fr fJ fu fN fy fP fC fR fc dL dS dM dT bL bN e5 eM bM bO e6 eN bW bZ e7 eO bX b0 e8 eP bY b1 e9 eQ dN dU dO dV dP dW dQ dX a8 dY fi eF dR dZ ea d0 eb d1 fp eJ fs eL fv eu fz ex fD ez;cases hat:s.at_ with
  | none =>
   have G:zbh none = -1:=rfl;rw[G];have z:=un (cB.o HE.o hat);clear hat G;go_wp2_with fail
   refine(Tb.duals aA.o kA2 kc2 (zKb m (zjD cost rows)) 0 aI.o.C aI.o.zc ay.o).mono ?_;rintro e w6 ⟨Y,nY,cY,rfl,hv,hb⟩;refine μ11 (zad hb a6.o) (zad hb bd.o) (zad hb a7.o) (zad hb a9.o) (zad hb aX.o) (aI.o.below hb) (b2.o.below hb) (aA.o.below hb) (bj.o.below hb) (show VecS w6 w5 (Y,nY,cY) (zcl (zt0 (zc3 rows) (zg8 rows)) s.cols (zKb m (zjD cost rows)))from hv) (ap.o.trans ((hb).mono ap.o.size)) λaG ar aH aJ ae fL b3 b8 ba HY aq=>?_;obtain⟨dy,dE,dz,dF⟩:=bc2 aG.o;obtain⟨bG,bJ,eo,ed,bH,bK,ep,ee,bQ,bT,eq,ef,bR,bU,er,eg,bS,bV,es,eh⟩:=bf5 ar.o;obtain⟨ds,dI,dt,dJ,d3,dK,d4,du,d5,dv,d6,dw⟩:=bc6 aH.o;obtain⟨fj,eG,fl,eH,fn,eI,fq,eK,ft,et,fw,ew,fA,ey,fE,eB⟩:=bc8 aJ.o;obtain⟨fd,eC,eW,eR,fe,eD,eX,eS,ff,eE,eY,eT,fg,e2,eZ,eU,fh,e3,e0,eV⟩:=bf5 ae.o;obtain rfl:m=nY:=by rw[hv.len,(ax.o.duals_ok _).2]
   clear hv hb;have c0:=un (show ∀q∈zcl (zt0 (zc3 rows) (zg8 rows)) s.cols (zKb m (zjD cost rows)),mw q<=sB m S S by obtain⟨_,_,_,hP⟩:=b8.o;exact znb ax.o hP.bas.good.2.2 hP.std.clen hP.std.zc);go_wp2_with fail
   refine(pback rA2 rc2 bA2 bz2 kA2 kc2 eA2 ec2 gA gc m NN nC N ((zg8 rows).map sgI) 0 Y cY w5.heap.size (zcl (zt0 (zc3 rows) (zg8 rows)) s.cols (zKb m (zjD cost rows))) (sB m S S) _ b3.o (zVI (zg8 rows)) HY.o cN.o (zma _ _ _) c0.o c7).mono ?_;rintro e w7 ⟨Y2,nY2,cY2,rfl,hv,hb⟩;refine μ8 (zad hb aG.o) (zad hb ar.o) (zad hb aH.o) (zad hb aJ.o) (zad hb ae.o) (ba.o.below hb) (show VecS w7 w (Y2,nY2,cY2) (bkL ((zg8 rows).map sgI) (zcl (zt0 (zc3 rows) (zg8 rows)) s.cols (zKb m (zjD cost rows))) m)from(hv.base (show w.heap.size<=w6.heap.size from(aq).o.size))) (aq.o.trans ((hb).mono aq.o.size)) λdC bI dD fK b4 de cZ dx=>?_;obtain⟨mt,mv,mu,mx⟩:=bc2 dC.o;obtain⟨dA,dG,mP,mK,dB,dH,mQ,mL,ei,el,mR,mM,ej,em,mS,mN,ek,en,mT,mO⟩:=bf5 bI.o;obtain⟨mh,mz,mj,mB,mD,mm,mF,mo,mH,mq,mJ,ms⟩:=bc6 dD.o;obtain⟨kY,kw,k2,ky,k5,kB,k8,j9,kN,kb,kQ,kf,kU,kh,lo,kj⟩:=bc8 fK.o;obtain⟨ls,kl,kK,j0,lu,kn,kM,j2,lw,kq,kE,j4,ly,ks,kG,j6,lB,ku,kI,j8⟩:=bf5 b4.o;obtain rfl:m=nY2:=by rw[hv.len,zSJ,(ax.o.duals_ok _).2]
   clear hv hb;go_wp2;refine Zi (v:=.tuple #[.agg #[.int .i64 1,(P,nC,g),(Y2,m,cY2),(),.int .i64 ((n+s.n:Nat):Int)],.nilIface]) (by simp[results,results13,go_sem,dA,dG,dB,dH,ei,el,ej,em,ek,en]) rfl ?_;have an:=TKeep.set (o:=2) (b4.o) (Y2,m,cY2);have aZ:θ (w7.setCell ⟨ob,2,none⟩ (Y2,m,cY2)) (w.heap.size+1) #[.int .i64 0,(),(),(),.int .i64 0] 49:=by rw[ZE _ _ _ _ (by show w.heap.size+1≠ob;omega)];exact bI.o
   have l:=zqy aZ (.int .i64 1) (P,nC,g) (Y2,m,cY2) () (.int .i64 ((n+s.n:Nat):Int));rw[z.o];exact⟨((((((dx.o.setCell (p:=⟨ob,2,none⟩) (by show w.heap.size<=ob;omega) _).setCell (p:=⟨w.heap.size+1,0,none⟩) (by show w.heap.size<=w.heap.size+1;omega) _).setCell (p:=⟨w.heap.size+1,1,none⟩) (by show w.heap.size<=w.heap.size+1;omega) _).setCell (p:=⟨w.heap.size+1,2,none⟩) (by show w.heap.size<=w.heap.size+1;omega) _).setCell (p:=⟨w.heap.size+1,3,none⟩) (by show w.heap.size<=w.heap.size+1;omega) _).setCell (p:=⟨w.heap.size+1,4,none⟩) (by show w.heap.size<=w.heap.size+1;omega) _),P,g,Y2,cY2,rfl,(((de.o.base a5).tk an δ δ).tk l δ δ),((cZ.o.tk an δ δ).tk l δ δ)⟩
  | some j =>
   have G:zbh (some j)=(j:Int):=rfl;rw[G];have z:=un (cE.o j HE.o hat);have cu:=un (cQ.o j ax.o HE.o hat);have jA:(0:Int)<=(j:Int):=Zg _;clear hat G;go_wp2_with fail
   refine(pray aA.o gA gc N j cu.o ay.o cI.o a4).mono ?_;rintro e w6 ⟨D,cD,rfl,hv,hb⟩;refine μ11 (zad hb a6.o) (zad hb bd.o) (zad hb a7.o) (zad hb a9.o) (zad hb aX.o) (aI.o.below hb) (b2.o.below hb) (aA.o.below hb) (bj.o.below hb) (show VecS w6 w (D,nC,cD) ((zTj NN s.cols (zav (zt0 (zc3 rows) (zg8 rows)) s.cols j) j m).take nC)from(hv.base (show w.heap.size<=w5.heap.size from(ap).o.size))) (ap.o.trans ((hb).mono ap.o.size)) λaG ar aH aJ ae fL b3 b8 ba HD aq=>?_;obtain⟨dy,dE,dz,dF⟩:=bc2 aG.o;obtain⟨bG,bJ,eo,ed,bH,bK,ep,ee,bQ,bT,eq,ef,bR,bU,er,eg,bS,bV,es,eh⟩:=bf5 ar.o;obtain⟨ds,dI,dt,dJ,d3,dK,d4,du,d5,dv,d6,dw⟩:=bc6 aH.o;obtain⟨fj,eG,fl,eH,fn,eI,fq,eK,ft,et,fw,ew,fA,ey,fE,eB⟩:=bc8 aJ.o;obtain⟨fd,eC,eW,eR,fe,eD,eX,eS,ff,eE,eY,eT,fg,e2,eZ,eU,fh,e3,e0,eV⟩:=bf5 ae.o;clear hv hb;go_wp2;refine Zi (v:=.tuple #[.agg #[.int .i64 3,(P,nC,g),(),(D,nC,cD),.int .i64 ((n+s.n:Nat):Int)],.nilIface]) (by simp[results,results13,go_sem,bG,bJ,bH,bK,bQ,bT,bR,bU,bS,bV]) rfl ?_;have an:=TKeep.set (o:=0) (ae.o) (.int .i64 3);have bD:=TKeep.set (o:=3) (zar (o:=0) (.int .i64 3) (ae.o)) (D,nC,cD);have aZ:θ ((w6.setCell ⟨ob,0,none⟩ (.int .i64 3)).setCell ⟨ob,3,none⟩ (D,nC,cD)) (w.heap.size+1) #[.int .i64 0,(),(),(),.int .i64 0] 49:=by rw[ZE _ _ _ _ (by show w.heap.size+1≠ob;omega),ZE _ _ _ _ (by show w.heap.size+1≠ob;omega)];exact ar.o
   have l:=zqy aZ (.int .i64 3) (P,nC,g) () (D,nC,cD) (.int .i64 ((n+s.n:Nat):Int));rw[z.o];exact⟨(((((((aq.o.setCell (p:=⟨ob,0,none⟩) (by show w.heap.size<=ob;omega) _).setCell (p:=⟨ob,3,none⟩) (by show w.heap.size<=ob;omega) _).setCell (p:=⟨w.heap.size+1,0,none⟩) (by show w.heap.size<=w.heap.size+1;omega) _).setCell (p:=⟨w.heap.size+1,1,none⟩) (by show w.heap.size<=w.heap.size+1;omega) _).setCell (p:=⟨w.heap.size+1,2,none⟩) (by show w.heap.size<=w.heap.size+1;omega) _).setCell (p:=⟨w.heap.size+1,3,none⟩) (by show w.heap.size<=w.heap.size+1;omega) _).setCell (p:=⟨w.heap.size+1,4,none⟩) (by show w.heap.size<=w.heap.size+1;omega) _),P,g,D,cD,rfl,((((ba.o.base a5).tk an δ δ).tk bD δ δ).tk l δ δ),(((HD.o.tk an δ δ).tk bD δ δ).tk l δ δ)⟩
 refine μ3 (cA.o f) L (show s.n<=B by have:=bk.o;omega) λz ag ai=>?_;clear f L;go_wp2;refine Zi (v:=.tuple #[.agg #[.int .i64 0,(),(),(),.int .i64 0],.iface 239 (.pointer (some ⟨E,0,none⟩))]) (by simp[results,results13,go_sem,bL,bN,bM,bO,bW,bZ,bX,b0,bY,b1]) rfl ?_;have l:=zqy bP.o (.int .i64 0) () () () (.int .i64 0);rw[z.o];exact⟨bsc (bsc (bsc (bsc (bsc d2.o)))),_,rfl,E,s.n,rfl,ai.o,l.blk ag.o δ⟩
end Pr
section
variable {n:Nat} {rows:List PRow} (hl:∀k,k<rows.length->(rows.getD k default).coef.length=n)
theorem zUo(h:t<rows.length)(a:(rows.getD t default).kind≠3):cnt rows t<cnt rows rows.length:=by
 have h1:cnt rows (t+1)=cnt rows t+1:=by rw[cnt,if_neg a]
 have d:=zyi rows (j:=t+1) (k:=rows.length) ω;omega
theorem zX7(hi:(rows.getD i default).kind≠3)(a:(rows.getD t default).kind≠3)(e:cnt rows i=cnt rows t):i=t:=by
 have h1:cnt rows (i+1)=cnt rows i+1:=by rw[cnt,if_neg hi]
 have d:cnt rows (t+1)=cnt rows t+1:=by rw[cnt,if_neg a]
 rcases XM i t with h | h | h;have:=zyi rows (j:=i+1) (k:=t) ω;omega;exact h;have:=zyi rows (j:=t+1) (k:=i) ω;omega
include hl
theorem zWW(h:k<rows.length)(hj:j<n):en (zc3 rows) k j=el (rows.getD k default).coef j:=by unfold en;rw[zrT h,zkF (by rw[hl k h];exact hj)]
theorem zXg(y:Nat->Rat)(d:t<rows.length)(a:(rows.getD t default).kind≠3):zai rows.length (λi=>y i*en (zc3 rows) i (n+cnt rows t))=y t*((zfI (rows.getD t default).kind:Int):Rat):=by have hc:=zUo d a;rw[zbI (k:=t) d λi hi e=>by rw[zvs hl hi hc,if_neg (λh=>e (zX7 h.1 a h.2.symm))];grind,zvs hl d hc,if_pos ⟨a,rfl⟩]
theorem zUC(z:Nat->Rat)(hi:i<rows.length):zai (n+cnt rows rows.length) (λj=>en (zc3 rows) i j*z j)=zai n (λj=>el (rows.getD i default).coef j*z j)+(if (rows.getD i default).kind=3 then 0 else ((zfI (rows.getD i default).kind:Int):Rat)*z (n+cnt rows i)):=by
 rw[zgc _ n,zaj (g:=λj=>el (rows.getD i default).coef j*z j) λj hj=>by rw[zWW hl hi hj]]
 congr 1
 by_cases a:(rows.getD i default).kind=3;rw[if_pos a];exact zcn λt d=>by rw[zvs hl hi d,if_neg (λh=>h.1 a)];grind
 rw[if_neg a,zbI (k:=cnt rows i) (zUo hi a) λt d e=>by rw[zvs hl hi d,if_neg (λh=>e h.2)];grind,zvs hl hi (zUo hi a),if_pos ⟨a,rfl⟩]
end
def zYn{k:Int}(h:k=1):((zfI k:Int):Rat)=1:=by unfold zfI;rw[if_pos h];rfl
def zYo{k:Int}(h:k≠1):((zfI k:Int):Rat) = -1:=by unfold zfI;rw[if_neg h];rfl
def zTB(a:cost.length=n):el (zjD cost rows) j=if j<n then el cost j else 0:=by unfold zjD;by_cases h:j<n;rw[if_pos h,zkF ω];rw[if_neg h];unfold el;rw[Zh,ZN ω,Z9];split<;>rfl
def zUp{K:Nat}(a:cost.length=n)(z:Nat->Rat):zai (n+K) (λj=>el (zjD cost rows) j*z j)=zai n λj=>el cost j*z j:=by rw[zgc _ n,zcn (f:=λt=>el (zjD cost rows) (n+t)*z (n+t)) λt _=>by rw[zTB a,if_neg ω];grind,zaj (g:=λj=>el cost j*z j) λj hj=>by rw[zTB a,if_pos hj]];grind
def zWQ(a:b.length=m)(d:ys.length=m)(h:i<m):el (bkL (b.map sgI) ys m) i=sgn (el b i)*el ys i:=by
 rw[znd (zTv ω),if_pos h,Zh,Z1,zaH (xs:=b) (j:=i) ω];show((sgI (el b i):Int):Rat)*_=_
 rw[zUb]
def zWY (p:PRow) (d:List Rat):Prop:=(p.kind=1->dot p.coef d<=0)/\(p.kind=2->0<=dot p.coef d)/\(p.kind=3->dot p.coef d=0)
structure Signs (m:Nat) (rows:List PRow) (y:List Rat):Prop where
  ly:y.length=m
  s1:∀k,k<m->(rows.getD k default).kind=1->el y k<=0
  s2:∀k,k<m->(rows.getD k default).kind=2->0<=el y k
def zUQ (nC m:Nat) (rows:List PRow) (y:List Rat):Prop:=Signs m rows y/\(∀j,j<nC->zai m (λi=>el y i*el (rows.getD i default).coef j)<=0)/\0<sb y rows
def zUP (nC m:Nat) (cost:List Rat) (rows:List PRow) (x y:List Rat):Prop:=Signs m rows y/\x.length=nC/\znD cost rows x=true/\(∀j,j<nC->zai m (λi=>el y i*el (rows.getD i default).coef j)<=el cost j)/\dot cost x=sb y rows
def zUE (nC:Nat) (cost:List Rat) (rows:List PRow) (x d:List Rat):Prop:=x.length=nC/\znD cost rows x=true/\d.length=nC/\(∀j,0<=el d j)/\(∀p∈rows,zWY p d)/\dot cost d<0
section
variable {nC m N:Nat} {cost:List Rat} {rows:List PRow} (hg:Shape nC rows) (hlc:cost.length=nC) (hlr:rows.length=m) (hN:nC+cnt rows m=N)
include hg hlc hlr hN
theorem zSE:∀k,k<rows.length->(rows.getD k default).coef.length=nC:=λk hk=>hg.co _ (Zj (zaO hk))
theorem zVA:Rect m N (zc3 rows):=by have:=zlk (zSE hg hlc hlr hN);rw[hlr,hN]at this;exact this
theorem zVz:(zg8 rows).length=m:=by rw[zxG,hlr]
theorem zTr(ly:y.length=m)(h:∀t,t<m->(rows.getD t default).kind≠3->zai m (λi=>el y i*en (zc3 rows) i (nC+cnt rows t))<=0):Signs m rows y:=by
 have d:∀t,t<m->(rows.getD t default).kind≠3->el y t*((zfI (rows.getD t default).kind:Int):Rat)<=0:=λt f a=>by have:=h t f a;have e:=zXg (zSE hg hlc hlr hN) (el y) (t:=t) ω a;rw[hlr]at e;rw[e]at this;exact this
 refine⟨ly,λk hk e=>?_,λk hk e=>?_⟩;have:=d k hk ω;rw[zYn e]at this;grind;have:=d k hk ω;rw[zYo ω]at this;grind
theorem zTT(l:∀j,0<=z j)(u:∀i,i<m->zai N (λj=>en (zc3 rows) i j*z j)=el (zg8 rows) i){x:List Rat}(g:x.length=nC)(ex:∀j,j<nC->el x j=z j):znD cost rows x=true:=by
 have s:=zSE hg hlc hlr hN;rw[zoE (by rw[g,hlc]) (zNy λj hj=>by rw[g]at hj;rw[ex j hj];exact l j),XO];intro p f;obtain⟨i,hi⟩:=Xh.1 f;have t:=(ZF.1 hi).1;have r:rows.getD i default=p:=zfC hi;have e:=u i ω;rw[<-hN,<-hlr,zUC s z t,r]at e;have er:el (zg8 rows) i=p.rhs:=by unfold zg8;rw[znd (by rw[Z1,hi];rfl)]
 rw[er]at e;have o:dot p.coef x=zai nC λj=>el p.coef j*z j:=by unfold dot ziw;rw[hg.co p f];grind[zaj]
 have d:zdp p x = -(if p.kind=3 then 0 else ((zfI p.kind:Int):Rat)*z (nC+cnt rows i)):=by unfold zdp;rw[o];grind
 have zs:=l (nC+cnt rows i);unfold zdH;have hk:=hg.kd p f;by_cases a:p.kind=1;rw[if_neg ω,zYn a]at d;rw[if_pos a,ZG];grind;by_cases k2:p.kind=2;rw[if_neg ω,zYo a]at d;rw[if_neg a,if_pos k2,ZG];grind;grind
theorem zWF(s:∀j,0<=z j)(r:∀i,i<m->zai N (λj=>en (zc3 rows) i j*z j)=0){d:List Rat}(t:d.length=nC)(g:∀j,j<nC->el d j=z j):∀p∈rows,zWY p d:=λp f=>by
 obtain⟨i,hi⟩:=Xh.1 f;have o:=(ZF.1 hi).1;have l:rows.getD i default=p:=zfC hi;have e:=r i ω;rw[<-hN,<-hlr,zUC (zSE hg hlc hlr hN) z o,l]at e;have a:dot p.coef d=zai nC λj=>el p.coef j*z j:=by unfold dot ziw;rw[hg.co p f];exact zaj λj hj=>by rw[g j hj]
 have zs:=s (nC+cnt rows i);refine⟨λk=>?_,λk=>?_,λk=>?_⟩;rw[if_neg ω,zYn k]at e;rw[a];grind;rw[if_neg ω,zYo ω]at e;rw[a];grind;grind
theorem zVB:sb y rows=zai m λi=>el y i*el (zg8 rows) i:=by unfold sb zPV;rw[hlr];exact zaj λi hi=>by unfold zg8;rw[znd (xs:=rows.map λr=>r.rhs) (a:=(rows.getD i default).rhs) (by rw[Z1,zaO (d:=default) (show i<rows.length by omega)];rfl)]
theorem z6E(I:Am.Ends m N (zc3 rows) (zg8 rows) (zjD cost rows) (zSA N m (zc3 rows) (zg8 rows) (zjD cost rows) B)):match zSA N m (zc3 rows) (zg8 rows) (zjD cost rows) B with
  | .spent _=>False
  | .none cols _=>zUQ nC m rows (bkL ((zg8 rows).map sgI) (zcl (zt0 (zc3 rows) (zg8 rows)) cols (zJG N m)) m)
  | .best cols _=>zUP nC m cost rows ((zh1 (N+m) cols (za5 (zt0 (zc3 rows) (zg8 rows)) (zwh (zg8 rows)) cols)).take nC) (bkL ((zg8 rows).map sgI) (zcl (zt0 (zc3 rows) (zg8 rows)) cols (zKb m (zjD cost rows))) m)
  | .falls cols j _=>zUE nC cost rows ((zh1 (N+m) cols (za5 (zt0 (zc3 rows) (zg8 rows)) (zwh (zg8 rows)) cols)).take nC) ((zTj (N+m) cols (zav (zt0 (zc3 rows) (zg8 rows)) cols j) j m).take nC):=by
 have p:=zVA hg hlc hlr hN;have d:=zVz hg hlc hlr hN;have M:=zSE hg hlc hlr hN;have hc:(zjD cost rows).length=N:=by unfold zjD;rw[Zz,ZQ,hlc,hlr];exact hN
 have J:∀t,t<m->(rows.getD t default).kind≠3->nC+cnt rows t<N:=λt u l=>by have:=zUo (rows:=rows) (t:=t) ω l;rw[hlr]at this;omega
 have own:∀(y:Nat->Rat) j,j<nC->zai m (λi=>y i*en (zc3 rows) i j)=zai m λi=>y i*el (rows.getD i default).coef j:=λy j hj=>zaj λi hi=>by rw[zWW M ω hj]
 have L:∀t,el (zjD cost rows) (nC+t)=0:=λt=>by rw[zTB hlc,if_neg ω]
 have co:∀j,j<nC->el (zjD cost rows) j=el cost j:=λj hj=>by rw[zTB hlc,if_pos hj]
 have x:∀cols,((zh1 (N+m) cols (za5 (zt0 (zc3 rows) (zg8 rows)) (zwh (zg8 rows)) cols)).take nC).length=nC:=λcols=>by rw[ZI,zl8];omega
 have C:∀cols,cols.length=m->∀j,j<nC->el ((zh1 (N+m) cols (za5 (zt0 (zc3 rows) (zg8 rows)) (zwh (zg8 rows)) cols)).take nC) j=pt m (λk=>cols.getD k 0) (el (za5 (zt0 (zc3 rows) (zg8 rows)) (zwh (zg8 rows)) cols)) j:=λcols hl j hj=>by rw[zT7 hj,zvg ω,hl]
 generalize zSA N m (zc3 rows) (zg8 rows) (zjD cost rows) B=o at I ⊢;cases I with
 | none h f s v =>
  rename_i cols k;obtain⟨h1,D⟩:=(zTS h f p d s).2 v;have ly:=(h.duals_ok (zJG N m)).2;have a:∀i,i<m->el (bkL ((zg8 rows).map sgI) (zcl (zt0 (zc3 rows) (zg8 rows)) cols (zJG N m)) m) i=sgn (el (zg8 rows) i)*el (zcl (zt0 (zc3 rows) (zg8 rows)) cols (zJG N m)) i:=λi hi=>zWQ d ly hi
  refine⟨zTr hg hlc hlr hN (by rw[zSJ,ly]) λt u l=>?_,λj hj=>?_,?_⟩;rw[zaj λi hi=>by rw[a i hi]];grind;have:=h1 j ω;rw[own _ j hj]at this;rw[zaj λi hi=>by rw[a i hi]];exact this;rw[zVB hg hlc hlr hN,zaj λi hi=>by rw[a i hi]];exact D
 | best h s =>
  rename_i cols k;obtain⟨h1,D⟩:=h.best p d hc s;obtain⟨G,E⟩:=h.fits p d;have hl:=h.basis.len;have ly:=(h.basis.duals_ok (zKb m (zjD cost rows))).2;have a:∀i,i<m->el (bkL ((zg8 rows).map sgI) (zcl (zt0 (zc3 rows) (zg8 rows)) cols (zKb m (zjD cost rows))) m) i=sgn (el (zg8 rows) i)*el (zcl (zt0 (zc3 rows) (zg8 rows)) cols (zKb m (zjD cost rows))) i:=λi hi=>zWQ d ly hi
  refine⟨zTr hg hlc hlr hN (by rw[zSJ,ly]) λt u l=>?_,x cols,zTT hg hlc hlr hN G E (x cols) (C cols hl),λj hj=>?_,?_⟩;rw[zaj λi hi=>by rw[a i hi]];have:=h1 _ (J t u l);rw[L]at this;exact this;have:=h1 j ω;rw[own _ j hj,co j hj]at this;rw[zaj λi hi=>by rw[a i hi]];exact this;have e:=zUp (K:=cnt rows m) hlc (rows:=rows) (pt m (λk=>cols.getD k 0) (el (za5 (zt0 (zc3 rows) (zg8 rows)) (zwh (zg8 rows)) cols)));rw[hN]at e;rw[zVB hg hlc hlr hN,zaj (g:=λi=>sgn (el (zg8 rows) i)*el (zcl (zt0 (zc3 rows) (zg8 rows)) cols (zKb m (zjD cost rows))) i*el (zg8 rows) i) λi hi=>by rw[a i hi],<-D,e];unfold dot ziw;rw[hlc];grind[zaj]
 | falls h s =>
  rename_i cols j k;obtain⟨hj,w0,wz,wc⟩:=h.ray p d hc s;obtain⟨G,E⟩:=h.fits p d;have hl:=h.basis.len;have F:((zTj (N+m) cols (zav (zt0 (zc3 rows) (zg8 rows)) cols j) j m).take nC).length=nC:=by rw[ZI,zSN];omega
  have z:∀i,i<nC->el ((zTj (N+m) cols (zav (zt0 (zc3 rows) (zg8 rows)) cols j) j m).take nC) i=way m (λk=>cols.getD k 0) (λr s=>el (zav (zt0 (zc3 rows) (zg8 rows)) cols s) r) j i:=λi hi=>by rw[zT7 hi,znd (zTf ω)];rfl
  refine⟨x cols,zTT hg hlc hlr hN G E (x cols) (C cols hl),F,λi=>?_,zWF hg hlc hlr hN w0 wz F z,?_⟩;grind[zDb,Rat.le_refl];have e:=zUp (K:=cnt rows m) hlc (rows:=rows) (way m (λk=>cols.getD k 0) (λr s=>el (zav (zt0 (zc3 rows) (zg8 rows)) cols s) r) j);rw[hN]at e;rw[e]at wc;unfold dot ziw;rw[hlc,zaj λi hi=>by rw[z i hi]];exact wc
end
def z6Q(f:Basis m N A cols)(a:1<=Z)(zc:∀q∈col,mw q<=Z)(j:Nat):∀q∈zTj N cols col j m,mw q<=Z+2:=λq g=>by
 obtain⟨i,hi⟩:=Xh.1 g;have hl:=(ZF.1 hi).1;rw[zSN]at hl;have e:=hi;rw[zTf hl]at e;injection e with e;rw[<-e];show mw ((if i=j then (1:Rat)else 0)+pt m (λl=>cols.getD l 0) (λl => -el col l) i)<=_
 have o:mw (if i=j then (1:Rat)else 0)<=1:=by grind[mw1,mw0]
 have h1:mw (pt m (λl=>cols.getD l 0) (λl => -el col l) i)<=Z:=by by_cases d:Bas m (λk=>cols.getD k 0) i;obtain⟨k,hk,rfl⟩:=d;rw[zA7 f.inj _ hk,zhY];exact zDJ a zc k;grind[zyz,Nat.le_trans,mw0]
 have p:=zrI (if i=j then (1:Rat)else 0) (pt m (λl=>cols.getD l 0) (λl => -el col l) i);omega
def z6K(d:b.length=m)(a:ys.length=m)(zy:∀q∈ys,mw q<=S):∀q∈bkL (b.map sgI) ys m,mw q<=S:=λq e=>by obtain⟨i,hi⟩:=Xh.1 e;have hl:=(ZF.1 hi).1;rw[zSJ,a]at hl;rw[<-znd hi,zWQ d a hl,zWX];grind[zrz]
section
variable {S nC m N:Nat} {cost:List Rat} {rows:List PRow} (hg:GoodS S nC m cost rows) (hlc:cost.length=nC) (hlr:rows.length=m) (hN:nC+cnt rows m=N)
include hg hlr in
theorem z6N:∀r∈zc3 rows,∀q∈r,mw q<=S:=λr hr q a=>by unfold zc3 at hr;obtain⟨k,hk,rfl⟩:=ZH.1 hr;rw[Xb]at hk;rcases ZT.1 a with h1 | h1;exact(hg.rw_ _ (Zj (zaO hk))).2.1 q h1;exact Zf (zsi rows k q h1) hg.h1
include hg in
theorem z6O:∀q∈zg8 rows,mw q<=S:=λq d=>by obtain⟨p,a,rfl⟩:=ZH.1 d;exact(hg.rw_ p a).2.2
include hg in
theorem z6P:∀q∈zjD cost rows,mw q<=S:=λq a=>by rcases ZT.1 a with h1 | h1;exact hg.sc q h1;rw[(Yv.1 h1).2];exact Zf mw0 hg.h1
include hg hlc hlr hN in
theorem z6F(d:Am.Ends m N (zc3 rows) (zg8 rows) (zjD cost rows) (zSA N m (zc3 rows) (zg8 rows) (zjD cost rows) B)):match zSA N m (zc3 rows) (zg8 rows) (zjD cost rows) B with
  | .spent _=>False
  | .none cols _=>∀q∈bkL ((zg8 rows).map sgI) (zcl (zt0 (zc3 rows) (zg8 rows)) cols (zJG N m)) m,mw q<=sB m S S
  | .best cols _=>(∀q∈(zh1 (N+m) cols (za5 (zt0 (zc3 rows) (zg8 rows)) (zwh (zg8 rows)) cols)).take nC,mw q<=sB m S S)/\∀q∈bkL ((zg8 rows).map sgI) (zcl (zt0 (zc3 rows) (zg8 rows)) cols (zKb m (zjD cost rows))) m,mw q<=sB m S S
  | .falls cols j _=>(∀q∈(zh1 (N+m) cols (za5 (zt0 (zc3 rows) (zg8 rows)) (zwh (zg8 rows)) cols)).take nC,mw q<=sB m S S)/\∀q∈(zTj (N+m) cols (zav (zt0 (zc3 rows) (zg8 rows)) cols j) j m).take nC,mw q<=sB m S S+2:=by
 have e:=zVz hg.sh hlc hlr hN;have hc:(zjD cost rows).length=N:=by unfold zjD;rw[Zz,ZQ,hlc,hlr];exact hN
 have zA:=zXc (b:=zg8 rows) hg.h1 (z6N hg hlr);have zb:=zXd (z6O hg);have zc:=zXe (m:=m) hg.h1 (z6P hg);have i:(zwh (zg8 rows)).length=m:=by rw[zUh,e]
 have g:1<=sB m S S:=zma _ _ _
 have P:∀cols,Basis m (N+m) (zt0 (zc3 rows) (zg8 rows)) cols->∀q∈(zh1 (N+m) cols (za5 (zt0 (zc3 rows) (zg8 rows)) (zwh (zg8 rows)) cols)).take nC,mw q<=sB m S S:=λcols h q a =>
  z0l h (h.vals_ok _).2 (z0n h (zLu h zA) i zb) g q (Yj a)
 have Y:∀cols cs,Basis m (N+m) (zt0 (zc3 rows) (zg8 rows)) cols->cs.length=N+m->(∀q∈cs,mw q<=S)->∀q∈bkL ((zg8 rows).map sgI) (zcl (zt0 (zc3 rows) (zg8 rows)) cols cs) m,mw q<=sB m S S:=λcols cs h l z =>
  z6K e (h.duals_ok cs).2 (znb h (zLu h zA) l z)
 generalize zSA N m (zc3 rows) (zg8 rows) (zjD cost rows) B=o at d ⊢;cases d with
 | none h f s v=>exact Y _ _ h (by simp[zJG]) λq a=>Zf (zTR N m q a) hg.h1
 | best h s=>exact⟨P _ h.basis,Y _ _ h.basis (by simp[zKb,hc]) zc⟩
 | falls h s =>
  rename_i cols j k;refine⟨P _ h.basis,λq a=>z6Q h.basis g (zVc h.basis (zLu h.basis zA) λq a=>?_) j q (Yj a)⟩;obtain⟨r,hr,rfl⟩:=ZH.1 a;exact zDJ hg.h1 (zA r hr) j
end
