/- Contracts and lemmas: StdW. Conditions: as each says. -/
import Derived.Test.YtbpjabgfcbjjmaaGreatMat4Yn
import Derived.Test.YtbpjabgfcbjjmaaGreatMat3Yn
set_option linter.all false
set_option maxHeartbeats 4000000
set_option maxRecDepth 100000
namespace Go.Proofs.YtbpjabgfcbjjmaaGreat
open Go.RowKit Am Tryz
attribute [local go_sem ↓] Go.wp_at_zero Go.wp_at_succ
variable {cs:Array Value}{rows:List PRow}{b k n:Nat}{p:PRow}{t:TypeId}{w:World}
def zca (n:Nat) (rows:List PRow) (k:Nat):List Int:=(List.range k).map λi=>if (rows.getD i default).kind=3 then -1 else ((n+cnt rows i:Nat):Int)
def zsk(n:Nat)(rows:List PRow)(k:Nat):(zca n rows k).length=k:=by simp[zca]
def zqm(n:Nat)(rows:List PRow)(k:Nat):zca n rows (k+1)=zca n rows k++[if (rows.getD k default).kind=3 then -1 else ((n+cnt rows k:Nat):Int)]:=by unfold zca;rw[Yp,X8];rfl
def zsj{m:Nat}(h:k<m):(zca n rows m)[k]? = some (if (rows.getD k default).kind=3 then -1 else ((n+cnt rows k:Nat):Int)):=by unfold zca;rw[Z1,XH h];rfl
def zo3(h:rows[k]? = some p):zg8 (rows.take (k+1))=zg8 (rows.take k)++[p.rhs]:=by unfold zg8;rw[Xe,h];simp
def zxG(rows:List PRow):(zg8 rows).length=rows.length:=by simp[zg8]
def zux(h:rows[k]? = some p)(a:p.kind=3):cnt rows (k+1)=cnt rows k:=by rw[cnt,zfC h,if_pos a];rfl
def zkE(h:rows[k]? = some p)(a:p.kind≠3):cnt rows (k+1)=cnt rows k+1:=by rw[cnt,zfC h,if_neg a]
def zgO(rows:List PRow):∀k,cnt rows k<=k
 | 0=>Za _
 | k+1=>by have:=zgO rows k;rw[cnt];split<;>omega
def znK(h:rows[k]? = some p)(b:p.kind=3):List.replicate (cnt rows rows.length) 0=zch rows k:=by apply Xf;intro t;unfold zch;rw[Z9,Z1];grind
def znJ(h:rows[k]? = some p)(b:p.kind≠3)(c:p.coef.length=n):(p.coef++List.replicate (cnt rows rows.length) 0).set (n+cnt rows k) ((zfI p.kind:Int):Rat)=p.coef++zch rows k:=by
 have hk:=(ZF.1 h).1;have f:cnt rows k<cnt rows rows.length:=by have h1:=zkE h b;have d:=zyi rows (j:=k+1) (k:=rows.length) ω;omega
 rw[Yq,if_neg ω,c,show n+cnt rows k-n=cnt rows k by omega]
 congr 1
 apply Xf;intro t;unfold zch;rw[Xy,Z1,ZQ,Z9,zfC h];grind
def zo2(h:rows[k]? = some p):(zc3 rows).take (k+1)=(zc3 rows).take k++[p.coef++zch rows k]:=by
 have hk:=(ZF.1 h).1;have e:(zc3 rows)[k]? = some (p.coef++zch rows k):=by unfold zc3;rw[Z1,XH hk];grind
 rw[Xe,e];rfl
def zjC(rows:List PRow):(zc3 rows).length=rows.length:=by simp[zc3]
def zsi(rows:List PRow)(k:Nat):∀q∈zch rows k,mw q<=1:=λq a=>by
 unfold zch at a;obtain⟨t,_,rfl⟩:=ZH.1 a;split
 unfold zfI;split
 exact mw1;show mw ((-1:Int):Rat)<=1
 decide;exact mw0
def zBb(c:θ w b cs t)(v0 v1 f g i j:Value):TKeep t w ((((((w.setCell ⟨b,0,none⟩ v0).setCell ⟨b,1,none⟩ v1).setCell ⟨b,2,none⟩ f).setCell ⟨b,3,none⟩ g).setCell ⟨b,4,none⟩ i).setCell ⟨b,5,none⟩ j):=λk _ d=>by
 have a:k≠b:=λe=>d cs (by rw[e];exact c)
 rw[ZE _ _ _ _ (by exact a),ZE _ _ _ _ (by exact a),ZE _ _ _ _ (by exact a),ZE _ _ _ _ (by exact a),ZE _ _ _ _ (by exact a),ZE _ _ _ _ (by exact a)]
def zBa(c:θ w b cs t)(v0 v1:Value):TKeep t w ((w.setCell ⟨b,0,none⟩ v0).setCell ⟨b,1,none⟩ v1):=λk _ d=>by
 have a:k≠b:=λe=>d cs (by rw[e];exact c)
 rw[ZE _ _ _ _ (by exact a),ZE _ _ _ _ (by exact a)]
def zCt (w:World) (n m S:Nat) (cost:List Rat) (rows:List PRow) (e:Ending) (w':World):Prop :=
  ∃ (rA:OA) (rc:Nat) (lA:List Value) (bA:OA) (bc_:Nat) (kA:OA) (kc:Nat) (eA:OA) (ec:Nat),
    e=.returned (.tuple #[.agg #[(rA,m,rc),((n+cnt rows m:Nat):Int),(bA,m,bc_),(kA,n+cnt rows m,kc),(n:Int),(eA,m,ec)],.nilIface]) /\
    StdP w' rA rc lA bA bc_ kA kc eA ec m (n+cnt rows m) S (zc3 rows) (zg8 rows) (zjD cost rows) (zca n rows m)/\Below w w w'
namespace Pb
def sign(k:Int)(w:World):Calls prog 109 #[.int .i64 k] w λe w'=>e=.returned (.int .i64 (zfI k))/\Below w w w':=by
 by_cases h:k=1
 ·have b:(k == 1)=true:=by simp[h]
  have a:zfI k=1:=by unfold zfI;rw[if_pos h]
  rw[a];go_enter func109,ntmps109;go_wp2;go_ret;exact⟨rfl,Zl _ _⟩
 have b:(k == 1)=false:=by simp[h]
 have a:zfI k = -1:=by unfold zfI;rw[if_neg h]
 rw[a];go_enter func109,ntmps109;go_wp2;go_ret;exact⟨rfl,Zl _ _⟩
def standard(S:Nat)(hS:1<=S)(C:OA)(nc cc:Nat)(R:OA)(nr cr:Nat)(cost:List Rat)(rows:List PRow)(w:World)(hc:VecS w 0 (C,nc,cc) cost)(hr:RowsS w 0 (R,nr,cr) rows)(u:nc<=24)(dJ:nr<=20)(c0:Rows nc rows)(cZ:Kinds rows)(zc:∀q∈cost,mw q<=S)(zr:∀p∈rows,(∀q∈p.coef,mw q<=S)/\mw p.rhs<=S) :
  Calls prog 45 #[.agg #[(C,nc,cc),(R,nr,cr)]] w (zCt w nc nr S cost rows):=by
 refine μ7 hc.len hr.len c0 cZ hS zc zr λdq T aV dp b2 dC cV=>?_;clear c0 cZ hS zc zr;obtain⟨W,hW⟩:∃W,((w.alloc (.cells #[(C,nc,cc),(R,nr,cr)] 33)).alloc (.cells #[(),.int .i64 0,(),(),.int .i64 0,()] 114))=W:=⟨_,rfl⟩
 refine μ5 (show θ W w.heap.size #[(C,nc,cc),(R,nr,cr)] 33by rw[<-hW];exact zak (zam σ)) (show θ W (w.heap.size+1) #[(),.int .i64 0,(),(),.int .i64 0,()] 114by rw[<-hW];exact zam σ) (show Below w w W by rw[<-hW];exact(zae w _).alloc σ _) (show VecS W 0 (C,nc,cc) cost by rw[<-hW];exact((hc).alloc _).alloc _) (show RowsS W 0 (R,nr,cr) rows by rw[<-hW];exact((hr).alloc _).alloc _) λaX bw BB HC HR=>?_;obtain⟨eK,_,_,_,eL,eF,_⟩:=bf2 aX.o;clear hc hr;go_enter func45,ntmps45;go_wp2_with fail
 clear hW;refine(may C nc cc R nr cr cost rows _ HC.o HR.o u dJ aV.o dp.o).mono ?_
 rintro e w1 ⟨rfl,hb_⟩;have dg:=un (zad hb_ aX.o);obtain⟨eI,_,_,_,eJ,eN,_⟩:=bf2 dg.o;have dl:=un hb_;have aj:=un (hb_.size);clear hb_;have dF:=zae w1 (.cells #[(),.int .i64 0,(),(),(nc:Int),()] 114);have eG:=un (zad dF dg.o);obtain⟨_,_,_,_,eM,eH,_⟩:=bf2 eG.o;go_wp2
 go_loopw [7,31] (λcv i wr=>∃(k:Nat) (bA:OA) (bc_:Nat) (eA:OA) (ec:Nat),i=.int .i64 k/\cv=.int .i64 ((nc+cnt rows k:Nat):Int)/\k<=nr/\θ wr w1.heap.size #[(),.int .i64 0,.slice bA k bc_,(),(nc:Int),.slice eA k ec] 114/\VecS wr W.heap.size (.slice bA k bc_) (zg8 (rows.take k))/\IntsZ wr W.heap.size (.slice eA k ec) (zca nc rows k)/\Below W.heap.size W wr)
  (λ_ i _=>nr-(intOf i).toNat)
 case atStart=>exact⟨0,none,0,none,0,rfl,by simp[cnt],Zb _,zal _ _ _,VecS.nil _ _,IntsZ.nil _ _,dl.o.alloc aj.o _⟩
 obtain⟨k,bA,bc_,eA,ec,rfl,rfl,hk,bB,aa,ab,a⟩:=hrel;by_cases bD:k<nr
 ·obtain⟨p,G⟩:∃p,rows[k]? = some p:=⟨rows[k]'(by rw[<-T.o];exact bD),Ze _⟩
  obtain⟨b,rfl,dD,dE⟩:=HR.o.has ω;obtain⟨Q,nq,s,g,A,m,c,D,o,f,k0,t,k2,k3,k4,aA,a4⟩:=(HR.o.below a).at_ G;refine μ9 (zad a aX.o) (zad a bw.o) (HC.o.below a) (HR.o.below a) (a4) (aa) (ab) (Bel.mk a) (BB.o.trans ((a).mono BB.o.size)) λaK cC bH cl HQ bu bv HW bc=>?_;obtain⟨cA,_,_,_,cB,cz,_⟩:=bf2 aK.o;have fX:χ wr b (k*5) (Q,nq,s):=k0;have fY:χ wr b (k*5+1) (.int .i64 p.kind):=t;have f0:=k2;have fZ:χ wr b (k*5+3) (.slice A m c):=k3;have f1:=k4;refine μ4 bB G (show(zca nc rows k).length=k from zsk _ _ _) (show(zg8 (rows.take k)).length=k by rw[zxG,ZI,<-T.o];omega) λce O cS cQ=>?_;have dH:=zgO rows k;have cT:=un (zqm nc rows k);clear a bB aa ab aA a4 G k0 t k2 k3 k4;have cY:(0:Int)<=(k:Int):=Zg _;have bC:(k:Int)<(nr:Int):=ω;have ci:=HW.o.b.size;have Z:=zae wr (.cells #[(Q,nq,s),.int .i64 p.kind,g,.slice A m c,(D,o,f)] 101);refine μ9 (zad Z aK.o) (zad Z cC.o) (zad Z ce.o) (cl.o.below Z) (HQ.o.below Z) (bu.o.below Z) (bv.o.below Z) (HW.o.below Z) (bc.o.trans ((Z).mono bc.o.size)) λac bb aD aP df cN cO cE am=>?_;obtain⟨_,_,_,_,aM,aL,_⟩:=bf2 ac.o;obtain⟨_,_,_,_,_,_,_,_,_,_,_,_,_,_,_,_,_,_,_,_,bi,bf,_⟩:=bf6 aD.o;have cf:=un (zal wr #[(Q,nq,s),.int .i64 p.kind,g,.slice A m c,(D,o,f)] 101);obtain⟨_,_,fW,_⟩:=bc5 cf.o;by_cases H:p.kind=3
  ·have hd:(p.kind != 3)=false:=by simp[H]
   have ca:=un (show(if (rows.getD k default).kind=3 then -1 else ((nc+cnt rows k:Nat):Int)) = -1 by rw[zfC O.o];exact if_pos H);have bW:=un (zux O.o H);clear H;go_upto_region 14 with fail
   go_cut[] (λwy=>∃(z:OA) (B:Nat),θ wy w1.heap.size #[(),.int .i64 0,.slice bA k bc_,(),(nc:Int),.slice z (k+1) B] 114/\θ wy wr.heap.size #[(Q,nq,s),.int .i64 p.kind,g,.slice A m c,(D,o,f)] 101/\RatS wy g (.slice A m c) (D,o,f) p.rhs/\VecS wy W.heap.size (.slice bA k bc_) (zg8 (rows.take k))/\IntsZ wy W.heap.size (.slice z (k+1) B) (zca nc rows (k+1))/\Below W.heap.size W wy)
   case first=>as_aux_lemma =>
    go_wp2_with (at_builtin;refine zfS rfl _ _ rfl rfl (cO.o.alloc (.cells #[.int .i64 (-1)] 3)) rfl (zbD _ _ _ _) (n:=k) cS.o ω (by simp;omega) ?_;intro z B w5 aZ K E;refine μ5 aZ K ((cE.o.alloc (.cells #[.int .i64 (-1)] 3)).b.trans E) (K.blk (zak aD.o) δ) (K.blk (zak cf.o) δ) λbY aT ap F KR=>?_;have dO:=zag F.o 5;have dQ:=zac F.o 5;clear aZ K E)
    go_meet;have t:TKeep 114 w5 (w5.setCell ⟨w1,5,none⟩ (.slice z (k+1) B)):=TKeep.set F.o _
    case rel=>exact⟨z,B,zar _ F.o,t.blk KR.o δ,((df.o.alloc _).tk aT.o δ).tk t δ,((cN.o.alloc _).tk aT.o δ δ).tk t δ δ,by rw[cT.o,ca.o];exact bY.o.tk t δ,ap.o.setCell (p:=⟨w1,5,none⟩) aj.o _⟩
   rename World=>wy
   obtain⟨z,B,L,ay,a3,a5,a2,E⟩:=hcut;refine μ6 L ay a3 a5 a2 (Bel.mk E) λF KR b1 b3 ar b8=>?_;have dL:=E.size;obtain⟨s0,_,_,_,s1,_,_,_,s2,_,_,_,s3,_,_,_,s4,_,_,_,s5,_⟩:=bf6 L;obtain⟨_,_,_,_,r2,_,r3,_,r4,_⟩:=bc5 ay;clear L ay a3 a5 a2 E;go_wp2_with (at_builtin;refine zfR rfl _ _ rfl rfl (b3.o.alloc (.cells #[g,.slice A m c,(D,o,f)] 62)) rfl (zal _ _ _) (b1.o.alloc _) (N:=k) cQ.o ω (by simp;omega) ?_;intro A6 c6 w6 a6 ax a1;refine μ4 a6 ax ((b8.o.alloc (.cells #[g,.slice A m c,(D,o,f)] 62)).b.trans a1) (ax.blk (zak F.o) δ) λb4 bZ bU ad=>?_;have dN:=zag ad.o 2;have dP:=zac ad.o 2;clear a6 ax a1)
   go_roundw
   have t:TKeep 114 w6 (w6.setCell ⟨w1,2,none⟩ (.slice A6 (k+1) c6)):=TKeep.set ad.o _
   case rel=>exact⟨k+1,A6,c6,z,B,by go_num,by rw[bW.o];simp,ω,zar _ ad.o,by rw[zo3 O.o];exact b4.o.tk t δ δ,((ar.o.alloc _).tk bZ.o δ).tk t δ,bU.o.setCell (p:=⟨w1,2,none⟩) aj.o _⟩
   case measure=>simp[intOf];omega
  have hd:(p.kind != 3)=true:=by simp[H]
  have ca:=un (show(if (rows.getD k default).kind=3 then -1 else ((nc+cnt rows k:Nat):Int))=((nc+cnt rows k:Nat):Int)by rw[zfC O.o];exact if_neg H);have bW:=un (zkE O.o H);clear H;go_upto_region 14 with fail
  go_cut[] (λwy=>∃(z:OA) (B:Nat),θ wy w1.heap.size #[(),.int .i64 0,.slice bA k bc_,(),(nc:Int),.slice z (k+1) B] 114/\θ wy wr.heap.size #[(Q,nq,s),.int .i64 p.kind,g,.slice A m c,(D,o,f)] 101/\RatS wy g (.slice A m c) (D,o,f) p.rhs/\VecS wy W.heap.size (.slice bA k bc_) (zg8 (rows.take k))/\IntsZ wy W.heap.size (.slice z (k+1) B) (zca nc rows (k+1))/\Below W.heap.size W wy)
  case first=>as_aux_lemma =>
   go_wp2_with (at_builtin;refine zfS rfl _ _ rfl rfl (cO.o.alloc (.cells #[.int .i64 (((nc+cnt rows k:Nat):Int))] 3)) rfl (zbD _ _ _ _) (n:=k) cS.o ω (by simp;omega) ?_;intro z B w5 aZ K E;refine μ5 aZ K ((cE.o.alloc (.cells #[.int .i64 (((nc+cnt rows k:Nat):Int))] 3)).b.trans E) (K.blk (zak aD.o) δ) (K.blk (zak cf.o) δ) λbY aT ap F KR=>?_;have dO:=zag F.o 5;have dQ:=zac F.o 5;clear aZ K E)
   go_meet;have t:TKeep 114 w5 (w5.setCell ⟨w1,5,none⟩ (.slice z (k+1) B)):=TKeep.set F.o _
   case rel=>exact⟨z,B,zar _ F.o,t.blk KR.o δ,((df.o.alloc _).tk aT.o δ).tk t δ,((cN.o.alloc _).tk aT.o δ δ).tk t δ δ,by rw[cT.o,ca.o];exact bY.o.tk t δ,ap.o.setCell (p:=⟨w1,5,none⟩) aj.o _⟩
  rename World=>wy
  obtain⟨z,B,L,ay,a3,a5,a2,E⟩:=hcut;refine μ6 L ay a3 a5 a2 (Bel.mk E) λF KR b1 b3 ar b8=>?_;have dL:=E.size;obtain⟨s0,_,_,_,s1,_,_,_,s2,_,_,_,s3,_,_,_,s4,_,_,_,s5,_⟩:=bf6 L;obtain⟨_,_,_,_,r2,_,r3,_,r4,_⟩:=bc5 ay;clear L ay a3 a5 a2 E;go_wp2_with (at_builtin;refine zfR rfl _ _ rfl rfl (b3.o.alloc (.cells #[g,.slice A m c,(D,o,f)] 62)) rfl (zal _ _ _) (b1.o.alloc _) (N:=k) cQ.o ω (by simp;omega) ?_;intro A6 c6 w6 a6 ax a1;refine μ4 a6 ax ((b8.o.alloc (.cells #[g,.slice A m c,(D,o,f)] 62)).b.trans a1) (ax.blk (zak F.o) δ) λb4 bZ bU ad=>?_;have dN:=zag ad.o 2;have dP:=zac ad.o 2;clear a6 ax a1)
  go_roundw
  have t:TKeep 114 w6 (w6.setCell ⟨w1,2,none⟩ (.slice A6 (k+1) c6)):=TKeep.set ad.o _
  case rel=>exact⟨k+1,A6,c6,z,B,by go_num,by rw[bW.o];simp;omega,ω,zar _ ad.o,by rw[zo3 O.o];exact b4.o.tk t δ δ,((ar.o.alloc _).tk bZ.o δ).tk t δ,bU.o.setCell (p:=⟨w1,2,none⟩) aj.o _⟩
  case measure=>simp[intOf];omega
 obtain rfl:nr=k:=ω;refine μ8 (zad a aX.o) (zad a bw.o) (HC.o.below a) (HR.o.below a) (aa) (ab) (Bel.mk a) (BB.o.trans ((a).mono BB.o.size)) λaK cC bH cl bu bv HW bc=>?_;obtain⟨cA,_,_,_,cB,cz,_⟩:=bf2 aK.o;have ce:=un bB;have ds:=un (show rows.take nr=rows by rw[T.o,XL]);clear a bB aa ab;have dH:=zgO rows nr;have ci:=HW.o.b.size;obtain⟨cA,_,_,_,cB,cz,_⟩:=bf2 aK.o;go_upto_region 17 with fail
 go_cut[] (λwy=>∃(M:OA) (P:Nat),θ wy w1.heap.size #[(),.int .i64 0,(bA,nr,bc_),(M,nc+cnt rows nr,P),(nc:Int),(eA,nr,ec)] 114/\VecS wy W.heap.size (M,nc+cnt rows nr,P) (zjD cost rows)/\VecS wy W.heap.size (bA,nr,bc_) (zg8 (rows.take nr))/\IntsZ wy W.heap.size (eA,nr,ec) (zca nc rows nr)/\Below W.heap.size W wy)
 case first=>as_aux_lemma =>
  go_wp2_with fail
  refine(Vc.copy C nc cc cost 0 _ bH.o ω).mono ?_
  rintro e w5 ⟨A7,c7,rfl,hv7,u⟩;refine μ9 (zad u aK.o) (zad u cC.o) (zad u ce.o) (cl.o.below u) (bu.o.below u) (bv.o.below u) (HW.o.below u) (hv7) (bc.o.trans ((u).mono bc.o.size)) λac bb aD aP cN cO cE aR am=>?_;obtain⟨_,_,_,_,aM,aL,_⟩:=bf2 ac.o;obtain⟨_,_,_,_,_,_,_,_,_,_,_,_,_,_,_,_,_,_,_,_,bi,bf,_⟩:=bf6 aD.o;have ai:=un u;clear hv7 u;go_wp2_with (at_builtin;refine zb3 rfl _ _ rfl rfl aR.o rfl (n:=cnt rows nr) ω (N:=nc+cnt rows nr) (by rw[<-dq.o]) ω (by have:=ai.o.size;omega) ?_;intro M P U J aI al;have X:=un J;have bV:=un (ai.o.trans al);have dj:=un (HW.o.b.trans (bV.o.mono ci));have F:=un (aI.blk aD.o δ);have fH:=zag F.o 3;have fI:=zac F.o 3;clear J aI al)
  go_meet;have t:TKeep 114 U (U.setCell ⟨w1,3,none⟩ (M,nc+cnt rows nr,P)):=TKeep.set F.o _
  case rel=>exact⟨M,P,zar _ F.o,by unfold zjD;rw[<-T.o];exact(X.o.base ci).tk t δ δ,(bu.o.below bV.o).tk t δ δ,(bv.o.below bV.o).tk t δ,dj.o.setCell (p:=⟨w1,3,none⟩) aj.o _⟩
 rename World=>wb
 obtain⟨M,P,L,a7,aa,ab,a⟩:=hcut;refine μ7 (zad a aX.o) (zad a bw.o) (HR.o.below a) (show VecS wb W.heap.size (M,nc+cnt rows nr,P) (zjD cost rows)from a7) (show VecS wb W.heap.size (bA,nr,bc_) (zg8 (rows.take nr))from aa) (ab) (BB.o.trans ((a).mono BB.o.size)) λac bb aP dx dv aW am=>?_;obtain⟨_,_,_,_,aM,aL,_⟩:=bf2 ac.o;have bz:=un L;obtain⟨_,_,_,_,_,_,_,_,_,_,_,_,_,_,_,_,_,_,_,_,bi,bf,_⟩:=bf6 bz.o;clear eK eL eF eI eJ eN eM eH cA cB cz;have dB:=un a.size;have dk:=un a;clear L a7 aa ab a;go_wp2;simp only[Yy]
 go_loopw [11,66] (λrv i wz=>∃(k:Nat) (rA:OA) (rc:Nat) (l:List Value),i=.int .i64 k/\rv=.slice rA k rc/\k<=nr/\VecsL wz wb (.slice rA k rc) l ((zc3 rows).take k)/\Below wb wb wz)
  (λ_ i _=>nr-(intOf i).toNat)
 case atStart=>exact⟨0,none,0,[],rfl,rfl,Zb _,VecsL.nil _ _,Zl _ _⟩
 rename World=>wz
 obtain⟨k,rA,rc,l,rfl,rfl,hk,ae,a⟩:=hrel;by_cases bD:k<nr
 ·obtain⟨p,G⟩:∃p,rows[k]? = some p:=⟨rows[k]'(by rw[<-T.o];exact bD),Ze _⟩
  obtain⟨b,rfl,dD,dE⟩:=HR.o.has ω;obtain⟨bl,rfl,fF,fG⟩:=aW.o.has ω;obtain⟨Q,nq,s,g,A,m,c,D,o,f,k0,t,k2,k3,k4,aA,a4⟩:=(aP.o.below a).at_ G;obtain rfl:nc=nq:=by rw[aA.len,(aV.o p (Zj G)).1]
  have l0:=(aW.o.below a).at_ (zsj (n:=nc) (rows:=rows) bD);by_cases H:p.kind=3
  ·skip
   rw[zfC G,if_pos H]at l0;refine μ9 (zad a ac.o) (zad a bb.o) (zad a bz.o) (aP.o.below a) (aW.o.below a) (aA) (ae) (Bel.mk a) (am.o.trans ((a).mono am.o.size)) λbd be bg ba bp HQ aE av an=>?_;have bh:=k0;have bj:=t;have bk:=k2;have bm:=k3;have bn:=k4;have bo:=l0;refine μ4 G H (show((zc3 rows).take k).length=k by rw[ZI,zjC,<-T.o];omega) (aV.o p (Zj G)).1 λO bX b0 aS=>?_;have dM:=av.o.b.size;clear a ae aA a4 G H k0 t k2 k3 k4 l0;have cY:(0:Int)<=(k:Int):=Zg _;have bC:(k:Int)<(nr:Int):=ω;have x:=zae wz (.cells #[(Q,nc,s),.int .i64 p.kind,g,.slice A m c,(D,o,f)] 101);refine μ9 (zad x bd.o) (zad x be.o) (zad x bg.o) (ba.o.below x) (bp.o.below x) (HQ.o.below x) (aE.o.below x) (av.o.below x) (an.o.trans ((x).mono an.o.size)) λbJ bK ag bI bq a9 bs aO aN=>?_;obtain⟨cF,_,cH,_,cG,_,cI,_⟩:=bf6 ag.o;have bL:=zab x bh;have bN:=zab x bj;have bO:=zab x bk;have bP:=zab x bm;have bQ:=zab x bn;have bR:=zab x bo;have bS:χ (wz.alloc (.cells #[(Q,nc,s),.int .i64 p.kind,g,.slice A m c,(D,o,f)] 101)) wz.heap.size 0 (Q,nc,s):=zax rfl rfl;have bE:χ (wz.alloc (.cells #[(Q,nc,s),.int .i64 p.kind,g,.slice A m c,(D,o,f)] 101)) wz.heap.size 1 (.int .i64 p.kind):=zax rfl rfl;have bF:χ (wz.alloc (.cells #[(Q,nc,s),.int .i64 p.kind,g,.slice A m c,(D,o,f)] 101)) wz.heap.size 2 (.bool g):=zax rfl rfl;have bG:χ (wz.alloc (.cells #[(Q,nc,s),.int .i64 p.kind,g,.slice A m c,(D,o,f)] 101)) wz.heap.size 3 (.slice A m c):=zax rfl rfl;have bM:χ (wz.alloc (.cells #[(Q,nc,s),.int .i64 p.kind,g,.slice A m c,(D,o,f)] 101)) wz.heap.size 4 (D,o,f):=zax rfl rfl;go_upto_region 22 with fail
   clear aM aL bi bf bh bj bk bm bn bo;have cb:=un (show wb.heap.size<=(wz.alloc (.cells #[(Q,nc,s),.int .i64 p.kind,g,.slice A m c,(D,o,f)] 101)).heap.size by simp;omega);go_cut[14] (λxv wy=>∃(I:OA) (y:Nat),xv=(I,nc+cnt rows nr,y)/\VecS wy (wz.alloc (.cells #[(Q,nc,s),.int .i64 p.kind,g,.slice A m c,(D,o,f)] 101)).heap.size (I,nc+cnt rows nr,y) (p.coef++List.replicate (cnt rows nr) 0)/\Below (wz.alloc (.cells #[(Q,nc,s),.int .i64 p.kind,g,.slice A m c,(D,o,f)] 101)).heap.size (wz.alloc (.cells #[(Q,nc,s),.int .i64 p.kind,g,.slice A m c,(D,o,f)] 101)) wy)
   case first=>as_aux_lemma =>
    go_wp2_with fail
    refine(Vc.copy Q nc s p.coef 0 _ a9.o ω).mono ?_;rintro e u1 ⟨A7,c7,rfl,hv7,hb7⟩;have aR:=un hv7;have ai:=un hb7;clear hv7 hb7;go_wp2_with (at_builtin;refine zb3 rfl _ _ rfl rfl aR.o rfl (n:=cnt rows nr) ω (N:=nc+cnt rows nr) (by rw[aS.o]) ω (by exact ai.o.size) ?_;intro I y U J aI al;have X:=un J;have aq:=un (ai.o.trans al);clear J aI al)
    go_meet
    case rel=>exact⟨I,y,rfl,X.o,aq.o⟩
   rename World=>U
   obtain⟨I,y,rfl,J,d⟩:=hcut;refine μ11 J d (zad d bJ.o) (zad d bK.o) (zad d ag.o) (bI.o.below d) (bq.o.below d) (a9.o.below d) (bs.o.below d) (aO.o.below d) (aN.o.trans ((d).mono aN.o.size)) λX aq cD cL cM eE ex eD dd di ff=>?_;obtain⟨eQ,eO,eU,eS,eR,eP,eV,eT⟩:=bf2 cD.o;obtain⟨ek,fm,d8,eY,el,fo,d9,eZ,em,fq,ea,e0,en,fs,eb,e1,eo,fu,ed,e2,ep,fw,ee,e3⟩:=bf6 cL.o;obtain⟨eq,fx,ef,e4,er,fg,eg,e5,es,fh,eh,e6,et,fi,d5,e7,ei,fj,d6,eW,ej,fk,d7,eX⟩:=bf6 cM.o;have cK:=zab d bL;have dU:=zaa cK;have cw:=zab d bN;have dW:=zaa cw;have cx:=zab d bO;have dX:=zaa cx;have cy:=zab d bP;have dY:=zaa cy;have cm:=zab d bQ;have dZ:=zaa cm;have cn:=zab d bR;have d0:=zaa cn;have cp:=zab d bS;have d1:=zaa cp;have cs:=zab d bE;have d2:=zaa cs;have ct:=zab d bF;have d3:=zaa ct;have cu:=zab d bG;have d4:=zaa cu;have cJ:=zab d bM;have dV:=zaa cJ;clear J d;clear cF cH cG cI bL bN bO bP bQ bR bS bE bF bG bM;go_upto_region 24 with fail
   go_cut[84] (λc wx=>c=false/\wx=U)
   case first =>
    go_wp2;go_meet;exact⟨by first | rfl | (simp;done) | (simp;omega),rfl⟩
   obtain⟨rfl,rfl⟩:=hcut;rename World=>U
   go_upto_region 26 with fail
   have b6:=un (show VecS U wb (I,nc+cnt rows nr,y) (p.coef++zch rows k)by have h:=X.o;rw[<-znK O.o bX.o,<-T.o];exact h.base cb.o);refine μ3 (b6.o.alloc (.cells #[(I,nc+cnt rows nr,y)] 30)) (dd.o.alloc (.cells #[(I,nc+cnt rows nr,y)] 30)) ((di.o.alloc (.cells #[(I,nc+cnt rows nr,y)] 30)).b) λb7 b5 aQ=>?_;go_wp2_with (at_builtin;go_loud (refine zbW rfl _ _ rfl rfl b5.o rfl (zal _ _ _) b7.o (n:=k) b0.o ω (by exact aQ.o.size) ?_;intro z B w5 a0 K E ch;have ar:=un a0;have ap:=un (aQ.o.trans E);clear a0 K E ch))
   go_roundw
   case rel=>exact⟨k+1,z,B,_,by go_num,rfl,ω,by rw[zo2 O.o];exact ar.o,ap.o⟩
   case measure=>simp[intOf];omega
  skip
  rw[zfC G,if_neg H]at l0;refine μ9 (zad a ac.o) (zad a bb.o) (zad a bz.o) (aP.o.below a) (aW.o.below a) (aA) (ae) (Bel.mk a) (am.o.trans ((a).mono am.o.size)) λbd be bg ba bp HQ aE av an=>?_;have bh:=k0;have bj:=t;have bk:=k2;have bm:=k3;have bn:=k4;have bo:=l0;refine μ4 G H (show((zc3 rows).take k).length=k by rw[ZI,zjC,<-T.o];omega) (aV.o p (Zj G)).1 λO bX b0 aS=>?_;have fD:cnt rows k<cnt rows nr:=by have h1:=zkE G H;have h2:=zyi rows (j:=k+1) (k:=nr) ω;omega
  have dM:=av.o.b.size;clear a ae aA a4 G H k0 t k2 k3 k4 l0;have cY:(0:Int)<=(k:Int):=Zg _;have bC:(k:Int)<(nr:Int):=ω;have x:=zae wz (.cells #[(Q,nc,s),.int .i64 p.kind,g,.slice A m c,(D,o,f)] 101);refine μ9 (zad x bd.o) (zad x be.o) (zad x bg.o) (ba.o.below x) (bp.o.below x) (HQ.o.below x) (aE.o.below x) (av.o.below x) (an.o.trans ((x).mono an.o.size)) λbJ bK ag bI bq a9 bs aO aN=>?_;obtain⟨cF,_,cH,_,cG,_,cI,_⟩:=bf6 ag.o;have bL:=zab x bh;have bN:=zab x bj;have bO:=zab x bk;have bP:=zab x bm;have bQ:=zab x bn;have bR:=zab x bo;have bS:χ (wz.alloc (.cells #[(Q,nc,s),.int .i64 p.kind,g,.slice A m c,(D,o,f)] 101)) wz.heap.size 0 (Q,nc,s):=zax rfl rfl;have bE:χ (wz.alloc (.cells #[(Q,nc,s),.int .i64 p.kind,g,.slice A m c,(D,o,f)] 101)) wz.heap.size 1 (.int .i64 p.kind):=zax rfl rfl;have bF:χ (wz.alloc (.cells #[(Q,nc,s),.int .i64 p.kind,g,.slice A m c,(D,o,f)] 101)) wz.heap.size 2 (.bool g):=zax rfl rfl;have bG:χ (wz.alloc (.cells #[(Q,nc,s),.int .i64 p.kind,g,.slice A m c,(D,o,f)] 101)) wz.heap.size 3 (.slice A m c):=zax rfl rfl;have bM:χ (wz.alloc (.cells #[(Q,nc,s),.int .i64 p.kind,g,.slice A m c,(D,o,f)] 101)) wz.heap.size 4 (D,o,f):=zax rfl rfl;go_upto_region 22 with fail
  clear aM aL bi bf bh bj bk bm bn bo;have cb:=un (show wb.heap.size<=(wz.alloc (.cells #[(Q,nc,s),.int .i64 p.kind,g,.slice A m c,(D,o,f)] 101)).heap.size by simp;omega);go_cut[14] (λxv wy=>∃(I:OA) (y:Nat),xv=(I,nc+cnt rows nr,y)/\VecS wy (wz.alloc (.cells #[(Q,nc,s),.int .i64 p.kind,g,.slice A m c,(D,o,f)] 101)).heap.size (I,nc+cnt rows nr,y) (p.coef++List.replicate (cnt rows nr) 0)/\Below (wz.alloc (.cells #[(Q,nc,s),.int .i64 p.kind,g,.slice A m c,(D,o,f)] 101)).heap.size (wz.alloc (.cells #[(Q,nc,s),.int .i64 p.kind,g,.slice A m c,(D,o,f)] 101)) wy)
  case first=>as_aux_lemma =>
   go_wp2_with fail
   refine(Vc.copy Q nc s p.coef 0 _ a9.o ω).mono ?_;rintro e u1 ⟨A7,c7,rfl,hv7,hb7⟩;have aR:=un hv7;have ai:=un hb7;clear hv7 hb7;go_wp2_with (at_builtin;refine zb3 rfl _ _ rfl rfl aR.o rfl (n:=cnt rows nr) ω (N:=nc+cnt rows nr) (by rw[aS.o]) ω (by exact ai.o.size) ?_;intro I y U J aI al;have X:=un J;have aq:=un (ai.o.trans al);clear J aI al)
   go_meet
   case rel=>exact⟨I,y,rfl,X.o,aq.o⟩
  rename World=>U
  obtain⟨I,y,rfl,J,d⟩:=hcut;refine μ11 J d (zad d bJ.o) (zad d bK.o) (zad d ag.o) (bI.o.below d) (bq.o.below d) (a9.o.below d) (bs.o.below d) (aO.o.below d) (aN.o.trans ((d).mono aN.o.size)) λX aq cD cL cM eE ex eD dd di ff=>?_;obtain⟨eQ,eO,eU,eS,eR,eP,eV,eT⟩:=bf2 cD.o;obtain⟨ek,fm,d8,eY,el,fo,d9,eZ,em,fq,ea,e0,en,fs,eb,e1,eo,fu,ed,e2,ep,fw,ee,e3⟩:=bf6 cL.o;obtain⟨eq,fx,ef,e4,er,fg,eg,e5,es,fh,eh,e6,et,fi,d5,e7,ei,fj,d6,eW,ej,fk,d7,eX⟩:=bf6 cM.o;have cK:=zab d bL;have dU:=zaa cK;have cw:=zab d bN;have dW:=zaa cw;have cx:=zab d bO;have dX:=zaa cx;have cy:=zab d bP;have dY:=zaa cy;have cm:=zab d bQ;have dZ:=zaa cm;have cn:=zab d bR;have d0:=zaa cn;have cp:=zab d bS;have d1:=zaa cp;have cs:=zab d bE;have d2:=zaa cs;have ct:=zab d bF;have d3:=zaa ct;have cu:=zab d bG;have d4:=zaa cu;have cJ:=zab d bM;have dV:=zaa cJ;clear J d;go_upto_region 24 with fail
  go_cut[84] (λc wx=>c=true/\wx=U)
  case first =>
   go_wp2;go_meet;exact⟨by first | rfl | (simp;done) | (simp;omega),rfl⟩
  obtain⟨rfl,rfl⟩:=hcut;rename World=>U
  go_upto_region 25 with fail
  obtain⟨bx,rfl,dG,fC⟩:=X.o.has ω;have b9:=un dG;go_cut[] (λwy=>VecS wy (wz.alloc (.cells #[(Q,nc,s),.int .i64 p.kind,g,.slice A m c,(D,o,f)] 101)).heap.size (bx,nc+cnt rows nr,y) (p.coef++zch rows k)/\Below (wz.alloc (.cells #[(Q,nc,s),.int .i64 p.kind,g,.slice A m c,(D,o,f)] 101)).heap.size (wz.alloc (.cells #[(Q,nc,s),.int .i64 p.kind,g,.slice A m c,(D,o,f)] 101)) wy)
  case first=>as_aux_lemma =>
   have cU:=un (show -9223372036854775808<=zfI p.kind/\zfI p.kind<=9223372036854775807 by unfold zfI;split<;>decide);go_wp2_with fail
   refine(sign p.kind _).mono ?_
   rintro e v1 ⟨rfl,u⟩;have ez:=un (X.o.below u);have cR:=un u;clear u;go_wp2_with fail
   refine(Rt.int (zfI p.kind) cU.o.1 cU.o.2 _).mono ?_
   rintro e v2 ⟨g9,A6,m9,c6,D9,md9,cd9,rfl,hn9,u⟩;refine μ3 (ez.o.below u) (show RatS v2 g9 (A6,m9,c6) (D9,md9,cd9) ((zfI p.kind:Int):Rat)from hn9) (aq.o.trans ((cR.o.trans (u.mono cR.o.size)).mono aq.o.size)) λbr dr dn=>?_;clear u hn9;obtain⟨go,Ao,mo,co,Do,fJ,fA,o0,o1,o2,_⟩:=br.o.at_ (zaH (xs:=p.coef++List.replicate (cnt rows nr) 0) (j:=nc+cnt rows k) (by rw[Zz,ZQ,aS.o];omega));have fO:=br.o.fro ((nc+cnt rows k)*3);have of1:=br.o.fro ((nc+cnt rows k)*3+1);have fP:=br.o.fro ((nc+cnt rows k)*3+2);have fE:(0:Int)<=((nc+cnt rows k:Nat):Int):=Zg _;go_wp2;go_meet
   case rel=>exact⟨by rw[<-znJ O.o bX.o aS.o,<-T.o];exact br.o.store (nc+cnt rows k) dr.o,((dn.o.setCell (p:=⟨bx,_,none⟩) b9.o _).setCell (p:=⟨bx,_,none⟩) b9.o _).setCell (p:=⟨bx,_,none⟩) b9.o _⟩
  rename World=>wy
  obtain⟨c1,cg⟩:=hcut;refine μ3 (bs.o.below cg) (aO.o.below cg) (show VecS wy (wz.alloc (.cells #[(Q,nc,s),.int .i64 p.kind,g,.slice A m c,(D,o,f)] 101)).heap.size (bx,nc+cnt rows nr,y) (p.coef++zch rows k)from c1) λeu fe dA=>?_;clear c1 cg;have b6:=un (dA.o.base cb.o);refine μ3 (b6.o.alloc (.cells #[(bx,nc+cnt rows nr,y)] 30)) (eu.o.alloc (.cells #[(bx,nc+cnt rows nr,y)] 30)) ((fe.o.alloc (.cells #[(bx,nc+cnt rows nr,y)] 30)).b) λb7 b5 aQ=>?_;go_wp2_with (at_builtin;go_loud (refine zbW rfl _ _ rfl rfl b5.o rfl (zal _ _ _) b7.o (n:=k) b0.o ω (by exact aQ.o.size) ?_;intro z B w5 a0 K E ch;have ar:=un a0;have ap:=un (aQ.o.trans E);clear a0 K E ch))
  go_roundw
  case rel=>exact⟨k+1,z,B,_,by go_num,rfl,ω,by rw[zo2 O.o];exact ar.o,ap.o⟩
  case measure=>simp[intOf];omega
 obtain rfl:nr=k:=ω;refine μ11 (zad a ac.o) (zad a bb.o) (zad a bz.o) (aP.o.below a) (dx.o.below a) (dv.o.below a) (aW.o.below a) (ae) (Bel.mk a) (am.o.trans ((a).mono am.o.size)) (show(zc3 rows).take nr=zc3 rows by rw[T.o,<-zjC,XL]) λbd be bg ba eB ev bp aE av an bT=>?_;have cP:=un (show ∀r∈(zc3 rows).take nr,r.length=nc+cnt rows nr from λr hr=>by rw[bT.o]at hr;obtain⟨i,hi,rfl⟩:=YM hr;have h:=(zlk (n:=nc) (rows:=rows) λk hk=>(aV.o _ (Zj (zaO hk))).1).row i (by rw[<-zjC];exact hi);rw[<-T.o,Zh,Ze hi]at h;exact h);clear ae a;go_upto_region 28 with fail
 go_cut[] (λwy=>∃(V:OA) (Y:Nat) (l4:List Value),θ wy w1.heap.size #[(V,nr,Y),((nc+cnt rows nr:Nat):Int),(bA,nr,bc_),(M,nc+cnt rows nr,P),(nc:Int),(eA,nr,ec)] 114/\VecsL wy 0 (V,nr,Y) l4 (zc3 rows)/\VecS wy 0 (M,nc+cnt rows nr,P) (zjD cost rows)/\VecS wy 0 (bA,nr,bc_) (zg8 rows)/\IntsZ wy 0 (eA,nr,ec) (zca nc rows nr)/\Below W.heap.size W wy)
 case first=>as_aux_lemma =>
  go_wp2_with fail
  rw[show((nc:Int)+(cnt rows nr:Int))=((nc+cnt rows nr:Nat):Int)by simp];refine(Mt.of nr (nc+cnt rows nr) ω ω rA rc l ((zc3 rows).take nr) wb.heap.size _ aE.o cP.o).mono ?_
  rintro e v5 ⟨V,Y,l4,rfl,hv4,ha4,u⟩;refine μ11 (zad u bd.o) (zad u be.o) (zad u bg.o) (ba.o.below u) (eB.o.below u) (ev.o.below u) (bp.o.below u) (aE.o.below u) (av.o.below u) (show VecsL v5 wz.heap.size (V,nr,Y) l4 ((zc3 rows).take nr)from hv4) (an.o.trans ((u).mono an.o.size)) λbJ bK ag bI eC ew bq bs aO dt aN=>?_;obtain⟨cF,_,cH,_,cG,_,cI,_⟩:=bf6 ag.o;have cX:Below W.heap.size W v5:=dk.o.trans ((aO.o.b).mono dB.o);have dm:=un cX;clear u cX hv4 ha4;go_wp2;go_meet;have t:=zBa ag.o (V,nr,Y) ((nc+cnt rows nr:Nat):Int)
  case rel=>exact⟨V,Y,l4,zar _ (zar _ ag.o),by have h:=(dt.o.base (Zb _)).tk t δ δ δ;rw[bT.o]at h;exact h,(eC.o.base (Zb _)).tk t δ δ,by have h:=(ew.o.base (Zb _)).tk t δ δ;rw[ds.o]at h;exact h,(bq.o.base (Zb _)).tk t δ,(dm.o.setCell (p:=⟨w1,0,none⟩) aj.o _).setCell (p:=⟨w1,1,none⟩) aj.o _⟩
 rename World=>wf
 obtain⟨V,Y,l4,L,ae,a7,aa,ab,a⟩:=hcut;have dh:=un (zad a bw.o);have ey:=un (BB.o.trans ((a).mono BB.o.size));obtain⟨fl,e8,fQ,_,fn,e9,fR,_,fp,fa,fS,_,fr,fb,fT,_,ft,fc,fU,_,fv,fd,fV,_⟩:=bf6 dh.o;refine μ4 ae a7 aa ab λdu dy dw dz=>?_;obtain⟨s0,_,s1,_,s2,_,s3,_,s4,_,s5,_⟩:=bc6 L;clear L ae a7 aa ab a;go_wp2;refine Zi (v:=.tuple #[.agg #[(V,nr,Y),((nc+cnt rows nr:Nat):Int),(bA,nr,bc_),(M,nc+cnt rows nr,P),(nc:Int),(eA,nr,ec)],.nilIface]) (by simp[results,results45,go_sem,fl,e8,fn,e9,fp,fa,fr,fb,ft,fc,fv,fd]) rfl ?_;have t:=zBb dh.o (V,nr,Y) ((nc+cnt rows nr:Nat):Int) (bA,nr,bc_) (M,nc+cnt rows nr,P) (nc:Int) (eA,nr,ec);have dK:∀r∈zc3 rows,r.length=nc+cnt rows nr:=by have h:=cP.o;rw[bT.o]at h;exact h
 refine⟨V,Y,l4,bA,bc_,M,P,eA,ec,rfl,⟨du.o.tk t δ δ δ,dK,dw.o.tk t δ δ,dy.o.tk t δ δ,dz.o.tk t δ,ω,ω,?_,?_,?_,b2.o⟩,bsc (bsc (bsc (bsc (bsc (bsc ey.o)))))⟩;intro r hr q hq;unfold zc3 at hr;obtain⟨i,hi,rfl⟩:=ZH.1 hr;have bC:=Xb.1 hi;rcases ZT.1 hq with h | h;exact(cV.o _ (Zj (zaO bC))).1 q h;exact Zf (zsi rows i q h) b2.o;intro q hq;unfold zg8 at hq;obtain⟨p,G,rfl⟩:=ZH.1 hq;exact(cV.o p G).2;intro q hq;unfold zjD at hq;rcases ZT.1 hq with h | h;exact dC.o q h;rw[List.eq_of_mem_replicate h];exact Zf mw0 b2.o
