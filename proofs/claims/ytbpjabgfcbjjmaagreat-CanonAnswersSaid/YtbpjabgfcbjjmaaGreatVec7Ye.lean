/- Contracts and lemmas: Vec7 Prob2 Prob3 Prob5 Prob4. Conditions: as each says. -/
import Derived.Test.YtbpjabgfcbjjmaaGreatMat3Ye
set_option linter.all false
set_option maxHeartbeats 4000000
set_option maxRecDepth 100000
namespace Go.Proofs.YtbpjabgfcbjjmaaGreat
open Go.RowKit Am Tryz
attribute [local go_sem ↓] Go.wp_at_zero Go.wp_at_succ
variable {rows:List PRow}{cost x ys:List Rat}{k:Nat}{p:PRow}{q:Rat}
theorem zvQ(h:zr q=true):q=0:=XP h
namespace Vc
theorem dot_ok(A:OA)(n c:Nat)(xs:List Rat)(B:OA)(j c':Nat)(ys:List Rat)(H H':Nat)(w:World)(hx:VecS w H (A,n,c) xs)(hy:VecS w H' (B,j,c') ys)(hl:xs.length=ys.length)(d:n<=1000)(zx:∀q∈xs,mw q<=4000000)(zy:∀q∈ys,mw q<=4000000) :
  Calls prog 63 #[(A,n,c),(B,j,c')] w (zii w (dot xs ys) true):=by
 have s:=hx.len;have a6:=hy.len;have en:j=n:=ω;subst en;refine μ5 s hl d zx zy λHN HL aX ZX ZY=>?_;have bP:j<=9223372036854775807:=ω;clear s a6 hl d zx zy;obtain⟨W,M⟩:∃W,(w.alloc (.cells #[false,(),()] 62))=W:=⟨_,rfl⟩
 refine μ4 (show θ W w.heap.size #[false,(),()] 62by rw[<-M];exact zam σ) (show Below w w W by rw[<-M];exact zae w _) (show VecS W H (A,j,c) xs by rw[<-M];exact(hx).alloc _) (show VecS W H' (B,j,c') ys by rw[<-M];exact(hy).alloc _) λaC U V X=>?_;clear hx hy;go_enter func63,ntmps63;go_wp2;clear M
 go_loopw [16] (λi wr=>∃(k:Nat) (g:Bool) (P:OA) (m cp:Nat) (D:OA) (o l:Nat),i=.int .i64 k/\k<=j/\θ wr W.heap.size #[g,(P,m,cp),(D,o,l)] 62/\RatS wr g (P,m,cp) (D,o,l) (ziw xs ys k)/\Below W.heap.size W wr)
  (λi _=>j-(intOf i).toNat)
 case atStart=>exact⟨0,_,_,_,_,_,_,_,rfl,Zb _,zal _ _ _,RatS.zero _,zae W _⟩
 obtain⟨k,g,P,m,cp,D,o,l,rfl,hk,aa,Z,f⟩:=hrel;by_cases aG:k<j
 ·obtain⟨a,N⟩:∃a,xs[k]? = some a:=⟨xs[k]'(by rw[<-HN.o];exact aG),Ze _⟩
  obtain⟨b,d⟩:∃b,ys[k]? = some b:=⟨ys[k]'(by rw[<-HL.o,<-HN.o];exact aG),Ze _⟩
  obtain⟨t,rfl,bJ,bK⟩:=V.o.has ω;obtain⟨by_,rfl,bL,bM⟩:=X.o.has ω;obtain⟨J,x,O,E,z,R,G,k0,k1,k2,aD⟩:=(V.o.below f).at_ N;obtain⟨L,y,Q,F,C,T,I,l0,l1,l2,aE⟩:=(X.o.below f).at_ d;refine μ8 (zad f aC.o) (V.o.below f) (X.o.below f) (aD) (aE) (Z) (Bel.mk f) (U.o.trans ((f).mono U.o.size)) λu bd be aB a0 HP HW aI=>?_;obtain⟨ab,ad,av,_,ac,ae,aw,_,af,ag,az,_⟩:=bf3 u.o;have aJ:=k0;have aK:=k1;have aN:=k2;have aO:=l0;have aP:=l1;have aQ:=l2;have Y:=un aa;obtain⟨bh,_,_,_,bi,_,_,_,bg,_⟩:=bf3 Y.o;have aJ:=k0;have aK:=k1;have aN:=k2;have aO:=l0;have aP:=l1;have aQ:=l2;refine μ4 N d (show 4*(mw a+mw b)+8<=LIM by have:=ZX.o a (Zz N);have:=ZY.o b (Zz d);have:=zaP;omega) (show 4*(mw (ziw xs ys k)+mw (a*b))+8<=LIM by have:=ZX.o a (Zz N);have:=ZY.o b (Zz d);have h1:=zrJ ZX.o ZY.o k;have:=zdI a b;have:=zaP;have h2:k*8000001<=1000*8000001:=ZV _ (by have:=aX.o;omega);omega) λah ai L1 L2=>?_;have bN:(0:Int)<=(k:Int):=Zf _;have bO:(k:Int)<(j:Int):=ω;clear aa Z f N d k0 k1 k2 l0 l1 l2 aD aE;go_wp2_with fail
  refine(Rt.zero J x O E z R G a _ aB.o).mono ?_;rintro e v1 ⟨rfl,d⟩;refine μ5 (zad d Y.o) (aB.o.below d) (a0.o.below d) (HP.o.below d) (HW.o.below d) λaL bF aU aR aS=>?_;have bj:=zab d aJ;have bm:=zab d aK;have bn:=zab d aN;have bp:=zab d aO;have bu:=zab d aP;have bA:=zab d aQ;clear d;cases hza:zr a
  ·go_wp2_with fail
   refine(Rt.zero L y Q F C T I b _ aU.o).mono ?_;rintro e v2 ⟨rfl,d⟩;refine μ5 (zad d aL.o) (bF.o.below d) (aU.o.below d) (aR.o.below d) (aS.o.below d) λay bG bH aH aT=>?_;obtain⟨bW,_,_,_,bY,_,_,_,b1,_⟩:=bf3 ay.o;have bl:=zab d bj;have a7:=zaa bl;have bq:=zab d bm;have a8:=zaa bq;have bs:=zab d bn;have a9:=zaa bs;have br:=zab d bp;have ba:=zaa br;have bw:=zab d bu;have bb:=zaa bw;have bC:=zab d bA;have bc:=zaa bC;clear d;cases hzb:zr b
   ·go_wp2_with fail
    refine za2 (S:=λw'=>χ w' W.heap.size 0 (.bool g)/\χ w' W.heap.size 1 (P,m,cp)/\χ w' W.heap.size 2 (D,o,l)/\χ w' t (k*3) (.bool J)/\χ w' t (k*3+1) (x,O,E)/\χ w' t (k*3+2) (z,R,G)/\χ w' by_ (k*3) (.bool L)/\χ w' by_ (k*3+1) (y,Q,F)/\χ w' by_ (k*3+2) (C,T,I)) 11 (h:=λhHeld=>?_);refine zaw [0,1,2,3,4,5,6,7,8] ?_;repeat refine tkE (hS:=hHeld) (h:=?_)
    refine zao ?_;refine zaN 9 (h:=λK r=>?_);go_simp;(go_at_call 29;(refine(Rt.mul J x O E z R G a L y Q F C T I b _ bG.o.drew bH.o.drew L1.o).mono ?_);rintro e u1 ⟨g1,A1,m1,c1,D1,md1,cd1,rfl,s,d⟩;refine μ4 (zad d ay.o) (aH.o.drew.below d) (aT.o.drew.below d) (s) λaM bf bB HM=>?_;obtain⟨bR,_,_,_,bS,_,_,_,b0,_⟩:=bf3 aM.o;have bk:=zab d a7;have bo:=zab d a8;have bt:=zab d a9;have bv:=zab d ba;have bz:=zab d bb;have bD:=zab d bc;clear s d);(try go_wp2_with fail);refine shutOn r λhHeld=>?_;clear r K;refine zaN 10 (h:=λK r=>?_);go_simp;(go_at_call 28;(refine(Rt.add g P m cp D o l (ziw xs ys k) g1 A1 m1 c1 D1 md1 cd1 (a*b) _ bf.o HM.o L2.o).mono ?_);rintro e u2 ⟨g2,A2,m2,c2,D2,md2,cd2,rfl,s,d⟩;refine μ3 (zad d aM.o) (bB.o.below d) (s) λax bE HS=>?_;obtain⟨bX,_,bT,_,bZ,_,bU,_,b2,_,bV,_⟩:=bf3 ax.o;have b3:=zab d bk;have b4:=zab d bo;have b5:=zab d bt;have b6:=zab d bv;have b7:=zab d bz;have b8:=zab d bD;clear s d);(try go_wp2_with fail);refine shutOn r λhHeld=>?_;clear r K;refine zba (h:=λK r=>?_);go_simp;refine shutOff r ?_;clear r K;refine za1 (h:=?_)
    all_goals
     go_wp2;go_roundw
     case rel=>exact⟨k+1,g2,A2,m2,c2,D2,md2,cd2,by go_num,ω,zar _ (zar _ (zar _ ax.o)),by rw[zlZ xs ys k ah.o ai.o];exact HS.o.set3 ax.o δ _ _ _,(Bel.set3 bE.o (Za _) _ _ _).b⟩
     case measure=>simp[intOf];omega
   skip
   go_wp2;go_roundw
   case rel=>exact⟨k+1,g,P,m,cp,D,o,l,by go_num,ω,ay.o,by rw[zlY xs ys k ah.o ai.o (Or.inr (zvQ hzb))];exact aH.o,aT.o.b⟩
   case measure=>simp[intOf];omega
  skip
  go_wp2;go_roundw
  case rel=>exact⟨k+1,g,P,m,cp,D,o,l,by go_num,ω,aL.o,by rw[zlY xs ys k ah.o ai.o (Or.inl (zvQ hza))];exact aR.o,aS.o.b⟩
  case measure=>simp[intOf];omega
 have a5:k=j:=ω;refine μ5 (zad f aC.o) (V.o.below f) (X.o.below f) (Z) (U.o.trans ((f).mono U.o.size)) λu bd be HP aI=>?_;obtain⟨ab,ad,av,_,ac,ae,aw,_,af,ag,az,_⟩:=bf3 u.o;have Y:=un aa;obtain⟨bh,_,bi,_,bg,_⟩:=bc3 Y.o;clear aa Z f;go_wp2;refine Zh (v:=.tuple #[.agg #[g,(P,m,cp),(D,o,l)],true]) (by simp[results,results63,go_sem,ab,ad,ac,ae,af,ag]) rfl ?_;have h:=HP.o;rw[a5,HN.o]at h;exact⟨_,_,_,_,_,_,_,rfl,h.set3 u.o δ _ _ _,bsc (bsc (bsc aI.o))⟩
end Vc
abbrev Sm (xs:List Rat):Prop:=∀q∈xs,mw q<=4000000
def zdp (p:PRow) (x:List Rat):Rat:=dot p.coef x-p.rhs
def zdH (p:PRow) (x:List Rat):Bool:=if p.kind=1 then decide (zdp p x<=0)else if p.kind=2 then decide (0<=zdp p x)else decide (p.kind=3)&&decide (zdp p x=0)
theorem zDI{xs:List Rat}(a:Sm xs)(b:Sm ys)(h:xs.length<=1000):mw (dot xs ys)<=8000002000:=by have h1:=zrJ a b xs.length;unfold dot;omega
theorem zsp(q:Rat):q.num<=0↔q<=0:=by have h:=Y3 (q := -q);rw[Y8]at h;grind
theorem zxh(h:p.kind=1):decide ((zdp p x).num<=0)=zdH p x:=by unfold zdH;rw[if_pos h];simp[decide_eq_decide,zsp]
theorem zxg(h:p.kind=2):decide (0<=zdp p x)=zdH p x:=by unfold zdH;rw[if_neg ω,if_pos h]
theorem zxf(h:p.kind=3):zr (zdp p x)=zdH p x:=by unfold zdH;rw[if_neg ω,if_neg ω,ZT h,Bool.true_and];rfl
theorem zxi(h1:p.kind≠1)(a:p.kind≠2)(b:p.kind≠3):false=zdH p x:=by unfold zdH;rw[if_neg h1,if_neg a,Z3 b,Bool.false_and]
namespace Pb
theorem over(C:OA)(nc cc:Nat)(g:Bool)(A:OA)(m c:Nat)(D:OA)(d b:Nat)(kd:Int)(p:PRow)(hk:p.kind=kd)(X:OA)(l k:Nat)(x:List Rat)(w:World)(hc:VecS w 0 (C,nc,cc) p.coef)(hr:RatS w g (A,m,c) (D,d,b) p.rhs)(r:VecS w 0 (X,l,k) x)(q:p.coef.length=x.length)(a:nc<=1000)(zc:Sm p.coef)(zr:mw p.rhs<=4000000)(n:Sm x) :
  Calls prog 98 #[.agg #[(C,nc,cc),.int .i64 kd,g,(A,m,c),(D,d,b)],(X,l,k)] w (zii w (zdp p x) true):=by
 have i:=hc.len;refine μ5 q a zc n (show 4*(mw (dot p.coef x)+mw p.rhs)+8<=LIM by have:=zDI zc n ω;have:=zaP;omega) λz u J K I=>?_;clear i q a zc zr n;obtain⟨W,f⟩:∃W,((w.alloc (.cells #[(C,nc,cc),.int .i64 kd,g,(A,m,c),(D,d,b)] 101)).alloc (.cells #[false,(),()] 62))=W:=⟨_,rfl⟩
 refine μ6 (show θ W w.heap.size #[(C,nc,cc),.int .i64 kd,g,(A,m,c),(D,d,b)] 101by rw[<-f];exact zak (zam σ)) (show θ W (w.heap.size+1) #[false,(),()] 62by rw[<-f];exact zam σ) (show Below w w W by rw[<-f];exact(zae w _).alloc σ _) (show VecS W 0 (C,nc,cc) p.coef by rw[<-f];exact((hc).alloc _).alloc _) (show VecS W 0 (X,l,k) x by rw[<-f];exact((r).alloc _).alloc _) (show RatS W g (A,m,c) (D,d,b) p.rhs by rw[<-f];exact((hr).alloc _).alloc _) λo H j y G B=>?_;obtain⟨Z,_⟩:=bc5 o.o;clear hc hr r;go_enter func98,ntmps98;go_wp2_with fail
 clear f;refine(Vc.dot_ok C nc cc p.coef X l k x 0 0 _ y.o G.o z.o u.o J.o K.o).mono ?_;rintro e w1 ⟨g2,A2,m2,c2,D2,md2,cd2,rfl,i,a⟩;refine μ6 (show θ (w1.alloc (.cells #[g2,(A2,m2,c2),(D2,md2,cd2)] 62)) w.heap.size #[(C,nc,cc),.int .i64 kd,g,(A,m,c),(D,d,b)] 101from zak (zad a o.o)) (show θ (w1.alloc (.cells #[g2,(A2,m2,c2),(D2,md2,cd2)] 62)) (w.heap.size+1) #[false,(),()] 62from zak (zad a H.o)) (show RatS (w1.alloc (.cells #[g2,(A2,m2,c2),(D2,md2,cd2)] 62)) g (A,m,c) (D,d,b) p.rhs from(B.o.below a).alloc _) (show RatS (w1.alloc (.cells #[g2,(A2,m2,c2),(D2,md2,cd2)] 62)) g2 (A2,m2,c2) (D2,md2,cd2) (dot p.coef x)from(i).alloc _) (show Below w w (w1.alloc (.cells #[g2,(A2,m2,c2),(D2,md2,cd2)] 62))from((j.o.trans ((a).mono j.o.size))).alloc ((j.o.trans ((a).mono j.o.size))).size _) (show θ (w1.alloc (.cells #[g2,(A2,m2,c2),(D2,md2,cd2)] 62)) w1.heap.size #[g2,(A2,m2,c2),(D2,md2,cd2)] 62from zam σ) λP M Y E s V=>?_;obtain⟨_,_,_,_,ab,_,ah,_,ai,_⟩:=bc5 P.o;obtain⟨ad,_,ae,_,ag,_⟩:=bc3 V.o;clear i a;go_wp2_with fail
 refine(Rt.sub g2 A2 m2 c2 D2 md2 cd2 (dot p.coef x) g A m c D d b p.rhs _ E.o Y.o I.o).mono ?_;rintro e L ⟨g3,A3,m3,c3,D3,md3,cd3,rfl,i,a⟩;refine μ3 (zad a M.o) (show RatS L g3 (A3,m3,c3) (D3,md3,cd3) (zdp p x)from i) (s.o.trans ((a).mono s.o.size)) λt F S=>?_;obtain⟨R,O,aa,_,T,N,ac,_,U,Q,af,_⟩:=bf3 t.o;clear i a;go_wp2;refine Zh (v:=.tuple #[.agg #[g3,(A3,m3,c3),(D3,md3,cd3)],true]) (by simp[results,results98,go_sem,R,O,T,N,U,Q]) rfl ?_;exact⟨_,_,_,_,_,_,_,rfl,F.o.set3 t.o δ _ _ _,bsc (bsc (bsc S.o))⟩
theorem holds(C:OA)(nc cc:Nat)(g:Bool)(A:OA)(m c:Nat)(D:OA)(i d:Nat)(kd:Int)(p:PRow)(hk:p.kind=kd)(X:OA)(t o:Nat)(x:List Rat)(w:World)(hc:VecS w 0 (C,nc,cc) p.coef)(hr:RatS w g (A,m,c) (D,i,d) p.rhs)(z:VecS w 0 (X,t,o) x)(y:p.coef.length=x.length)(a:nc<=1000)(zc:Sm p.coef)(zr:mw p.rhs<=4000000)(E:Sm x) :
  Calls prog 62 #[.agg #[(C,nc,cc),.int .i64 kd,g,(A,m,c),(D,i,d)],(X,t,o)] w λe w'=>e=.returned (.bool (zdH p x))/\Below w w w':=by
 have s:=hc.len;refine μ6 y a zc zr E hk λH F K L M b=>?_;clear hk s y a zc zr E;obtain⟨W,k⟩:∃W,(w.alloc (.cells #[(C,nc,cc),.int .i64 kd,g,(A,m,c),(D,i,d)] 101))=W:=⟨_,rfl⟩
 refine μ5 (show θ W w.heap.size #[(C,nc,cc),.int .i64 kd,g,(A,m,c),(D,i,d)] 101by rw[<-k];exact zam σ) (show Below w w W by rw[<-k];exact zae w _) (show VecS W 0 (C,nc,cc) p.coef by rw[<-k];exact(hc).alloc _) (show VecS W 0 (X,t,o) x by rw[<-k];exact(z).alloc _) (show RatS W g (A,m,c) (D,i,d) p.rhs by rw[<-k];exact(hr).alloc _) λv n G J I=>?_;obtain⟨T,_,U,_,Y,_,ab,_,ac,_⟩:=bc5 v.o;clear hc hr z;go_enter func62,ntmps62;go_wp2_with fail
 clear k;refine(over C nc cc g A m c D i d kd p b.o X t o x _ G.o I.o J.o H.o F.o K.o L.o M.o).mono ?_;rintro e w1 ⟨g2,A2,m2,c2,D2,md2,cd2,rfl,s,a⟩;refine μ4 (show θ (w1.alloc (.cells #[g2,(A2,m2,c2),(D2,md2,cd2)] 62)) w.heap.size #[(C,nc,cc),.int .i64 kd,g,(A,m,c),(D,i,d)] 101from zak (zad a v.o)) (show RatS (w1.alloc (.cells #[g2,(A2,m2,c2),(D2,md2,cd2)] 62)) g2 (A2,m2,c2) (D2,md2,cd2) (zdp p x)from(s).alloc _) (show Below w w (w1.alloc (.cells #[g2,(A2,m2,c2),(D2,md2,cd2)] 62))from((n.o.trans ((a).mono n.o.size))).alloc ((n.o.trans ((a).mono n.o.size))).size _) (show θ (w1.alloc (.cells #[g2,(A2,m2,c2),(D2,md2,cd2)] 62)) w1.heap.size #[g2,(A2,m2,c2),(D2,md2,cd2)] 62from zam σ) λR u j Q=>?_;obtain⟨_,_,S,_⟩:=bc5 R.o;obtain⟨Z,_,aa,_,V,_⟩:=bc3 Q.o;clear s a;by_cases h1:kd=1
 ·have N:(kd == 1)=true:=by simp[h1]
  go_wp2_with fail
  refine(Rt.sign g2 A2 m2 c2 D2 md2 cd2 (zdp p x) _ u.o).mono ?_;rintro e B ⟨rfl,a⟩;have l:=un (j.o.trans ((a).mono j.o.size));clear a;go_wp2;go_ret;have f:=zxh (p:=p) (x:=x) (b.o.trans h1);exact⟨by rw[<-f];rfl,l.o⟩
 have N:(kd == 1)=false:=by simp[h1]
 by_cases q:kd=2
 ·have O:(kd == 2)=true:=by simp[q]
  go_wp2_with fail
  refine(Rt.sign g2 A2 m2 c2 D2 md2 cd2 (zdp p x) _ u.o).mono ?_;rintro e B ⟨rfl,a⟩;have l:=un (j.o.trans ((a).mono j.o.size));clear a;go_wp2;go_ret;have f:=zxg (p:=p) (x:=x) (b.o.trans q);exact⟨by rw[<-f];rfl,l.o⟩
 have O:(kd == 2)=false:=by simp[q]
 by_cases r:kd=3
 ·have P:(kd == 3)=true:=by simp[r]
  go_wp2_with fail
  refine(Rt.zero g2 A2 m2 c2 D2 md2 cd2 (zdp p x) _ u.o).mono ?_;rintro e B ⟨rfl,a⟩;have l:=un (j.o.trans ((a).mono j.o.size));clear a;go_wp2;go_ret;have f:=zxf (p:=p) (x:=x) (b.o.trans r);exact⟨by rw[<-f];rfl,l.o⟩
 have P:(kd == 3)=false:=by simp[r]
 go_wp2;go_ret;have f:=zxi (p:=p) (x:=x) (by rw[b.o];exact h1) (by rw[b.o];exact q) (by rw[b.o];exact r);exact⟨by rw[<-f];rfl,j.o⟩
theorem zPu(C:OA)(nc cc:Nat)(R:OA)(nr c:Nat)(cost:List Rat)(rows:List PRow)(X:OA)(f d:Nat)(x:List Rat)(w:World)(hc:VecS w 0 (C,nc,cc) cost)(hr:RowsS w 0 (R,nr,c) rows)(l:VecS w 0 (X,f,d) x)(k:cost.length=x.length)(a:nc<=1000)(zc:Sm cost)(n:Sm x) :
  Calls prog 17 #[.agg #[(C,nc,cc),(R,nr,c)],(X,f,d)] w (zii w (dot cost x) true):=by
 refine μ4 k a zc n λr o u y=>?_;clear k a zc n;obtain⟨W,b⟩:∃W,((w.alloc (.cells #[(C,nc,cc),(R,nr,c)] 33)).alloc (.cells #[false,(),()] 62))=W:=⟨_,rfl⟩
 refine μ5 (show θ W w.heap.size #[(C,nc,cc),(R,nr,c)] 33by rw[<-b];exact zak (zam σ)) (show θ W (w.heap.size+1) #[false,(),()] 62by rw[<-b];exact zam σ) (show Below w w W by rw[<-b];exact(zae w _).alloc σ _) (show VecS W 0 (C,nc,cc) cost by rw[<-b];exact((hc).alloc _).alloc _) (show VecS W 0 (X,f,d) x by rw[<-b];exact((l).alloc _).alloc _) λi j g q t=>?_;obtain⟨L,_⟩:=bc2 i.o;clear hc hr l;go_enter func17,ntmps17;go_wp2_with fail
 clear b;refine(Vc.dot_ok C nc cc cost X f d x 0 0 _ q.o t.o r.o o.o u.o y.o).mono ?_;rintro e w1 ⟨g2,A2,m2,c2,D2,md2,cd2,rfl,hn,a⟩;refine μ4 (zad a i.o) (zad a j.o) (hn) (g.o.trans ((a).mono g.o.size)) λD m s A=>?_;obtain⟨F,B,ag,_,G,z,ad,_,E,H,ai,_⟩:=bf3 m.o;clear hn a;go_wp2;refine Zh (v:=.tuple #[.agg #[g2,(A2,m2,c2),(D2,md2,cd2)],true]) (by simp[results,results17,go_sem,F,B,G,z,E,H]) rfl ?_;exact⟨_,_,_,_,_,_,_,rfl,s.o.set3 m.o δ _ _ _,bsc (bsc (bsc A.o))⟩
end Pb
def znD (cost:List Rat) (rows:List PRow) (x:List Rat):Bool:=decide (x.length=cost.length) && !(x.any λq=>decide (q<0))&&rows.all λp=>zdH p x
abbrev Rows (n:Nat) (rows:List PRow):Prop:=∀p∈rows,p.coef.length=n/\Sm p.coef/\mw p.rhs<=4000000
theorem zv9{f:PRow->Bool}(h:(rows.take k).all f=true)(b:rows[k]? = some p)(a:f p=true):(rows.take (k+1)).all f=true:=by rw[Xb,List.all_append,h,b];simp[a]
theorem ztT{f:PRow->Bool}(b:rows[k]? = some p)(a:f p=false):rows.all f=false:=by rw[List.all_eq_false];grind
theorem zw4(h:x.length≠cost.length):znD cost rows x=false:=by unfold znD;rw[Z3 h];rfl
theorem zw5(h:(x.any λq=>decide (q<0))=true):znD cost rows x=false:=by unfold znD;rw[h];simp
theorem zoE(a:x.length=cost.length)(h:(x.any λq=>decide (q<0))=false):znD cost rows x=rows.all λp=>zdH p x:=by unfold znD;rw[h,ZT a];simp
namespace Pb
theorem zAF(C:OA)(nc cc:Nat)(R:OA)(nr a:Nat)(cost:List Rat)(rows:List PRow)(X:OA)(b f:Nat)(x:List Rat)(w:World)(hc:VecS w 0 (C,nc,cc) cost)(hr:RowsS w 0 (R,nr,a) rows)(d:VecS w 0 (X,b,f) x)(g:x.length≠cost.length) :
  Calls prog 54 #[.agg #[(C,nc,cc),(R,nr,a)],(X,b,f)] w λe w'=>e=.returned (.bool (znD cost rows x))/\Below w w w':=by
 have h1:¬((b:Int)=(nc:Int)):=by rw[d.len,hc.len];omega
 have l:¬(b=nc):=by rw[d.len,hc.len];omega
 have j:=un (zw4 (rows:=rows) g);obtain⟨W,c⟩:∃W,(w.alloc (.cells #[(C,nc,cc),(R,nr,a)] 33))=W:=⟨_,rfl⟩
 have k:=un (show θ W w.heap.size #[(C,nc,cc),(R,nr,a)] 33by rw[<-c];exact zam σ);have i:=un (show Below w w W by rw[<-c];exact zae w _);obtain⟨m,_⟩:=bc2 k.o;clear hc hr d g;go_enter func54,ntmps54;go_wp2;clear c;go_ret;exact⟨by rw[j.o];rfl,i.o⟩
theorem fits(C:OA)(nc cc:Nat)(R:OA)(nr l:Nat)(cost:List Rat)(rows:List PRow)(X:OA)(z n:Nat)(x:List Rat)(w:World)(hc:VecS w 0 (C,nc,cc) cost)(hr:RowsS w 0 (R,nr,l) rows)(y:VecS w 0 (X,z,n) x)(a:nc<=1000)(Y:Rows nc rows)(zx:Sm x)(aH:nr<=1000) :
  Calls prog 54 #[.agg #[(C,nc,cc),(R,nr,l)],(X,z,n)] w λe w'=>e=.returned (.bool (znD cost rows x))/\Below w w w':=by
 by_cases s:x.length≠cost.length;exact zAF C nc cc R nr l cost rows X z n x w hc hr y s;have s:=Decidable.not_not.1 s;have T:=y.len;have aq:=hc.len;have U:=hr.len;have en:nc=z:=ω;subst en;refine μ6 s U T a Y zx λL M ah HB al ZX=>?_;clear s a Y zx T aq U;obtain⟨W,o⟩:∃W,(w.alloc (.cells #[(C,nc,cc),(R,nr,l)] 33))=W:=⟨_,rfl⟩
 refine μ4 (show θ W w.heap.size #[(C,nc,cc),(R,nr,l)] 33by rw[<-o];exact zam σ) (show Below w w W by rw[<-o];exact zae w _) (show VecS W 0 (X,nc,n) x by rw[<-o];exact(y).alloc _) (show RowsS W 0 (R,nr,l) rows by rw[<-o];exact(hr).alloc _) λS K P HR=>?_;obtain⟨aM,_,aN,aK⟩:=bc2 S.o;clear hc hr y;go_enter func54,ntmps54;go_wp2_with fail
 clear o;refine(Vc.below X nc n x 0 _ P.o).mono ?_;rintro e w1 ⟨rfl,a⟩;refine μ4 (zad a S.o) (P.o.below a) (HR.o.below a) (K.o.trans ((a).mono K.o.size)) λay aa E t=>?_;obtain⟨_,_,aL,aO⟩:=bc2 ay.o;clear a;cases hneg:(x.any λq=>decide (q<0))
 ·skip
  go_wp2
  go_loopw [20] (λi wr=>∃k:Nat,i=.int .i64 k/\k<=nr/\Below w1 w1 wr/\(rows.take k).all (λp=>zdH p x)=true)
   (λi _=>nr-(intOf i).toNat)
  case atStart=>exact⟨0,rfl,Zb _,Zj _ _,rfl⟩
  obtain⟨k,rfl,hk,d,H⟩:=hrel;have O:=un H;by_cases ap:k<nr
  ·obtain⟨p,v⟩:∃p,rows[k]? = some p:=⟨rows[k]'(by rw[<-M.o];exact ap),Ze _⟩
   obtain⟨b,rfl,aD,aE⟩:=(E.o).has ω;obtain⟨Q,nq,G,g,A,m,c,D,J,F,k0,k1,k2,k3,k4,I,V⟩:=(E.o.below d).at_ v;have N:=un v;have u:=un (al.o p (Zz v));obtain rfl:nc=nq:=by rw[I.len,u.o.1]
   generalize hkd:p.kind=kd at k1;refine μ6 hkd (aa.o.below d) (I) (V) (Bel.mk d) (t.o.trans ((d).mono t.o.size)) λag ad HQ ak HW B=>?_;clear d H v I V hkd;have aF:(0:Int)<=(k:Int):=Zf _;have aG:(k:Int)<(nr:Int):=ω;go_wp2_with fail
   have r:=zae wr (.cells #[(Q,nc,G),.int .i64 kd,g,(A,m,c),(D,J,F)] 101);refine μ5 (ad.o.below r) (HQ.o.below r) (ak.o.below r) (HW.o.below r) (B.o.trans ((r).mono B.o.size)) λaw ax av aB Z=>?_;refine(holds Q nc G g A m c D J F kd p ag.o X nc n x _ ax.o av.o aw.o (u.o.1.trans ah.o) HB.o u.o.2.1 u.o.2.2 ZX.o).mono ?_;rintro e v1 ⟨rfl,a⟩;have aA:=un (aB.o.below a);have az:=un (Z.o.trans ((a).mono Z.o.size));clear a;cases hh:zdH p x
   ·have j:=un ((zoE L.o hneg).trans (ztT (f:=λp=>zdH p x) N.o hh));go_wp2;go_ret
    exact⟨by rw[j.o];rfl,az.o⟩
   have j:=un (zv9 (f:=λp=>zdH p x) O.o N.o hh);go_wp2;go_roundw
   case rel=>exact⟨k+1,by go_num,ω,aA.o.b,j.o⟩
   case measure=>simp[intOf];omega
  have ao:k=nr:=ω;refine μ3 (show znD cost rows x=true by rw[zoE L.o hneg];have h:=O.o;rw[ao,M.o,XK]at h;exact h) (aa.o.below d) (t.o.trans ((d).mono t.o.size)) λj ad B=>?_;clear d H;go_wp2;go_ret;exact⟨by rw[j.o];rfl,B.o⟩
 have j:=un (zw5 (cost:=cost) (rows:=rows) hneg);go_wp2;go_ret;exact⟨by rw[j.o];rfl,t.o⟩
end Pb
abbrev Kinds (rows:List PRow):Prop:=∀p∈rows,1<=p.kind/\p.kind<=3
namespace Pb
theorem may(C:OA)(nc cc:Nat)(R:OA)(nr d:Nat)(cost:List Rat)(rows:List PRow)(w:World)(hc:VecS w 0 (C,nc,cc) cost)(hr:RowsS w 0 (R,nr,d) rows)(P:nc<=24)(ac:nr<=20)(z:Rows nc rows)(x:Kinds rows) :
  Calls prog 57 #[.agg #[(C,nc,cc),(R,nr,d)]] w λe w'=>e=.returned .nilIface/\Below w w w':=by
 have y:=hr.len;refine μ3 y z x λG H u=>?_;have J:(nc:Int)<=24:=ω;have T:¬(24:Int)<(nc:Int):=ω;have ad:¬(20:Int)<(nr:Int):=ω;clear z x y;obtain⟨W,f⟩:∃W,(w.alloc (.cells #[(C,nc,cc),(R,nr,d)] 33))=W:=⟨_,rfl⟩
 refine μ4 (show θ W w.heap.size #[(C,nc,cc),(R,nr,d)] 33by rw[<-f];exact zam σ) (show Below w w W by rw[<-f];exact zae w _) (show VecS W 0 (C,nc,cc) cost by rw[<-f];exact(hc).alloc _) (show RowsS W 0 (R,nr,d) rows by rw[<-f];exact(hr).alloc _) λq l t n=>?_;obtain⟨ai,_,aj,ah⟩:=bc2 q.o;clear hc hr;go_enter func57,ntmps57;go_wp2;clear f
 go_loopw [19] (λi wr=>∃k:Nat,i=.int .i64 k/\k<=nr/\Below W.heap.size W wr)
  (λi _=>nr-(intOf i).toNat)
 case atStart=>exact⟨0,rfl,Zb _,Zj _ _⟩
 obtain⟨k,rfl,hk,a⟩:=hrel;by_cases K:k<nr
 ·obtain⟨p,j⟩:∃p,rows[k]? = some p:=⟨rows[k]'(by rw[<-G.o];exact K),Ze _⟩
  obtain⟨b,rfl,S,J⟩:=n.o.has ω;obtain⟨Q,nq,o,g,A,m,c,D,s,r,k0,k1,k2,k3,k4,B,_⟩:=(n.o.below a).at_ j;obtain rfl:nc=nq:=by rw[B.len,(H.o p (Zz j)).1]
  have X:=(u.o p (Zz j)).1;have Y:=(u.o p (Zz j)).2;have Z:¬p.kind<1:=ω;have aa:¬3<p.kind:=ω;refine μ5 (zad a q.o) (t.o.below a) (n.o.below a) (Bel.mk a) (l.o.trans ((a).mono l.o.size)) λF O M I E=>?_;clear a j B;have U:(0:Int)<=(k:Int):=Zf _;have V:(k:Int)<(nr:Int):=ω;have v:=zae wr (.cells #[(Q,nc,o),.int .i64 p.kind,g,(A,m,c),(D,s,r)] 101);have L:=un (zad v F.o);have N:=un (I.o.below v);obtain⟨ak,_⟩:=bc2 L.o;have al:χ (wr.alloc (.cells #[(Q,nc,o),.int .i64 p.kind,g,(A,m,c),(D,s,r)] 101)) wr.heap.size 0 (Q,nc,o):=zax rfl rfl;have am:χ (wr.alloc (.cells #[(Q,nc,o),.int .i64 p.kind,g,(A,m,c),(D,s,r)] 101)) wr.heap.size 1 (.int .i64 p.kind):=zax rfl rfl;go_wp2;go_roundw
  case rel=>exact⟨k+1,by go_num,ω,N.o.b⟩
  case measure=>simp[intOf];omega
 have ab:k=nr:=ω;refine μ4 (zad a q.o) (t.o.below a) (n.o.below a) (l.o.trans ((a).mono l.o.size)) λF O M E=>?_;clear a;go_wp2;go_ret;exact⟨rfl,E.o⟩
end Pb
def zIc (p:PRow) (q:Rat):Bool := !(decide (p.kind=1)&&decide (0<q)||decide (p.kind=2)&&decide (q<0))
def zxD (rows:List PRow) (ys:List Rat) (k:Nat):Bool:=(List.range k).all λi=>zIc (rows.getD i default) (el ys i)
def zId (rows:List PRow) (ys:List Rat):Bool:=zxD rows ys rows.length
theorem zfC(h:rows[k]? = some p):rows.getD k default=p:=by rw[Zg,h];rfl
theorem ydX(h:zxD rows ys k=true)(a:rows[k]? = some p)(b:ys[k]? = some q)(c:zIc p q=true):zxD rows ys (k+1)=true:=by
 unfold zxD at *
 rw[Yd,List.all_append,h,List.all_cons,zfC a,znd b,c];rfl
theorem yeb(a:rows[k]? = some p)(b:ys[k]? = some q)(c:zIc p q=false):zId rows ys=false:=by unfold zId zxD;rw[List.all_eq_false];exact⟨k,Xu.2 (ZF.1 a).1,by rw[zfC a,znd b,c];decide⟩
theorem zPs(q:Rat):0<q.num↔0<q:=by have h:=zsp q;grind
theorem zPt(q:Rat):0<q.num.sign↔0<q:=by rw[<-zPs];grind
theorem zQE(q:Rat):q.num.sign<0↔q<0:=by rw[<-zvc];grind
theorem yd3(h:p.kind=1):zIc p q = !(decide (0<q)):=by unfold zIc;rw[ZT h,Z3 (show ¬p.kind=2 by omega)];simp
theorem yd4(h:p.kind=2):zIc p q = !(decide (q<0)):=by unfold zIc;rw[ZT h,Z3 (show ¬p.kind=1 by omega)];simp
theorem yeh(h:p.kind≠1)(a:p.kind≠2):zIc p q=true:=by unfold zIc;rw[Z3 h,Z3 a];simp
namespace Ct
theorem signed(C:OA)(nc cc:Nat)(R:OA)(nr J:Nat)(cost:List Rat)(rows:List PRow)(Y:OA)(ny cy:Nat)(y:List Rat)(w:World)(hc:VecS w 0 (C,nc,cc) cost)(hr:RowsS w 0 (R,nr,J) rows)(hy:VecS w 0 (Y,ny,cy) y)(hl:y.length=rows.length)(aX:nr<=1000) :
  Calls prog 58 #[.agg #[(C,nc,cc),(R,nr,J)],(Y,ny,cy)] w λe w'=>e=.returned (.bool (zId rows y))/\Below w w w':=by
 have aW:=hy.len;have aJ:=hr.len;have en:nr=ny:=ω;subst en;have HL:=un hl;have HN:=un aJ;clear hl aW aJ;obtain⟨W,z⟩:∃W,(w.alloc (.cells #[(C,nc,cc),(R,nr,J)] 33))=W:=⟨_,rfl⟩
 refine μ4 (show θ W w.heap.size #[(C,nc,cc),(R,nr,J)] 33by rw[<-z];exact zam σ) (show Below w w W by rw[<-z];exact zae w _) (show VecS W 0 (Y,nr,cy) y by rw[<-z];exact(hy).alloc _) (show RowsS W 0 (R,nr,J) rows by rw[<-z];exact(hr).alloc _) λam M S O=>?_;obtain⟨_,_,bx,bv⟩:=bc2 am.o;clear hc hr hy;go_enter func58,ntmps58;go_wp2;clear z
 go_loopw [16] (λi wr=>∃k:Nat,i=.int .i64 k/\k<=nr/\Below W.heap.size W wr/\zxD rows y k=true)
  (λi _=>nr-(intOf i).toNat)
 case atStart=>exact⟨0,rfl,Zb _,Zj _ _,rfl⟩
 obtain⟨k,rfl,hk,d,hT⟩:=hrel;have P:=un hT;by_cases aI:k<nr
 ·obtain⟨p,hp⟩:∃p,rows[k]? = some p:=⟨rows[k]'(by rw[<-HN.o];exact aI),Ze _⟩
  obtain⟨q,hq⟩:∃q,y[k]? = some q:=⟨y[k]'(by rw[HL.o,<-HN.o];exact aI),Ze _⟩
  obtain⟨b,rfl,bi,bj⟩:=O.o.has ω;obtain⟨by_,rfl,bk,bl⟩:=S.o.has ω;obtain⟨Q,nq,x,g,A,m,c,D,B,v,k0,k1,k2,k3,k4,_⟩:=(O.o.below d).at_ hp;obtain⟨V,L,X,T,N,Z,U,l0,l1,l2,aG⟩:=(S.o.below d).at_ hq;have H:=un hp;have I:=un hq;generalize hkd:p.kind=kd at k1;refine μ4 hkd (aG) (Bel.mk d) (M.o.trans ((d).mono M.o.size)) λu ak HW l=>?_;have ac:=l0;have ad:=l1;have ae:=l2;clear d hT hp hq hkd aG l0 l1 l2;have bm:(0:Int)<=(k:Int):=Zf _;have bn:(k:Int)<(nr:Int):=ω;by_cases h1:kd=1
  ·subst h1;have a:=zae wr (.cells #[(Q,nq,x),.int .i64 1,g,(A,m,c),(D,B,v)] 101);refine μ3 (ak.o.below a) (HW.o.below a) (l.o.trans ((a).mono l.o.size)) λG K F=>?_;have o:=zab a ac;have r:=zab a ad;have s:=zab a ae
   have t:χ (wr.alloc (.cells #[(Q,nq,x),.int .i64 1,g,(A,m,c),(D,B,v)] 101)) wr.heap.size 1 (.int .i64 1):=zax rfl rfl;go_wp2_with fail
   refine(Rt.sign V L X T N Z U q _ G.o).mono ?_;rintro e v1 ⟨rfl,hb⟩;have aE:=un (K.o.below hb);have az:=un (F.o.trans ((hb).mono F.o.size));have aC:=zab hb t;clear hb;by_cases f:0<q
   ·have au:=(zPs q).2 f;have av:=(zPt q).2 f;have j:=un (yeb H.o I.o (by rw[yd3 (u.o),ZT f];rfl));go_wp2;go_ret
    exact⟨by rw[j.o];rfl,az.o⟩
   have au:¬0<q.num:=λh=>f ((zPs q).1 h)
   have av:¬0<q.num.sign:=λh=>f ((zPt q).1 h)
   have j:=un (ydX P.o H.o I.o (by rw[yd3 (u.o),Z3 f];rfl));go_wp2;go_roundw
   case rel=>exact⟨k+1,by go_num,ω,aE.o.b,j.o⟩
   case measure=>simp[intOf];omega
  skip
  by_cases h2:kd=2
  ·subst h2;have a:=zae wr (.cells #[(Q,nq,x),.int .i64 2,g,(A,m,c),(D,B,v)] 101);refine μ3 (ak.o.below a) (HW.o.below a) (l.o.trans ((a).mono l.o.size)) λG K F=>?_;have o:=zab a ac;have r:=zab a ad;have s:=zab a ae
   have t:χ (wr.alloc (.cells #[(Q,nq,x),.int .i64 2,g,(A,m,c),(D,B,v)] 101)) wr.heap.size 1 (.int .i64 2):=zax rfl rfl;go_wp2_with fail
   refine(Rt.sign V L X T N Z U q _ G.o).mono ?_;rintro e v1 ⟨rfl,hb⟩;have aE:=un (K.o.below hb);have az:=un (F.o.trans ((hb).mono F.o.size));have aC:=zab hb t;clear hb;by_cases f:q<0
   ·have au:=(zvc q).2 f;have av:=(zQE q).2 f;have j:=un (yeb H.o I.o (by rw[yd4 (u.o),ZT f];rfl));go_wp2;go_ret
    exact⟨by rw[j.o];rfl,az.o⟩
   have au:¬q.num<0:=λh=>f ((zvc q).1 h)
   have av:¬q.num.sign<0:=λh=>f ((zQE q).1 h)
   have j:=un (ydX P.o H.o I.o (by rw[yd4 (u.o),Z3 f];rfl));go_wp2;go_roundw
   case rel=>exact⟨k+1,by go_num,ω,aE.o.b,j.o⟩
   case measure=>simp[intOf];omega
  have bp:(kd == 2)=false:=by simp[h2]
  have bo:(kd == 1)=false:=by simp[h1]
  have a:=zae wr (.cells #[(Q,nq,x),.int .i64 kd,g,(A,m,c),(D,B,v)] 101);refine μ3 (ak.o.below a) (HW.o.below a) (l.o.trans ((a).mono l.o.size)) λG K F=>?_;have o:=zab a ac;have r:=zab a ad;have s:=zab a ae;have t:χ (wr.alloc (.cells #[(Q,nq,x),.int .i64 kd,g,(A,m,c),(D,B,v)] 101)) wr.heap.size 1 (.int .i64 kd):=zax rfl rfl;have j:=un (ydX P.o H.o I.o (yeh (by rw[u.o];exact h1) (by rw[u.o];exact h2)));go_wp2;go_roundw
  case rel=>exact⟨k+1,by go_num,ω,K.o.b,j.o⟩
  case measure=>simp[intOf];omega
 have aV:k=nr:=ω;have j:=un (show zId rows y=true by have h:=P.o;rw[aV,HN.o]at h;exact h);have l:=un (M.o.trans ((d).mono M.o.size));clear d hT;go_wp2;go_ret;exact⟨by rw[j.o];rfl,l.o⟩
