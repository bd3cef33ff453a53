/- Contracts and lemmas: Vec7 Prob2 Prob3 Prob5 Prob4. Conditions: as each says. -/
import Derived.Test.YtbpjabgfcbjjmaaGreatDoorMat3Zc
set_option linter.all false
set_option maxHeartbeats 4000000
set_option maxRecDepth 100000
namespace Go.Proofs.YtbpjabgfcbjjmaaGreatDoor
open Go.RowKit Am Tryz
attribute [local go_sem ↓] Go.wp_at_zero Go.wp_at_succ
variable {rows:List PRow}{x:List Rat}{p:PRow}{q:Rat}
theorem zvQ(h:zr q=true):q=0:=XD h
namespace Vc
theorem dot_ok(A:OA)(n c:Nat)(xs:List Rat)(B:OA)(j c':Nat)(ys:List Rat)(H H':Nat)(w:World)(hx:VecS w H (A,n,c) xs)(hy:VecS w H' (B,j,c') ys)(hl:xs.length=ys.length)(d:n<=1000)(zx:∀q∈xs,mw q<=4000000)(zy:∀q∈ys,mw q<=4000000) :
  Calls prog 45 #[(A,n,c),(B,j,c')] w (zii w (dot xs ys) true):=by
 have s:=hx.len;have a4:=hy.len;have en:j=n:=ω;subst en;refine μ5 s hl d zx zy λHN HL aV ZX ZY=>?_;have bN:j<=9223372036854775807:=ω;clear s a4 hl d zx zy;obtain⟨W,M⟩:∃W,(w.alloc (.cells #[false,(),()] 68))=W:=⟨_,rfl⟩
 refine μ4 (show θ W w.heap.size #[false,(),()] 68by rw[<-M];exact zam σ) (show Below w w W by rw[<-M];exact zae w _) (show VecS W H (A,j,c) xs by rw[<-M];exact(hx).alloc _) (show VecS W H' (B,j,c') ys by rw[<-M];exact(hy).alloc _) λaC U V X=>?_;clear hx hy;go_enter func45,ntmps45;go_wp2;clear M
 go_loopw [16] (λi wr=>∃(k:Nat) (g:Bool) (P:OA) (m cp:Nat) (D:OA) (o l:Nat),i=.int .i64 k/\k<=j/\θ wr W.heap.size #[g,(P,m,cp),(D,o,l)] 68/\RatS wr g (P,m,cp) (D,o,l) (ziw xs ys k)/\Below W.heap.size W wr)
  (λi _=>j-(intOf i).toNat)
 case atStart=>exact⟨0,_,_,_,_,_,_,_,rfl,Zb _,zal _ _ _,RatS.zero _,zae W _⟩
 obtain⟨k,g,P,m,cp,D,o,l,rfl,hk,aa,Z,f⟩:=hrel;by_cases aG:k<j
 ·obtain⟨a,N⟩:∃a,xs[k]? = some a:=⟨xs[k]'(by rw[<-HN.o];exact aG),Ze _⟩
  obtain⟨b,d⟩:∃b,ys[k]? = some b:=⟨ys[k]'(by rw[<-HL.o,<-HN.o];exact aG),Ze _⟩
  obtain⟨t,rfl,bH,bI⟩:=V.o.has ω;obtain⟨by_,rfl,bJ,bK⟩:=X.o.has ω;obtain⟨J,x,O,E,z,R,G,k0,k1,k2,aD⟩:=(V.o.below f).at_ N;obtain⟨L,y,Q,F,C,T,I,l0,l1,l2,aE⟩:=(X.o.below f).at_ d;refine μ8 (zad f aC.o) (V.o.below f) (X.o.below f) (aD) (show RatS wr L (y,Q,F) (C,T,I) b from aE) (Z) (Bel.mk f) (U.o.trans ((f).mono U.o.size)) λu bb bc aB aY HP HW aI=>?_;obtain⟨ab,ad,av,_,ac,ae,aw,_,af,ag,az,_⟩:=bf3 u.o;have aJ:=k0;have aK:=k1;have aN:=k2;have aO:=l0;have aP:=l1;have aQ:=l2;have Y:=un aa;obtain⟨bf,_,_,_,bg,_,_,_,be,_⟩:=bf3 Y.o;have aJ:=k0;have aK:=k1;have aN:=k2;have aO:=l0;have aP:=l1;have aQ:=l2;refine μ4 N d (show 4*(mw a+mw b)+8<=LIM by have:=ZX.o a (Zl N);have:=ZY.o b (Zl d);have:=zaP;omega) (show 4*(mw (ziw xs ys k)+mw (a*b))+8<=LIM by have:=ZX.o a (Zl N);have:=ZY.o b (Zl d);have h1:=zrJ ZX.o ZY.o k;have:=zdI a b;have:=zaP;have h2:k*8000001<=1000*8000001:=ZS _ (by have:=aV.o;omega);omega) λah ai L1 L2=>?_;have bL:(0:Int)<=(k:Int):=Zg _;have bM:(k:Int)<(j:Int):=ω;clear aa Z f N d k0 k1 k2 l0 l1 l2 aD aE;go_wp2_with fail
  refine(Rt.zero J x O E z R G a _ aB.o).mono ?_;rintro e v1 ⟨rfl,d⟩;refine μ5 (zad d Y.o) (aB.o.below d) (aY.o.below d) (HP.o.below d) (HW.o.below d) λaL bD aU aR aS=>?_;have bh:=zab d aJ;have bk:=zab d aK;have bl:=zab d aN;have bn:=zab d aO;have bs:=zab d aP;have bw:=zab d aQ;clear d;cases hza:zr a
  ·go_wp2_with fail
   refine(Rt.zero L y Q F C T I b _ aU.o).mono ?_;rintro e v2 ⟨rfl,d⟩;refine μ5 (zad d aL.o) (bD.o.below d) (aU.o.below d) (aR.o.below d) (aS.o.below d) λay bE bF aH aT=>?_;obtain⟨bU,_,_,_,bW,_,_,_,bZ,_⟩:=bf3 ay.o;have bj:=zab d bh;have a5:=zaa bj;have bo:=zab d bk;have a6:=zaa bo;have bq:=zab d bl;have a7:=zaa bq;have bp:=zab d bn;have a8:=zaa bp;have bu:=zab d bs;have a9:=zaa bu;have bA:=zab d bw;have ba:=zaa bA;clear d;cases hzb:zr b
   ·go_wp2_with fail
    refine za2 (S:=λw'=>χ w' W.heap.size 0 (.bool g)/\χ w' W.heap.size 1 (P,m,cp)/\χ w' W.heap.size 2 (D,o,l)/\χ w' t (k*3) (.bool J)/\χ w' t (k*3+1) (x,O,E)/\χ w' t (k*3+2) (z,R,G)/\χ w' by_ (k*3) (.bool L)/\χ w' by_ (k*3+1) (y,Q,F)/\χ w' by_ (k*3+2) (C,T,I)) 11 (h:=λhHeld=>?_);refine zaw [0,1,2,3,4,5,6,7,8] ?_;repeat refine tkE (hS:=hHeld) (h:=?_)
    refine zao ?_;refine zaN 9 (h:=λK r=>?_);go_simp;(go_at_call 74;(refine(Rt.mul J x O E z R G a L y Q F C T I b _ bE.o.drew bF.o.drew L1.o).mono ?_);rintro e u1 ⟨g1,A1,m1,c1,D1,md1,cd1,rfl,s,d⟩;refine μ4 (zad d ay.o) (aH.o.drew.below d) (aT.o.drew.below d) (s) λaM bd bz HM=>?_;obtain⟨bP,_,_,_,bQ,_,_,_,bY,_⟩:=bf3 aM.o;have bi:=zab d a5;have bm:=zab d a6;have br:=zab d a7;have bt:=zab d a8;have bv:=zab d a9;have bB:=zab d ba;clear s d);(try go_wp2_with fail);refine shutOn r λhHeld=>?_;clear r K;refine zaN 10 (h:=λK r=>?_);go_simp;(go_at_call 86;(refine(Rt.add g P m cp D o l (ziw xs ys k) g1 A1 m1 c1 D1 md1 cd1 (a*b) _ bd.o HM.o L2.o).mono ?_);rintro e u2 ⟨g2,A2,m2,c2,D2,md2,cd2,rfl,s,d⟩;refine μ3 (zad d aM.o) (bz.o.below d) (s) λax bC HS=>?_;obtain⟨bV,_,bR,_,bX,_,bS,_,b0,_,bT,_⟩:=bf3 ax.o;have b1:=zab d bi;have b2:=zab d bm;have b3:=zab d br;have b4:=zab d bt;have b5:=zab d bv;have b6:=zab d bB;clear s d);(try go_wp2_with fail);refine shutOn r λhHeld=>?_;clear r K;refine zba (h:=λK r=>?_);go_simp;refine shutOff r ?_;clear r K;refine za1 (h:=?_)
    all_goals
     go_wp2;go_roundw
     case rel=>exact⟨k+1,g2,A2,m2,c2,D2,md2,cd2,by go_num,ω,zar _ (zar _ (zar _ ax.o)),by rw[zlZ xs ys k ah.o ai.o];exact HS.o.set3 ax.o δ _ _ _,(Bel.set3 bC.o (Za _) _ _ _).b⟩
     case measure=>simp[intOf];omega
   skip
   go_wp2;go_roundw
   case rel=>exact⟨k+1,g,P,m,cp,D,o,l,by go_num,ω,ay.o,by rw[zlY xs ys k ah.o ai.o (Or.inr (zvQ hzb))];exact aH.o,aT.o.b⟩
   case measure=>simp[intOf];omega
  skip
  go_wp2;go_roundw
  case rel=>exact⟨k+1,g,P,m,cp,D,o,l,by go_num,ω,aL.o,by rw[zlY xs ys k ah.o ai.o (Or.inl (zvQ hza))];exact aR.o,aS.o.b⟩
  case measure=>simp[intOf];omega
 have a3:k=j:=ω;refine μ5 (zad f aC.o) (V.o.below f) (X.o.below f) (Z) (U.o.trans ((f).mono U.o.size)) λu bb bc HP aI=>?_;obtain⟨ab,ad,av,_,ac,ae,aw,_,af,ag,az,_⟩:=bf3 u.o;have Y:=un aa;obtain⟨bf,_,bg,_,be,_⟩:=bc3 Y.o;clear aa Z f;go_wp2;refine Zi (v:=.tuple #[.agg #[g,(P,m,cp),(D,o,l)],true]) (by simp[results,results45,go_sem,ab,ad,ac,ae,af,ag]) rfl ?_;have h:=HP.o;rw[a3,HN.o]at h;exact⟨_,_,_,_,_,_,_,rfl,h.set3 u.o δ _ _ _,bsc (bsc (bsc aI.o))⟩
end Vc
abbrev Sm (xs:List Rat):Prop:=∀q∈xs,mw q<=4000000
def zdp (p:PRow) (x:List Rat):Rat:=dot p.coef x-p.rhs
def zdH (p:PRow) (x:List Rat):Bool:=if p.kind=1 then decide (zdp p x<=0)else if p.kind=2 then decide (0<=zdp p x)else decide (p.kind=3)&&decide (zdp p x=0)
theorem zsp(q:Rat):q.num<=0↔q<=0:=by have h:=Vx (q := -q);rw[YZ]at h;grind
theorem zxh(h:p.kind=1):decide ((zdp p x).num<=0)=zdH p x:=by unfold zdH;rw[if_pos h];simp[decide_eq_decide,zsp]
theorem zxg(h:p.kind=2):decide (0<=zdp p x)=zdH p x:=by unfold zdH;rw[if_neg ω,if_pos h]
theorem zxf(h:p.kind=3):zr (zdp p x)=zdH p x:=by unfold zdH;rw[if_neg ω,if_neg ω,Z0 h,Bool.true_and];rfl
namespace Pb
theorem zPu(C:OA)(nc cc:Nat)(R:OA)(nr c:Nat)(cost:List Rat)(rows:List PRow)(X:OA)(f d:Nat)(x:List Rat)(w:World)(hc:VecS w 0 (C,nc,cc) cost)(hr:RowsS w 0 (R,nr,c) rows)(l:VecS w 0 (X,f,d) x)(k:cost.length=x.length)(a:nc<=1000)(zc:Sm cost)(zx:Sm x) :
  Calls prog 16 #[.agg #[(C,nc,cc),(R,nr,c)],(X,f,d)] w (zii w (dot cost x) true):=by
 refine μ4 k a zc zx λq n t u=>?_;clear k a zc zx;obtain⟨W,b⟩:∃W,((w.alloc (.cells #[(C,nc,cc),(R,nr,c)] 43)).alloc (.cells #[false,(),()] 68))=W:=⟨_,rfl⟩
 refine μ5 (show θ W w.heap.size #[(C,nc,cc),(R,nr,c)] 43by rw[<-b];exact zak (zam σ)) (show θ W (w.heap.size+1) #[false,(),()] 68by rw[<-b];exact zam σ) (show Below w w W by rw[<-b];exact(zae w _).alloc σ _) (show VecS W 0 (C,nc,cc) cost by rw[<-b];exact((hc).alloc _).alloc _) (show VecS W 0 (X,f,d) x by rw[<-b];exact((l).alloc _).alloc _) λi j g o s=>?_;obtain⟨K,_⟩:=bc2 i.o;clear hc hr l;go_enter func16,ntmps16;go_wp2_with fail
 clear b;refine(Vc.dot_ok C nc cc cost X f d x 0 0 _ o.o s.o q.o n.o t.o u.o).mono ?_;rintro e w1 ⟨g2,A2,m2,c2,D2,md2,cd2,rfl,hn,a⟩;refine μ3 (zad a j.o) (show RatS w1 g2 (A2,m2,c2) (D2,md2,cd2) (dot cost x)from hn) (g.o.trans ((a).mono g.o.size)) λm r z=>?_;obtain⟨E,A,af,_,F,y,ac,_,D,G,ah,_⟩:=bf3 m.o;clear hn a;go_wp2;refine Zi (v:=.tuple #[.agg #[g2,(A2,m2,c2),(D2,md2,cd2)],true]) (by simp[results,results16,go_sem,E,A,F,y,D,G]) rfl ?_;exact⟨_,_,_,_,_,_,_,rfl,r.o.set3 m.o δ _ _ _,bsc (bsc (bsc z.o))⟩
end Pb
def znD (cost:List Rat) (rows:List PRow) (x:List Rat):Bool:=decide (x.length=cost.length) && !(x.any λq=>decide (q<0))&&rows.all λp=>zdH p x
abbrev Rows (n:Nat) (rows:List PRow):Prop:=∀p∈rows,p.coef.length=n/\Sm p.coef/\mw p.rhs<=4000000
theorem zoE{cost:List Rat}(a:x.length=cost.length)(h:(x.any λq=>decide (q<0))=false):znD cost rows x=rows.all λp=>zdH p x:=by unfold znD;rw[h,Z0 a];simp
abbrev Kinds (rows:List PRow):Prop:=∀p∈rows,1<=p.kind/\p.kind<=3
namespace Pb
theorem may(C:OA)(nc cc:Nat)(R:OA)(nr d:Nat)(cost:List Rat)(rows:List PRow)(w:World)(hc:VecS w 0 (C,nc,cc) cost)(hr:RowsS w 0 (R,nr,d) rows)(P:nc<=24)(ac:nr<=20)(z:Rows nc rows)(x:Kinds rows) :
  Calls prog 55 #[.agg #[(C,nc,cc),(R,nr,d)]] w λe w'=>e=.returned .nilIface/\Below w w w':=by
 have y:=hr.len;refine μ3 y z x λG H u=>?_;have J:(nc:Int)<=24:=ω;have T:¬(24:Int)<(nc:Int):=ω;have ad:¬(20:Int)<(nr:Int):=ω;clear z x y;obtain⟨W,f⟩:∃W,(w.alloc (.cells #[(C,nc,cc),(R,nr,d)] 43))=W:=⟨_,rfl⟩
 refine μ3 (show θ W w.heap.size #[(C,nc,cc),(R,nr,d)] 43by rw[<-f];exact zam σ) (show Below w w W by rw[<-f];exact zae w _) (show RowsS W 0 (R,nr,d) rows by rw[<-f];exact(hr).alloc _) λq l n=>?_;obtain⟨ai,_,aj,ah⟩:=bc2 q.o;clear hc hr;go_enter func55,ntmps55;go_wp2;clear f
 go_loopw [19] (λi wr=>∃k:Nat,i=.int .i64 k/\k<=nr/\Below W.heap.size W wr)
  (λi _=>nr-(intOf i).toNat)
 case atStart=>exact⟨0,rfl,Zb _,Zh _ _⟩
 obtain⟨k,rfl,hk,a⟩:=hrel;by_cases K:k<nr
 ·obtain⟨p,j⟩:∃p,rows[k]? = some p:=⟨rows[k]'(by rw[<-G.o];exact K),Ze _⟩
  obtain⟨b,rfl,S,J⟩:=n.o.has ω;obtain⟨Q,nq,o,g,A,m,c,D,s,r,k0,k1,k2,k3,k4,B,_⟩:=(n.o.below a).at_ j;obtain rfl:nc=nq:=by rw[B.len,(H.o p (Zl j)).1]
  have X:=(u.o p (Zl j)).1;have Y:=(u.o p (Zl j)).2;have Z:¬p.kind<1:=ω;have aa:¬3<p.kind:=ω;refine μ3 (zad a q.o) (Bel.mk a) (l.o.trans ((a).mono l.o.size)) λF I E=>?_;clear a j B;have U:(0:Int)<=(k:Int):=Zg _;have V:(k:Int)<(nr:Int):=ω;have v:=zae wr (.cells #[(Q,nc,o),.int .i64 p.kind,g,(A,m,c),(D,s,r)] 86);have L:=un (zad v F.o);have N:=un (I.o.below v);obtain⟨ak,_⟩:=bc2 L.o;have al:χ (wr.alloc (.cells #[(Q,nc,o),.int .i64 p.kind,g,(A,m,c),(D,s,r)] 86)) wr.heap.size 0 (Q,nc,o):=zax rfl rfl;have am:χ (wr.alloc (.cells #[(Q,nc,o),.int .i64 p.kind,g,(A,m,c),(D,s,r)] 86)) wr.heap.size 1 (.int .i64 p.kind):=zax rfl rfl;go_wp2;go_roundw
  case rel=>exact⟨k+1,by go_num,ω,N.o.b⟩
  case measure=>simp[intOf];omega
 have ab:k=nr:=ω;have F:=un (zad a q.o);have E:=un (l.o.trans ((a).mono l.o.size));clear a;go_wp2;go_ret;exact⟨rfl,E.o⟩
end Pb
def zIc (p:PRow) (q:Rat):Bool := !(decide (p.kind=1)&&decide (0<q)||decide (p.kind=2)&&decide (q<0))
def zxD (rows:List PRow) (ys:List Rat) (k:Nat):Bool:=(List.range k).all λi=>zIc (rows.getD i default) (el ys i)
def zId (rows:List PRow) (ys:List Rat):Bool:=zxD rows ys rows.length
theorem zfC{k:Nat}(h:rows[k]? = some p):rows.getD k default=p:=by rw[Zf,h];rfl
theorem yd3(h:p.kind=1):zIc p q = !(decide (0<q)):=by unfold zIc;rw[Z0 h,Xb (show ¬p.kind=2 by omega)];simp
theorem yd4(h:p.kind=2):zIc p q = !(decide (q<0)):=by unfold zIc;rw[Z0 h,Xb (show ¬p.kind=1 by omega)];simp
namespace Ct
