/- Contracts and lemmas: Rat2 Rat3 Vec1 Vec2 Vec3 Rat4. Conditions: as each says. -/
import Derived.Test.YtbpjabgfcbjjmaaGreatInt4Ye
set_option linter.all false
set_option maxHeartbeats 20000000
set_option maxRecDepth 100000
namespace Go.Proofs.YtbpjabgfcbjjmaaGreat
open Go.RowKit Am Tryz
attribute [local go_sem ↓] Go.wp_at_zero Go.wp_at_succ
namespace Rt
theorem zwe(g:Bool)(A:OA)(m c:Nat)(D:OA)(d b:Nat)(q:Rat)(w:World)(h:IntS w g (A,m,c) q.num)(j:zas w (D,d,b) q.den)(f:q.den=1) :
  Calls prog 135 #[.agg #[g,(A,m,c)],.agg #[(D,d,b)]] w (ze4 w q):=by
 have n:=un f;have k:q.den<18446744073709551616:=by rw[f];decide
 have o:=un k;have h1:((q.den:Int) == 1)=true:=by rw[f];rfl
 clear f k;obtain⟨W,a⟩:∃W,(((w.alloc (.cells #[g,(A,m,c)] 60)).alloc (.cells #[(D,d,b)] 58)).alloc (.cells #[false,(),()] 62))=W:=⟨_,rfl⟩
 refine μ6 (show θ W w.heap.size #[g,(A,m,c)] 60by rw[<-a];exact zak (zak (zam σ))) (show θ W (w.heap.size+1) #[(D,d,b)] 58by rw[<-a];exact zak (zam σ)) (show θ W (w.heap.size+1+1) #[false,(),()] 62by rw[<-a];exact zam σ) (show Below w w W by rw[<-a];exact((zae w _).alloc σ _).alloc (by simp;omega) _) (show IntS W g (A,m,c) q.num by rw[<-a];exact(((h).alloc _).alloc _).alloc _) (show zas W (D,d,b) q.den by rw[<-a];exact(((j).alloc _).alloc _).alloc _) λt u x i r s=>?_;obtain⟨L,_⟩:=bc1 u.o;clear h j;go_enter func135,ntmps135;go_wp2_with fail
 clear a;with_reducible refine(Nt.uint_one (D,d,b) q.den o.o _ s.o).mono ?_
 rintro e w1 ⟨rfl,hb⟩;refine μ4 (zad hb t.o) (zad hb x.o) (r.o.below hb) (i.o.trans ((hb).mono i.o.size)) λz l I y=>?_;obtain⟨J,_,K,_⟩:=bc2 z.o;obtain⟨F,C,O,_,G,E,M,_,H,B,N,_⟩:=bf3 l.o;clear hb;go_wp2;refine Zh (v:=.agg #[g,(A,m,c),()]) (by simp[results,results135,go_sem,F,C,G,E,H,B]) rfl ?_;have hi:RatS w1 g (A,m,c) () q:=⟨I.o,by rw[zyk n.o];exact zas.zero _⟩
 exact⟨g,A,m,c,none,0,0,rfl,hi.set3 l.o δ _ _ _,bsc (bsc (bsc y.o))⟩
theorem ztY(g:Bool)(A:OA)(m c:Nat)(D:OA)(b a:Nat)(q:Rat)(w:World)(h:IntS w g (A,m,c) q.num)(k:zas w (D,b,a) q.den)(l:q.den≠1)(n:q.den<18446744073709551616) :
  Calls prog 135 #[.agg #[g,(A,m,c)],.agg #[(D,b,a)]] w (ze4 w q):=by
 have r:=un l;have s:=un n;have h1:((q.den:Int) == 1)=false:=by rw[show((q.den:Int) == 1)=decide ((q.den:Int)=1)from rfl,Z3];omega
 clear l n;obtain⟨W,d⟩:∃W,(((w.alloc (.cells #[g,(A,m,c)] 60)).alloc (.cells #[(D,b,a)] 58)).alloc (.cells #[false,(),()] 62))=W:=⟨_,rfl⟩
 refine μ6 (show θ W w.heap.size #[g,(A,m,c)] 60by rw[<-d];exact zak (zak (zam σ))) (show θ W (w.heap.size+1) #[(D,b,a)] 58by rw[<-d];exact zak (zam σ)) (show θ W (w.heap.size+1+1) #[false,(),()] 62by rw[<-d];exact zam σ) (show Below w w W by rw[<-d];exact((zae w _).alloc σ _).alloc (by simp;omega) _) (show IntS W g (A,m,c) q.num by rw[<-d];exact(((h).alloc _).alloc _).alloc _) (show zas W (D,b,a) q.den by rw[<-d];exact(((k).alloc _).alloc _).alloc _) λu j x f t i=>?_;obtain⟨O,_⟩:=bc1 j.o;clear h k;go_enter func135,ntmps135;go_wp2_with fail
 clear d;with_reducible refine(Nt.uint_one (D,b,a) q.den s.o _ i.o).mono ?_
 rintro e w1 ⟨rfl,hb⟩;refine μ6 (zad hb u.o) (zad hb j.o) (zad hb x.o) (t.o.below hb) (i.o.below hb) (f.o.trans ((hb).mono f.o.size)) λB y o J K z=>?_;obtain⟨L,_,M,_⟩:=bc2 B.o;obtain⟨N,_⟩:=bc1 y.o;obtain⟨G,E,R,_,H,F,P,_,I,C,Q,_⟩:=bf3 o.o;clear hb;go_wp2;refine Zh (v:=.agg #[g,(A,m,c),(D,b,a)]) (by simp[results,results135,go_sem,G,E,H,F,I,C]) rfl ?_;have hi:RatS w1 g (A,m,c) (D,b,a) q:=⟨J.o,by rw[zp0 r.o];exact K.o⟩
 exact⟨g,A,m,c,D,b,a,rfl,hi.set3 o.o δ _ _ _,bsc (bsc (bsc z.o))⟩
theorem zwd(g:Bool)(A:OA)(m c:Nat)(D:OA)(b a:Nat)(q:Rat)(w:World)(h:IntS w g (A,m,c) q.num)(k:zas w (D,b,a) q.den)(l:18446744073709551616<=q.den) :
  Calls prog 135 #[.agg #[g,(A,m,c)],.agg #[(D,b,a)]] w (ze4 w q):=by
 have o:=un (show q.den≠1 by omega);have r:=un l;clear l;obtain⟨W,d⟩:∃W,(((w.alloc (.cells #[g,(A,m,c)] 60)).alloc (.cells #[(D,b,a)] 58)).alloc (.cells #[false,(),()] 62))=W:=⟨_,rfl⟩
 refine μ6 (show θ W w.heap.size #[g,(A,m,c)] 60by rw[<-d];exact zak (zak (zam σ))) (show θ W (w.heap.size+1) #[(D,b,a)] 58by rw[<-d];exact zak (zam σ)) (show θ W (w.heap.size+1+1) #[false,(),()] 62by rw[<-d];exact zam σ) (show Below w w W by rw[<-d];exact((zae w _).alloc σ _).alloc (by simp;omega) _) (show IntS W g (A,m,c) q.num by rw[<-d];exact(((h).alloc _).alloc _).alloc _) (show zas W (D,b,a) q.den by rw[<-d];exact(((k).alloc _).alloc _).alloc _) λt j u f s i=>?_;obtain⟨N,_⟩:=bc1 j.o;clear h k;go_enter func135,ntmps135;go_wp2_with fail
 clear d;with_reducible refine(Nt.uint_more (D,b,a) q.den r.o _ i.o).mono ?_
 rintro e w1 ⟨rfl,hb⟩;refine μ6 (zad hb t.o) (zad hb j.o) (zad hb u.o) (s.o.below hb) (i.o.below hb) (f.o.trans ((hb).mono f.o.size)) λz x n I J y=>?_;obtain⟨K,_,L,_⟩:=bc2 z.o;obtain⟨M,_⟩:=bc1 x.o;obtain⟨F,C,Q,_,G,E,O,_,H,B,P,_⟩:=bf3 n.o;clear hb;go_wp2;refine Zh (v:=.agg #[g,(A,m,c),(D,b,a)]) (by simp[results,results135,go_sem,F,C,G,E,H,B]) rfl ?_;have hi:RatS w1 g (A,m,c) (D,b,a) q:=⟨I.o,by rw[zp0 o.o];exact J.o⟩
 exact⟨g,A,m,c,D,b,a,rfl,hi.set3 n.o δ _ _ _,bsc (bsc (bsc y.o))⟩
theorem bare(g:Bool)(A:OA)(m c:Nat)(D:OA)(b a:Nat)(q:Rat)(w:World)(h:IntS w g (A,m,c) q.num)(d:zas w (D,b,a) q.den)  :
  Calls prog 135 #[.agg #[g,(A,m,c)],.agg #[(D,b,a)]] w (ze4 w q):=by grind[zwe,ztY,zwd]
theorem div_num(x y:Int)(c:y≠0):(if (!(decide (x<0) == decide (y<0)))=true then -((x.natAbs/Nat.gcd x.natAbs y.natAbs:Nat):Int)else ((x.natAbs/Nat.gcd x.natAbs y.natAbs:Nat):Int))=(Rat.divInt x y).num:=by
 rw[Rat.num_divInt];have hg:y.gcd x=Nat.gcd x.natAbs y.natAbs:=by rw[Y1];rfl
 rw[hg];have b:(Nat.gcd x.natAbs y.natAbs)∣x.natAbs:=Nat.gcd_dvd_left _ _;generalize Nat.gcd x.natAbs y.natAbs=k at *
 have e:((x.natAbs/k:Nat):Int)=(x.natAbs:Int)/(k:Int):=XR _ _;rw[e];have en:(-(x.natAbs:Int))/(k:Int) = -((x.natAbs:Int)/(k:Int)):=Int.neg_ediv_of_dvd (Int.natCast_dvd_natCast.2 b);grind
theorem div_den(x y:Int)(a:y≠0):y.natAbs/Nat.gcd x.natAbs y.natAbs=(Rat.divInt x y).den:=by rw[Rat.den_divInt,if_neg a,Y1];rfl
end Rt
namespace Rt
theorem newd(g:Bool)(A:OA)(m c:Nat)(x:Int)(g':Bool)(B:OA)(m' c':Nat)(y:Int)(w:World)(h:IntS w g (A,m,c) x)(S:IntS w g' (B,m',c') y)(N:y≠0)(T:wlen x.natAbs+1<=LIM)(U:wlen y.natAbs+1<=LIM) :
  Calls prog 81 #[.agg #[g,(A,m,c)],.agg #[g',(B,m',c')]] w (zii w (Rat.divInt x y) true):=by
 have dp:(y.sign == 0)=false:=by rw[show(y.sign == 0)=decide (y.sign=0)from rfl,Z3];rw[VD];exact N
 refine μ3 N T U λM cw cx=>?_;clear N T U;obtain⟨W,n⟩:∃W,(((w.alloc (.cells #[g,(A,m,c)] 60)).alloc (.cells #[g',(B,m',c')] 60)).alloc (.cells #[false,(),()] 62))=W:=⟨_,rfl⟩
 refine μ7 (show θ W w.heap.size #[g,(A,m,c)] 60by rw[<-n];exact zak (zak (zam σ))) (show θ W (w.heap.size+1) #[g',(B,m',c')] 60by rw[<-n];exact zak (zam σ)) (show θ W (w.heap.size+1+1) #[false,(),()] 62by rw[<-n];exact zam σ) (show Below w w W by rw[<-n];exact((zae w _).alloc σ _).alloc (by simp;omega) _) (show w.heap.size+3<=W.heap.size by rw[<-n];simp) (show IntS W g (A,m,c) x by rw[<-n];exact(((h).alloc _).alloc _).alloc _) (show IntS W g' (B,m',c') y by rw[<-n];exact(((S).alloc _).alloc _).alloc _) λcC R cD O HZ HX Q=>?_;obtain⟨dA,_,dx,_⟩:=bc2 R.o;clear h S;go_enter func81,ntmps81;go_wp2_with fail
 clear n;with_reducible refine(It.sign g' B m' c' y _ Q.o).mono ?_
 rintro e w1 ⟨rfl,hb⟩;refine μ6 (zad hb cC.o) (zad hb R.o) (zad hb cD.o) (HX.o.below hb) (Q.o.below hb) (O.o.trans ((hb).mono O.o.size)) λad aa al aD cr ac=>?_;obtain⟨cT,_,cU,_⟩:=bc2 ad.o;obtain⟨cV,_,cW,_⟩:=bc2 aa.o;clear hb;go_wp2_with fail
 have P:=un (show ∀w',Below w1 w1 w'->((χ w' w 0 (.bool g)/\χ w' w 1 (A,m,c)/\χ w' (w.heap.size+1) 0 (.bool g')/\χ w' (w.heap.size+1) 1 (B,m',c'))/\Below w1 w1 w')from λw' h=>⟨⟨zab h cT,zab h cU,zab h cV,zab h cW⟩,h⟩);go_cut[6,7] (λs6 s7 wr=>∃(D n7:Nat) (d:OA) (k i:Nat) (f:OA) (l j:Nat),s6=.pointer (some ⟨D,0,none⟩)/\s7=.pointer (some ⟨n7,0,none⟩)/\Below w1 w1 wr/\χ wr D 0 (d,k,i)/\χ wr n7 0 (f,l,j)/\zas wr (d,k,i) (x.natAbs/Nat.gcd x.natAbs y.natAbs)/\zas wr (f,l,j) (y.natAbs/Nat.gcd x.natAbs y.natAbs)/\w1.heap.size<=D/\w1.heap.size<=n7)
 case first =>
  go_region_held3 (λw'=>((χ w' w 0 (.bool g)/\χ w' w 1 (A,m,c)/\χ w' (w.heap.size+1) 0 (.bool g')/\χ w' (w.heap.size+1) 1 (B,m',c'))/\Below w1 w1 w'))
   ((refine P.o _ ?_;repeat(first | exact Zj _ _ | exact(by assumption:_/\Below _ _ _).2 | with_reducible refine bdrew ?_ | with_reducible refine al2 ?_ _ | with_reducible refine set2 ?_ ω | with_reducible refine zc1 ?_ (by assumption))))
   (first
    | (go_at_call 134;(with_reducible refine(It.abs g A m c _).mono ?_);rintro e u1 ⟨rfl,hb1⟩;have cE:=hb1.size;(try simp at cE);have dr:w1.heap.size<=u1.heap.size:=ω;(try((first | (have a:=zan (b:=w1.heap.size) (v:=.slice none 0 0) (t:=58) hb1 (zal _ _ _);obtain⟨o,⟨aM,aP⟩,⟨aN,aQ⟩,⟨aO,aR⟩,⟨aS,aT⟩,aU,aV⟩:=a) | (have a:=zan (b:=w1.heap.size) (v:=.slice none 0 0) (t:=58) hb1 (zak (zal _ _ _));obtain⟨o,⟨aM,aP⟩,⟨aN,aQ⟩,⟨aO,aR⟩,⟨aS,aT⟩,aU,aV⟩:=a) | (have a:=zan (b:=w1.heap.size) (v:=.slice none 0 0) (t:=58) hb1 (zbD _ _ _ _);obtain⟨o,⟨aM,aP⟩,⟨aN,aQ⟩,⟨aO,aR⟩,⟨aS,aT⟩,aU,aV⟩:=a));have o:=un o));(try((first | (have a:=zan (b:=w1.heap.size+1) (v:=.slice none 0 0) (t:=58) hb1 (zal _ _ _);obtain⟨z,⟨bD,bG⟩,⟨bE,bH⟩,⟨bF,bI⟩,⟨bJ,bK⟩,bs,bt⟩:=a) | (have a:=zan (b:=w1.heap.size+1) (v:=.slice none 0 0) (t:=58) hb1 (zak (zal _ _ _));obtain⟨z,⟨bD,bG⟩,⟨bE,bH⟩,⟨bF,bI⟩,⟨bJ,bK⟩,bs,bt⟩:=a) | (have a:=zan (b:=w1.heap.size+1) (v:=.slice none 0 0) (t:=58) hb1 (zbD _ _ _ _);obtain⟨z,⟨bD,bG⟩,⟨bE,bH⟩,⟨bF,bI⟩,⟨bJ,bK⟩,bs,bt⟩:=a));have z:=un z)))
    | (go_at_call 134;(with_reducible refine(It.abs g' B m' c' _).mono ?_);rintro e u2 ⟨rfl,hb2⟩;have cF:=hb2.size;(try simp at cF);have ds:=ω;(try((first | (have a:=zan (b:=w1.heap.size) (v:=.slice none 0 0) (t:=58) hb2 (o.o);obtain⟨r,⟨aq,av⟩,⟨ar,aw⟩,⟨au,ax⟩,⟨ay,az⟩,aA,aB⟩:=a) | (have a:=zan (b:=w1.heap.size) (v:=.slice none 0 0) (t:=58) hb2 (zak o.o);obtain⟨r,⟨aq,av⟩,⟨ar,aw⟩,⟨au,ax⟩,⟨ay,az⟩,aA,aB⟩:=a) | (have a:=zan (b:=w1.heap.size) (v:=.slice none 0 0) (t:=58) hb2 (zak (zak o.o));obtain⟨r,⟨aq,av⟩,⟨ar,aw⟩,⟨au,ax⟩,⟨ay,az⟩,aA,aB⟩:=a));have r:=un r));(try((first | (have a:=zan (b:=w1.heap.size+1) (v:=.slice none 0 0) (t:=58) hb2 (z.o);obtain⟨C,⟨bu,bx⟩,⟨bv,bz⟩,⟨bw,bA⟩,⟨bB,bC⟩,b1,b2⟩:=a) | (have a:=zan (b:=w1.heap.size+1) (v:=.slice none 0 0) (t:=58) hb2 (zak z.o);obtain⟨C,⟨bu,bx⟩,⟨bv,bz⟩,⟨bw,bA⟩,⟨bB,bC⟩,b1,b2⟩:=a) | (have a:=zan (b:=w1.heap.size+1) (v:=.slice none 0 0) (t:=58) hb2 (zak (zak z.o));obtain⟨C,⟨bu,bx⟩,⟨bv,bz⟩,⟨bw,bA⟩,⟨bB,bC⟩,b1,b2⟩:=a));have C:=un C));(try((first | (have a:=zan (b:=u1.heap.size) (v:=.slice none 0 0) (t:=58) hb2 (zal _ _ _);obtain⟨s,⟨aW,aF⟩,⟨aX,aG⟩,⟨aE,aH⟩,⟨aI,aJ⟩,aK,aL⟩:=a) | (have a:=zan (b:=u1.heap.size) (v:=.slice none 0 0) (t:=58) hb2 (zak (zal _ _ _));obtain⟨s,⟨aW,aF⟩,⟨aX,aG⟩,⟨aE,aH⟩,⟨aI,aJ⟩,aK,aL⟩:=a) | (have a:=zan (b:=u1.heap.size) (v:=.slice none 0 0) (t:=58) hb2 (zbD _ _ _ _);obtain⟨s,⟨aW,aF⟩,⟨aX,aG⟩,⟨aE,aH⟩,⟨aI,aJ⟩,aK,aL⟩:=a));have s:=un s));(try((first | (have a:=zan (b:=u1.heap.size+1) (v:=.slice none 0 0) (t:=58) hb2 (zal _ _ _);obtain⟨u,⟨b3,b6⟩,⟨b4,b7⟩,⟨b5,b8⟩,⟨b9,ca⟩,cb,cc⟩:=a) | (have a:=zan (b:=u1.heap.size+1) (v:=.slice none 0 0) (t:=58) hb2 (zak (zal _ _ _));obtain⟨u,⟨b3,b6⟩,⟨b4,b7⟩,⟨b5,b8⟩,⟨b9,ca⟩,cb,cc⟩:=a) | (have a:=zan (b:=u1.heap.size+1) (v:=.slice none 0 0) (t:=58) hb2 (zbD _ _ _ _);obtain⟨u,⟨b3,b6⟩,⟨b4,b7⟩,⟨b5,b8⟩,⟨b9,ca⟩,cb,cc⟩:=a));have u:=un u)))
    | (go_at_call 133;(with_reducible refine(Gc.reduce A B m c m' c' x.natAbs y.natAbs _ (by have h:=(aD.o.below (by assumption:_/\Below _ _ _).2);exact h.abs) (by have h:=(cr.o.below (by assumption:_/\Below _ _ _).2);exact h.abs) (Int.natAbs_pos.2 M.o) cw.o cx.o).mono ?_);rintro e u3 ⟨d,k,i,f,l,j,rfl,hn,hn2,hb3⟩;have cG:=hb3.size;(try simp at cG);have dt:w1.heap.size<=u3.heap.size:=ω;(try((first | (have a:=zan (b:=w1.heap.size) (v:=.slice none 0 0) (t:=58) hb3 (r.o);obtain⟨F,⟨be,bh⟩,⟨bf,aY⟩,⟨bg,aZ⟩,⟨a0,a1⟩,a2,a3⟩:=a) | (have a:=zan (b:=w1.heap.size) (v:=.slice none 0 0) (t:=58) hb3 (zak r.o);obtain⟨F,⟨be,bh⟩,⟨bf,aY⟩,⟨bg,aZ⟩,⟨a0,a1⟩,a2,a3⟩:=a) | (have a:=zan (b:=w1.heap.size) (v:=.slice none 0 0) (t:=58) hb3 (zak (zak r.o));obtain⟨F,⟨be,bh⟩,⟨bf,aY⟩,⟨bg,aZ⟩,⟨a0,a1⟩,a2,a3⟩:=a));have F:=un F));(try((first | (have a:=zan (b:=w1.heap.size+1) (v:=.slice none 0 0) (t:=58) hb3 (C.o);obtain⟨I,⟨cd,cg⟩,⟨ce,ch⟩,⟨cf,ci⟩,⟨cj,ck⟩,cl,cm⟩:=a) | (have a:=zan (b:=w1.heap.size+1) (v:=.slice none 0 0) (t:=58) hb3 (zak C.o);obtain⟨I,⟨cd,cg⟩,⟨ce,ch⟩,⟨cf,ci⟩,⟨cj,ck⟩,cl,cm⟩:=a) | (have a:=zan (b:=w1.heap.size+1) (v:=.slice none 0 0) (t:=58) hb3 (zak (zak C.o));obtain⟨I,⟨cd,cg⟩,⟨ce,ch⟩,⟨cf,ci⟩,⟨cj,ck⟩,cl,cm⟩:=a));have I:=un I));(try((first | (have a:=zan (b:=u1.heap.size) (v:=.slice none 0 0) (t:=58) hb3 (s.o);obtain⟨G,⟨a4,a7⟩,⟨a5,a8⟩,⟨a6,a9⟩,⟨ba,bb⟩,bc,bd⟩:=a) | (have a:=zan (b:=u1.heap.size) (v:=.slice none 0 0) (t:=58) hb3 (zak s.o);obtain⟨G,⟨a4,a7⟩,⟨a5,a8⟩,⟨a6,a9⟩,⟨ba,bb⟩,bc,bd⟩:=a) | (have a:=zan (b:=u1.heap.size) (v:=.slice none 0 0) (t:=58) hb3 (zak (zak s.o));obtain⟨G,⟨a4,a7⟩,⟨a5,a8⟩,⟨a6,a9⟩,⟨ba,bb⟩,bc,bd⟩:=a));have G:=un G));(try((first | (have a:=zan (b:=u1.heap.size+1) (v:=.slice none 0 0) (t:=58) hb3 (u.o);obtain⟨J,⟨cn,cq⟩,⟨co,bL⟩,⟨cp,bM⟩,⟨bN,bO⟩,bP,bQ⟩:=a) | (have a:=zan (b:=u1.heap.size+1) (v:=.slice none 0 0) (t:=58) hb3 (zak u.o);obtain⟨J,⟨cn,cq⟩,⟨co,bL⟩,⟨cp,bM⟩,⟨bN,bO⟩,bP,bQ⟩:=a) | (have a:=zan (b:=u1.heap.size+1) (v:=.slice none 0 0) (t:=58) hb3 (zak (zak u.o));obtain⟨J,⟨cn,cq⟩,⟨co,bL⟩,⟨cp,bM⟩,⟨bN,bO⟩,bP,bQ⟩:=a));have J:=un J));(try((first | (have a:=zan (b:=u2.heap.size) (v:=.slice none 0 0) (t:=58) hb3 (zal _ _ _);obtain⟨H,⟨bi,bl⟩,⟨bj,bm⟩,⟨bk,bn⟩,⟨bo,bp⟩,bq,br⟩:=a) | (have a:=zan (b:=u2.heap.size) (v:=.slice none 0 0) (t:=58) hb3 (zak (zal _ _ _));obtain⟨H,⟨bi,bl⟩,⟨bj,bm⟩,⟨bk,bn⟩,⟨bo,bp⟩,bq,br⟩:=a) | (have a:=zan (b:=u2.heap.size) (v:=.slice none 0 0) (t:=58) hb3 (zbD _ _ _ _);obtain⟨H,⟨bi,bl⟩,⟨bj,bm⟩,⟨bk,bn⟩,⟨bo,bp⟩,bq,br⟩:=a));have H:=un H));(try((first | (have a:=zan (b:=u2.heap.size+1) (v:=.slice none 0 0) (t:=58) hb3 (zal _ _ _);obtain⟨K,⟨bR,bU⟩,⟨bS,bV⟩,⟨bT,bW⟩,⟨bX,bY⟩,bZ,b0⟩:=a) | (have a:=zan (b:=u2.heap.size+1) (v:=.slice none 0 0) (t:=58) hb3 (zak (zal _ _ _));obtain⟨K,⟨bR,bU⟩,⟨bS,bV⟩,⟨bT,bW⟩,⟨bX,bY⟩,bZ,b0⟩:=a) | (have a:=zan (b:=u2.heap.size+1) (v:=.slice none 0 0) (t:=58) hb3 (zbD _ _ _ _);obtain⟨K,⟨bR,bU⟩,⟨bS,bV⟩,⟨bT,bW⟩,⟨bX,bY⟩,bZ,b0⟩:=a));have K:=un K));have L:=un hn;have cy:=un hn2;clear hn hn2)
    | fail)
  all_goals
   go_wp2;go_meet;refine⟨_,_,d,k,i,f,l,j,rfl,rfl,(by assumption:_/\Below w1 w1 _).2,?_,?_,?_,?_,?_,?_⟩
   all_goals
    repeat' (first
     | with_reducible exact L.o
     | with_reducible exact cy.o
     | with_reducible assumption
     | with_reducible exact zeo _ _ _
     | with_reducible exact zfx _ _ _ _
     | with_reducible refine cell_al ?_
     | with_reducible refine Box.cell ?_
     | with_reducible refine cell_set ?_ ?_
     | with_reducible exact Box.new _ _
     | with_reducible exact Box.new1 _ _ _
     | with_reducible refine Box.alloc ?_
     | with_reducible refine Box.set ?_
     | exact Box.of F.o
     | exact Box.of I.o
     | exact Box.of G.o
     | exact Box.of J.o
     | exact Box.of H.o
     | exact Box.of K.o
     | with_reducible refine zas.alloc ?_ _
     | with_reducible refine zas.setBox ?_ ?_
     | with_reducible refine zas.drew ?_
     | omega)
 obtain⟨D,n7,d,k,i,f,l,j,rfl,rfl,E,Y,Z,V,X,dm,dn⟩:=hcut;have dq:w.heap.size+1+1+1<=w1.heap.size:=by have:=HZ.o;have:=(ZS.1 al.o).1;omega
 refine μ5 (div_den x y M.o) (zad E ad.o) (zad E aa.o) (zad E al.o) (show zas wc (d,k,i) (x.natAbs/Nat.gcd x.natAbs y.natAbs)from V) λHE ab ae dc L=>?_;have HD:=un (show zas wc (f,l,j) (Rat.divInt x y).den from(HE.o▸X));have af:=un (ac.o.trans ((E).mono ac.o.size));obtain⟨dv,_,dw,_⟩:=bc2 ab.o;obtain⟨dy,_,dz,_⟩:=bc2 ae.o;have cX:χ wc D 0 (d,k,i):=Y;have cM:=zaa cX;have c1:χ wc n7 0 (f,l,j):=Z;have cN:=zaa c1;clear E V X Y Z P;have cu:=un (show(if (!(g == g'))=true then -((x.natAbs/Nat.gcd x.natAbs y.natAbs:Nat):Int)else ((x.natAbs/Nat.gcd x.natAbs y.natAbs:Nat):Int))=(Rat.divInt x y).num by rw[aD.o.neg,cr.o.neg];exact div_num x y M.o);generalize Rat.divInt x y=q at *
 go_wp2_with fail
 go_region_held3 (λw'=>χ w' w 0 (.bool g)/\χ w' w 1 (A,m,c)/\χ w' (w.heap.size+1) 0 (.bool g')/\χ w' (w.heap.size+1) 1 (B,m',c')/\χ w' D 0 (d,k,i)/\χ w' n7 0 (f,l,j))
  (((try go_split_ands);(try simp only[Xp]);(repeat' apply And.intro)<;>(repeat(first | with_reducible assumption | with_reducible refine cell_set ω ?_ | with_reducible refine cell_al ?_))))
  (first
   | (go_at_call 136;(with_reducible refine(It.isBelow g A m c _).mono ?_);rintro e v1 ⟨rfl,hb⟩;refine μ6 (zad hb ab.o) (zad hb ae.o) (zad hb dc.o) (L.o.drew.below hb) (HD.o.drew.below hb) (af.o.trans ((It.bdrew0' hb).mono af.o.size)) λag ap dl cR cO aj=>?_;obtain⟨dH,_,dI,_⟩:=bc2 ag.o;obtain⟨dL,_,dN,_⟩:=bc2 ap.o;have c0:=zab hb cM;have c7:=zab hb cN;clear hb)
   | (go_at_call 136;(with_reducible refine(It.isBelow g' B m' c' _).mono ?_);rintro e v2 ⟨rfl,hb⟩;refine μ6 (zad hb ag.o) (zad hb ap.o) (zad hb dl.o) (cR.o.below hb) (cO.o.below hb) (aj.o.trans ((hb).mono aj.o.size)) λah ai c8 cS cP an=>?_;obtain⟨dB,_,dC,_⟩:=bc2 ah.o;obtain⟨dF,_,dG,_⟩:=bc2 ai.o;have cY:=zab hb c0;have c6:=zab hb c7;clear hb)
   | (go_at_call 89;(with_reducible refine(It.new (!(g == g')) d k i (x.natAbs/Nat.gcd x.natAbs y.natAbs) _ cS.o).mono ?_);rintro e v3 ⟨g4,A4,m4,c4,rfl,hi,hb⟩;refine μ6 (zad hb ah.o) (zad hb ai.o) (zad hb c8.o) (cP.o.below hb) (show IntS v3 g4 (A4,m4,c4) q.num from(by rw[cu.o]at hi;exact hi)) (an.o.trans ((hb).mono an.o.size)) λak am c9 cQ HI ao=>?_;obtain⟨dD,_,dE,_⟩:=bc2 ak.o;obtain⟨dM,_,dO,_⟩:=bc2 am.o;have da:=zab hb cY;have dj:=zab hb c6;clear hi hb)
   | (go_at_call 135;(with_reducible refine(bare g4 A4 m4 c4 f l j q _ HI.o cQ.o).mono ?_);rintro e v4 ⟨g5,A5,m5,c5,D5,md5,cd5,rfl,hi,hb⟩;refine μ5 (zad hb ak.o) (zad hb am.o) (zad hb c9.o) (hi) (ao.o.trans ((hb).mono ao.o.size)) λcZ db aC HR dk=>?_;obtain⟨dJ,_,dK,_⟩:=bc2 cZ.o;obtain⟨dP,_,dQ,_⟩:=bc2 db.o;obtain⟨dg,dd,dR,_,dh,de,dS,_,di,df,dT,_⟩:=bf3 aC.o;have dU:=zab hb da;have dV:=zab hb dj;clear hi hb)
   | fail)
 all_goals
  go_wp2;refine Zh (v:=.tuple #[.agg #[g5,(A5,m5,c5),(D5,md5,cd5)],true]) (by simp[results,results81,go_sem,dg,dd,dh,de,di,df]) rfl ?_;exact⟨g5,A5,m5,c5,D5,md5,cd5,rfl,HR.o.set3 aC.o δ _ _ _,bsc (bsc (bsc dk.o))⟩
end Rt
end Go.Proofs.YtbpjabgfcbjjmaaGreat
namespace Go.Proofs.YtbpjabgfcbjjmaaGreat
open Go.RowKit Am Tryz
variable {g:Bool}{p:Int}{qs:List Rat}{H a b c k m n:Nat}{A D:OA}{q:Rat}{d s v v0 v1:Value}{B u w w':World}
theorem ze0:(prog.info? 62).map (λi=>(i.zero,i.size,i.bytes))=some (some (.agg #[false,(),()]),3,56):=ξ
abbrev RV:=Bool × Value × Value
def rcells (l:List RV):List Value:=l.flatMap λr=>[.bool r.1,r.2.1,r.2.2]
theorem zcy(r:RV)(l:List RV):rcells (r::l)=.bool r.1::r.2.1::r.2.2::rcells l:=by simp[rcells]
theorem zcC(l:List RV):(rcells l).length=l.length*3:=by
 induction l with
 | nil=>rfl
 | cons r l ih=>rw[zcy];grind
theorem zh4(a b:List RV):rcells (a++b)=rcells a++rcells b:=by simp[rcells]
theorem ziI(l:List RV):∀(k:Nat) (r:RV),l[k]? = some r->(rcells l)[k*3]? = some (.bool r.1)/\(rcells l)[k*3+1]? = some r.2.1/\(rcells l)[k*3+2]? = some r.2.2:=by
 induction l with
 | nil=>grind
 | cons a l ih =>
  grind[zcy]
theorem zss(l:List RV):∀(k:Nat) (r:RV),(((rcells l).set (k*3) (.bool r.1)).set (k*3+1) r.2.1).set (k*3+2) r.2.2=rcells (l.set k r):=by
 induction l with
 | nil=>intro k r;simp[rcells]
 | cons a l ih =>
  intro k r;cases k with
  | zero=>simp[zcy]
  | succ k =>
   rw[show(k+1)*3=k*3+1+1+1 by omega,List.set_cons_succ,zcy,zcy,<-ih k r];simp
theorem ziJ(l:List RV)(h:∀r∈l,r.2.1.oneCell'=true/\r.2.2.oneCell'=true):∀u∈rcells l,u.oneCell'=true:=by intro u a;simp only[rcells,List.mem_flatMap]at a;obtain⟨p,b,a⟩:=a;simp at a;rcases a with rfl | rfl | rfl;rfl;exact(h p b).1;grind
theorem RatS.shape(h:RatS w g s d q):∃(A:OA) (m c:Nat) (D:OA) (b a:Nat),s=(A,m,c)/\d=.slice D b a:=by obtain⟨A,m,c,rfl⟩:=h.num.abs.slice;obtain⟨D,b,a,rfl⟩:=h.den.slice;grind
theorem RatS.zero(w:World):RatS w false () () 0:=⟨⟨zas.zero w,rfl⟩,zas.zero w⟩
def zff (w w':World):Prop:=∀k,k<w.heap.size->(∀cs,w.heap[k]? ≠ some (.cells cs 62 (0,0)))->w'.heap[k]? = w.heap[k]?
theorem zas.keepT(h:zas w s n)(hk:zff w w'):zas w' s n:=by obtain⟨xs,a,c⟩:=h;refine⟨xs,a.keep λk b=>hk k (a.block b) λcs e=>?_,c⟩;exact za6 a.1 e δ b
theorem RatS.keepT{w w':World}{g:Bool}{s d:Value}{q:Rat}(h:RatS w g s d q)(hk:zff w w'):RatS w' g s d q:=⟨⟨h.num.abs.keepT hk,h.num.neg⟩,h.den.keepT hk⟩
structure VecS (w:World) (H:Nat) (v:Value) (qs:List Rat):Prop where
  row:∃l:List RV,l.length=qs.length/\(∀(k:Nat) (r:RV) (q:Rat),l[k]? = some r->qs[k]? = some q->RatS w r.1 r.2.1 r.2.2 q)/\w.ownsRow H 62 3 v qs.length (rcells l)
theorem zc9{e:TypeId}{size:Nat}{ys:List Value}(h:w.ownsRow H e size s n ys)(hk:∀k,s.ownBlock=some k->w'.heap[k]? = w.heap[k]?):w'.ownsRow H e size s n ys:=by
 refine⟨h.1,?_⟩;rcases h.2 with h2 | ⟨g,cap,cur,hv,hg,hh,r⟩
 grind;exact .inr ⟨g,cap,cur,hv,hg,by rw[hk g (by rw[hv];rfl)];exact hh,r⟩
namespace VecS
variable {w w':World} {H:Nat} {v:Value} {qs:List Rat}
theorem lt(h:VecS w H v qs){k:Nat}(hk:v.ownBlock=some k):H<=k/\k<w.heap.size:=by obtain⟨l,_,_,h⟩:=h.row;exact h.lt k hk
theorem keepAll(h:VecS w H v qs)(hk:∀k,v.ownBlock=some k->w'.heap[k]? = w.heap[k]?)(hr:∀g s d q,RatS w g s d q->RatS w' g s d q):VecS w' H v qs:=by obtain⟨l,h1,c,e⟩:=h.row;exact⟨l,h1,λk r q a b=>hr _ _ _ _ (c k r q a b),zc9 e hk⟩
theorem below(h:VecS w H v qs)(a:Below w w w'):VecS w' H v qs:=h.keepAll (λk hk=>a.block k (h.lt hk).2) λ_ _ _ _ r=>r.below a
theorem alloc(h:VecS w H v qs)(o:Obj):VecS (w.alloc o) H v qs:=h.below (zae w o)
theorem drew(h:VecS w H v qs):VecS w.drew H v qs:=h.below (zap w 1)
theorem base(h:VecS w H v qs)(d:a<=H):VecS w a v qs:=by obtain⟨l,h1,b,c⟩:=h.row;exact⟨l,h1,b,zbu c d⟩
theorem setCell(h:VecS w H v qs){p:Addr}{t:TypeId}{cs:Array Value}(b:v.ownBlock≠some p.block)(hg:θ w p.block cs t)(a:206≠t)(u:Value):VecS (w.setCell p u) H v qs :=
 h.keepAll (λk hk=>ZE w p u k (λe=>b (by rw[hk,e]))) λ_ _ _ _ r=>⟨⟨r.num.abs.setCell hg a u,r.num.neg⟩,r.den.setCell hg a u⟩
theorem nil(w:World)(H:Nat):VecS w H () []:=⟨[],rfl,λk r q h=>by simp at h,Xo _ _ _ _⟩
theorem form(h:VecS w H (A,n,c) qs):n=qs.length/\n<=c/\c<=maxLen/\((A=none/\c=0/\qs=[])\/∃g,A=some ⟨g,0,none⟩/\H<=g/\g<w.heap.size):=by
 obtain⟨l,_,_,d⟩:=h.row;rcases d.2 with ⟨b,a⟩ | ⟨g,cap,cur,b,hg,e,a,hm,_⟩
 injection b with e1 e2 e3;subst e1 e2 e3;exact⟨a.symm,Za _,Zb _,.inl ⟨rfl,rfl,Xk.1 a⟩⟩;grind
theorem len(h:VecS w H (A,n,c) qs):n=qs.length:=h.form.1
theorem has(h:VecS w H (A,n,c) qs)(e:0<n):∃g,A=some ⟨g,0,none⟩/\H<=g/\g<w.heap.size:=by obtain⟨h1,b,d,a | a⟩:=h.form;omega;exact a
theorem slice(h:VecS w H v qs):∃A n c,v=.slice A n c:=by
 obtain⟨l,_,_,b⟩:=h.row;rcases b.2 with ⟨a,d⟩ | ⟨g,cap,cur,a,_⟩
 exact⟨_,_,_,a⟩;grind
theorem at_(h:VecS w H (b,n,c) qs)(hk:qs[k]? = some q) :
  ∃(g:Bool) (A:OA) (m c:Nat) (D:OA) (d a:Nat),χ w b (k*3) (.bool g)/\χ w b (k*3+1) (A,m,c)/\χ w b (k*3+2) (D,d,a)/\RatS w g (A,m,c) (D,d,a) q:=by
 have u:=h.len;subst u;obtain⟨l,h1,t,e⟩:=h.row;have x:k<qs.length:=(ZF.1 hk).1;obtain⟨r,hr⟩:∃r,l[k]? = some r:=⟨l[k]' ω,Ze _⟩
 have f:=t k r q hr hk;obtain⟨A,m,c,D,d,a,i,j⟩:=f.shape;obtain⟨o,p,s⟩:=ziI l k r hr;refine⟨r.1,A,m,c,D,d,a,?_,?_,?_,?_⟩;rw[e.cellAt _ ω];exact o;rw[e.cellAt _ ω,p,i];rw[e.cellAt _ ω,s,j];grind
theorem fro(h:VecS w H (b,n,c) qs)(j:Nat):w.frozen? ⟨b,j,none⟩=false:=by have d:=h.len;subst d;obtain⟨l,_,_,a⟩:=h.row;exact a.frozenAt j
theorem store(h:VecS w H (b,n,c) qs)(k:Nat)(y:RatS w g s d q) :
  VecS (((w.setCell ⟨b,k*3,none⟩ g).setCell ⟨b,k*3+1,none⟩ s).setCell ⟨b,k*3+2,none⟩ d) H (b,n,c) (qs.set k q):=by
 have p:=h.len;subst p;obtain⟨l,h1,t,i⟩:=h.row;have m:zff w (((w.setCell ⟨b,k*3,none⟩ g).setCell ⟨b,k*3+1,none⟩ s).setCell ⟨b,k*3+2,none⟩ d):=by
  intro j hj x;have e:j≠b:=by
   rintro rfl;rcases i.2 with ⟨f,p⟩ | ⟨g,cap,cur,f,hg,u,_⟩
   cases f;grind
  rw[ZE _ _ _ _ (by exact e),ZE _ _ _ _ (by exact e),ZE _ _ _ _ (by exact e)]
 refine⟨l.set k (g,s,d),by simp[h1],?_,?_⟩;intro j r z hr a;by_cases hj:k=j;subst hj;have o:=(ZF.1 hr).1;rw[ZQ]at o;rw[Yy o]at hr;rw[Yy ω]at a;injection hr with hr;injection a with a;subst hr a;exact y.keepT m;rw[YF hj]at hr a;exact(t j r z hr a).keepT m;rw[ZQ,<-zss];exact(((i.stored _ _).1.stored _ _).1.stored _ _).1
end VecS
theorem zh3{xs:List Value}(h:w.ownsRow H 62 3 v n xs)(hg:w.grownBy w' v.ownBlock):zff w w':=by
 intro k hk c;refine hg.block k hk λe=>?_;rcases h.2 with ⟨a,_⟩ | ⟨g,cap,cur,a,_,b,_⟩
 rw[a]at e;cases e;rw[a]at e;injection e with e;grind
theorem VecS.append{c:Value}{l:List RV}(b:l.length=qs.length)(hr:∀(k:Nat) (r:RV) (q:Rat),l[k]? = some r->qs[k]? = some q->RatS w r.1 r.2.1 r.2.2 q)(i:w.ownsRow H 62 3 v qs.length (rcells l))
     (f:RatS w g s d q) (e:w'.ownsRow H 62 3 c (qs.length+1) (rcells l++[.bool g,s,d])) (hg:w.grownBy w' v.ownBlock):VecS w' H c (qs++[q]):=by
 have hk:=zh3 i hg;refine⟨l++[(g,s,d)],by simp[b],?_,?_⟩;intro k r j h1 a;rcases XJ k l.length with h | h | h;rw[Z1 h]at h1;rw[Z1 ω]at a;exact(hr k r j h1 a).keepT hk;subst h;rw[ZJ (Za _)]at h1;rw[ZJ ω]at a;simp at h1;rw[b]at a;simp at a;subst h1 a;exact f.keepT hk;grind;rw[ZD,zh4];exact e
theorem zev{ops:Array Oper}{rest:List Oper}{o:Oper}{a:Act}{Q:Exit->Act->World->Prop}(I:o.guard=none)(s x:Operand)
    (J:o.op=.call { callee:=.builtin .append,args:=#[s,x],argTypes:=#[30,30] })    (M:a.eval s=v) (C:VecS w H v qs)  (N:a.eval x=.slice (some ⟨b,0,none⟩) 1 1)
        {t:Nat}  (G:θ w b #[g,(A,m,c),(D,t,n)] 62) (L:RatS w g (A,m,c) (D,t,n) q) (T:qs.length+1<=2000000) (z:H<=w.heap.size)
    (F:∀f e c' w',VecS w' H (.slice f e c') (qs++[q])->Below H w w'->e=qs.length+1->wpList prog ops Q rest (a.put o.dst (.slice f e c')) w'):wpList prog ops Q (o::rest) a w:=by
  obtain⟨S,hi,O,P,R⟩:=info_parts ze0;obtain⟨l,h1,E,y⟩:=C.row;have p:=λi=>zac G i
  refine wpList_append_own w I s x 30 J H 62 S _ 3 56 underlying30 hi O P R rfl δ v qs.length (rcells l) M y ⟨b,0,none⟩ 1 _ [.bool g,.slice A m c,.slice D t n] N rfl
    (by intro j u d
        match j,d with
        | 0,d=>exact(p 0).trans d
        | 1,d=>exact(p 1).trans d
        | 2,d=>exact(p 2).trans d
        | j+3,d=>simp at d)
    (by intro u d;simp at d;rcases d with rfl | rfl | rfl<;>rfl) (by unfold maxLen;omega) ω z ?_
  intro U w' K B _;have r:=VecS.append h1 E y L K B;obtain⟨f,e,c',rfl⟩:=r.slice;refine F f e c' w' r ((Zj _ _).grown B z (λk hk=>(C.lt hk).1)) (by rw[r.len];simp)
def zq5 (w:World) (qs:List Rat) (e:Ending) (w':World):Prop:=∃(A:OA) (n c:Nat),e=.returned (A,n,c)/\VecS w' w (A,n,c) qs/\Below w w w'
def zcd (w:World) (qs:List Rat) (b:Bool) (e:Ending) (w':World):Prop:=∃(A:OA) (n c:Nat),e=.returned (.tuple #[(A,n,c),b])/\VecS w' w (A,n,c) qs/\Below w w w'
attribute [local go_sem ↓] Go.wp_at_zero Go.wp_at_succ
theorem zvc(q:Rat):q.num<0↔q<0:=by have h:=Y3 (q:=q);grind
theorem zwb{p:Rat->Bool}(h:(qs.take k).any p=false)(b:qs[k]? = some q)(a:p q=false):(qs.take (k+1)).any p=false:=by rw[Xb,List.any_append,h,b];simp[a]
theorem ztV{p:Rat->Bool}(b:qs[k]? = some q)(a:p q=true):qs.any p=true:=ψ
namespace Vc
theorem below(A:OA)(n c:Nat)(qs:List Rat)(H:Nat)(w:World)(h:VecS w H (A,n,c) qs) :
  Calls prog 60 #[(A,n,c)] w λe w'=>e=.returned (.bool (qs.any λq=>decide (q<0)))/\Below w w w':=by
 have x:=h.len;have hf:=h.form;have r:=un x;have D:=un h;have J:n<=9223372036854775807:=by have G:=hf.2.2.1;unfold maxLen at G;omega
 have N:=un J;clear h hf x;go_enter func60,ntmps60;go_wp2
 go_loopw [7] (λi wr=>∃k:Nat,i=.int .i64 k/\k<=n/\Below w w wr/\(qs.take k).any (λq=>decide (q<0))=false)
  (λi _=>n-(intOf i).toNat)
 case atStart=>exact⟨0,rfl,Zb _,Zj _ _,rfl⟩
 obtain⟨k,rfl,hk,d,f⟩:=hrel;have l:=un d;have C:=un f;by_cases I:k<n
 ·have t:=un (D.o.below d);obtain⟨b,rfl,O,P⟩:=t.o.has ω;obtain⟨q,m⟩:∃q,qs[k]? = some q:=⟨qs[k]'(by rw[<-r.o];exact I),Ze _⟩
  obtain⟨g,y,L,E,z,M,F,S,T,k2,u⟩:=t.o.at_ m;have B:=un u;have s:=un m;have Q:(0:Int)<=(k:Int):=Zf _;have R:(k:Int)<(n:Int):=ω;clear d f u m;go_wp2_with fail
  refine(Rt.sign g y L E z M F q _ (B.o.alloc _)).mono ?_;rintro e U ⟨rfl,hb⟩;have o:=un (l.o.trans (((zae wr _).trans (hb.mono σ)).mono l.o.size));clear hb;by_cases j:q<0
  ·have K:=(zvc q).2 j;have a:=un (ztV (p:=λq=>decide (q<0)) s.o (ZT j));go_wp2;go_ret
   exact⟨by rw[a.o];rfl,o.o⟩
  have K:¬q.num<0:=λh=>j ((zvc q).1 h)
  have a:=un (zwb C.o s.o (Z3 j));go_wp2;go_roundw
  case rel=>exact⟨k+1,by go_num,ω,o.o,a.o⟩
  case measure=>simp[intOf];omega
 obtain rfl:k=n:=ω;have a:=un f;clear d f;go_wp2;go_ret;refine⟨?_,l.o⟩;have h:=a.o;rw[r.o,XK]at h;rw[h];rfl
end Vc
def rats (xs:List Int):List Rat:=xs.map fun(x:Int)=>(x:Rat)
theorem zvj{xs:List Int}{x:Int}(h:xs[k]? = some x):rats (xs.take (k+1))=rats (xs.take k)++[(x:Rat)]:=by unfold rats;rw[Xb,h];simp
namespace Vc
theorem of(b n c:Nat)(xs:List Int)(w:World)(y:n=xs.length)(a:∀j x,xs[j]? = some x->χ w b j (.int .i64 x))(hr:∀x∈xs, -9223372036854775808<=x/\x<=9223372036854775807)(u:n<=1000000)(hc:n<=c) :
  Calls prog 37 #[(b,n,c)] w (zq5 w (rats xs)):=by
 refine μ3 y a hr λq O J=>?_;have W:n<=9223372036854775807:=ω;have G:=un u;clear y a hr u;go_enter func37,ntmps37;go_wp2
 go_loopw [3,8] (λS i wr=>∃(k:Nat) (l:OA) (p c':Nat),i=.int .i64 k/\S=(l,p,c')/\k<=n/\VecS wr w (l,p,c') (rats (xs.take k))/\Below w w wr)
  (λ_ i _=>n-(intOf i).toNat)
 case atStart=>exact⟨0,none,0,0,rfl,rfl,Zb _,VecS.nil _ _,Zj _ _⟩
 obtain⟨k,l,p,c',rfl,rfl,hk,f,o⟩:=hrel;have L:=un f;have d:=un o;by_cases Q:k<n
 ·obtain⟨x,a⟩:∃x,xs[k]? = some x:=⟨xs[k]'(by rw[<-q.o];exact Q),Ze _⟩
  have h0:χ wr b k (.int .i64 x):=zab d.o (O.o k x a);have I:=un a;have r:=un (J.o x (Zz a));have U:(0:Int)<=(k:Int):=Zf _;have V:(k:Int)<(n:Int):=ω;clear o f a;go_wp2_with fail
  refine(Rt.int x r.o.1 r.o.2 _).mono ?_;rintro e T ⟨g,A,m,c2,D,md,cd,rfl,hq,hb⟩;refine μ4 (show w.heap.size<=T.heap.size from Zl d.o.size hb.size) (d.o.trans (hb.mono d.o.size)) (L.o.below hb) hq λs C M K=>?_;clear hb hq;go_wp2_with (at_builtin;go_loud (refine zev rfl _ _ rfl rfl (M.o.alloc _) rfl (zal _ _ _) (K.o.alloc _) (by unfold rats;rw[ZK,ZG];have:=G.o;omega) (by have:=s.o;simp;omega) ?_;intro B X P Y z t R;have N:=un z;have E:=un t;clear z t))
  subst R;exact⟨⟨k+1,B,_,P,σ,rfl,ω,by rw[zvj I.o];exact N.o,(C.o.alloc s.o _).trans E.o⟩,by simp[intOf];omega⟩
 obtain rfl:k=n:=ω;have F:=un f;clear o f;go_wp2;go_ret;refine⟨_,_,_,rfl,?_,d.o⟩;have h:=F.o;rw[q.o,XK]at h;exact h
end Vc
def fr (p d:Int):Rat:=if d=0 then (p:Rat)else Rat.divInt p d
theorem zAG{d:Int}(h:d=0):fr p d=(p:Rat):=by unfold fr;rw[if_pos h]
theorem zDB{d:Int}(h:d≠0):fr p d=Rat.divInt p d:=by unfold fr;rw[if_neg h]
namespace Lw
theorem zxr(p d:Int)(b:d=0)(g : -9223372036854775808<=p)(i:p<=9223372036854775807)(w:World):Calls prog 44 #[.agg #[.int .i64 p,.int .i64 d]] w (ze4 w (fr p d)):=by
 have k:=un (zAG (p:=p) b);have y:(d == 0)=true:=by rw[b];rfl
 have f:=un (And.intro g i);clear g i b;obtain⟨W,a⟩:∃W,((w.alloc (.cells #[.int .i64 p,.int .i64 d] 109)).alloc (.cells #[false,(),()] 62))=W:=⟨_,rfl⟩
 refine μ3 (show θ W w.heap.size #[.int .i64 p,.int .i64 d] 109by rw[<-a];exact zak (zam σ)) (show θ W (w.heap.size+1) #[false,(),()] 62by rw[<-a];exact zam σ) (show Below w w W by rw[<-a];exact(zae w _).alloc σ _) λm n c=>?_;obtain⟨z,_,A,_⟩:=bc2 m.o;go_enter func44,ntmps44;go_wp2_with fail
 clear a;with_reducible refine(Rt.int p f.o.1 f.o.2 _).mono ?_
 rintro e w1 ⟨g3,A3,m3,c3,D3,md3,cd3,rfl,hn,hb⟩;refine μ3 (zad hb n.o) (show RatS w1 g3 (A3,m3,c3) (D3,md3,cd3) (p:Rat)from hn) (c.o.trans ((hb).mono c.o.size)) λj l q=>?_;obtain⟨t,r,C,_,u,o,B,_,s,x,D,_⟩:=bf3 j.o;clear hn hb;go_wp2;refine Zh (v:=.agg #[g3,(A3,m3,c3),(D3,md3,cd3)]) (by simp[results,results44,go_sem,t,r,u,o,s,x]) rfl ?_;rw[k.o];exact⟨g3,A3,m3,c3,D3,md3,cd3,rfl,l.o.set3 j.o δ _ _ _,bsc (bsc (bsc q.o))⟩
end Lw
def mw (q:Rat):Nat:=max (wlen q.num.natAbs) (wlen q.den)
theorem zd2(q:Rat):wlen q.num.natAbs<=mw q:=Vl _ _
theorem zds(q:Rat):wlen q.den<=mw q:=Vm _ _
theorem zfO(x y:Int):wlen (x*y).natAbs<=wlen x.natAbs+wlen y.natAbs:=by rw[XZ];simp[zdy]
theorem zvC(x y:Int):wlen (x+y).natAbs<=max (wlen x.natAbs) (wlen y.natAbs)+1:=Zl (zco (Int.natAbs_add_le x y)) (zgg _ _)
theorem zhX(x y:Int)(a:y≠0):mw (Rat.divInt x y)<=max (wlen x.natAbs) (wlen y.natAbs):=by
 have h1:wlen (Rat.divInt x y).num.natAbs<=wlen x.natAbs:=by
  rw[<-Rt.div_num x y a];split
  rw[Y5,XL];exact zco (Ya _ _);rw[XL];exact zco (Ya _ _)
 have b:wlen (Rat.divInt x y).den<=wlen y.natAbs:=by rw[<-Rt.div_den x y a];simp[zco,Ya]
 unfold mw;omega
theorem zrl(a b:Rat):((a.den*b.den:Nat):Int)≠0:=by have:=YU a.den_pos b.den_pos;omega
theorem ztR(a b:Rat):Rat.divInt (a.num*(b.den:Int)+b.num*(a.den:Int)) ((a.den*b.den:Nat):Int)=a+b:=by rw[Rat.add_def',Y7]
theorem zu5(a b:Rat):Rat.divInt (a.num*b.num) ((a.den*b.den:Nat):Int)=a*b:=by rw[Rat.mul_def',Y7]
theorem zpc(a b:Rat):wlen (a.num*(b.den:Int)+b.num*(a.den:Int)).natAbs<=mw a+mw b+1:=by have h1:=zvC (a.num*(b.den:Int)) (b.num*(a.den:Int));have c:=zfO a.num (b.den:Int);have d:=zfO b.num (a.den:Int);rw[XL]at c d;have:=zd2 a;have:=zd2 b;have:=zds a;have:=zds b;omega
theorem zic(a b:Rat):wlen (((a.den*b.den:Nat):Int)).natAbs<=mw a+mw b:=by rw[XL];have:=zdy a.den b.den;have:=zds a;have:=zds b;omega
theorem zpd(a b:Rat):wlen (a.num*b.num).natAbs<=mw a+mw b:=by have:=zfO a.num b.num;have:=zd2 a;have:=zd2 b;omega
theorem zrI(a b:Rat):mw (a+b)<=mw a+mw b+1:=by rw[<-ztR];have:=zhX (a.num*(b.den:Int)+b.num*(a.den:Int)) _ (zrl a b);have:=zpc a b;have:=zic a b;omega
theorem zdI(a b:Rat):mw (a*b)<=mw a+mw b:=by rw[<-zu5];have:=zhX (a.num*b.num) _ (zrl a b);have:=zpd a b;have:=zic a b;omega
theorem zhY(a:Rat):mw (-a)=mw a:=by unfold mw;rw[Y8,Rat.neg_den,Y5]
def ziR (B:World) (s:Value) (w:World) (z:Int):Prop:=∃(nb:Nat) (g:Bool) (A:OA) (m c:Nat),s=.pointer (some ⟨nb,0,none⟩)/\Below B B w/\B.heap.size<=nb/\θ w nb #[g,(A,m,c)] 60/\IntS w g (A,m,c) z
theorem ziR.of{z:Int}(b:Below B B ((u.setCell ⟨a,0,none⟩ g).setCell ⟨a,1,none⟩ (A,m,c)))(d:B.heap.size<=a)(hk:θ u a #[v0,v1] 60)(hi:IntS u g (A,m,c) z) :
  ziR B (.pointer (some ⟨a,0,none⟩)) ((u.setCell ⟨a,0,none⟩ g).setCell ⟨a,1,none⟩ (A,m,c)) z :=
 ⟨a,g,A,m,c,rfl,b,d,zar _ (zar _ hk),hi.set2 hk δ _ _⟩
def zcD (B:World) (s:Value) (w:World) (q:Rat):Prop:=∃(nb:Nat) (g:Bool) (A:OA) (m c:Nat) (D:OA) (md cd:Nat),s=.pointer (some ⟨nb,0,none⟩)/\Below B B w/\B.heap.size<=nb/\θ w nb #[g,(A,m,c),(D,md,cd)] 62/\RatS w g (A,m,c) (D,md,cd) q
theorem zcD.of{d:Nat}{i:Value}(e:Below B B (((u.setCell ⟨a,0,none⟩ g).setCell ⟨a,1,none⟩ (A,m,c)).setCell ⟨a,2,none⟩ (D,d,b)))(f:B.heap.size<=a)(hk:θ u a #[v0,v1,i] 62)(hi:RatS u g (A,m,c) (D,d,b) q) :
  zcD B (.pointer (some ⟨a,0,none⟩)) (((u.setCell ⟨a,0,none⟩ g).setCell ⟨a,1,none⟩ (A,m,c)).setCell ⟨a,2,none⟩ (D,d,b)) q :=
 ⟨a,g,A,m,c,D,d,b,rfl,e,f,zar _ (zar _ (zar _ hk)),hi.set3 hk δ _ _ _⟩
theorem zbc{w1:World}{cs:Array Value}{t:TypeId}(a:Below w w w1)(h:θ w b cs t):θ w1 b cs t:=zad a h
theorem IntS.nat(h:IntS w g s (n:Int)):zas w s n:=h.abs
