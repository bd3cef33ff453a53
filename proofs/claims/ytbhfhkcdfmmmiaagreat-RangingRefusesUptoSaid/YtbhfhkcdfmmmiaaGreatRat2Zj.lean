/- Contracts and lemmas: Rat2 Rat3. Conditions: as each says. -/
import Derived.Test.YtbhfhkcdfmmmiaaGreatRat1Zj
set_option linter.all false
set_option maxHeartbeats 20000000
set_option maxRecDepth 100000
namespace Go.Proofs.YtbhfhkcdfmmmiaaGreat
open Go.RowKit Am Tryz
attribute [local go_sem ↓] Go.wp_at_zero Go.wp_at_succ
namespace Rt
theorem zwe(g:Bool)(A:OA)(m c:Nat)(D:OA)(d b:Nat)(q:Rat)(w:World)(h:IntS w g (A,m,c) q.num)(j:zas w (D,d,b) q.den)(f:q.den=1) :
  Calls prog 92 #[.agg #[g,(A,m,c)],.agg #[(D,d,b)]] w (ze4 w q):=by
 have n:=un f;have k:q.den<18446744073709551616:=by rw[f];decide
 have o:=un k;have h1:((q.den:Int) == 1)=true:=by rw[f];rfl
 clear f k;obtain⟨W,a⟩:∃W,(((w.alloc (.cells #[g,(A,m,c)] 39)).alloc (.cells #[(D,d,b)] 37)).alloc (.cells #[false,(),()] 41))=W:=⟨_,rfl⟩
 have t:=un (show W.heap[w.heap.size]? = some (.cells #[g,(A,m,c)] 39 (0,0))by rw[←a];exact zak (zak (zam (by simp))));have u:=un (show W.heap[w.heap.size+1]? = some (.cells #[(D,d,b)] 37 (0,0))by rw[←a];exact zak (zam (by simp)));have x:=un (show W.heap[w.heap.size+1+1]? = some (.cells #[false,(),()] 41 (0,0))by rw[←a];exact zam (by simp))
 have i:=un (show Below w w W by rw[←a];exact((zae w _).alloc (by simp) _).alloc (by simp;omega) _);have r:=un (show IntS W g (A,m,c) q.num by rw[←a];exact(((h).alloc _).alloc _).alloc _);have s:=un (show zas W (D,d,b) q.den by rw[←a];exact(((j).alloc _).alloc _).alloc _);obtain⟨L,_⟩:=bc1 u.o;clear h j;go_enter func92,ntmps92;go_wp2_with fail
 clear a;with_reducible refine(Nt.uint_one (D,d,b) q.den o.o _ s.o).mono ?_
 rintro e w1 ⟨rfl,hb⟩;have z:=un (zad hb t.o);have l:=un (zad hb x.o);have I:=un (r.o.below hb);have y:=un (i.o.trans ((hb).mono i.o.size));obtain⟨J,_,K,_⟩:=bc2 z.o;obtain⟨F,C,O,_,G,E,M,_,H,B,N,_⟩:=bf3 l.o;clear hb;go_wp2;refine Zd (v:=.agg #[g,(A,m,c),()]) (by simp[results,results92,go_sem,F,C,G,E,H,B]) rfl ?_;have hi:RatS w1 g (A,m,c) () q:=⟨I.o,by rw[zyk n.o];exact zas.zero _⟩
 exact⟨g,A,m,c,none,0,0,rfl,hi.set3 l.o (by decide) _ _ _,bsc (bsc (bsc y.o))⟩
theorem ztY(g:Bool)(A:OA)(m c:Nat)(D:OA)(b a:Nat)(q:Rat)(w:World)(h:IntS w g (A,m,c) q.num)(k:zas w (D,b,a) q.den)(l:q.den≠1)(n:q.den<18446744073709551616) :
  Calls prog 92 #[.agg #[g,(A,m,c)],.agg #[(D,b,a)]] w (ze4 w q):=by
 have r:=un l;have s:=un n;have h1:((q.den:Int) == 1)=false:=by rw[show((q.den:Int) == 1)=decide ((q.den:Int)=1)from rfl,Zu];omega
 clear l n;obtain⟨W,d⟩:∃W,(((w.alloc (.cells #[g,(A,m,c)] 39)).alloc (.cells #[(D,b,a)] 37)).alloc (.cells #[false,(),()] 41))=W:=⟨_,rfl⟩
 have u:=un (show W.heap[w.heap.size]? = some (.cells #[g,(A,m,c)] 39 (0,0))by rw[←d];exact zak (zak (zam (by simp))));have j:=un (show W.heap[w.heap.size+1]? = some (.cells #[(D,b,a)] 37 (0,0))by rw[←d];exact zak (zam (by simp)));have x:=un (show W.heap[w.heap.size+1+1]? = some (.cells #[false,(),()] 41 (0,0))by rw[←d];exact zam (by simp))
 have f:=un (show Below w w W by rw[←d];exact((zae w _).alloc (by simp) _).alloc (by simp;omega) _);have t:=un (show IntS W g (A,m,c) q.num by rw[←d];exact(((h).alloc _).alloc _).alloc _);have i:=un (show zas W (D,b,a) q.den by rw[←d];exact(((k).alloc _).alloc _).alloc _);obtain⟨O,_⟩:=bc1 j.o;clear h k;go_enter func92,ntmps92;go_wp2_with fail
 clear d;with_reducible refine(Nt.uint_one (D,b,a) q.den s.o _ i.o).mono ?_
 rintro e w1 ⟨rfl,hb⟩;have B:=un (zad hb u.o);have y:=un (zad hb j.o);have o:=un (zad hb x.o);have J:=un (t.o.below hb);have K:=un (i.o.below hb);have z:=un (f.o.trans ((hb).mono f.o.size));obtain⟨L,_,M,_⟩:=bc2 B.o;obtain⟨N,_⟩:=bc1 y.o;obtain⟨G,E,R,_,H,F,P,_,I,C,Q,_⟩:=bf3 o.o;clear hb;go_wp2;refine Zd (v:=.agg #[g,(A,m,c),(D,b,a)]) (by simp[results,results92,go_sem,G,E,H,F,I,C]) rfl ?_
 have hi:RatS w1 g (A,m,c) (D,b,a) q:=⟨J.o,by rw[zp0 r.o];exact K.o⟩
 exact⟨g,A,m,c,D,b,a,rfl,hi.set3 o.o (by decide) _ _ _,bsc (bsc (bsc z.o))⟩
theorem zwd(g:Bool)(A:OA)(m c:Nat)(D:OA)(b a:Nat)(q:Rat)(w:World)(h:IntS w g (A,m,c) q.num)(k:zas w (D,b,a) q.den)(l:18446744073709551616≤q.den) :
  Calls prog 92 #[.agg #[g,(A,m,c)],.agg #[(D,b,a)]] w (ze4 w q):=by
 have o:=un (show q.den≠1 by omega);have r:=un l;clear l;obtain⟨W,d⟩:∃W,(((w.alloc (.cells #[g,(A,m,c)] 39)).alloc (.cells #[(D,b,a)] 37)).alloc (.cells #[false,(),()] 41))=W:=⟨_,rfl⟩
 have t:=un (show W.heap[w.heap.size]? = some (.cells #[g,(A,m,c)] 39 (0,0))by rw[←d];exact zak (zak (zam (by simp))));have j:=un (show W.heap[w.heap.size+1]? = some (.cells #[(D,b,a)] 37 (0,0))by rw[←d];exact zak (zam (by simp)));have u:=un (show W.heap[w.heap.size+1+1]? = some (.cells #[false,(),()] 41 (0,0))by rw[←d];exact zam (by simp))
 have f:=un (show Below w w W by rw[←d];exact((zae w _).alloc (by simp) _).alloc (by simp;omega) _);have s:=un (show IntS W g (A,m,c) q.num by rw[←d];exact(((h).alloc _).alloc _).alloc _);have i:=un (show zas W (D,b,a) q.den by rw[←d];exact(((k).alloc _).alloc _).alloc _);obtain⟨N,_⟩:=bc1 j.o;clear h k;go_enter func92,ntmps92;go_wp2_with fail
 clear d;with_reducible refine(Nt.uint_more (D,b,a) q.den r.o _ i.o).mono ?_
 rintro e w1 ⟨rfl,hb⟩;have z:=un (zad hb t.o);have x:=un (zad hb j.o);have n:=un (zad hb u.o);have I:=un (s.o.below hb);have J:=un (i.o.below hb);have y:=un (f.o.trans ((hb).mono f.o.size));obtain⟨K,_,L,_⟩:=bc2 z.o;obtain⟨M,_⟩:=bc1 x.o;obtain⟨F,C,Q,_,G,E,O,_,H,B,P,_⟩:=bf3 n.o;clear hb;go_wp2;refine Zd (v:=.agg #[g,(A,m,c),(D,b,a)]) (by simp[results,results92,go_sem,F,C,G,E,H,B]) rfl ?_
 have hi:RatS w1 g (A,m,c) (D,b,a) q:=⟨I.o,by rw[zp0 o.o];exact J.o⟩
 exact⟨g,A,m,c,D,b,a,rfl,hi.set3 n.o (by decide) _ _ _,bsc (bsc (bsc y.o))⟩
theorem bare(g:Bool)(A:OA)(m c:Nat)(D:OA)(b a:Nat)(q:Rat)(w:World)(h:IntS w g (A,m,c) q.num)(d:zas w (D,b,a) q.den)  :
  Calls prog 92 #[.agg #[g,(A,m,c)],.agg #[(D,b,a)]] w (ze4 w q):=by grind[zwe,ztY,zwd]
theorem div_num(x y:Int)(c:y≠0):(if (!(decide (x<0) == decide (y<0)))=true then -((x.natAbs/Nat.gcd x.natAbs y.natAbs:Nat):Int)else ((x.natAbs/Nat.gcd x.natAbs y.natAbs:Nat):Int))=(Rat.divInt x y).num:=by
 rw[Rat.num_divInt];have hg:y.gcd x=Nat.gcd x.natAbs y.natAbs:=by rw[Int.gcd_comm];rfl
 rw[hg];have b:(Nat.gcd x.natAbs y.natAbs)∣x.natAbs:=Nat.gcd_dvd_left _ _;generalize Nat.gcd x.natAbs y.natAbs=k at *
 have e:((x.natAbs/k:Nat):Int)=(x.natAbs:Int)/(k:Int):=Xv _ _;rw[e];have en:(-(x.natAbs:Int))/(k:Int) = -((x.natAbs:Int)/(k:Int)):=Int.neg_ediv_of_dvd (Int.natCast_dvd_natCast.2 b);grind
theorem div_den(x y:Int)(a:y≠0):y.natAbs/Nat.gcd x.natAbs y.natAbs=(Rat.divInt x y).den:=by
 rw[Rat.den_divInt,if_neg a,Int.gcd_comm];rfl
end Rt
namespace Rt
theorem newd(g:Bool)(A:OA)(m c:Nat)(x:Int)(g':Bool)(B:OA)(m' c':Nat)(y:Int)(w:World)(h:IntS w g (A,m,c) x)(T:IntS w g' (B,m',c') y)(O:y≠0)(U:wlen x.natAbs+1≤LIM)(V:wlen y.natAbs+1≤LIM) :
  Calls prog 47 #[.agg #[g,(A,m,c)],.agg #[g',(B,m',c')]] w (zii w (Rat.divInt x y) true):=by
 have dq:(y.sign == 0)=false:=by rw[show(y.sign == 0)=decide (y.sign=0)from rfl,Zu];rw[Vb];exact O
 have N:=un O;have cx:=un U;have cy:=un V;clear O U V;obtain⟨W,n⟩:∃W,(((w.alloc (.cells #[g,(A,m,c)] 39)).alloc (.cells #[g',(B,m',c')] 39)).alloc (.cells #[false,(),()] 41))=W:=⟨_,rfl⟩
 have cD:=un (show W.heap[w.heap.size]? = some (.cells #[g,(A,m,c)] 39 (0,0))by rw[←n];exact zak (zak (zam (by simp))));have S:=un (show W.heap[w.heap.size+1]? = some (.cells #[g',(B,m',c')] 39 (0,0))by rw[←n];exact zak (zam (by simp)));have cE:=un (show W.heap[w.heap.size+1+1]? = some (.cells #[false,(),()] 41 (0,0))by rw[←n];exact zam (by simp))
 have P:=un (show Below w w W by rw[←n];exact((zae w _).alloc (by simp) _).alloc (by simp;omega) _);have HZ:=un (show w.heap.size+3≤W.heap.size by rw[←n];simp);have HX:=un (show IntS W g (A,m,c) x by rw[←n];exact(((h).alloc _).alloc _).alloc _);have R:=un (show IntS W g' (B,m',c') y by rw[←n];exact(((T).alloc _).alloc _).alloc _);obtain⟨dB,_,dy,_⟩:=bc2 S.o;clear h T;go_enter func47,ntmps47;go_wp2_with fail
 clear n;with_reducible refine(It.sign g' B m' c' y _ R.o).mono ?_
 rintro e w1 ⟨rfl,hb⟩;have ae:=un (zad hb cD.o);have ab:=un (zad hb S.o);have am:=un (zad hb cE.o);have aE:=un (HX.o.below hb);have cs:=un (R.o.below hb);have ad:=un (P.o.trans ((hb).mono P.o.size));obtain⟨cU,_,cV,_⟩:=bc2 ae.o;obtain⟨cW,_,cX,_⟩:=bc2 ab.o;clear hb;go_wp2_with fail
 have Q:=un (show ∀w',Below w1 w1 w'→((w'.cell? ⟨w,0,none⟩=some (.bool g)∧w'.cell? ⟨w,1,none⟩=some (A,m,c)∧w'.cell? ⟨w.heap.size+1,0,none⟩=some (.bool g')∧w'.cell? ⟨w.heap.size+1,1,none⟩=some (B,m',c'))∧Below w1 w1 w')from fun w' h=>⟨⟨zab h cU,zab h cV,zab h cW,zab h cX⟩,h⟩)
 go_cut[6,7] (fun s6 s7 wr=>∃(D E:Nat) (d:OA) (k i:Nat) (f:OA) (l j:Nat),s6=.pointer (some ⟨D,0,none⟩)∧s7=.pointer (some ⟨E,0,none⟩)∧Below w1 w1 wr∧wr.cell? ⟨D,0,none⟩=some (d,k,i)∧wr.cell? ⟨E,0,none⟩=some (f,l,j)∧zas wr (d,k,i) (x.natAbs/Nat.gcd x.natAbs y.natAbs)∧zas wr (f,l,j) (y.natAbs/Nat.gcd x.natAbs y.natAbs)∧w1.heap.size≤D∧w1.heap.size≤E)
 case first =>
  go_region_held3 (fun w'=>((w'.cell? ⟨w,0,none⟩=some (.bool g)∧w'.cell? ⟨w,1,none⟩=some (A,m,c)∧w'.cell? ⟨w.heap.size+1,0,none⟩=some (.bool g')∧w'.cell? ⟨w.heap.size+1,1,none⟩=some (B,m',c'))∧Below w1 w1 w'))
   ((refine Q.o _ ?_;repeat(first | exact Zg _ _ | exact(by assumption:_∧Below _ _ _).2 | with_reducible refine bdrew ?_ | with_reducible refine al2 ?_ _ | with_reducible refine set2 ?_ (by omega) | with_reducible refine zc1 ?_ (by assumption))))
   (first
    | (go_at_call 91;(with_reducible refine(It.abs g A m c _).mono ?_);rintro e u1 ⟨rfl,hb1⟩;have cF:=hb1.size;(try simp at cF);have ds:=(by omega);(try((first | (have a:=zan (b:=w1.heap.size) (v:=.slice none 0 0) (t:=37) hb1 (zal _ _ _);obtain⟨o,⟨aN,aQ⟩,⟨aO,aR⟩,⟨aP,aS⟩,⟨aT,aU⟩,aV,aW⟩:=a) | (have a:=zan (b:=w1.heap.size) (v:=.slice none 0 0) (t:=37) hb1 (zak (zal _ _ _));obtain⟨o,⟨aN,aQ⟩,⟨aO,aR⟩,⟨aP,aS⟩,⟨aT,aU⟩,aV,aW⟩:=a) | (have a:=zan (b:=w1.heap.size) (v:=.slice none 0 0) (t:=37) hb1 (zbD _ _ _ _);obtain⟨o,⟨aN,aQ⟩,⟨aO,aR⟩,⟨aP,aS⟩,⟨aT,aU⟩,aV,aW⟩:=a));have o:=un o));(try((first | (have a:=zan (b:=w1.heap.size+1) (v:=.slice none 0 0) (t:=37) hb1 (zal _ _ _);obtain⟨z,⟨bE,bH⟩,⟨bF,bI⟩,⟨bG,bJ⟩,⟨bK,bL⟩,bt,bu⟩:=a) | (have a:=zan (b:=w1.heap.size+1) (v:=.slice none 0 0) (t:=37) hb1 (zak (zal _ _ _));obtain⟨z,⟨bE,bH⟩,⟨bF,bI⟩,⟨bG,bJ⟩,⟨bK,bL⟩,bt,bu⟩:=a) | (have a:=zan (b:=w1.heap.size+1) (v:=.slice none 0 0) (t:=37) hb1 (zbD _ _ _ _);obtain⟨z,⟨bE,bH⟩,⟨bF,bI⟩,⟨bG,bJ⟩,⟨bK,bL⟩,bt,bu⟩:=a));have z:=un z)))
    | (go_at_call 91;(with_reducible refine(It.abs g' B m' c' _).mono ?_);rintro e u2 ⟨rfl,hb2⟩;have cG:=hb2.size;(try simp at cG);have dt:w1.heap.size≤u2.heap.size:=(by omega);(try((first | (have a:=zan (b:=w1.heap.size) (v:=.slice none 0 0) (t:=37) hb2 (o.o);obtain⟨r,⟨ar,aw⟩,⟨au,ax⟩,⟨av,ay⟩,⟨az,aA⟩,aB,aC⟩:=a) | (have a:=zan (b:=w1.heap.size) (v:=.slice none 0 0) (t:=37) hb2 (zak o.o);obtain⟨r,⟨ar,aw⟩,⟨au,ax⟩,⟨av,ay⟩,⟨az,aA⟩,aB,aC⟩:=a) | (have a:=zan (b:=w1.heap.size) (v:=.slice none 0 0) (t:=37) hb2 (zak (zak o.o));obtain⟨r,⟨ar,aw⟩,⟨au,ax⟩,⟨av,ay⟩,⟨az,aA⟩,aB,aC⟩:=a));have r:=un r));(try((first | (have a:=zan (b:=w1.heap.size+1) (v:=.slice none 0 0) (t:=37) hb2 (z.o);obtain⟨C,⟨bv,bz⟩,⟨bw,bA⟩,⟨bx,bB⟩,⟨bC,bD⟩,b2,b3⟩:=a) | (have a:=zan (b:=w1.heap.size+1) (v:=.slice none 0 0) (t:=37) hb2 (zak z.o);obtain⟨C,⟨bv,bz⟩,⟨bw,bA⟩,⟨bx,bB⟩,⟨bC,bD⟩,b2,b3⟩:=a) | (have a:=zan (b:=w1.heap.size+1) (v:=.slice none 0 0) (t:=37) hb2 (zak (zak z.o));obtain⟨C,⟨bv,bz⟩,⟨bw,bA⟩,⟨bx,bB⟩,⟨bC,bD⟩,b2,b3⟩:=a));have C:=un C));(try((first | (have a:=zan (b:=u1.heap.size) (v:=.slice none 0 0) (t:=37) hb2 (zal _ _ _);obtain⟨s,⟨aX,aG⟩,⟨aY,aH⟩,⟨aF,aI⟩,⟨aJ,aK⟩,aL,aM⟩:=a) | (have a:=zan (b:=u1.heap.size) (v:=.slice none 0 0) (t:=37) hb2 (zak (zal _ _ _));obtain⟨s,⟨aX,aG⟩,⟨aY,aH⟩,⟨aF,aI⟩,⟨aJ,aK⟩,aL,aM⟩:=a) | (have a:=zan (b:=u1.heap.size) (v:=.slice none 0 0) (t:=37) hb2 (zbD _ _ _ _);obtain⟨s,⟨aX,aG⟩,⟨aY,aH⟩,⟨aF,aI⟩,⟨aJ,aK⟩,aL,aM⟩:=a));have s:=un s));(try((first | (have a:=zan (b:=u1.heap.size+1) (v:=.slice none 0 0) (t:=37) hb2 (zal _ _ _);obtain⟨u,⟨b4,b7⟩,⟨b5,b8⟩,⟨b6,b9⟩,⟨ca,cb⟩,cc,cd⟩:=a) | (have a:=zan (b:=u1.heap.size+1) (v:=.slice none 0 0) (t:=37) hb2 (zak (zal _ _ _));obtain⟨u,⟨b4,b7⟩,⟨b5,b8⟩,⟨b6,b9⟩,⟨ca,cb⟩,cc,cd⟩:=a) | (have a:=zan (b:=u1.heap.size+1) (v:=.slice none 0 0) (t:=37) hb2 (zbD _ _ _ _);obtain⟨u,⟨b4,b7⟩,⟨b5,b8⟩,⟨b6,b9⟩,⟨ca,cb⟩,cc,cd⟩:=a));have u:=un u)))
    | (go_at_call 90;(with_reducible refine(Gc.reduce A B m c m' c' x.natAbs y.natAbs _ (by have h:=(aE.o.below (by assumption:_∧Below _ _ _).2);exact h.abs) (by have h:=(cs.o.below (by assumption:_∧Below _ _ _).2);exact h.abs) (Int.natAbs_pos.2 N.o) cx.o cy.o).mono ?_);rintro e u3 ⟨d,k,i,f,l,j,rfl,hn,hn2,hb3⟩;have cH:=hb3.size;(try simp at cH);have du:w1.heap.size≤u3.heap.size:=(by omega);(try((first | (have a:=zan (b:=w1.heap.size) (v:=.slice none 0 0) (t:=37) hb3 (r.o);obtain⟨G,⟨bf,bi⟩,⟨bg,aZ⟩,⟨bh,a0⟩,⟨a1,a2⟩,a3,a4⟩:=a) | (have a:=zan (b:=w1.heap.size) (v:=.slice none 0 0) (t:=37) hb3 (zak r.o);obtain⟨G,⟨bf,bi⟩,⟨bg,aZ⟩,⟨bh,a0⟩,⟨a1,a2⟩,a3,a4⟩:=a) | (have a:=zan (b:=w1.heap.size) (v:=.slice none 0 0) (t:=37) hb3 (zak (zak r.o));obtain⟨G,⟨bf,bi⟩,⟨bg,aZ⟩,⟨bh,a0⟩,⟨a1,a2⟩,a3,a4⟩:=a));have G:=un G));(try((first | (have a:=zan (b:=w1.heap.size+1) (v:=.slice none 0 0) (t:=37) hb3 (C.o);obtain⟨J,⟨ce,ch⟩,⟨cf,ci⟩,⟨cg,cj⟩,⟨ck,cl⟩,cm,cn⟩:=a) | (have a:=zan (b:=w1.heap.size+1) (v:=.slice none 0 0) (t:=37) hb3 (zak C.o);obtain⟨J,⟨ce,ch⟩,⟨cf,ci⟩,⟨cg,cj⟩,⟨ck,cl⟩,cm,cn⟩:=a) | (have a:=zan (b:=w1.heap.size+1) (v:=.slice none 0 0) (t:=37) hb3 (zak (zak C.o));obtain⟨J,⟨ce,ch⟩,⟨cf,ci⟩,⟨cg,cj⟩,⟨ck,cl⟩,cm,cn⟩:=a));have J:=un J));(try((first | (have a:=zan (b:=u1.heap.size) (v:=.slice none 0 0) (t:=37) hb3 (s.o);obtain⟨H,⟨a5,a8⟩,⟨a6,a9⟩,⟨a7,ba⟩,⟨bb,bc⟩,bd,be⟩:=a) | (have a:=zan (b:=u1.heap.size) (v:=.slice none 0 0) (t:=37) hb3 (zak s.o);obtain⟨H,⟨a5,a8⟩,⟨a6,a9⟩,⟨a7,ba⟩,⟨bb,bc⟩,bd,be⟩:=a) | (have a:=zan (b:=u1.heap.size) (v:=.slice none 0 0) (t:=37) hb3 (zak (zak s.o));obtain⟨H,⟨a5,a8⟩,⟨a6,a9⟩,⟨a7,ba⟩,⟨bb,bc⟩,bd,be⟩:=a));have H:=un H));(try((first | (have a:=zan (b:=u1.heap.size+1) (v:=.slice none 0 0) (t:=37) hb3 (u.o);obtain⟨K,⟨co,cr⟩,⟨cp,bM⟩,⟨cq,bN⟩,⟨bO,bP⟩,bQ,bR⟩:=a) | (have a:=zan (b:=u1.heap.size+1) (v:=.slice none 0 0) (t:=37) hb3 (zak u.o);obtain⟨K,⟨co,cr⟩,⟨cp,bM⟩,⟨cq,bN⟩,⟨bO,bP⟩,bQ,bR⟩:=a) | (have a:=zan (b:=u1.heap.size+1) (v:=.slice none 0 0) (t:=37) hb3 (zak (zak u.o));obtain⟨K,⟨co,cr⟩,⟨cp,bM⟩,⟨cq,bN⟩,⟨bO,bP⟩,bQ,bR⟩:=a));have K:=un K));(try((first | (have a:=zan (b:=u2.heap.size) (v:=.slice none 0 0) (t:=37) hb3 (zal _ _ _);obtain⟨I,⟨bj,bm⟩,⟨bk,bn⟩,⟨bl,bo⟩,⟨bp,bq⟩,br,bs⟩:=a) | (have a:=zan (b:=u2.heap.size) (v:=.slice none 0 0) (t:=37) hb3 (zak (zal _ _ _));obtain⟨I,⟨bj,bm⟩,⟨bk,bn⟩,⟨bl,bo⟩,⟨bp,bq⟩,br,bs⟩:=a) | (have a:=zan (b:=u2.heap.size) (v:=.slice none 0 0) (t:=37) hb3 (zbD _ _ _ _);obtain⟨I,⟨bj,bm⟩,⟨bk,bn⟩,⟨bl,bo⟩,⟨bp,bq⟩,br,bs⟩:=a));have I:=un I));(try((first | (have a:=zan (b:=u2.heap.size+1) (v:=.slice none 0 0) (t:=37) hb3 (zal _ _ _);obtain⟨L,⟨bS,bV⟩,⟨bT,bW⟩,⟨bU,bX⟩,⟨bY,bZ⟩,b0,b1⟩:=a) | (have a:=zan (b:=u2.heap.size+1) (v:=.slice none 0 0) (t:=37) hb3 (zak (zal _ _ _));obtain⟨L,⟨bS,bV⟩,⟨bT,bW⟩,⟨bU,bX⟩,⟨bY,bZ⟩,b0,b1⟩:=a) | (have a:=zan (b:=u2.heap.size+1) (v:=.slice none 0 0) (t:=37) hb3 (zbD _ _ _ _);obtain⟨L,⟨bS,bV⟩,⟨bT,bW⟩,⟨bU,bX⟩,⟨bY,bZ⟩,b0,b1⟩:=a));have L:=un L));have M:=un hn;have cz:=un hn2;clear hn hn2)
    | fail)
  all_goals
   go_wp2;go_meet
   case rel =>
    refine⟨_,_,d,k,i,f,l,j,rfl,rfl,(by assumption:_∧Below w1 w1 _).2,?_,?_,?_,?_,?_,?_⟩
    all_goals
     repeat' (first
      | with_reducible exact M.o
      | with_reducible exact cz.o
      | with_reducible assumption
      | with_reducible exact zeo _ _ _
      | with_reducible exact zfx _ _ _ _
      | with_reducible refine cell_al ?_
      | with_reducible refine Box.cell ?_
      | with_reducible refine cell_set ?_ ?_
      | with_reducible exact Box.new _ _
      | with_reducible exact Box.new1 _ _ _
      | with_reducible refine Box.alloc ?_
      | with_reducible refine Box.set ?_
      | exact Box.of G.o
      | exact Box.of J.o
      | exact Box.of H.o
      | exact Box.of K.o
      | exact Box.of I.o
      | exact Box.of L.o
      | with_reducible refine zas.alloc ?_ _
      | with_reducible refine zas.setBox ?_ ?_
      | with_reducible refine zas.drew ?_
      | omega)
 case rest =>
  obtain⟨D,E,d,k,i,f,l,j,rfl,rfl,F,Z,k7,X,Y,dn,dp⟩:=hcut;have dr:w.heap.size+1+1+1≤w1.heap.size:=by have:=HZ.o;have:=(ZI.1 am.o).1;omega
  have HE:=un (div_den x y N.o);have ac:=un (zad F ae.o);have af:=un (zad F ab.o);have dd:=un (zad F am.o);have M:=un (X);have HD:=un ((HE.o▸Y));have ag:=un (ad.o.trans ((F).mono ad.o.size));obtain⟨dw,_,dx,_⟩:=bc2 ac.o;obtain⟨dz,_,dA,_⟩:=bc2 af.o;have cY:=Z;have cN:=zaa cY
  have c6:=k7;have cO:=zaa c6;clear F X Y Z k7 Q;have cv:=un (show(if (!(g == g'))=true then -((x.natAbs/Nat.gcd x.natAbs y.natAbs:Nat):Int)else ((x.natAbs/Nat.gcd x.natAbs y.natAbs:Nat):Int))=(Rat.divInt x y).num by rw[aE.o.neg,cs.o.neg];exact div_num x y N.o);generalize Rat.divInt x y=q at *
  go_wp2_with fail
  go_region_held3 (fun w'=>w'.cell? ⟨w,0,none⟩=some (.bool g)∧w'.cell? ⟨w,1,none⟩=some (A,m,c)∧w'.cell? ⟨w.heap.size+1,0,none⟩=some (.bool g')∧w'.cell? ⟨w.heap.size+1,1,none⟩=some (B,m',c')∧w'.cell? ⟨D,0,none⟩=some (d,k,i)∧w'.cell? ⟨E,0,none⟩=some (f,l,j))
   (((try go_split_ands);(try simp only[Z3]);(repeat' apply And.intro)<;>(repeat(first | with_reducible assumption | with_reducible refine cell_set (by omega) ?_ | with_reducible refine cell_al ?_))))
   (first
    | (go_at_call 93;(with_reducible refine(It.isBelow g A m c _).mono ?_);rintro e v1 ⟨rfl,hb⟩;have ah:=un (zad hb ac.o);have aq:=un (zad hb af.o);have dm:=un (zad hb dd.o);have cS:=un (M.o.drew.below hb);have cP:=un (HD.o.drew.below hb);have ak:=un (ag.o.trans ((It.bdrew0' hb).mono ag.o.size));obtain⟨dI,_,dJ,_⟩:=bc2 ah.o;obtain⟨dM,_,dO,_⟩:=bc2 aq.o;have c1:=zab hb cN;have c8:=zab hb cO;clear hb)
    | (go_at_call 93;(with_reducible refine(It.isBelow g' B m' c' _).mono ?_);rintro e v2 ⟨rfl,hb⟩;have ai:=un (zad hb ah.o);have aj:=un (zad hb aq.o);have c9:=un (zad hb dm.o);have cT:=un (cS.o.below hb);have cQ:=un (cP.o.below hb);have ao:=un (ak.o.trans ((hb).mono ak.o.size));obtain⟨dC,_,dD,_⟩:=bc2 ai.o;obtain⟨dG,_,dH,_⟩:=bc2 aj.o;have cZ:=zab hb c1;have c7:=zab hb c8;clear hb)
    | (go_at_call 49;(with_reducible refine(It.new (!(g == g')) d k i (x.natAbs/Nat.gcd x.natAbs y.natAbs) _ cT.o).mono ?_);rintro e v3 ⟨g4,A4,m4,c4,rfl,hi,hb⟩;have al:=un (zad hb ai.o);have an:=un (zad hb aj.o);have da:=un (zad hb c9.o);have cR:=un (cQ.o.below hb);have HI:=un ((by rw[cv.o]at hi;exact hi));have ap:=un (ao.o.trans ((hb).mono ao.o.size));obtain⟨dE,_,dF,_⟩:=bc2 al.o;obtain⟨dN,_,dP,_⟩:=bc2 an.o;have db:=zab hb cZ;have dk:=zab hb c7;clear hi hb)
    | (go_at_call 92;(with_reducible refine(bare g4 A4 m4 c4 f l j q _ HI.o cR.o).mono ?_);rintro e v4 ⟨g5,A5,m5,c5,D5,md5,cd5,rfl,hi,hb⟩;have c0:=un (zad hb al.o);have dc:=un (zad hb an.o);have aD:=un (zad hb da.o);have HR:=un (hi);have dl:=un (ap.o.trans ((hb).mono ap.o.size));obtain⟨dK,_,dL,_⟩:=bc2 c0.o;obtain⟨dQ,_,dR,_⟩:=bc2 dc.o;obtain⟨dh,de,dS,_,di,df,dT,_,dj,dg,dU,_⟩:=bf3 aD.o;have dV:=zab hb db;have dW:=zab hb dk;clear hi hb)
    | fail)
  all_goals
   go_wp2;refine Zd (v:=.tuple #[.agg #[g5,(A5,m5,c5),(D5,md5,cd5)],true]) (by simp[results,results47,go_sem,dh,de,di,df,dj,dg]) rfl ?_;exact⟨g5,A5,m5,c5,D5,md5,cd5,rfl,HR.o.set3 aD.o (by decide) _ _ _,bsc (bsc (bsc dl.o))⟩
