/- Contracts and lemmas: Rat6 Rat7. Conditions: as each says. -/
import Derived.Test.YtbhfhkcdfmmmiaaGreatRat5Zj
import Derived.Test.YtbhfhkcdfmmmiaaGreatSiegZj
set_option linter.all false
set_option maxHeartbeats 4000000
set_option maxRecDepth 100000
namespace Go.Proofs.YtbhfhkcdfmmmiaaGreat
open Go.RowKit Am Tryz
attribute [local go_sem ↓] Go.wp_at_zero Go.wp_at_succ
variable {S n:Nat}
def zlX (a b:Rat):Int:=if a<b then -1 else if b<a then 1 else 0
theorem zz6(a b:Rat):ze9 (a.num*(b.den:Int)) (b.num*(a.den:Int))=zlX a b:=by
 unfold ze9 zlX;simp[Rat.lt_iff]
theorem zkD(a b:Rat):zlX a b=0↔a=b:=by
 unfold zlX;grind
def zA9 (a b:Rat):Bool:=decide (a=b)
namespace Rt
theorem cmpr(g:Bool)(A:OA)(m c:Nat)(D:OA)(k i:Nat)(a:Rat)(g':Bool)(d:OA)(m' c':Nat)(f:OA)(l j:Nat)(b:Rat)(w:World)(h:RatS w g (A,m,c) (D,k,i) a)(n:RatS w g' (d,m',c') (f,l,j) b)(o:4*(mw a+mw b)+8≤LIM) :
  Calls prog 23 #[.agg #[g,(A,m,c),(D,k,i)],.agg #[g',(d,m',c'),(f,l,j)]] w fun e w'=>e=.returned (.int .i64 (zlX a b))∧Below w w w':=by
 rw[←zz6];grind[cmp]
theorem same(g:Bool)(A:OA)(m c:Nat)(D:OA)(l i:Nat)(a:Rat)(g':Bool)(d:OA)(m' c':Nat)(f:OA)(n j:Nat)(b:Rat)(w:World)(h:RatS w g (A,m,c) (D,l,i) a)(q:RatS w g' (d,m',c') (f,n,j) b)(r:4*(mw a+mw b)+8≤LIM) :
  Calls prog 30 #[.agg #[g,(A,m,c),(D,l,i)],.agg #[g',(d,m',c'),(f,n,j)]] w fun e w'=>e=.returned (.bool (zA9 a b))∧Below w w w':=by
 have s:=un r;have p:=un (show(zlX a b == 0)=zA9 a b from decide_eq_decide.2 (zkD a b));generalize zA9 a b=bs at *
 clear r;obtain⟨W,k⟩:∃W,((w.alloc (.cells #[g,(A,m,c),(D,l,i)] 41)).alloc (.cells #[g',(d,m',c'),(f,n,j)] 41))=W:=⟨_,rfl⟩
 have v:=un (show W.heap[w.heap.size]? = some (.cells #[g,(A,m,c),(D,l,i)] 41 (0,0))by rw[←k];exact zak (zam (by simp)));have x:=un (show W.heap[w.heap.size+1]? = some (.cells #[g',(d,m',c'),(f,n,j)] 41 (0,0))by rw[←k];exact zam (by simp));have o:=un (show Below w w W by rw[←k];exact(zae w _).alloc (by simp) _);have t:=un (show RatS W g (A,m,c) (D,l,i) a by rw[←k];exact((h).alloc _).alloc _)
 have u:=un (show RatS W g' (d,m',c') (f,n,j) b by rw[←k];exact((q).alloc _).alloc _);obtain⟨B,_,C,_,E,_⟩:=bc3 v.o;obtain⟨G,_,F,_,H,_⟩:=bc3 x.o;clear h q;go_enter func30,ntmps30;go_wp2_with fail
 clear k;with_reducible refine(cmpr g A m c D l i a g' d m' c' f n j b _ t.o u.o s.o).mono ?_
 rintro e w1 ⟨rfl,hb⟩;have y:=un (o.o.trans ((hb).mono o.o.size));clear hb;have z:=p.o;go_wp2;go_ret
 exact⟨by rw[←p.o];rfl,y.o⟩
end Rt
theorem zyx{q:Rat}(h:q≠0):q.num≠0:=by simp_all
theorem zuX(q:Rat):Rat.divInt (q.den:Int) q.num=q⁻¹:=(Rat.inv_def q).symm
theorem zva(q:Rat):mw q⁻¹≤mw q:=by
 by_cases h:q=0
 ·grind
 ·rw[←zuX];have:=zhX (q.den:Int) q.num (zyx h);rw[Xj]at this;have:=zd2 q;have:=zds q;omega
theorem mw0:mw 0≤1:=by decide
theorem mw1:mw 1≤1:=by decide
theorem ywi{p:Nat}(h:p≤sgB n ((B64^S)^(n+2))):wlen p≤cB n S:=by
 refine zaZ (Xp h ?_);have a:sgB n ((B64^S)^(n+2))≤(B64^(S*(n+2)+n))^n:=by
  unfold sgB;refine Nat.pow_le_pow_left ?_ n;rw[←Nat.pow_mul,Z8,Zp];refine Z1 _ ?_;have:n+1≤2^n:=Nat.lt_two_pow_self;grind[Nat.le_trans,Nat.pow_le_pow_left]
 rw[←Nat.pow_mul B64 (S*(n+2)+n) n]at a;exact Xp a (Ys (by decide) (by unfold cB;omega))
theorem ywn{M:Nat→Nat→Rat}{b x:Nat→Rat}(hr:∀y:Nat→Rat,(∀i,i<n→zai n (fun j=>M i j*y j)=0)→∀j,j<n→y j=0)(f:∀i,i<n→∀j,j<n→mw (M i j)≤S)(zb:∀i,i<n→mw (b i)≤S)(d:∀i,i<n→zai n (fun j=>M i j*x j)=b i):∀j,j<n→mw (x j)≤cB n S:=fun j hj=>by
 have two:∀q:Rat,mw q≤S→q.num.natAbs≤B64^S∧q.den≤B64^S:=fun q h=>⟨ZW (ys0 (Zc (zd2 q) h)),ZW (ys0 (Zc (zds q) h))⟩
 obtain⟨p,q,c,e,h1,a⟩:=cramer (T:=B64^S) (Zx (by decide)) hr (fun i hi j hj=>two _ (f i hi j hj)) (fun i hi=>two _ (zb i hi)) d j hj;rw[e];have g:=zhX p q c;have k:=ywi h1;have l:=ywi a;omega
theorem zo5:SzLaw mw:=⟨zrI,zdI,zhY,zva,mw0,mw1,ywn⟩
namespace Rt
theorem inv(g:Bool)(A:OA)(m c:Nat)(D:OA)(b a:Nat)(q:Rat)(w:World)(h:RatS w g (A,m,c) (D,b,a) q)(k:q≠0)(B:mw q+1≤LIM) :
  Calls prog 159 #[.agg #[g,(A,m,c),(D,b,a)]] w (zii w q⁻¹ true):=by
 have u:=un (zuX q);have s:=un (zyx k);have y:=un (show wlen (q.den:Int).natAbs+1≤LIM by rw[Xj];have:=zds q;omega);have z:=un (show wlen q.num.natAbs+1≤LIM by have:=zd2 q;omega);clear k B;obtain⟨W,d⟩:∃W,((w.alloc (.cells #[g,(A,m,c),(D,b,a)] 41)).alloc (.cells #[false,(),()] 41))=W:=⟨_,rfl⟩
 have j:=un (show W.heap[w.heap.size]? = some (.cells #[g,(A,m,c),(D,b,a)] 41 (0,0))by rw[←d];exact zak (zam (by simp)));have x:=un (show W.heap[w.heap.size+1]? = some (.cells #[false,(),()] 41 (0,0))by rw[←d];exact zam (by simp));have f:=un (show Below w w W by rw[←d];exact(zae w _).alloc (by simp) _);have i:=un (show RatS W g (A,m,c) (D,b,a) q by rw[←d];exact((h).alloc _).alloc _);obtain⟨Q,_,R,_,X,_⟩:=bc3 j.o;clear h
 go_enter func159,ntmps159;go_wp2_with fail
 clear d
 go_region_held3 (fun w'=>w'.cell? ⟨w,0,none⟩=some (.bool g)∧w'.cell? ⟨w,1,none⟩=some (A,m,c)∧w'.cell? ⟨w,2,none⟩=some (D,b,a))
  (((try go_split_ands);(try simp only[Z3]);(repeat' apply And.intro)<;>(repeat(first | with_reducible assumption | with_reducible refine cell_set (by omega) ?_ | with_reducible refine cell_al ?_))))
  (first
   | (go_at_call 62;(with_reducible refine(below g A m c D b a q _ i.o.drew).mono ?_);rintro e v1 ⟨g1,A1,m1,c1,rfl,hn,hb⟩;have n:=un (zad hb j.o);have E:=un (zad hb x.o);have N:=un (i.o.drew.below hb);have r:=un (show IntS v1 g1 (A1,m1,c1) (q.den:Int)from hn);have l:=un (f.o.trans ((It.bdrew0' hb).mono f.o.size));obtain⟨O,_,P,_,V,_⟩:=bc3 n.o;clear hn hb)
   | (go_at_call 47;(with_reducible refine(newd g1 A1 m1 c1 (q.den:Int) g A m c q.num _ r.o (by have h:=N.o;exact h.num) s.o y.o z.o).mono ?_);rintro e C ⟨g2,A2,m2,c2,D2,md2,cd2,rfl,hn,hb⟩;have G:=un (zad hb n.o);have o:=un (zad hb E.o);have t:=un (show RatS C g2 (A2,m2,c2) (D2,md2,cd2) (Rat.divInt (q.den:Int) q.num)from hn);have K:=un (l.o.trans ((hb).mono l.o.size));obtain⟨S,_,T,_,Z,_⟩:=bc3 G.o;obtain⟨J,H,U,_,L,F,Y,_,M,I,aa,_⟩:=bf3 o.o;clear hn hb)
   | fail)
 all_goals
  go_wp2;refine Zd (v:=.tuple #[.agg #[g2,(A2,m2,c2),(D2,md2,cd2)],true]) (by simp[results,results159,go_sem,J,H,L,F,M,I]) rfl ?_;have hi:=t.o;rw[u.o]at hi;exact⟨g2,A2,m2,c2,D2,md2,cd2,rfl,hi.set3 o.o (by decide) _ _ _,bsc (bsc (bsc K.o))⟩
theorem div(g:Bool)(A:OA)(m c:Nat)(D:OA)(i f:Nat)(a:Rat)(g':Bool)(k:OA)(m' c':Nat)(l:OA)(o n:Nat)(b:Rat)(w:World)(h:RatS w g (A,m,c) (D,i,f) a)(r:RatS w g' (k,m',c') (l,o,n) b)(d:b≠0)(J:4*(mw a+mw b)+8≤LIM) :
  Calls prog 146 #[.agg #[g,(A,m,c),(D,i,f)],.agg #[g',(k,m',c'),(l,o,n)]] w (zii w (a/b) true):=by
 have z:=un (XQ a b);have u:=un d;have H:=un (show mw b+1≤LIM by omega);have I:=un (show 4*(mw a+mw b⁻¹)+8≤LIM by have:=zva b;omega);clear d J;obtain⟨W,j⟩:∃W,(((w.alloc (.cells #[g,(A,m,c),(D,i,f)] 41)).alloc (.cells #[g',(k,m',c'),(l,o,n)] 41)).alloc (.cells #[false,(),()] 41))=W:=⟨_,rfl⟩
 have E:=un (show W.heap[w.heap.size]? = some (.cells #[g,(A,m,c),(D,i,f)] 41 (0,0))by rw[←j];exact zak (zak (zam (by simp))));have F:=un (show W.heap[w.heap.size+1]? = some (.cells #[g',(k,m',c'),(l,o,n)] 41 (0,0))by rw[←j];exact zak (zam (by simp)));have G:=un (show W.heap[w.heap.size+1+1]? = some (.cells #[false,(),()] 41 (0,0))by rw[←j];exact zam (by simp))
 have q:=un (show Below w w W by rw[←j];exact((zae w _).alloc (by simp) _).alloc (by simp;omega) _);have B:=un (show RatS W g (A,m,c) (D,i,f) a by rw[←j];exact(((h).alloc _).alloc _).alloc _);have C:=un (show RatS W g' (k,m',c') (l,o,n) b by rw[←j];exact(((r).alloc _).alloc _).alloc _);obtain⟨ae,_,ad,_,af,_⟩:=bc3 F.o;clear h r;go_enter func146,ntmps146;go_wp2_with fail
 clear j;with_reducible refine(inv g' k m' c' l o n b _ C.o u.o H.o).mono ?_
 rintro e w1 ⟨g1,A1,m1,c1,D1,md1,cd1,rfl,hn,d⟩;have M:=un (show(w1.alloc (.cells #[g1,(A1,m1,c1),(D1,md1,cd1)] 41)).heap[w.heap.size]? = some (.cells #[g,(A,m,c),(D,i,f)] 41 (0,0))from zak (zad d E.o));have O:=un (show(w1.alloc (.cells #[g1,(A1,m1,c1),(D1,md1,cd1)] 41)).heap[w.heap.size+1+1]? = some (.cells #[false,(),()] 41 (0,0))from zak (zad d G.o))
 have V:=un (show RatS (w1.alloc (.cells #[g1,(A1,m1,c1),(D1,md1,cd1)] 41)) g (A,m,c) (D,i,f) a from(B.o.below d).alloc _);have x:=un (show RatS (w1.alloc (.cells #[g1,(A1,m1,c1),(D1,md1,cd1)] 41)) g1 (A1,m1,c1) (D1,md1,cd1) b⁻¹ from(hn).alloc _)
 have s:=un (show Below w w (w1.alloc (.cells #[g1,(A1,m1,c1),(D1,md1,cd1)] 41))from((q.o.trans ((d).mono q.o.size))).alloc ((q.o.trans ((d).mono q.o.size))).size _);have L:=un (show(w1.alloc (.cells #[g1,(A1,m1,c1),(D1,md1,cd1)] 41)).heap[w1.heap.size]? = some (.cells #[g1,(A1,m1,c1),(D1,md1,cd1)] 41 (0,0))from zam (by simp));obtain⟨aa,_,ab,_,ac,_⟩:=bc3 M.o;obtain⟨X,_,Y,_,Z,_⟩:=bc3 L.o;clear hn d;go_wp2_with fail
 with_reducible refine(mul g A m c D i f a g1 A1 m1 c1 D1 md1 cd1 b⁻¹ _ V.o x.o I.o).mono ?_
 rintro e K ⟨g2,A2,m2,c2,D2,md2,cd2,rfl,hn,d⟩;have t:=un (zad d O.o);have y:=un (show RatS K g2 (A2,m2,c2) (D2,md2,cd2) (a*b⁻¹)from hn);have N:=un (s.o.trans ((d).mono s.o.size));obtain⟨S,Q,ag,_,T,R,ah,_,U,P,ai,_⟩:=bf3 t.o;clear hn d;go_wp2;refine Zd (v:=.tuple #[.agg #[g2,(A2,m2,c2),(D2,md2,cd2)],true]) (by simp[results,results146,go_sem,S,Q,T,R,U,P]) rfl ?_;have hi:=y.o;rw[←z.o]at hi
 exact⟨g2,A2,m2,c2,D2,md2,cd2,rfl,hi.set3 t.o (by decide) _ _ _,bsc (bsc (bsc N.o))⟩
