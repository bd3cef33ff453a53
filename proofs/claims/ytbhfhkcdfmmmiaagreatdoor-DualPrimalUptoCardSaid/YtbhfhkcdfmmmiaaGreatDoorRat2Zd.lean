/- Contracts and lemmas: Rat2. Conditions: as each says. -/
import Derived.Test.YtbhfhkcdfmmmiaaGreatDoorInt5Zd
set_option linter.all false
set_option maxHeartbeats 1000000
set_option maxRecDepth 100000
namespace Go.Proofs.YtbhfhkcdfmmmiaaGreatDoor
open Go.RowKit Am
open Lib (hid)
attribute [local go_sem ↓] Go.wp_at_zero Go.wp_at_succ
namespace Rt
theorem zwe(g:Bool)(A:OA)(m c:Nat)(D:OA)(d b:Nat)(q:Rat)(w:World)(h:IntS w g (A,m,c) q.num)(j:zas w (D,d,b) q.den)(f:q.den=1) :
  Calls Tryz.prog 127 #[.agg #[g,(A,m,c)],.agg #[(D,d,b)]] w (ze4 w q):=by
 have n:=hid f;have k:q.den<18446744073709551616:=by rw[f];decide
 have o:=hid k;have h1:((q.den:Int) == 1)=true:=by rw[f];rfl
 clear f k;obtain⟨W,a⟩:∃W,(((w.alloc (.cells #[g,(A,m,c)] 47)).alloc (.cells #[(D,d,b)] 45)).alloc (.cells #[false,(),()] 49))=W:=⟨_,rfl⟩
 have t:=hid (show W.heap[w.heap.size]? = some (.cells #[g,(A,m,c)] 47 (0,0))by rw[←a];exact zak (zak (zam (by simp))));have u:=hid (show W.heap[w.heap.size+1]? = some (.cells #[(D,d,b)] 45 (0,0))by rw[←a];exact zak (zam (by simp)));have x:=hid (show W.heap[w.heap.size+1+1]? = some (.cells #[false,(),()] 49 (0,0))by rw[←a];exact zam (by simp))
 have i:=hid (show Below w.heap.size w W by rw[←a];exact((zae w _).alloc (by simp) _).alloc (by simp;omega) _);have r:=hid (show IntS W g (A,m,c) q.num by rw[←a];exact(((h).alloc _).alloc _).alloc _);have s:=hid (show zas W (D,d,b) q.den by rw[←a];exact(((j).alloc _).alloc _).alloc _);obtain⟨M,_⟩:=bc1 u.out;clear h j;go_enter Tryz.func127,Tryz.ntmps127;go_wp2_with fail
 clear a;with_reducible refine(Nt.uint_one (D,d,b) q.den o.out _ s.out).mono ?_
 rintro e w1 ⟨rfl,hb⟩;have B:=hid (zad hb t.out);have l:=hid (zad hb x.out);have J:=hid (r.out.below hb);have z:=hid (i.out.trans ((hb).mono i.out.size));obtain⟨K,_,L,_⟩:=bc2 B.out;obtain⟨G,E,P,_,H,F,N,_,I,C,O,_⟩:=bf3 l.out;clear hb;go_wp2;refine bodyPost_ret (v:=.agg #[g,(A,m,c),()]) (by simp[results,Tryz.results127,go_sem,G,E,H,F,I,C]) rfl ?_;have y:RatS w1 g (A,m,c) () q:=⟨J.out,by rw[zyk n.out];exact zas.zero _⟩
 exact⟨g,A,m,c,none,0,0,rfl,y.set3 l.out (by decide) _ _ _,bsc (bsc (bsc z.out))⟩
theorem ztY(g:Bool)(A:OA)(m c:Nat)(D:OA)(b a:Nat)(q:Rat)(w:World)(h:IntS w g (A,m,c) q.num)(k:zas w (D,b,a) q.den)(l:q.den≠1)(n:q.den<18446744073709551616) :
  Calls Tryz.prog 127 #[.agg #[g,(A,m,c)],.agg #[(D,b,a)]] w (ze4 w q):=by
 have r:=hid l;have s:=hid n;have h1:((q.den:Int) == 1)=false:=by rw[show((q.den:Int) == 1)=decide ((q.den:Int)=1)from rfl,decide_eq_false];omega
 clear l n;obtain⟨W,d⟩:∃W,(((w.alloc (.cells #[g,(A,m,c)] 47)).alloc (.cells #[(D,b,a)] 45)).alloc (.cells #[false,(),()] 49))=W:=⟨_,rfl⟩
 have u:=hid (show W.heap[w.heap.size]? = some (.cells #[g,(A,m,c)] 47 (0,0))by rw[←d];exact zak (zak (zam (by simp))));have j:=hid (show W.heap[w.heap.size+1]? = some (.cells #[(D,b,a)] 45 (0,0))by rw[←d];exact zak (zam (by simp)));have x:=hid (show W.heap[w.heap.size+1+1]? = some (.cells #[false,(),()] 49 (0,0))by rw[←d];exact zam (by simp))
 have f:=hid (show Below w.heap.size w W by rw[←d];exact((zae w _).alloc (by simp) _).alloc (by simp;omega) _);have t:=hid (show IntS W g (A,m,c) q.num by rw[←d];exact(((h).alloc _).alloc _).alloc _);have i:=hid (show zas W (D,b,a) q.den by rw[←d];exact(((k).alloc _).alloc _).alloc _);obtain⟨P,_⟩:=bc1 j.out;clear h k;go_enter Tryz.func127,Tryz.ntmps127;go_wp2_with fail
 clear d;with_reducible refine(Nt.uint_one (D,b,a) q.den s.out _ i.out).mono ?_
 rintro e w1 ⟨rfl,hb⟩;have C:=hid (zad hb u.out);have z:=hid (zad hb j.out);have o:=hid (zad hb x.out);have K:=hid (t.out.below hb);have L:=hid (i.out.below hb);have B:=hid (f.out.trans ((hb).mono f.out.size));obtain⟨M,_,N,_⟩:=bc2 C.out;obtain⟨O,_⟩:=bc1 z.out;obtain⟨H,F,S,_,I,G,Q,_,J,E,R,_⟩:=bf3 o.out;clear hb;go_wp2;refine bodyPost_ret (v:=.agg #[g,(A,m,c),(D,b,a)]) (by simp[results,Tryz.results127,go_sem,H,F,I,G,J,E]) rfl ?_
 have y:RatS w1 g (A,m,c) (D,b,a) q:=⟨K.out,by rw[zp0 r.out];exact L.out⟩
 exact⟨g,A,m,c,D,b,a,rfl,y.set3 o.out (by decide) _ _ _,bsc (bsc (bsc B.out))⟩
theorem zwd(g:Bool)(A:OA)(m c:Nat)(D:OA)(b a:Nat)(q:Rat)(w:World)(h:IntS w g (A,m,c) q.num)(k:zas w (D,b,a) q.den)(l:18446744073709551616≤q.den) :
  Calls Tryz.prog 127 #[.agg #[g,(A,m,c)],.agg #[(D,b,a)]] w (ze4 w q):=by
 have o:=hid (show q.den≠1 by omega);have r:=hid l;clear l;obtain⟨W,d⟩:∃W,(((w.alloc (.cells #[g,(A,m,c)] 47)).alloc (.cells #[(D,b,a)] 45)).alloc (.cells #[false,(),()] 49))=W:=⟨_,rfl⟩
 have t:=hid (show W.heap[w.heap.size]? = some (.cells #[g,(A,m,c)] 47 (0,0))by rw[←d];exact zak (zak (zam (by simp))));have j:=hid (show W.heap[w.heap.size+1]? = some (.cells #[(D,b,a)] 45 (0,0))by rw[←d];exact zak (zam (by simp)));have u:=hid (show W.heap[w.heap.size+1+1]? = some (.cells #[false,(),()] 49 (0,0))by rw[←d];exact zam (by simp))
 have f:=hid (show Below w.heap.size w W by rw[←d];exact((zae w _).alloc (by simp) _).alloc (by simp;omega) _);have s:=hid (show IntS W g (A,m,c) q.num by rw[←d];exact(((h).alloc _).alloc _).alloc _);have i:=hid (show zas W (D,b,a) q.den by rw[←d];exact(((k).alloc _).alloc _).alloc _);obtain⟨O,_⟩:=bc1 j.out;clear h k;go_enter Tryz.func127,Tryz.ntmps127;go_wp2_with fail
 clear d;with_reducible refine(Nt.uint_more (D,b,a) q.den r.out _ i.out).mono ?_
 rintro e w1 ⟨rfl,hb⟩;have B:=hid (zad hb t.out);have y:=hid (zad hb j.out);have n:=hid (zad hb u.out);have J:=hid (s.out.below hb);have K:=hid (i.out.below hb);have z:=hid (f.out.trans ((hb).mono f.out.size));obtain⟨L,_,M,_⟩:=bc2 B.out;obtain⟨N,_⟩:=bc1 y.out;obtain⟨G,E,R,_,H,F,P,_,I,C,Q,_⟩:=bf3 n.out;clear hb;go_wp2;refine bodyPost_ret (v:=.agg #[g,(A,m,c),(D,b,a)]) (by simp[results,Tryz.results127,go_sem,G,E,H,F,I,C]) rfl ?_
 have x:RatS w1 g (A,m,c) (D,b,a) q:=⟨J.out,by rw[zp0 o.out];exact K.out⟩
 exact⟨g,A,m,c,D,b,a,rfl,x.set3 n.out (by decide) _ _ _,bsc (bsc (bsc z.out))⟩
theorem bare(g:Bool)(A:OA)(m c:Nat)(D:OA)(b a:Nat)(q:Rat)(w:World)(h:IntS w g (A,m,c) q.num)(d:zas w (D,b,a) q.den)  :
  Calls Tryz.prog 127 #[.agg #[g,(A,m,c)],.agg #[(D,b,a)]] w (ze4 w q):=by
 by_cases e:q.den=1
 ·exact zwe g A m c D b a q w h d e
 ·by_cases f:q.den<18446744073709551616
  ·exact ztY g A m c D b a q w h d e f
  ·exact zwd g A m c D b a q w h d (by omega)
theorem div_num(x y:Int)(c:y≠0):(if (!(decide (x<0) == decide (y<0)))=true then -((x.natAbs/Nat.gcd x.natAbs y.natAbs:Nat):Int)else ((x.natAbs/Nat.gcd x.natAbs y.natAbs:Nat):Int))=(Rat.divInt x y).num:=by
 rw[Rat.num_divInt];have hg:y.gcd x=Nat.gcd x.natAbs y.natAbs:=by rw[Int.gcd_comm];rfl
 rw[hg];have b:(Nat.gcd x.natAbs y.natAbs)∣x.natAbs:=Nat.gcd_dvd_left _ _;generalize Nat.gcd x.natAbs y.natAbs=k at *
 have e:((x.natAbs/k:Nat):Int)=(x.natAbs:Int)/(k:Int):=Int.natCast_ediv _ _;rw[e];have en:(-(x.natAbs:Int))/(k:Int) = -((x.natAbs:Int)/(k:Int)):=Int.neg_ediv_of_dvd (Int.natCast_dvd_natCast.2 b);rcases Int.lt_trichotomy y 0 with h | h | h
 ·rw[Int.sign_eq_neg_one_of_neg h,decide_eq_true h];by_cases a:x<0
  ·rw[decide_eq_true a];have:(x.natAbs:Int) = -1*x:=by omega
   simp[this]
  ·rw[decide_eq_false a,←en];have : -(x.natAbs:Int) = -1*x:=by omega
   rw[this];simp
 ·exact absurd h c
 ·rw[Int.sign_eq_one_of_pos h,decide_eq_false (show ¬y<0 by omega)];by_cases a:x<0
  ·rw[decide_eq_true a,←en];have : -(x.natAbs:Int)=1*x:=by omega
   rw[this];simp
  ·rw[decide_eq_false a];have:(x.natAbs:Int)=1*x:=by omega
   rw[this];simp
theorem div_den(x y:Int)(a:y≠0):y.natAbs/Nat.gcd x.natAbs y.natAbs=(Rat.divInt x y).den:=by
 rw[Rat.den_divInt,if_neg a,Int.gcd_comm];rfl
