/- Contracts and lemmas: Int2 Int3. Conditions: as each says. -/
import Derived.Test.YtbhfhkcdfmmmiaaGreatDoorQuot7Zd
set_option linter.all false
set_option maxHeartbeats 1000000
set_option maxRecDepth 100000
namespace Go.Proofs.YtbhfhkcdfmmmiaaGreatDoor
open Go.RowKit Am
open Lib (hid)
attribute [local go_sem ↓] Go.wp_at_zero Go.wp_at_succ
namespace It
theorem abs(g:Bool)(A:OA)(m c:Nat)(w:World):Calls Tryz.prog 53 #[.agg #[g,(A,m,c)]] w fun e w'=>e=.returned (.agg #[(A,m,c)])∧Below w.heap.size w w':=by
 go_enter Tryz.func53,Tryz.ntmps53;go_wp2;exact bodyPost_ret (v:=.agg #[(A,m,c)]) (by simp[results,Tryz.results53,go_sem]) rfl ⟨rfl,(zae w _).alloc (by simp) _⟩
theorem isBelow(g:Bool)(A:OA)(m c:Nat)(w:World):Calls Tryz.prog 128 #[.agg #[g,(A,m,c)]] w fun e w'=>e=.returned g∧Below w.heap.size w w':=by
 go_enter Tryz.func128,Tryz.ntmps128;go_wp2;go_ret
 exact⟨rfl,zae w _⟩
theorem signed(g:Bool)(z:Int)(h:g=decide (z<0)):(if (!g)=true then -((z.natAbs:Nat):Int)else ((z.natAbs:Nat):Int)) = -z:=by
 by_cases a:z<0
 ·rw[h,decide_eq_true a];simp;omega
 ·rw[h,decide_eq_false a];simp;omega
theorem neg(g:Bool)(A:OA)(m c:Nat)(z:Int)(w:World)(h:IntS w g (A,m,c) z):Calls Tryz.prog 125 #[.agg #[g,(A,m,c)]] w (zfg w (-z)):=by
 have f:=hid (signed g z h.neg);have j:=hid (new (!g) A m c z.natAbs _ ((h.abs.alloc (.cells #[g,(A,m,c)] 47)).alloc (.cells #[false,()] 47)));clear h;go_enter Tryz.func125,Tryz.ntmps125;go_wp2_with fail
 refine j.out.mono ?_;rintro e b ⟨g2,A2,m2,c2,rfl,a,hb⟩;have kr:=hid (zad hb (show((w.alloc (.cells #[g,(A,m,c)] 47)).alloc (.cells #[false,()] 47)).heap[w.heap.size+1]? = some (.cells #[false,()] 47 (0,0))from zam (by simp)));have l:b.cell? ⟨w.heap.size+1,0,none⟩=some (.bool false):=zac kr.out 0;have n:b.cell? ⟨w.heap.size+1,1,none⟩=some ():=zac kr.out 1;have o:=zag kr.out 0;have q:=zag kr.out 1;have i:=hid a;have d:=hid hb
 clear a hb;go_wp2;refine bodyPost_ret (v:=.agg #[g2,(A2,m2,c2)]) (by simp[results,Tryz.results125,go_sem,l,n]) rfl ?_;have a:=i.out;rw[f.out]at a;have k:=((zae w _).alloc (by simp) _).trans (d.out.mono (by simp;omega));exact⟨g2,A2,m2,c2,rfl,⟨zlh a.abs kr.out,a.neg⟩,bsc (bsc k)⟩
theorem sign(g:Bool)(A:OA)(m c:Nat)(z:Int)(w:World)(h:IntS w g (A,m,c) z):Calls Tryz.prog 113 #[.agg #[g,(A,m,c)]] w fun e w'=>e=.returned (.int .i64 z.sign)∧Below w.heap.size w w':=by
 have f:=hid (h.abs.alloc (.cells #[g,(A,m,c)] 47));have hg:=h.neg;clear h;rcases Int.lt_trichotomy z 0 with hz | hz | hz
 ·rw[decide_eq_true hz]at hg;have a:=hid (Int.sign_eq_neg_one_of_neg hz);subst hg;clear hz;go_enter Tryz.func113,Tryz.ntmps113;go_wp2;go_ret
  exact⟨by rw[a.out];rfl,zae w _⟩
 ·subst hz;have b:g=false:=hg;subst b;have d:isZ (Int.natAbs 0)=true:=rfl;clear hg;go_enter Tryz.func113,Tryz.ntmps113;go_wp2_with (go_at_call 97;(with_reducible refine(Nt.zero (A,m,c) (Int.natAbs 0) _ f.out).mono ?_);rintro e i ⟨rfl,rfl⟩;rw[d])
  go_ret
  exact⟨rfl,(zae w _).alloc (by simp) _⟩
 ·have b:g=false:=by rw[hg,decide_eq_false (by omega)]
  have a:=hid (Int.sign_eq_one_of_pos hz);have d:isZ z.natAbs=false:=zk4 (by omega);subst b;clear hg hz;go_enter Tryz.func113,Tryz.ntmps113;go_wp2_with (go_at_call 97;(with_reducible refine(Nt.zero (A,m,c) z.natAbs _ f.out).mono ?_);rintro e i ⟨rfl,rfl⟩;rw[d])
  go_ret
  exact⟨by rw[a.out];rfl,(zae w _).alloc (by simp) _⟩
end It
namespace It
theorem cmp(g:Bool)(A:OA)(m c:Nat)(x:Int)(g':Bool)(B:OA)(m' c':Nat)(y:Int)(w:World)(h:IntS w g (A,m,c) x)(j:IntS w g' (B,m',c') y) :
  Calls Tryz.prog 85 #[.agg #[g,(A,m,c)],.agg #[g',(B,m',c')]] w fun e w'=>e=.returned (.int .i64 (ze9 x y))∧Below w.heap.size w w':=by
 have k:=hid ((h.abs.alloc (.cells #[g,(A,m,c)] 47)).alloc (.cells #[g',(B,m',c')] 47));have l:=hid ((j.abs.alloc (.cells #[g,(A,m,c)] 47)).alloc (.cells #[g',(B,m',c')] 47));have f:=hid h.neg;have i:=hid j.neg;have d:=hid ((zae w (.cells #[g,(A,m,c)] 47)).alloc (by simp) (.cells #[g',(B,m',c')] 47));clear h j;have a:∀ {p:Prop} [Decidable p],true=decide p→p:=fun h=>of_decide_eq_true h.symm
 have b:∀ {p:Prop} [Decidable p],false=decide p→¬p:=fun h=>of_decide_eq_false h.symm
 cases g<;>cases g'
 ·have h1:=hid (show ze9 ((x.natAbs:Nat):Int) ((y.natAbs:Nat):Int)=ze9 x y by
   have:=b f.out;have:=b i.out;rw[show((x.natAbs:Nat):Int)=x by omega,show((y.natAbs:Nat):Int)=y by omega])
  clear a b;go_enter Tryz.func85,Tryz.ntmps85;go_wp2_with (go_at_call 90;(with_reducible refine(Nt.cmp A B m c m' c' x.natAbs y.natAbs _ k.out l.out).mono ?_);rintro e n ⟨rfl,hb⟩;rw[h1.out])
  go_ret
  exact⟨rfl,d.out.trans (hb.mono d.out.size)⟩
 ·have h1:=hid (show ze9 x y=1 from zea (by have:=b f.out;have:=a i.out;omega));clear a b;go_enter Tryz.func85,Tryz.ntmps85;go_wp2;go_ret
  exact⟨by rw[h1.out];rfl,d.out⟩
 ·have h1:=hid (show ze9 x y = -1 from zeb (by have:=a f.out;have:=b i.out;omega));clear a b;go_enter Tryz.func85,Tryz.ntmps85;go_wp2;go_ret
  exact⟨by rw[h1.out];rfl,d.out⟩
 ·have h1:=hid (show ze9 ((y.natAbs:Nat):Int) ((x.natAbs:Nat):Int)=ze9 x y by
   have:=a f.out;have:=a i.out;unfold ze9;rcases Int.lt_trichotomy x y with h | h | h
   ·rw[if_pos (by omega),if_pos h]
   ·rw[if_neg (by omega),if_neg (by omega),if_neg (by omega),if_neg (by omega)]
   ·rw[if_neg (by omega),if_pos (by omega),if_neg (by omega),if_pos h])
  clear a b;go_enter Tryz.func85,Tryz.ntmps85;go_wp2_with (go_at_call 90;(with_reducible refine(Nt.cmp B A m' c' m c y.natAbs x.natAbs _ l.out k.out).mono ?_);rintro e n ⟨rfl,hb⟩;rw[h1.out])
  go_ret
  exact⟨rfl,d.out.trans (hb.mono d.out.size)⟩
