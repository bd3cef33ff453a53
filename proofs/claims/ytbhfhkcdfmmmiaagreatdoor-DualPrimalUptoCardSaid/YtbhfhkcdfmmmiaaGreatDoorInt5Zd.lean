/- Contracts and lemmas: Int5 Rat1. Conditions: as each says. -/
import Derived.Test.YtbhfhkcdfmmmiaaGreatDoorInt4Zd
set_option linter.all false
set_option maxHeartbeats 1000000
set_option maxRecDepth 100000
namespace Go.Proofs.YtbhfhkcdfmmmiaaGreatDoor
open Go.RowKit Am
open Lib (hid)
attribute [local go_sem ↓] Go.wp_at_zero Go.wp_at_succ
variable {cs:Array Value}{g g':Bool}{x y z:Int}{b c c' m m' o:Nat}{A B:OA}{q:Rat}{t:TypeId}{s:Value}{w wr:World}
namespace It
structure AS (w wr:World) (g:Bool) (A:OA) (m c:Nat) (x:Int) (g':Bool) (B:OA) (m' c':Nat) (y:Int):Prop where
  ka:wr.heap[w.heap.size]? = some (.cells #[g,(A,m,c)] 47 (0,0))
  kb:wr.heap[w.heap.size+1]? = some (.cells #[g',(B,m',c')] 47 (0,0))
  kr:wr.heap[w.heap.size+1+1]? = some (.cells #[false,()] 47 (0,0))
  x:zas wr (A,m,c) x.natAbs
  y:zas wr (B,m',c') y.natAbs
  bel:Below w.heap.size w wr
theorem AS.step{w':World}(h:AS w wr g A m c x g' B m' c' y)(a:Below wr.heap.size wr w'):AS w w' g A m c x g' B m' c' y :=
 ⟨zad a h.ka,zad a h.kb,zad a h.kr,h.x.below a,h.y.below a,h.bel.trans (a.mono h.bel.size)⟩
theorem AS.start(h:IntS w g (A,m,c) x)(a:IntS w g' (B,m',c') y) :
  AS w (((w.alloc (.cells #[g,(A,m,c)] 47)).alloc (.cells #[g',(B,m',c')] 47)).alloc (.cells #[false,()] 47)) g A m c x g' B m' c' y :=
 ⟨zak (zak (zam rfl)),zak (zam (by simp)),zam (by simp),((h.abs.alloc _).alloc _).alloc _,((a.abs.alloc _).alloc _).alloc _,((zae w _).alloc (by simp) _).alloc (by simp;omega) _⟩
theorem AS.fin(h:AS w wr g A m c x g' B m' c' y){d:Bool}{a:OA}{e:Nat}(f:IntS wr d (a,e,b) z) :
  zfg w z (.returned (.agg #[d,(a,e,b)])) ((wr.setCell ⟨w.heap.size+1+1,0,none⟩ d).setCell ⟨w.heap.size+1+1,1,none⟩ (a,e,b)) :=
 ⟨d,a,e,b,rfl,⟨zlh f.abs h.kr,f.neg⟩,bsc (bsc h.bel)⟩
theorem zv8(g:Bool)(A:OA)(m c:Nat)(x:Int)(B:OA)(m' c':Nat)(y:Int)(w:World)(h:IntS w g (A,m,c) x)(f:IntS w g (B,m',c') y)(k:wlen x.natAbs≤LIM)(l:wlen y.natAbs≤LIM) :
  Calls Tryz.prog 115 #[.agg #[g,(A,m,c)],.agg #[g,(B,m',c')]] w (zfg w (x+y)):=by
 have t:=hid (show(if g=true then -((x.natAbs+y.natAbs:Nat):Int)else ((x.natAbs+y.natAbs:Nat):Int))=x+y by
  have h1:=h.neg;have j:=f.neg;cases g
  ·have:=of_decide_eq_false h1.symm;have:=of_decide_eq_false j.symm;simp;omega
  ·have:=of_decide_eq_true h1.symm;have:=of_decide_eq_true j.symm;simp;omega)
 have q:=hid k;have r:=hid l;have hS:=AS.start h f;generalize hW:((w.alloc (.cells #[g,(A,m,c)] 47)).alloc (.cells #[g,(B,m',c')] 47)).alloc (.cells #[false,()] 47)=W at hS;have d:=hid hS;have i:W.drew.cell? ⟨w.heap.size,0,none⟩=some (.bool g):=zac hS.ka 0;have E:W.drew.cell? ⟨w.heap.size,1,none⟩=some (A,m,c):=zac hS.ka 1;have G:W.drew.cell? ⟨w.heap.size+1,1,none⟩=some (B,m',c'):=zac hS.kb 1
 have D:W.cell? ⟨w.heap.size,0,none⟩=some (.bool g):=i;have F:W.cell? ⟨w.heap.size+1,0,none⟩=some (.bool g):=zac hS.kb 0;clear h f k l hS;go_enter Tryz.func115,Tryz.ntmps115;go_wp2_with fail
 clear hW
 go_region_with (first
  | (go_at_call 132;(with_reducible refine(Nt.add A B m c m' c' x.natAbs y.natAbs _ d.out.x.drew d.out.y.drew q.out r.out).mono ?_);rintro e C ⟨A2,m2,c2,rfl,hn,hb2⟩;have s:=hid hn;have o:=hid hb2;have u0:=zab hb2 i;clear hn hb2)
  | (go_at_call 52;(with_reducible refine(new g A2 m2 c2 (x.natAbs+y.natAbs) _ s.out).mono ?_);rintro e n ⟨g3,A3,m3,c3,rfl,b,hb3⟩;have p:=hid b;have a:=hid ((d.out.step (bdrew0' o.out)).step hb3);have u:n.cell? ⟨w.heap.size+1+1,0,none⟩=some (.bool false):=zac a.out.kr 0;have z:n.cell? ⟨w.heap.size+1+1,1,none⟩=some ():=zac a.out.kr 1;have H:=zag a.out.kr 0;have I:=zag a.out.kr 1;clear b hb3))
 all_goals
  go_wp2;refine bodyPost_ret (v:=.agg #[g3,(A3,m3,c3)]) (by simp[results,Tryz.results115,go_sem,u,z]) rfl ?_;have b:=p.out;rw[t.out]at b;exact a.out.fin b
theorem zov(g:Bool)(x y:Int)(h:g=decide (x<0))(hle:y.natAbs≤x.natAbs)(c:decide (x<0)≠decide (y<0)):(if g=true then -((x.natAbs-y.natAbs:Nat):Int)else ((x.natAbs-y.natAbs:Nat):Int))=x+y:=by
 rw[h];by_cases b:x<0
 ·have a:¬y<0:=fun a=>c (by rw[decide_eq_true b,decide_eq_true a])
  rw[decide_eq_true b];simp;omega
 ·have a:=Decidable.byContradiction fun a=>c (by rw[decide_eq_false b,decide_eq_false a])
  rw[decide_eq_false b];simp;omega
theorem zwG(g:Bool)(x y:Int)(h:g=decide (x<0))(a:y.natAbs<x.natAbs)(b:decide (x<0)≠decide (y<0)):(if g=true then -((x.natAbs-y.natAbs:Nat):Int)else ((x.natAbs-y.natAbs:Nat):Int))=x+y:=zov g x y h (Nat.le_of_lt a) b
theorem zv7(g g':Bool)(A:OA)(m c:Nat)(x:Int)(B:OA)(m' c':Nat)(y:Int)(w:World)(G:g≠g')(h:IntS w g (A,m,c) x)(s:IntS w g' (B,m',c') y)(E:wlen x.natAbs≤LIM)(F:wlen y.natAbs≤LIM) :
  Calls Tryz.prog 115 #[.agg #[g,(A,m,c)],.agg #[g',(B,m',c')]] w (zfg w (x+y)):=by
 have p:=hid h.neg;have q:=hid s.neg;have D:=hid G;have H:=hid E;have I:=hid F;have hS:=AS.start h s;generalize hW:((w.alloc (.cells #[g,(A,m,c)] 47)).alloc (.cells #[g',(B,m',c')] 47)).alloc (.cells #[false,()] 47)=W at hS;have i:=hid hS;have V:(g == g')=false:=by simpa using G
 have P:W.cell? ⟨w.heap.size,0,none⟩=some (.bool g):=zac hS.ka 0;have S:W.cell? ⟨w.heap.size+1,0,none⟩=some (.bool g'):=zac hS.kb 0;have R:W.cell? ⟨w.heap.size,1,none⟩=some (A,m,c):=zac hS.ka 1;have U:W.cell? ⟨w.heap.size+1,1,none⟩=some (B,m',c'):=zac hS.kb 1;clear h s E F hS;rcases Nat.lt_or_ge x.natAbs y.natAbs with hlt | hle
 ·have C:=hid hlt;go_enter Tryz.func115,Tryz.ntmps115;go_wp2_with fail
  clear hW;with_reducible refine(Nt.sub_no A B m c m' c' x.natAbs y.natAbs _ i.out.x i.out.y hlt).mono ?_
  rintro e f ⟨A2,m2,c2,rfl,hn,hb2⟩;have d:=(i.out.step hb2).step (zae f (.cells #[(A2,m2,c2)] 45));have j:=hid d;have L:(f.alloc (.cells #[(A2,m2,c2)] 45)).cell? ⟨w.heap.size,1,none⟩=some (A,m,c):=zac d.ka 1;have M:(f.alloc (.cells #[(A2,m2,c2)] 45)).cell? ⟨w.heap.size+1,1,none⟩=some (B,m',c'):=zac d.kb 1;clear hn hb2 d;go_wp2_with fail
  with_reducible refine(Nt.sub_ok B A m' c' m c y.natAbs x.natAbs _ j.out.y j.out.x (Nat.le_of_lt C.out) I.out).mono ?_
  rintro e l ⟨A3,m3,c3,rfl,hn,hb3⟩;have t:=(j.out.step hb3).step (zae l (.cells #[(A3,m3,c3)] 45));have K:=hid t;have o:=hid (hn.alloc (.cells #[(A3,m3,c3)] 45));have Q:(l.alloc (.cells #[(A3,m3,c3)] 45)).cell? ⟨w.heap.size+1,0,none⟩=some (.bool g'):=zac t.kb 0;have T:(l.alloc (.cells #[(A3,m3,c3)] 45)).cell? ⟨l.heap.size,0,none⟩=some (A3,m3,c3):=zac (zal _ _ _) 0;clear hn hb3 t;go_wp2_with fail
  with_reducible refine(new g' A3 m3 c3 (y.natAbs-x.natAbs) _ o.out).mono ?_
  rintro e k ⟨g4,A4,m4,c4,rfl,b,hb4⟩;have a:=K.out.step hb4;have r:=hid a;have n:=hid b;have u:k.cell? ⟨w.heap.size+1+1,0,none⟩=some (.bool false):=zac a.kr 0;have z:k.cell? ⟨w.heap.size+1+1,1,none⟩=some ():=zac a.kr 1;have N:=zag a.kr 0;have O:=zag a.kr 1;clear b hb4 a;go_wp2;refine bodyPost_ret (v:=.agg #[g4,(A4,m4,c4)]) (by simp[results,Tryz.results115,go_sem,u,z]) rfl ?_;have b:=n.out
  rw[zwG g' y x q.out C.out (by rw[←p.out,←q.out];exact fun e=>D.out e.symm),Int.add_comm]at b;exact r.out.fin b
 ·have J:=hid hle;go_enter Tryz.func115,Tryz.ntmps115;go_wp2_with fail
  clear hW;with_reducible refine(Nt.sub_ok A B m c m' c' x.natAbs y.natAbs _ i.out.x i.out.y hle H.out).mono ?_
  rintro e f ⟨A2,m2,c2,rfl,hn,hb2⟩;have d:=(i.out.step hb2).step (zae f (.cells #[(A2,m2,c2)] 45));have j:=hid d;have o:=hid (hn.alloc (.cells #[(A2,m2,c2)] 45));have L:(f.alloc (.cells #[(A2,m2,c2)] 45)).cell? ⟨w.heap.size,0,none⟩=some (.bool g):=zac d.ka 0;have M:(f.alloc (.cells #[(A2,m2,c2)] 45)).cell? ⟨f.heap.size,0,none⟩=some (A2,m2,c2):=zac (zal _ _ _) 0;clear hn hb2 d;go_wp2_with fail
  with_reducible refine(new g A2 m2 c2 (x.natAbs-y.natAbs) _ o.out).mono ?_
  rintro e k ⟨g4,A4,m4,c4,rfl,b,hb4⟩;have a:=j.out.step hb4;have r:=hid a;have n:=hid b;have u:k.cell? ⟨w.heap.size+1+1,0,none⟩=some (.bool false):=zac a.kr 0;have z:k.cell? ⟨w.heap.size+1+1,1,none⟩=some ():=zac a.kr 1;have N:=zag a.kr 0;have O:=zag a.kr 1;clear b hb4 a;go_wp2;refine bodyPost_ret (v:=.agg #[g4,(A4,m4,c4)]) (by simp[results,Tryz.results115,go_sem,u,z]) rfl ?_;have b:=n.out;rw[zov g x y p.out J.out (by rw[←p.out,←q.out];exact D.out)]at b;exact r.out.fin b
theorem add(g g':Bool)(A:OA)(m c:Nat)(x:Int)(B:OA)(m' c':Nat)(y:Int)(w:World)(h:IntS w g (A,m,c) x)(a:IntS w g' (B,m',c') y)(b:wlen x.natAbs≤LIM)(d:wlen y.natAbs≤LIM) :
  Calls Tryz.prog 115 #[.agg #[g,(A,m,c)],.agg #[g',(B,m',c')]] w (zfg w (x+y)):=by
 by_cases e:g=g'
 ·subst e;exact zv8 g A m c x B m' c' y w h a b d
 ·exact zv7 g g' A m c x B m' c' y w e h a b d
end It
def dn (q:Rat):Nat:=if q.den=1 then 0 else q.den
structure RatS (w:World) (g:Bool) (s d:Value) (q:Rat):Prop where
  num:IntS w g s q.num
  den:zas w d (dn q)
theorem IntS.drew{w:World}{g:Bool}{s:Value}{z:Int}(h:IntS w g s z):IntS w.drew g s z:=⟨h.abs.drew,h.neg⟩
theorem RatS.below{w w':World}{g:Bool}{s d:Value}{q:Rat}(h:RatS w g s d q)(a:Below w.heap.size w w'):RatS w' g s d q:=⟨h.num.below a,h.den.below a⟩
theorem RatS.alloc{w:World}{g:Bool}{s d:Value}{q:Rat}(h:RatS w g s d q)(o:Obj):RatS (w.alloc o) g s d q:=⟨h.num.alloc o,h.den.alloc o⟩
theorem RatS.drew{w:World}{g:Bool}{s d:Value}{q:Rat}(h:RatS w g s d q):RatS w.drew g s d q:=⟨h.num.drew,h.den.drew⟩
def zr (q:Rat):Bool:=decide (q=0)
theorem zIY(q:Rat):(q.num.sign == 0)=zr q:=by
 unfold zr;rw[show(q.num.sign == 0)=decide (q.num.sign=0)from rfl]
 congr 1
 rw[Int.sign_eq_zero_iff_zero,Rat.num_eq_zero]
def ze4 (w:World) (q:Rat) (e:Ending) (w':World):Prop:=∃(g:Bool) (A:OA) (m c:Nat) (D:OA) (md cd:Nat),e=.returned (.agg #[g,(A,m,c),(D,md,cd)])∧RatS w' g (A,m,c) (D,md,cd) q∧Below w.heap.size w w'
def zii (w:World) (q:Rat) (b:Bool) (e:Ending) (w':World):Prop:=∃(g:Bool) (A:OA) (m c:Nat) (D:OA) (md cd:Nat),e=.returned (.tuple #[.agg #[g,(A,m,c),(D,md,cd)],b])∧RatS w' g (A,m,c) (D,md,cd) q∧Below w.heap.size w w'
theorem zyk(h:q.den=1):dn q=0:=by unfold dn;rw[if_pos h]
theorem zp0(h:q.den≠1):dn q=q.den:=by unfold dn;rw[if_neg h]
theorem zas.setIn{n:Nat}(h:zas w s n)(a:w.heap[b]? = some (.cells cs t (0,0)))(c:184≠t)(u:Value):zas (w.setCell ⟨b,o,none⟩ u) s n:=h.setCell (p:=⟨b,o,none⟩) a c u
theorem zar(u:Value)(a:w.heap[b]? = some (.cells cs t (0,0))):(w.setCell ⟨b,o,none⟩ u).heap[b]? = some (.cells (cs.setIfInBounds o u) t (0,0)):=heap_setCell_same w b o cs t u a
theorem RatS.set3{d:Value}(h:RatS w g s d q)(a:w.heap[b]? = some (.cells cs t (0,0)))(c:184≠t)(u v x:Value) :
  RatS (((w.setCell ⟨b,0,none⟩ u).setCell ⟨b,1,none⟩ v).setCell ⟨b,2,none⟩ x) g s d q :=
 ⟨⟨((h.num.abs.setIn a c u).setIn (zar u a) c v).setIn (zar v (zar u a)) c x,h.num.neg⟩,((h.den.setIn a c u).setIn (zar u a) c v).setIn (zar v (zar u a)) c x⟩
theorem IntS.set2(h:IntS w g s z)(a:w.heap[b]? = some (.cells cs t (0,0)))(c:184≠t)(u v:Value) :
  IntS ((w.setCell ⟨b,0,none⟩ u).setCell ⟨b,1,none⟩ v) g s z :=
 ⟨(h.abs.setIn a c u).setIn (zar u a) c v,h.neg⟩
theorem Nt.zero'(s:Value)(n:Nat)(w:World)(a:zas w s n):Calls Tryz.prog 97 #[.agg #[s]] w fun e w'=>e=.returned (.bool (isZ n))∧Below w.heap.size w w' :=
 (Nt.zero s n w a).mono (by rintro e w' ⟨rfl,rfl⟩;exact⟨rfl,zae w _⟩)
theorem Nt.of1(x:Nat)(K:Int)(f:K=(x:Int))(i:x<B64)(w:World):Calls Tryz.prog 112 #[.slice (some ⟨w.heap.size,0,none⟩) 1 1] (w.alloc (.cells #[.int .u64 K] 184)) (zc0 w x):=by
 subst f;have h:SR (w.alloc (.cells #[.int .u64 (x:Int)] 184)) (.slice (some ⟨w.heap.size,0,none⟩) 1 1) [x]:=by
  refine⟨some ⟨w.heap.size,0,none⟩,1,rfl,Nat.le_refl _,by decide,?_,(fun h=>by cases h),?_⟩
  ·intro y b;rw[List.mem_singleton]at b;subst b;exact i
  ·intro k g j u a;obtain rfl:=Option.some.inj g;cases j with
   | zero=>simp only[wcells,List.map,List.getElem?_cons_zero]at a;rw[←a];exact zax rfl rfl
   | succ j=>simp[wcells]at a
 refine(Nt.of _ _ _ h (by rw[zaP];simp)).mono ?_;rintro e w' ⟨A,m,c,rfl,hn,hb⟩;have d:nval [x]=x:=by simp[nval]
 rw[d]at hn;exact⟨A,m,c,rfl,hn,(zae w _).trans (hb.mono (by simp))⟩
namespace It
theorem zBs(x:Int)(h0:x<0)(h1 : -9223372036854775808≤x):IntKind.u64.wrap (-IntKind.u64.wrap x)=(x.natAbs:Int):=by
 unfold IntKind.wrap IntKind.signed IntKind.bits;simp;omega
theorem zIb(x:Int)(h0:0≤x)(h1:x≤9223372036854775807)(w:World):Calls Tryz.prog 72 #[.int .i64 x] w (zfg w x):=by
 have u:decide (x<0)=false:=decide_eq_false (by omega);have c:=hid (show x=(x.natAbs:Int)by omega);have i:=hid (show x.natAbs<B64 by unfold B64;omega);obtain⟨W,a⟩:∃W,(w.alloc (.cells #[false,()] 47))=W:=⟨_,rfl⟩
 have l:=hid (show W.heap[w.heap.size]? = some (.cells #[false,()] 47 (0,0))by rw[←a];exact zam (by simp));have b:=hid (show Below w.heap.size w W by rw[←a];exact zae w _);go_enter Tryz.func72,Tryz.ntmps72;go_wp2_with fail
 clear a;with_reducible refine(Nt.of1 x.natAbs x c.out i.out _).mono ?_
 rintro e w1 ⟨A2,m2,c2,rfl,hn,hb⟩;have s:=hid (zad hb l.out);have k:=hid (show zas w1 (A2,m2,c2) x.natAbs from hn);have g:=hid (b.out.trans ((hb).mono b.out.size));clear hn hb;go_wp2_with fail
 with_reducible refine(new false A2 m2 c2 x.natAbs _ k.out).mono ?_
 rintro e d ⟨g3,A3,m3,c3,rfl,hn,hb⟩;have f:=hid (zad hb s.out);have j:=hid (show IntS d g3 (A3,m3,c3) (if false then -(x.natAbs:Int)else (x.natAbs:Int))from hn);have t:=hid (g.out.trans ((hb).mono g.out.size));obtain⟨q,n,y,_,r,o,z,_⟩:=bf2 f.out;clear hn hb;go_wp2;refine bodyPost_ret (v:=.agg #[g3,(A3,m3,c3)]) (by simp[results,Tryz.results72,go_sem,q,n,r,o]) rfl ?_;have m:IntS d g3 (A3,m3,c3) x:=by have h:=j.out;rwa [if_neg (by decide),←c.out]at h
 exact⟨g3,A3,m3,c3,rfl,m.set2 f.out (by decide) _ _,bsc (bsc t.out)⟩
theorem zH9(x:Int)(h0:x<0)(h1 : -9223372036854775808≤x)(w:World):Calls Tryz.prog 72 #[.int .i64 x] w (zfg w x):=by
 have k:=hid (zBs x h0 h1);have l:=hid (show -(x.natAbs:Int)=x by omega);have g:=hid (show x.natAbs<B64 by unfold B64;omega);obtain⟨W,a⟩:∃W,(w.alloc (.cells #[false,()] 47))=W:=⟨_,rfl⟩
 have m:=hid (show W.heap[w.heap.size]? = some (.cells #[false,()] 47 (0,0))by rw[←a];exact zam (by simp));have b:=hid (show Below w.heap.size w W by rw[←a];exact zae w _);go_enter Tryz.func72,Tryz.ntmps72;go_wp2_with fail
 clear a;with_reducible refine(Nt.of1 x.natAbs _ k.out g.out _).mono ?_
 rintro e w1 ⟨A2,m2,c2,rfl,hn,hb⟩;have t:=hid (zad hb m.out);have j:=hid (show zas w1 (A2,m2,c2) x.natAbs from hn);have f:=hid (b.out.trans ((hb).mono b.out.size));clear hn hb;go_wp2_with fail
 with_reducible refine(new true A2 m2 c2 x.natAbs _ j.out).mono ?_
 rintro e c ⟨g3,A3,m3,c3,rfl,hn,hb⟩;have d:=hid (zad hb t.out);have i:=hid (show IntS c g3 (A3,m3,c3) (if true then -(x.natAbs:Int)else (x.natAbs:Int))from hn);have u:=hid (f.out.trans ((hb).mono f.out.size));obtain⟨r,o,y,_,s,q,z,_⟩:=bf2 d.out;clear hn hb;go_wp2;refine bodyPost_ret (v:=.agg #[g3,(A3,m3,c3)]) (by simp[results,Tryz.results72,go_sem,r,o,s,q]) rfl ?_;have n:IntS c g3 (A3,m3,c3) x:=by have h:=i.out;rwa [if_pos trivial,l.out]at h
 exact⟨g3,A3,m3,c3,rfl,n.set2 d.out (by decide) _ _,bsc (bsc u.out)⟩
theorem of(x:Int)(h0 : -9223372036854775808≤x)(h1:x≤9223372036854775807)(w:World):Calls Tryz.prog 72 #[.int .i64 x] w (zfg w x):=by
 by_cases h:x<0
 ·exact zH9 x h h0 w
 ·exact zIb x (by omega) h1 w
end It
namespace Rt
theorem num(g:Bool)(A:OA)(m c:Nat)(D:OA)(d a:Nat)(q:Rat)(w:World)(h:RatS w g (A,m,c) (D,d,a) q) :
  Calls Tryz.prog 89 #[.agg #[g,(A,m,c),(D,d,a)]] w fun e w'=>e=.returned (.agg #[g,(A,m,c)])∧Below w.heap.size w w':=by
 obtain⟨W,b⟩:∃W,((w.alloc (.cells #[g,(A,m,c),(D,d,a)] 49)).alloc (.cells #[false,()] 47))=W:=⟨_,rfl⟩
 have f:=hid (show W.heap[w.heap.size]? = some (.cells #[g,(A,m,c),(D,d,a)] 49 (0,0))by rw[←b];exact zak (zam (by simp)));have i:=hid (show W.heap[w.heap.size+1]? = some (.cells #[false,()] 47 (0,0))by rw[←b];exact zam (by simp));have j:=hid (show Below w.heap.size w W by rw[←b];exact(zae w _).alloc (by simp) _);obtain⟨r,_,s,_⟩:=bc3 f.out;obtain⟨n,l,u,_,k,o,t,_⟩:=bf2 i.out;clear h f i;go_enter Tryz.func89,Tryz.ntmps89;go_wp2_with fail
 clear b;go_wp2;refine bodyPost_ret (v:=.agg #[g,(A,m,c)]) (by simp[results,Tryz.results89,go_sem,n,l,k,o]) rfl ?_;exact⟨rfl,bsc (bsc j.out)⟩
theorem zz7(g:Bool)(A:OA)(m c:Nat)(D:OA)(b a:Nat)(q:Rat)(w:World)(h:RatS w g (A,m,c) (D,b,a) q)(f:q.den=1) :
  Calls Tryz.prog 91 #[.agg #[g,(A,m,c),(D,b,a)]] w (zc0 w q.den):=by
 rw[f];have j:zas w (D,b,a) 0:=by have:=h.den;rwa [zyk f]at this
 have t:isZ 0=true:=rfl;clear h f;obtain⟨W,d⟩:∃W,((w.alloc (.cells #[g,(A,m,c),(D,b,a)] 49)).alloc (.cells #[()] 45))=W:=⟨_,rfl⟩
 have r:=hid (show W.heap[w.heap.size]? = some (.cells #[g,(A,m,c),(D,b,a)] 49 (0,0))by rw[←d];exact zak (zam (by simp)));have s:=hid (show W.heap[w.heap.size+1]? = some (.cells #[()] 45 (0,0))by rw[←d];exact zam (by simp));have i:=hid (show Below w.heap.size w W by rw[←d];exact(zae w _).alloc (by simp) _);have o:=hid (show zas W (D,b,a) 0 by rw[←d];exact((j).alloc _).alloc _);obtain⟨_,_,_,_,E,_⟩:=bc3 r.out;clear j;go_enter Tryz.func91,Tryz.ntmps91
 go_wp2_with fail
 clear d;with_reducible refine(Nt.zero' (D,b,a) 0 _ o.out).mono ?_
 rintro e w1 ⟨rfl,hb⟩;have x:=hid (zad hb s.out);have k:=hid (i.out.trans ((hb).mono i.out.size));clear hb;rw[t];go_wp2_with fail
 with_reducible refine(Nt.of1 1 1 rfl (by decide) _).mono ?_
 rintro e u ⟨A2,m2,c2,rfl,hn,hb⟩;have l:=hid (zad hb x.out);have n:=hid (show zas u (A2,m2,c2) 1 from hn);have B:=hid (k.out.trans ((hb).mono k.out.size));obtain⟨z,y,C,_⟩:=bf1 l.out;clear hn hb;go_wp2;refine bodyPost_ret (v:=.agg #[(A2,m2,c2)]) (by simp[results,Tryz.results91,go_sem,z,y]) rfl ?_;exact⟨A2,m2,c2,rfl,zas.setIn n.out l.out (by decide) _,bsc B.out⟩
theorem zwF(g:Bool)(A:OA)(m c:Nat)(D:OA)(b a:Nat)(q:Rat)(w:World)(h:RatS w g (A,m,c) (D,b,a) q)(l:q.den≠1) :
  Calls Tryz.prog 91 #[.agg #[g,(A,m,c),(D,b,a)]] w (zc0 w q.den):=by
 have k:zas w (D,b,a) q.den:=by have:=h.den;rwa [zp0 l]at this
 have r:isZ q.den=false:=zk4 q.den_pos;clear h l;obtain⟨W,d⟩:∃W,((w.alloc (.cells #[g,(A,m,c),(D,b,a)] 49)).alloc (.cells #[()] 45))=W:=⟨_,rfl⟩
 have j:=hid (show W.heap[w.heap.size]? = some (.cells #[g,(A,m,c),(D,b,a)] 49 (0,0))by rw[←d];exact zak (zam (by simp)));have o:=hid (show W.heap[w.heap.size+1]? = some (.cells #[()] 45 (0,0))by rw[←d];exact zam (by simp));have f:=hid (show Below w.heap.size w W by rw[←d];exact(zae w _).alloc (by simp) _);have i:=hid (show zas W (D,b,a) q.den by rw[←d];exact((k).alloc _).alloc _);obtain⟨_,_,_,_,B,_⟩:=bc3 j.out;clear k;go_enter Tryz.func91,Tryz.ntmps91
 go_wp2_with fail
 clear d;with_reducible refine(Nt.zero' (D,b,a) q.den _ i.out).mono ?_
 rintro e w1 ⟨rfl,hb⟩;have u:=hid (zad hb j.out);have n:=hid (zad hb o.out);have y:=hid (i.out.below hb);have s:=hid (f.out.trans ((hb).mono f.out.size));obtain⟨_,_,_,_,z,_⟩:=bc3 u.out;obtain⟨x,t,C,_⟩:=bf1 n.out;clear hb;rw[r];go_wp2;refine bodyPost_ret (v:=.agg #[(D,b,a)]) (by simp[results,Tryz.results91,go_sem,x,t]) rfl ?_;exact⟨D,b,a,rfl,zas.setIn y.out n.out (by decide) _,bsc s.out⟩
theorem den(g:Bool)(A:OA)(m c:Nat)(D:OA)(b a:Nat)(q:Rat)(w:World)(h:RatS w g (A,m,c) (D,b,a) q):Calls Tryz.prog 91 #[.agg #[g,(A,m,c),(D,b,a)]] w (zc0 w q.den):=by
 by_cases d:q.den=1
 ·exact zz7 g A m c D b a q w h d
 ·exact zwF g A m c D b a q w h d
theorem below(g:Bool)(A:OA)(m c:Nat)(D:OA)(b a:Nat)(q:Rat)(w:World)(h:RatS w g (A,m,c) (D,b,a) q):Calls Tryz.prog 87 #[.agg #[g,(A,m,c),(D,b,a)]] w (zfg w (q.den:Int)):=by
 obtain⟨W,d⟩:∃W,((w.alloc (.cells #[g,(A,m,c),(D,b,a)] 49)).alloc (.cells #[false,()] 47))=W:=⟨_,rfl⟩
 have r:=hid (show W.heap[w.heap.size]? = some (.cells #[g,(A,m,c),(D,b,a)] 49 (0,0))by rw[←d];exact zak (zam (by simp)));have s:=hid (show W.heap[w.heap.size+1]? = some (.cells #[false,()] 47 (0,0))by rw[←d];exact zam (by simp));have f:=hid (show Below w.heap.size w W by rw[←d];exact(zae w _).alloc (by simp) _);have o:=hid (show RatS W g (A,m,c) (D,b,a) q by rw[←d];exact((h).alloc _).alloc _);obtain⟨E,_,F,_,H,_⟩:=bc3 r.out;clear h
 go_enter Tryz.func87,Tryz.ntmps87;go_wp2_with fail
 clear d;with_reducible refine(den g A m c D b a q _ o.out).mono ?_
 rintro e w1 ⟨A2,m2,c2,rfl,hn,hb⟩;have u:=hid (zad hb s.out);have n:=hid (show zas w1 (A2,m2,c2) q.den from hn);have j:=hid (f.out.trans ((hb).mono f.out.size));clear hn hb;go_wp2_with fail
 with_reducible refine(It.new false A2 m2 c2 q.den _ n.out).mono ?_
 rintro e i ⟨g3,A3,m3,c3,rfl,hn,hb⟩;have k:=hid (zad hb u.out);have l:=hid (show IntS i g3 (A3,m3,c3) (if false then -(q.den:Int)else (q.den:Int))from hn);have B:=hid (j.out.trans ((hb).mono j.out.size));obtain⟨z,y,G,_,C,x,I,_⟩:=bf2 k.out;clear hn hb;go_wp2;refine bodyPost_ret (v:=.agg #[g3,(A3,m3,c3)]) (by simp[results,Tryz.results87,go_sem,z,y,C,x]) rfl ?_;have t:IntS i g3 (A3,m3,c3) (q.den:Int):=by have h:=l.out;rwa [if_neg (by decide)]at h
 exact⟨g3,A3,m3,c3,rfl,t.set2 k.out (by decide) _ _,bsc (bsc B.out)⟩
theorem sign(g:Bool)(A:OA)(m c:Nat)(D:OA)(b a:Nat)(q:Rat)(w:World)(h:RatS w g (A,m,c) (D,b,a) q):Calls Tryz.prog 74 #[.agg #[g,(A,m,c),(D,b,a)]] w fun e w'=>e=.returned (.int .i64 q.num.sign)∧Below w.heap.size w w':=by
 obtain⟨W,d⟩:∃W,(w.alloc (.cells #[g,(A,m,c),(D,b,a)] 49))=W:=⟨_,rfl⟩
 have j:=hid (show W.heap[w.heap.size]? = some (.cells #[g,(A,m,c),(D,b,a)] 49 (0,0))by rw[←d];exact zam (by simp));have f:=hid (show Below w.heap.size w W by rw[←d];exact zae w _);have i:=hid (show RatS W g (A,m,c) (D,b,a) q by rw[←d];exact(h).alloc _);obtain⟨l,_,n,_⟩:=bc3 j.out;clear h;go_enter Tryz.func74,Tryz.ntmps74;go_wp2_with fail
 clear d;with_reducible refine(It.sign g A m c q.num _ i.out.num).mono ?_
 rintro e w1 ⟨rfl,hb⟩;have k:=hid (f.out.trans ((hb).mono f.out.size));clear hb;go_wp2;go_ret
 exact⟨rfl,k.out⟩
theorem zero(g:Bool)(A:OA)(m c:Nat)(D:OA)(b a:Nat)(q:Rat)(w:World)(h:RatS w g (A,m,c) (D,b,a) q):Calls Tryz.prog 83 #[.agg #[g,(A,m,c),(D,b,a)]] w fun e w'=>e=.returned (.bool (zr q))∧Below w.heap.size w w':=by
 obtain⟨W,d⟩:∃W,(w.alloc (.cells #[g,(A,m,c),(D,b,a)] 49))=W:=⟨_,rfl⟩
 have j:=hid (show W.heap[w.heap.size]? = some (.cells #[g,(A,m,c),(D,b,a)] 49 (0,0))by rw[←d];exact zam (by simp));have f:=hid (show Below w.heap.size w W by rw[←d];exact zae w _);have i:=hid (show RatS W g (A,m,c) (D,b,a) q by rw[←d];exact(h).alloc _);obtain⟨l,_,n,_⟩:=bc3 j.out;clear h;go_enter Tryz.func83,Tryz.ntmps83;go_wp2_with fail
 clear d;with_reducible refine(It.sign g A m c q.num _ i.out.num).mono ?_
 rintro e w1 ⟨rfl,hb⟩;have k:=hid (f.out.trans ((hb).mono f.out.size));clear hb;go_wp2;go_ret
 exact⟨by show Ending.returned (.bool (q.num.sign == 0))=.returned (.bool (zr q));rw[zIY],k.out⟩
theorem neg(g:Bool)(A:OA)(m c:Nat)(D:OA)(b a:Nat)(q:Rat)(w:World)(h:RatS w g (A,m,c) (D,b,a) q):Calls Tryz.prog 106 #[.agg #[g,(A,m,c),(D,b,a)]] w (ze4 w (-q)):=by
 obtain⟨W,d⟩:∃W,((w.alloc (.cells #[g,(A,m,c),(D,b,a)] 49)).alloc (.cells #[false,(),()] 49))=W:=⟨_,rfl⟩
 have j:=hid (show W.heap[w.heap.size]? = some (.cells #[g,(A,m,c),(D,b,a)] 49 (0,0))by rw[←d];exact zak (zam (by simp)));have n:=hid (show W.heap[w.heap.size+1]? = some (.cells #[false,(),()] 49 (0,0))by rw[←d];exact zam (by simp));have f:=hid (show Below w.heap.size w W by rw[←d];exact(zae w _).alloc (by simp) _);have i:=hid (show RatS W g (A,m,c) (D,b,a) q by rw[←d];exact((h).alloc _).alloc _);obtain⟨_,F,_,E,_,H⟩:=bc3 j.out;clear h
 go_enter Tryz.func106,Tryz.ntmps106;go_wp2_with fail
 clear d
 go_region_with (first
  | (go_at_call 125;(with_reducible refine(It.neg g A m c q.num _ i.out.drew.num).mono ?_);rintro e w1 ⟨g3,A3,m3,c3,rfl,hn,hb⟩;have u:=hid (zad hb j.out);have k:=hid (zad hb n.out);have C:=hid (i.out.drew.below hb);have l:=hid (show IntS w1 g3 (A3,m3,c3) (-q.num)from hn);have s:=hid (f.out.trans ((It.bdrew0' hb).mono f.out.size));obtain⟨_,_,_,_,G,_⟩:=bc3 u.out;obtain⟨y,t,J,_,z,r,I,_,x,B,K,_⟩:=bf3 k.out;clear hn hb))
 all_goals
  go_wp2;refine bodyPost_ret (v:=.agg #[g3,(A3,m3,c3),(D,b,a)]) (by simp[results,Tryz.results106,go_sem,y,t,z,r,x,B]) rfl ?_;have o:RatS w1 g3 (A3,m3,c3) (D,b,a) (-q):=⟨l.out,C.out.den⟩
  exact⟨g3,A3,m3,c3,D,b,a,rfl,o.set3 k.out (by decide) _ _ _,bsc (bsc (bsc s.out))⟩
theorem int(x:Int)(h0 : -9223372036854775808≤x)(h1:x≤9223372036854775807)(w:World):Calls Tryz.prog 30 #[.int .i64 x] w (ze4 w (x:Rat)):=by
 obtain⟨W,a⟩:∃W,(w.alloc (.cells #[false,(),()] 49))=W:=⟨_,rfl⟩
 have f:=hid (show W.heap[w.heap.size]? = some (.cells #[false,(),()] 49 (0,0))by rw[←a];exact zam (by simp));have b:=hid (show Below w.heap.size w W by rw[←a];exact zae w _);go_enter Tryz.func30,Tryz.ntmps30;go_wp2_with fail
 clear a;with_reducible refine(It.of x h0 h1 _).mono ?_
 rintro e w1 ⟨g3,A3,m3,c3,rfl,hn,hb⟩;have c:=hid (zad hb f.out);have d:=hid (show IntS w1 g3 (A3,m3,c3) x from hn);have k:=hid (b.out.trans ((hb).mono b.out.size));obtain⟨i,l,q,_,j,m,r,_,n,o,s,_⟩:=bf3 c.out;clear hn hb;go_wp2;refine bodyPost_ret (v:=.agg #[g3,(A3,m3,c3),()]) (by simp[results,Tryz.results30,go_sem,i,l,j,m,n,o]) rfl ?_;have g:RatS w1 g3 (A3,m3,c3) () (x:Rat):=⟨d.out,zas.zero _⟩
 exact⟨g3,A3,m3,c3,none,0,0,rfl,g.set3 c.out (by decide) _ _ _,bsc (bsc (bsc k.out))⟩
