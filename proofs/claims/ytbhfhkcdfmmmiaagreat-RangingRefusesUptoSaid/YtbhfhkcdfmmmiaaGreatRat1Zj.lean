/- Contracts and lemmas: Rat1. Conditions: as each says. -/
import Derived.Test.YtbhfhkcdfmmmiaaGreatInt4Zj
set_option linter.all false
set_option maxHeartbeats 1000000
set_option maxRecDepth 100000
namespace Go.Proofs.YtbhfhkcdfmmmiaaGreat
open Go.RowKit Am Tryz
attribute [local go_sem ↓] Go.wp_at_zero Go.wp_at_succ
variable {cs:Array Value}{g:Bool}{b o:Nat}{q:Rat}{t:TypeId}{s:Value}{w:World}
def dn (q:Rat):Nat:=if q.den=1 then 0 else q.den
structure RatS (w:World) (g:Bool) (s d:Value) (q:Rat):Prop where
  num:IntS w g s q.num
  den:zas w d (dn q)
theorem IntS.drew{w:World}{g:Bool}{s:Value}{z:Int}(h:IntS w g s z):IntS w.drew g s z:=⟨h.abs.drew,h.neg⟩
theorem RatS.below{w w':World}{g:Bool}{s d:Value}{q:Rat}(h:RatS w g s d q)(a:Below w w w'):RatS w' g s d q:=⟨h.num.below a,h.den.below a⟩
theorem RatS.alloc{w:World}{g:Bool}{s d:Value}{q:Rat}(h:RatS w g s d q)(o:Obj):RatS (w.alloc o) g s d q:=⟨h.num.alloc o,h.den.alloc o⟩
theorem RatS.drew{w:World}{g:Bool}{s d:Value}{q:Rat}(h:RatS w g s d q):RatS w.drew g s d q:=⟨h.num.drew,h.den.drew⟩
def zr (q:Rat):Bool:=decide (q=0)
theorem zIY(q:Rat):(q.num.sign == 0)=zr q:=by
 unfold zr;rw[show(q.num.sign == 0)=decide (q.num.sign=0)from rfl]
 congr 1
 rw[Vb,Rat.num_eq_zero]
def ze4 (w:World) (q:Rat) (e:Ending) (w':World):Prop:=∃(g:Bool) (A:OA) (m c:Nat) (D:OA) (md cd:Nat),e=.returned (.agg #[g,(A,m,c),(D,md,cd)])∧RatS w' g (A,m,c) (D,md,cd) q∧Below w w w'
def zii (w:World) (q:Rat) (b:Bool) (e:Ending) (w':World):Prop:=∃(g:Bool) (A:OA) (m c:Nat) (D:OA) (md cd:Nat),e=.returned (.tuple #[.agg #[g,(A,m,c),(D,md,cd)],b])∧RatS w' g (A,m,c) (D,md,cd) q∧Below w w w'
theorem zyk(h:q.den=1):dn q=0:=by unfold dn;rw[if_pos h]
theorem zp0(h:q.den≠1):dn q=q.den:=by unfold dn;rw[if_neg h]
theorem zas.setIn{n:Nat}(h:zas w s n)(a:w.heap[b]? = some (.cells cs t (0,0)))(c:165≠t)(u:Value):zas (w.setCell ⟨b,o,none⟩ u) s n:=h.setCell (p:=⟨b,o,none⟩) a c u
theorem zar(u:Value)(a:w.heap[b]? = some (.cells cs t (0,0))):(w.setCell ⟨b,o,none⟩ u).heap[b]? = some (.cells (cs.setIfInBounds o u) t (0,0)):=by grind[heap_setCell_same]
theorem RatS.set3{d:Value}(h:RatS w g s d q)(a:w.heap[b]? = some (.cells cs t (0,0)))(c:165≠t)(u v x:Value) :
  RatS (((w.setCell ⟨b,0,none⟩ u).setCell ⟨b,1,none⟩ v).setCell ⟨b,2,none⟩ x) g s d q :=
 ⟨⟨((h.num.abs.setIn a c u).setIn (zar u a) c v).setIn (zar v (zar u a)) c x,h.num.neg⟩,((h.den.setIn a c u).setIn (zar u a) c v).setIn (zar v (zar u a)) c x⟩
theorem IntS.set2{z:Int}(h:IntS w g s z)(a:w.heap[b]? = some (.cells cs t (0,0)))(c:165≠t)(u v:Value) :
  IntS ((w.setCell ⟨b,0,none⟩ u).setCell ⟨b,1,none⟩ v) g s z :=
 ⟨(h.abs.setIn a c u).setIn (zar u a) c v,h.neg⟩
theorem Nt.zero'(s:Value)(n:Nat)(w:World)(a:zas w s n):Calls prog 94 #[.agg #[s]] w fun e w'=>e=.returned (.bool (isZ n))∧Below w w w' :=
 (Nt.zero s n w a).mono (by simp[zae])
theorem Nt.of1(x:Nat)(K:Int)(f:K=(x:Int))(i:x<B64)(w:World):Calls prog 89 #[.slice (some ⟨w,0,none⟩) 1 1] (w.alloc (.cells #[.int .u64 K] 165)) (zc0 w x):=by
 subst f;have h:SR (w.alloc (.cells #[.int .u64 (x:Int)] 165)) (.slice (some ⟨w,0,none⟩) 1 1) [x]:=by
  refine⟨some ⟨w,0,none⟩,1,rfl,Za _,by decide,?_,(fun h=>by cases h),?_⟩
  ·intro y b;rw[Yi]at b;omega
  ·intro k g j u a;obtain rfl:=Option.some.inj g;cases j with
   | zero=>simp only[wcells,List.map,Zz]at a;rw[←a];exact zax rfl rfl
   | succ j=>simp[wcells]at a
 refine(Nt.of _ _ _ h (by rw[zaP];simp)).mono ?_;rintro e w' ⟨A,m,c,rfl,hn,hb⟩;have d:nval [x]=x:=by simp[nval]
 rw[d]at hn;exact⟨A,m,c,rfl,hn,(zae w _).trans (hb.mono (by simp))⟩
namespace It
theorem zBs(x:Int)(h0:x<0)(h1 : -9223372036854775808≤x):IntKind.u64.wrap (-IntKind.u64.wrap x)=(x.natAbs:Int):=by
 unfold IntKind.wrap IntKind.signed IntKind.bits;simp;omega
theorem zIb(x:Int)(h0:0≤x)(h1:x≤9223372036854775807)(w:World):Calls prog 46 #[.int .i64 x] w (zfg w x):=by
 have t:decide (x<0)=false:=Zu (by omega);have c:=un (show x=(x.natAbs:Int)by omega);have i:=un (show x.natAbs<B64 by unfold B64;omega);obtain⟨W,a⟩:∃W,(w.alloc (.cells #[false,()] 39))=W:=⟨_,rfl⟩
 have l:=un (show W.heap[w.heap.size]? = some (.cells #[false,()] 39 (0,0))by rw[←a];exact zam (by simp));have b:=un (show Below w w W by rw[←a];exact zae w _);go_enter func46,ntmps46;go_wp2_with fail
 clear a;refine(Nt.of1 x.natAbs x c.o i.o _).mono ?_
 rintro e w1 ⟨A2,m2,c2,rfl,hn,hb⟩;have r:=un (zad hb l.o);have k:=un (hn);have g:=un (b.o.trans ((hb).mono b.o.size));clear hn hb;go_wp2_with fail
 refine(new false A2 m2 c2 x.natAbs _ k.o).mono ?_
 rintro e d ⟨g3,A3,m3,c3,rfl,hn,hb⟩;have f:=un (zad hb r.o);have j:=un (hn);have s:=un (g.o.trans ((hb).mono g.o.size));obtain⟨o,m,u,_,q,n,y,_⟩:=bf2 f.o;clear hn hb;go_wp2;refine Zd (v:=.agg #[g3,(A3,m3,c3)]) (by simp[results,results46,go_sem,o,m,q,n]) rfl ?_;have hi:IntS d g3 (A3,m3,c3) x:=by have h:=j.o;rwa [if_neg (by decide),←c.o]at h
 exact⟨g3,A3,m3,c3,rfl,hi.set2 f.o (by decide) _ _,bsc (bsc s.o)⟩
theorem zH9(x:Int)(h0:x<0)(h1 : -9223372036854775808≤x)(w:World):Calls prog 46 #[.int .i64 x] w (zfg w x):=by
 have k:=un (zBs x h0 h1);have l:=un (show -(x.natAbs:Int)=x by omega);have g:=un (show x.natAbs<B64 by unfold B64;omega);obtain⟨W,a⟩:∃W,(w.alloc (.cells #[false,()] 39))=W:=⟨_,rfl⟩
 have m:=un (show W.heap[w.heap.size]? = some (.cells #[false,()] 39 (0,0))by rw[←a];exact zam (by simp));have b:=un (show Below w w W by rw[←a];exact zae w _);go_enter func46,ntmps46;go_wp2_with fail
 clear a;refine(Nt.of1 x.natAbs _ k.o g.o _).mono ?_
 rintro e w1 ⟨A2,m2,c2,rfl,hn,hb⟩;have s:=un (zad hb m.o);have j:=un (hn);have f:=un (b.o.trans ((hb).mono b.o.size));clear hn hb;go_wp2_with fail
 refine(new true A2 m2 c2 x.natAbs _ j.o).mono ?_
 rintro e c ⟨g3,A3,m3,c3,rfl,hn,hb⟩;have d:=un (zad hb s.o);have i:=un (hn);have t:=un (f.o.trans ((hb).mono f.o.size));obtain⟨q,n,u,_,r,o,y,_⟩:=bf2 d.o;clear hn hb;go_wp2;refine Zd (v:=.agg #[g3,(A3,m3,c3)]) (by simp[results,results46,go_sem,q,n,r,o]) rfl ?_;have hi:IntS c g3 (A3,m3,c3) x:=by have h:=i.o;rwa [if_pos trivial,l.o]at h
 exact⟨g3,A3,m3,c3,rfl,hi.set2 d.o (by decide) _ _,bsc (bsc t.o)⟩
theorem of(x:Int)(h0 : -9223372036854775808≤x)(h1:x≤9223372036854775807)(w:World):Calls prog 46 #[.int .i64 x] w (zfg w x):=by grind[zH9,zIb]
end It
namespace Rt
theorem num(g:Bool)(A:OA)(m c:Nat)(D:OA)(d a:Nat)(q:Rat)(w:World)(h:RatS w g (A,m,c) (D,d,a) q) :
  Calls prog 87 #[.agg #[g,(A,m,c),(D,d,a)]] w fun e w'=>e=.returned (.agg #[g,(A,m,c)])∧Below w w w':=by
 obtain⟨W,b⟩:∃W,((w.alloc (.cells #[g,(A,m,c),(D,d,a)] 41)).alloc (.cells #[false,()] 39))=W:=⟨_,rfl⟩
 have f:=un (show W.heap[w.heap.size]? = some (.cells #[g,(A,m,c),(D,d,a)] 41 (0,0))by rw[←b];exact zak (zam (by simp)));have i:=un (show W.heap[w.heap.size+1]? = some (.cells #[false,()] 39 (0,0))by rw[←b];exact zam (by simp));have j:=un (show Below w w W by rw[←b];exact(zae w _).alloc (by simp) _);obtain⟨r,_,s,_⟩:=bc3 f.o;obtain⟨n,l,u,_,k,o,t,_⟩:=bf2 i.o;clear h f i;go_enter func87,ntmps87;go_wp2_with fail
 clear b;go_wp2;refine Zd (v:=.agg #[g,(A,m,c)]) (by simp[results,results87,go_sem,n,l,k,o]) rfl ?_;exact⟨rfl,bsc (bsc j.o)⟩
theorem zz7(g:Bool)(A:OA)(m c:Nat)(D:OA)(b a:Nat)(q:Rat)(w:World)(h:RatS w g (A,m,c) (D,b,a) q)(f:q.den=1) :
  Calls prog 51 #[.agg #[g,(A,m,c),(D,b,a)]] w (zc0 w q.den):=by
 rw[f];have j:zas w (D,b,a) 0:=by have:=h.den;rwa [zyk f]at this
 have t:isZ 0=true:=rfl;clear h f;obtain⟨W,d⟩:∃W,((w.alloc (.cells #[g,(A,m,c),(D,b,a)] 41)).alloc (.cells #[()] 37))=W:=⟨_,rfl⟩
 have r:=un (show W.heap[w.heap.size]? = some (.cells #[g,(A,m,c),(D,b,a)] 41 (0,0))by rw[←d];exact zak (zam (by simp)));have s:=un (show W.heap[w.heap.size+1]? = some (.cells #[()] 37 (0,0))by rw[←d];exact zam (by simp));have i:=un (show Below w w W by rw[←d];exact(zae w _).alloc (by simp) _);have o:=un (show zas W (D,b,a) 0 by rw[←d];exact((j).alloc _).alloc _);obtain⟨_,_,_,_,E,_⟩:=bc3 r.o;clear j;go_enter func51,ntmps51
 go_wp2_with fail
 clear d;refine(Nt.zero' (D,b,a) 0 _ o.o).mono ?_
 rintro e w1 ⟨rfl,hb⟩;have x:=un (zad hb s.o);have k:=un (i.o.trans ((hb).mono i.o.size));clear hb;rw[t];go_wp2_with fail
 refine(Nt.of1 1 1 rfl (by decide) _).mono ?_
 rintro e u ⟨A2,m2,c2,rfl,hn,hb⟩;have l:=un (zad hb x.o);have n:=un (hn);have B:=un (k.o.trans ((hb).mono k.o.size));obtain⟨z,y,C,_⟩:=bf1 l.o;clear hn hb;go_wp2;refine Zd (v:=.agg #[(A2,m2,c2)]) (by simp[results,results51,go_sem,z,y]) rfl ?_;exact⟨A2,m2,c2,rfl,zas.setIn n.o l.o (by decide) _,bsc B.o⟩
theorem zwF(g:Bool)(A:OA)(m c:Nat)(D:OA)(b a:Nat)(q:Rat)(w:World)(h:RatS w g (A,m,c) (D,b,a) q)(l:q.den≠1) :
  Calls prog 51 #[.agg #[g,(A,m,c),(D,b,a)]] w (zc0 w q.den):=by
 have k:zas w (D,b,a) q.den:=by have:=h.den;rwa [zp0 l]at this
 have r:=zk4 q.den_pos;clear h l;obtain⟨W,d⟩:∃W,((w.alloc (.cells #[g,(A,m,c),(D,b,a)] 41)).alloc (.cells #[()] 37))=W:=⟨_,rfl⟩
 have j:=un (show W.heap[w.heap.size]? = some (.cells #[g,(A,m,c),(D,b,a)] 41 (0,0))by rw[←d];exact zak (zam (by simp)));have o:=un (show W.heap[w.heap.size+1]? = some (.cells #[()] 37 (0,0))by rw[←d];exact zam (by simp));have f:=un (show Below w w W by rw[←d];exact(zae w _).alloc (by simp) _);have i:=un (show zas W (D,b,a) q.den by rw[←d];exact((k).alloc _).alloc _);obtain⟨_,_,_,_,B,_⟩:=bc3 j.o;clear k;go_enter func51,ntmps51
 go_wp2_with fail
 clear d;refine(Nt.zero' (D,b,a) q.den _ i.o).mono ?_
 rintro e w1 ⟨rfl,hb⟩;have u:=un (zad hb j.o);have n:=un (zad hb o.o);have y:=un (i.o.below hb);have s:=un (f.o.trans ((hb).mono f.o.size));obtain⟨_,_,_,_,z,_⟩:=bc3 u.o;obtain⟨x,t,C,_⟩:=bf1 n.o;clear hb;rw[r];go_wp2;refine Zd (v:=.agg #[(D,b,a)]) (by simp[results,results51,go_sem,x,t]) rfl ?_;exact⟨D,b,a,rfl,zas.setIn y.o n.o (by decide) _,bsc s.o⟩
theorem den(g:Bool)(A:OA)(m c:Nat)(D:OA)(b a:Nat)(q:Rat)(w:World)(h:RatS w g (A,m,c) (D,b,a) q):Calls prog 51 #[.agg #[g,(A,m,c),(D,b,a)]] w (zc0 w q.den):=by grind[zz7,zwF]
theorem below(g:Bool)(A:OA)(m c:Nat)(D:OA)(b a:Nat)(q:Rat)(w:World)(h:RatS w g (A,m,c) (D,b,a) q):Calls prog 62 #[.agg #[g,(A,m,c),(D,b,a)]] w (zfg w (q.den:Int)):=by
 obtain⟨W,d⟩:∃W,((w.alloc (.cells #[g,(A,m,c),(D,b,a)] 41)).alloc (.cells #[false,()] 39))=W:=⟨_,rfl⟩
 have r:=un (show W.heap[w.heap.size]? = some (.cells #[g,(A,m,c),(D,b,a)] 41 (0,0))by rw[←d];exact zak (zam (by simp)));have s:=un (show W.heap[w.heap.size+1]? = some (.cells #[false,()] 39 (0,0))by rw[←d];exact zam (by simp));have f:=un (show Below w w W by rw[←d];exact(zae w _).alloc (by simp) _);have o:=un (show RatS W g (A,m,c) (D,b,a) q by rw[←d];exact((h).alloc _).alloc _);obtain⟨C,_,E,_,G,_⟩:=bc3 r.o;clear h
 go_enter func62,ntmps62;go_wp2_with fail
 clear d;refine(den g A m c D b a q _ o.o).mono ?_
 rintro e w1 ⟨A2,m2,c2,rfl,hn,hb⟩;have t:=un (zad hb s.o);have n:=un (hn);have j:=un (f.o.trans ((hb).mono f.o.size));clear hn hb;go_wp2_with fail
 refine(It.new false A2 m2 c2 q.den _ n.o).mono ?_
 rintro e i ⟨g3,A3,m3,c3,rfl,hn,hb⟩;have k:=un (zad hb t.o);have l:=un (hn);have z:=un (j.o.trans ((hb).mono j.o.size));obtain⟨y,x,F,_,B,u,H,_⟩:=bf2 k.o;clear hn hb;go_wp2;refine Zd (v:=.agg #[g3,(A3,m3,c3)]) (by simp[results,results62,go_sem,y,x,B,u]) rfl ?_;have hi:IntS i g3 (A3,m3,c3) (q.den:Int):=by have h:=l.o;rwa [if_neg (by decide)]at h
 exact⟨g3,A3,m3,c3,rfl,hi.set2 k.o (by decide) _ _,bsc (bsc z.o)⟩
theorem sign(g:Bool)(A:OA)(m c:Nat)(D:OA)(b a:Nat)(q:Rat)(w:World)(h:RatS w g (A,m,c) (D,b,a) q):Calls prog 105 #[.agg #[g,(A,m,c),(D,b,a)]] w fun e w'=>e=.returned (.int .i64 q.num.sign)∧Below w w w':=by
 obtain⟨W,d⟩:∃W,(w.alloc (.cells #[g,(A,m,c),(D,b,a)] 41))=W:=⟨_,rfl⟩
 have j:=un (show W.heap[w.heap.size]? = some (.cells #[g,(A,m,c),(D,b,a)] 41 (0,0))by rw[←d];exact zam (by simp));have f:=un (show Below w w W by rw[←d];exact zae w _);have i:=un (show RatS W g (A,m,c) (D,b,a) q by rw[←d];exact(h).alloc _);obtain⟨l,_,n,_⟩:=bc3 j.o;clear h;go_enter func105,ntmps105;go_wp2_with fail
 clear d;refine(It.sign g A m c q.num _ i.o.num).mono ?_
 rintro e w1 ⟨rfl,hb⟩;have k:=un (f.o.trans ((hb).mono f.o.size));clear hb;go_wp2;go_ret
 exact⟨rfl,k.o⟩
theorem zero(g:Bool)(A:OA)(m c:Nat)(D:OA)(b a:Nat)(q:Rat)(w:World)(h:RatS w g (A,m,c) (D,b,a) q):Calls prog 36 #[.agg #[g,(A,m,c),(D,b,a)]] w fun e w'=>e=.returned (.bool (zr q))∧Below w w w':=by
 obtain⟨W,d⟩:∃W,(w.alloc (.cells #[g,(A,m,c),(D,b,a)] 41))=W:=⟨_,rfl⟩
 have j:=un (show W.heap[w.heap.size]? = some (.cells #[g,(A,m,c),(D,b,a)] 41 (0,0))by rw[←d];exact zam (by simp));have f:=un (show Below w w W by rw[←d];exact zae w _);have i:=un (show RatS W g (A,m,c) (D,b,a) q by rw[←d];exact(h).alloc _);obtain⟨l,_,n,_⟩:=bc3 j.o;clear h;go_enter func36,ntmps36;go_wp2_with fail
 clear d;refine(It.sign g A m c q.num _ i.o.num).mono ?_
 rintro e w1 ⟨rfl,hb⟩;have k:=un (f.o.trans ((hb).mono f.o.size));clear hb;go_wp2;go_ret
 exact⟨by show Ending.returned (.bool (q.num.sign == 0))=.returned (.bool (zr q));rw[zIY],k.o⟩
theorem neg(g:Bool)(A:OA)(m c:Nat)(D:OA)(b a:Nat)(q:Rat)(w:World)(h:RatS w g (A,m,c) (D,b,a) q):Calls prog 35 #[.agg #[g,(A,m,c),(D,b,a)]] w (ze4 w (-q)):=by
 obtain⟨W,d⟩:∃W,((w.alloc (.cells #[g,(A,m,c),(D,b,a)] 41)).alloc (.cells #[false,(),()] 41))=W:=⟨_,rfl⟩
 have j:=un (show W.heap[w.heap.size]? = some (.cells #[g,(A,m,c),(D,b,a)] 41 (0,0))by rw[←d];exact zak (zam (by simp)));have n:=un (show W.heap[w.heap.size+1]? = some (.cells #[false,(),()] 41 (0,0))by rw[←d];exact zam (by simp));have f:=un (show Below w w W by rw[←d];exact(zae w _).alloc (by simp) _);have i:=un (show RatS W g (A,m,c) (D,b,a) q by rw[←d];exact((h).alloc _).alloc _);obtain⟨_,E,_,C,_,G⟩:=bc3 j.o;clear h
 go_enter func35,ntmps35;go_wp2_with fail
 clear d
 go_region_with (first
  | (go_at_call 81;(refine(It.neg g A m c q.num _ i.o.drew.num).mono ?_);rintro e w1 ⟨g3,A3,m3,c3,rfl,hn,hb⟩;have t:=un (zad hb j.o);have k:=un (zad hb n.o);have B:=un (i.o.drew.below hb);have l:=un (hn);have r:=un (f.o.trans ((It.bdrew0' hb).mono f.o.size));obtain⟨_,_,_,_,F,_⟩:=bc3 t.o;obtain⟨x,s,I,_,y,o,H,_,u,z,J,_⟩:=bf3 k.o;clear hn hb))
 all_goals
  go_wp2;refine Zd (v:=.agg #[g3,(A3,m3,c3),(D,b,a)]) (by simp[results,results35,go_sem,x,s,y,o,u,z]) rfl ?_;have hi:RatS w1 g3 (A3,m3,c3) (D,b,a) (-q):=⟨l.o,B.o.den⟩
  exact⟨g3,A3,m3,c3,D,b,a,rfl,hi.set3 k.o (by decide) _ _ _,bsc (bsc (bsc r.o))⟩
theorem int(x:Int)(h0 : -9223372036854775808≤x)(h1:x≤9223372036854775807)(w:World):Calls prog 13 #[.int .i64 x] w (ze4 w (x:Rat)):=by
 obtain⟨W,a⟩:∃W,(w.alloc (.cells #[false,(),()] 41))=W:=⟨_,rfl⟩
 have f:=un (show W.heap[w.heap.size]? = some (.cells #[false,(),()] 41 (0,0))by rw[←a];exact zam (by simp));have b:=un (show Below w w W by rw[←a];exact zae w _);go_enter func13,ntmps13;go_wp2_with fail
 clear a;refine(It.of x h0 h1 _).mono ?_
 rintro e w1 ⟨g3,A3,m3,c3,rfl,hn,hb⟩;have c:=un (zad hb f.o);have d:=un (hn);have j:=un (b.o.trans ((hb).mono b.o.size));obtain⟨g,k,o,_,i,l,q,_,m,n,r,_⟩:=bf3 c.o;clear hn hb;go_wp2;refine Zd (v:=.agg #[g3,(A3,m3,c3),()]) (by simp[results,results13,go_sem,g,k,i,l,m,n]) rfl ?_;have hi:RatS w1 g3 (A3,m3,c3) () (x:Rat):=⟨d.o,zas.zero _⟩
 exact⟨g3,A3,m3,c3,none,0,0,rfl,hi.set3 c.o (by decide) _ _ _,bsc (bsc (bsc j.o))⟩
