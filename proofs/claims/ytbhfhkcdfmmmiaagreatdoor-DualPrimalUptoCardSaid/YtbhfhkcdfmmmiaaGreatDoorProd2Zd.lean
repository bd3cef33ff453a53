/- Contracts and lemmas: Prod2 Prod3 Prod4. Conditions: as each says. -/
import Derived.Test.YtbhfhkcdfmmmiaaGreatDoorProd1Zd
import Derived.Test.YtbhfhkcdfmmmiaaGreatDoorNat3Zd
import Derived.Deep.DeepCutAuto
set_option linter.all false
set_option maxHeartbeats 10000000
set_option maxRecDepth 100000
namespace Go.Proofs.YtbhfhkcdfmmmiaaGreatDoor
open Go.RowKit Am
open Lib (hid)
attribute [local go_sem ↓] Go.wp_at_zero Go.wp_at_succ
variable {xs:List Nat}{c g k:Nat}{s:Value}{w:World}
def zpo (w:World) (x y:Nat) (e:Ending) (w':World):Prop:=∃(A:OA) (m c:Nat) (B:OA) (m' c':Nat),e=.returned (.tuple #[.agg #[(A,m,c)],.agg #[(B,m',c')]])∧zas w' (A,m,c) x∧zas w' (B,m',c') y∧Below w.heap.size w w'
namespace Pr
theorem zxA(W:World)(g n c k:Nat)(h1:k≤n) :
  (Instr.slice 43 (g,n,c) (some (.int .i64 (k:Int))) none none).run Tryz.prog W=.ok (.slice (some ⟨g,if c=k then 0 else k,none⟩) (n-k) (c-k)) W:=by
 have d:Tryz.prog.underlying 43=some (.slice (Tryz.prog.elem 43)):=by simp[Program.elem,Tryz.underlying43]
 have b:Tryz.prog.elem 43=184:=by simp[Program.elem,Tryz.underlying43]
 rw[run_slice_l W 43 _ _ _ d .i64 _ (by omega) (by omega),b];by_cases h0:c=k
 ·simp[Result.andThen,sliced,h0]
 ·by_cases a:k=0
  ·subst a;simp[Result.andThen,sliced,Addr.add,h0]
  ·simp[Result.andThen,sliced,Addr.add,h0,a]
theorem run_upto(W:World)(g n c k:Nat)(h1:k≤c)(d:0<c) :
  (Instr.slice 43 (g,n,c) none (some (.int .i64 (k:Int))) none).run Tryz.prog W=.ok (g,k,c) W:=by
 have b:Tryz.prog.underlying 43=some (.slice (Tryz.prog.elem 43)):=by simp[Program.elem,Tryz.underlying43]
 have a:Tryz.prog.elem 43=184:=by simp[Program.elem,Tryz.underlying43]
 rw[run_slice_h W 43 _ _ _ b .i64 _ (by omega) (by omega),a];have h0:c≠0:=by omega
 simp[Result.andThen,sliced,Addr.add,h0]
theorem znN(hw:Wds xs)(k:Nat):nval (xs.take k)=nval xs%B64^k∧nval (xs.drop k)=nval xs/B64^k:=by
 by_cases hk:k≤xs.length
 ·have e:=zaY xs k hk;have h1:=zc8 (xs.take k) (fun x b=>hw x (List.mem_of_mem_take b));rw[List.length_take,Nat.min_eq_left hk]at h1;have a:0<B64^k:=Nat.pow_pos (by decide);rw[e,Nat.add_mul_mod_self_left,Nat.mod_eq_of_lt h1,Nat.add_mul_div_left _ _ a,Nat.div_eq_of_lt h1];omega
 ·have h1:=zc8 xs hw;have c:B64^xs.length≤B64^k:=Nat.pow_le_pow_right (by decide) (by omega);rw[List.take_of_length_le (by omega),List.drop_eq_nil_of_le (by omega),Nat.mod_eq_of_lt (by omega),Nat.div_eq_of_lt (by omega)];exact⟨rfl,rfl⟩
theorem zv6(hw:Wds xs)(k:Nat):Wds (xs.take k):=fun x a=>hw x (List.mem_of_mem_take a)
theorem zv5(hw:Wds xs)(k:Nat):Wds (xs.drop k):=fun x a=>hw x (List.mem_of_mem_drop a)
theorem zBn(h:SW w (g,xs.length,c) xs)(hk:k≤xs.length):SR w (g,k,c) (xs.take k):=by
 obtain⟨A,c',e,h1,b,d,m,f⟩:=h.reads;cases e;refine⟨some ⟨g,0,none⟩,c,by rw[List.length_take,Nat.min_eq_left hk],by rw[List.length_take];omega,b,zv6 d k,nofun,fun l i j u a=>?_⟩;cases i;refine f _ rfl j u ?_;rw[zg7]at a;by_cases hj:j<k
 ·rwa [List.getElem?_take_of_lt hj]at a
 ·rw[List.getElem?_take_eq_none (by omega)]at a;cases a
theorem zBm(h:SW w (g,xs.length,c) xs)(hk:k≤xs.length):SR w (.slice (some ⟨g,if c=k then 0 else k,none⟩) (xs.length-k) (c-k)) (xs.drop k):=by
 obtain⟨A,c',e,h1,m,d,n,f⟩:=h.reads;cases e;refine⟨some ⟨g,if c=k then 0 else k,none⟩,c-k,by rw[List.length_drop],by rw[List.length_drop];omega,by omega,zv5 d k,nofun,fun l i j u a=>?_⟩;cases i;have b:(wcells xs)[k+j]? = some u:=by
  unfold wcells at a ⊢;rw[List.map_drop,List.getElem?_drop]at a;exact a
 have o:k+j<xs.length:=by
  have:=(List.getElem?_eq_some_iff.1 b).1
  rwa [zdA]at this
 rw[if_neg (by omega)];have:=f _ rfl (k+j) u b;have e:(⟨g,0,none⟩:Addr).add (k+j)=(⟨g,k,none⟩:Addr).add j:=by
  unfold Addr.add;simp only[];split<;>split<;>simp<;>omega
 rwa [e]at this
theorem zrS{w':World}(h:SR w s xs)(i:Below w.heap.size w w'):SR w' s xs:=by
 obtain⟨A,c,h1,b,d,e,f,g⟩:=h;exact⟨A,c,h1,b,d,e,f,fun a k j u l=>by
  have hc:=g a k j u l;rw[i.cell (World.block_lt_of_cell? w _ hc)];exact hc⟩
theorem zvr(h:SR w s xs):SR w.drew s xs:=zrS h (zap w 1)
theorem zJE(A:OA)(c k j:Nat)(xs:List Nat)(w:World)(r:SW w (A,xs.length,c) xs)(h1:1≤j)(hk:k≤LIM)(n:xs.length≤LIM)(i:j≤xs.length)
  (hj:(xs.length<k∧j=xs.length)∨(¬xs.length<k∧j=k)) :
  Calls Tryz.prog 131 #[.agg #[(A,xs.length,c)],(k:Int)] w (zpo w (nval (xs.take j)) (nval (xs.drop j))):=by
 have y:=hid r;have d:=hid n;have M:=hid hk;have Q:k≤9223372036854775807:=by have:=zaP;omega
 have S:xs.length≤9223372036854775807:=by have:=zaP;omega
 have F:(if xs.length<k then xs.length else k)=j:=by rcases hj with ⟨h,rfl⟩ | ⟨h,rfl⟩<;>simp[h]
 have P:j≤9223372036854775807:=by omega
 clear r n hk;go_enter Tryz.func131,Tryz.ntmps131;go_wp2_with fail
 refine(Nt.words A xs.length c xs _ (((y.out.alloc _).alloc _).alloc _) d.out).mono ?_;rintro e w1 ⟨A1,m1,c1,rfl,hs1,hb1⟩;rcases hs1.form with ⟨h,rfl⟩ | ⟨g,cap,h,hg,hcap,hm, -⟩
 ·exact absurd (Nat.le_trans h1 i) (by decide)
 ·cases h;unfold maxLen at hm;have R:=fun W=>run_upto W g xs.length c1 j (by omega) (by omega)
  have r2:=zBm hs1 i;have f:=fun W=>zxA W g xs.length c1 j (by omega)
  generalize (if c1=j then 0 else j)=o at r2 f;have s:xs.length-j=(xs.drop j).length:=by rw[List.length_drop]
  rw[s]at r2 f;generalize c1-j=q at r2 f;have x:=hid hb1;have u:=zBn hs1 i;have C:=hid u;have E:=hid r2;have z:=hid (show(xs.take j).length≤LIM by rw[List.length_take];have:=d.out;omega);have B:=hid (show(xs.drop j).length≤LIM by rw[List.length_drop];have:=d.out;omega);have I:=hid ((hb1.block (w.heap.size+1) (by simp)).trans (zak (zam (cs:=#[.slice none 0 0]) (t:=45) (by simp))));have J:=hid ((hb1.block (w.heap.size+1+1) (by simp)).trans (zam (cs:=#[.slice none 0 0]) (t:=45) (by simp)))
  have H:=hb1.size;simp at H;clear hs1 hb1 u r2 s;generalize hT:xs.take j=T at *
  generalize hD:xs.drop j=D at *
  clear F;rcases hj with ⟨G,rfl⟩ | ⟨G,rfl⟩
  all_goals
   go_wp2_with fail
   go_region_with (first
    | (go_at_call 112;(with_reducible refine(Nt.of _ _ _ (zvr C.out) z.out).mono ?_);rintro e U ⟨A2,m2,c2,rfl,hs2,hb2⟩)
    | (go_at_call 112;(with_reducible refine(Nt.of _ _ _ (zrS (zvr E.out) hb2) B.out).mono ?_);rintro e V ⟨A3,m3,c3,rfl,hs3,hb3⟩;have a:=hid (zad hb3 (zad hb2 I.out));have b:=hid (zad hb3 (zad hb2 J.out));have l:=zac a.out 0;have N:=zag a.out 0;have m:=zac b.out 0;have O:=zag b.out 0;simp only[List.getElem?_toArray,List.getElem?_cons_zero]at l m))
   go_goals
   go_wp2;refine bodyPost_ret (v:=.tuple #[.agg #[(A2,m2,c2)],.agg #[(A3,m3,c3)]]) (by simp[results,Tryz.results131,go_sem,l,m]) rfl ?_
   refine⟨_,_,_,_,_,_,rfl,((hs2.below hb3).setCell (p:=⟨w.heap.size+1,0,none⟩) a.out (by decide) _).setCell (p:=⟨w.heap.size+1+1,0,none⟩) ((Below.heap_setCell _ ⟨w.heap.size+1,0,none⟩ _ (w.heap.size+1+1) (by simp)).trans b.out) (by decide) _,(hs3.setCell (p:=⟨w.heap.size+1,0,none⟩) a.out (by decide) _).setCell (p:=⟨w.heap.size+1+1,0,none⟩) ((Below.heap_setCell _ ⟨w.heap.size+1,0,none⟩ _ (w.heap.size+1+1) (by simp)).trans b.out) (by decide) _,Below.setCell (Below.setCell ?_ (by simp) _) (by simp;omega) _⟩
   have K:=(((zae w (.cells #[(A,xs.length,c)] 45)).alloc (by simp) (.cells #[()] 45)).alloc (by simp;omega) (.cells #[()] 45)).trans (x.out.mono (by simp;omega));have L:=bstep K (zhk (Below.refl _ _) 1) (by omega);exact bstep (bstep L hb2 (by simp;omega)) hb3 (by have:=hb2.size;simp at this;omega)
theorem cut(A:OA)(m c a k:Nat)(w:World)(l:zas w (A,m,c) a)(h1:1≤k)(hk:k≤LIM)(g:1≤wlen a)(d:wlen a≤LIM) :
  Calls Tryz.prog 131 #[.agg #[(A,m,c)],(k:Int)] w (zpo w (a%B64^k) (a/B64^k)):=by
 obtain⟨xs,f,o,rfl,n,rfl⟩:=l.words;rw[←n]at d g;have e:=znN f.2 k;by_cases b:xs.length<k
 ·have h:=zJE A c k xs.length xs w f g hk d (Nat.le_refl _) (.inl ⟨b,rfl⟩);have i:xs.take xs.length=xs.take k:=by rw[List.take_of_length_le (Nat.le_refl _),List.take_of_length_le (Nat.le_of_lt b)]
  have j:xs.drop xs.length=xs.drop k:=by rw[List.drop_eq_nil_of_le (Nat.le_refl _),List.drop_eq_nil_of_le (Nat.le_of_lt b)]
  rw[i,j,e.1,e.2]at h;exact h
 ·have h:=zJE A c k k xs w f h1 hk d (by omega) (.inr ⟨b,rfl⟩);rw[e.1,e.2]at h;exact h
theorem raised(A:OA)(m c a k:Nat)(w:World)(x:zas w (A,m,c) a)(hk:k+wlen a≤LIM) :
    Calls Tryz.prog 134 #[.agg #[(A,m,c)],(k:Int)] w (zc0 w (a*B64^k)):=by
  obtain⟨xs,E,V,rfl,B,rfl⟩:=x.words;rw[←B]at hk;have P:=hid E;have n:=hid hk;have j:k≤16*LIM:=by have:=zaP;omega
  have q:=hid j;have Q:=hid (show xs.length≤LIM by omega);have D:nval (List.replicate k 0++xs)=nval xs*B64^k:=by rw[zc7,zbK,List.length_replicate];simp[Nat.mul_comm]
  have O:=hid D;have aa:k≤9223372036854775807:=by have:=zaP;omega
  have zm:=zyv k j;clear x E hk B j V D;have S:((w.alloc (.cells #[(A,xs.length,c)] 45)).alloc (.cells #[()] 45)).cell? ⟨w.heap.size,0,none⟩=some (A,xs.length,c):=cell_al (zax rfl rfl);have I:((w.alloc (.cells #[(A,xs.length,c)] 45)).alloc (.cells #[()] 45)).heap[w.heap.size+1]? = some (.cells #[()] 45 (0,0)):=zam (by simp)
  have y:Below w.heap.size w ((w.alloc (.cells #[(A,xs.length,c)] 45)).alloc (.cells #[()] 45)):=(zae w _).alloc (by simp) _;have F:((w.alloc (.cells #[(A,xs.length,c)] 45)).alloc (.cells #[()] 45)).heap.size=w.heap.size+1+1:=by simp
  have u:=(P.out.alloc (.cells #[(A,xs.length,c)] 45)).alloc (.cells #[()] 45);go_enter Tryz.func134,Tryz.ntmps134;go_wp2_with fail
  generalize ((w.alloc (.cells #[(A,xs.length,c)] 45)).alloc (.cells #[()] 45))=W at *
  have s:=hid u;have l:=hid y;have R:=hid F;have o:=hid I;clear u y F I;have T:=cell_al (ob:=.cells (zrow k) 184) S
  go_region_law (first
    | (refine znT (by rfl) 146 Tryz.func146 (by kernel_rfl) (by rfl) _ _ (by rfl) _ (by rfl) (Nt.words A xs.length c xs _ (by first | exact s.out.drew | exact(s.out.alloc _).drew) Q.out) ?_;rintro e w1 ⟨A1,m1,T,rfl,hs1,hb1⟩;refine⟨_,rfl,?_⟩;have r:=hid hs1;have b:=hid hb1;clear hs1 hb1)
    | (refine zqA (by rfl) _ _ (by rfl) (by first | exact(zn5 W k q.out).drew.step b.out | exact zn5 _ k q.out) (Wds.replicate k) (by rfl) (by rfl) (by first | exact(r.out.alloc _).reads | exact r.out.reads) n.out ?_;rintro K Y U w2 C z;have M:=hid C;have d:=hid z;clear C z)
    | (refine znT (by rfl) 112 Tryz.func112 (by kernel_rfl) (by rfl) _ _ (by rfl) _ (by rfl) (Nt.of (K,Y,U) (List.replicate k 0 ++ xs) _ M.out.reads (by rw [List.length_append,List.length_replicate];exact n.out)) ?_;rintro e J ⟨A3,m3,c3,rfl,f,hb3⟩;refine ⟨_,rfl,?_⟩;have N:=hid f;have g:=hid hb3;clear f hb3;
       have X:=R.out;have G:=b.out.size;try simp at G;have H:=d.out.size;try simp at H;
       have L:=hid (show Below w.heap.size w J by first
         | exact bstep ((bstep (zhk (l.out.alloc (by omega) (.cells (zrow k) 184)) 1) b.out (by first | omega | (simp;done) | (simp;omega))).trans (d.out.mono (by first | omega | (simp;done) | (simp;omega)))) g.out (by first | omega | (simp;done) | (simp;omega))
         | exact bstep (((bstep (zhk l.out 1) b.out (by first | omega | (simp;done) | (simp;omega))).alloc (by first | omega | (simp;done) | (simp;omega)) (.cells (zrow k) 184)).trans (d.out.mono (by first | omega | (simp;done) | (simp;omega)))) g.out (by first | omega | (simp;done) | (simp;omega)));
       have i:=hid (show J.heap[w.heap.size+1]? = some (.cells #[()] 45 (0,0))by first
         | exact zad g.out ((d.out.block _ (by omega)).trans (zad b.out (zak o.out)))
         | exact zad g.out ((d.out.block _ (by omega)).trans (zak (zad b.out o.out))));
       have t:=zac i.out 0;have Z:=zag i.out 0;simp only[List.getElem?_toArray,List.getElem?_cons_zero]at t;clear X G H))
  all_goals
    go_wp2;refine bodyPost_ret (v:=.agg #[(A3,m3,c3)]) (by simp[results,Tryz.results134,go_sem,t]) rfl ?_;have f:=N.out;rw[O.out]at f;exact⟨_,_,_,rfl,f.setCell (p:=⟨w.heap.size+1,0,none⟩) i.out (by decide) _,Below.setCell L.out (by simp) _⟩
end Pr
namespace Pr
theorem zu7(A B:OA)(m c m' c' a b:Nat)(w:World)(i:zas w (A,m,c) a)(j:zas w (B,m',c') b)(s:wlen a+wlen b≤LIM)(x:wlen a<8∨wlen b<8) :
  Calls Tryz.prog 111 #[.agg #[(A,m,c)],.agg #[(B,m',c')]] w (zc0 w (a*b)):=by
 obtain⟨xs,y,T,V,t,rfl⟩:=i.words;obtain⟨ys,z,U,W,u,rfl⟩:=j.words;have D:=hid i;have F:=hid j;have K:=hid s;have N:=hid y;have P:=hid z;rw[←t,←u]at x;obtain⟨f,k⟩:∃f,f=if ys.length<xs.length then ys.length else xs.length:=⟨_,rfl⟩
 have Y:(f:Int)<8:=by split at k<;>omega
 have Z:(if ys.length<xs.length then (ys.length:Int)else (xs.length:Int))=(f:Int):=by rw[k];split<;>rfl
 clear k x;clear i j s y z T U V W t u;have R:(((w.alloc (.cells #[(A,xs.length,c)] 45)).alloc (.cells #[(B,ys.length,c')] 45)).alloc (.cells #[()] 45)).cell? ⟨w.heap.size,0,none⟩=some (A,xs.length,c):=cell_al (cell_al (zax rfl rfl));have g:(((w.alloc (.cells #[(A,xs.length,c)] 45)).alloc (.cells #[(B,ys.length,c')] 45)).alloc (.cells #[()] 45)).cell? ⟨w.heap.size+1,0,none⟩=some (B,ys.length,c'):=cell_al (zax (by simp) rfl)
 have k2:(((w.alloc (.cells #[(A,xs.length,c)] 45)).alloc (.cells #[(B,ys.length,c')] 45)).alloc (.cells #[()] 45)).heap[w.heap.size+1+1]? = some (.cells #[()] 45 (0,0)):=zam (by simp);have kb:Below w.heap.size w (((w.alloc (.cells #[(A,xs.length,c)] 45)).alloc (.cells #[(B,ys.length,c')] 45)).alloc (.cells #[()] 45)):=((zae w _).alloc (by simp) _).alloc (by simp;omega) _
 have C:(((w.alloc (.cells #[(A,xs.length,c)] 45)).alloc (.cells #[(B,ys.length,c')] 45)).alloc (.cells #[()] 45)).heap.size=w.heap.size+1+1+1:=by simp
 have n:=D.out.below kb;have o:=F.out.below kb;have q:=N.out.below kb;have r:=P.out.below kb;go_enter Tryz.func111,Tryz.ntmps111;go_wp2_with fail
 generalize (((w.alloc (.cells #[(A,xs.length,c)] 45)).alloc (.cells #[(B,ys.length,c')] 45)).alloc (.cells #[()] 45))=W0 at *
 have L:=hid (show ∀w',Below W0.heap.size W0 w'→((w'.cell? ⟨w.heap.size,0,none⟩=some (A,xs.length,c)∧w'.cell? ⟨w.heap.size+1,0,none⟩=some (B,ys.length,c'))∧Below W0.heap.size W0 w')from fun w' h=>⟨⟨zab h R,zab h g⟩,h⟩);have O:=hid q;have Q:=hid r;have E:=hid n;have G:=hid o;have H:=hid k2;have J:=hid kb;have l:=hid C;clear q r n o k2 kb C
 go_region_held3 (fun w'=>(w'.cell? ⟨w.heap.size,0,none⟩=some (A,xs.length,c)∧w'.cell? ⟨w.heap.size+1,0,none⟩=some (B,ys.length,c'))∧Below W0.heap.size W0 w')
  ((refine L.out _ ?_;repeat(first | exact Below.refl _ _ | exact(by assumption:_∧Below _ _ _).2 | with_reducible refine bdrew ?_ | with_reducible refine al2 ?_ _)))
  (first
   | (go_at_call 129;(with_reducible refine(Nt.len (A,xs.length,c) xs _ (O.out.below (by assumption:_∧Below _ _ _).2)).mono ?_);rintro e w' ⟨rfl,rfl⟩)
   | (go_at_call 129;(with_reducible refine(Nt.len (B,ys.length,c') ys _ (Q.out.below (by assumption:_∧Below _ _ _).2)).mono ?_);rintro e w' ⟨rfl,rfl⟩))
 go_wp2_with fail
 have d:=(by assumption:_∧Below W0.heap.size W0 ((W0.alloc (.cells #[(A,xs.length,c)] 45)).alloc (.cells #[(B,ys.length,c')] 45)).drew).2;refine(school A B xs.length c ys.length c' a b _ (E.out.below d) (G.out.below d) K.out).mono ?_;rintro e w1 ⟨A1,m1,g,rfl,hs1,hb1⟩;have hk:=zad hb1 (zad d H.out);have hc:w1.cell? ⟨w.heap.size+1+1,0,none⟩=some ():=zac hk 0;have X:=zag hk 0;have I:=hid hk
 have S:=hid (bstep (J.out.trans (d.mono (by have:=l.out;omega))) hb1 (by have:=l.out;have:=d.size;omega));have M:=hid hs1;clear hk hs1 d;go_wp2;refine bodyPost_ret (v:=.agg #[(A1,m1,g)]) (by simp[results,Tryz.results111,go_sem,hc]) rfl ?_;exact⟨_,_,_,rfl,M.out.setCell (p:=⟨w.heap.size+1+1,0,none⟩) I.out (by decide) _,Below.setCell S.out (by simp;omega) _⟩
end Pr
namespace Pr
theorem zA8(A:OA)(m c a k:Nat)(K:Int)(b:K=(k:Int))(w:World)(d:zas w (A,m,c) a)(hk:k+wlen a≤LIM) :
  Calls Tryz.prog 134 #[.agg #[(A,m,c)],.int .i64 K] w (zc0 w (a*B64^k)):=by subst b;exact raised A m c a k w d hk
theorem zAW(p q r s:Nat):p*r+q*s≤(p+q)*(r+s):=by
 have:(p+q)*(r+s)=p*r+q*s+(p*s+q*r):=by grind
 omega
theorem kara(a b X:Nat)(_:0<X):a%X*(b%X)+(((a%X+a/X)*(b%X+b/X)-(a%X*(b%X)+a/X*(b/X)))*X+a/X*(b/X)*(X*X))=a*b:=by
 have c:=Nat.mod_add_div a X;have d:=Nat.mod_add_div b X;generalize a%X=p at *
 generalize a/X=q at *
 generalize b%X=r at *
 generalize b/X=s at *
 have:(p+q)*(r+s)-(p*r+q*s)=p*s+q*r:=by
  have:(p+q)*(r+s)=p*r+q*s+(p*s+q*r):=by grind
  omega
 rw[this,←c,←d];grind
def zpn (M:Nat):Prop := ∀ (A B:OA) (m c m' c' a b:Nat) (w:World),zas w (A,m,c) a → zas w (B,m',c') b → 4 * wlen a ≤ LIM → 4 * wlen b ≤ LIM → wlen a < M → wlen b < M →
    Calls Tryz.prog 111 #[.agg #[(A,m,c)],.agg #[(B,m',c')]] w (zc0 w (a*b))
theorem zA1(A B:OA)(m c m' c' a b M:Nat)(w:World)(ih:zpn M)(hM:wlen a≤M∧wlen b≤M)(ha:zas w (A,m,c) a)(hb:zas w (B,m',c') b)(dX:4*wlen a≤LIM)(dY:4*wlen b≤LIM)(bB:8≤wlen a)(bC:8≤wlen b) :
  Calls Tryz.prog 111 #[.agg #[(A,m,c)],.agg #[(B,m',c')]] w (zc0 w (a*b)):=by
 obtain⟨xs,hx,dT,d4,bG,rfl⟩:=ha.words;obtain⟨ys,hy,dU,d5,bH,rfl⟩:=hb.words;have HA:=hid ha;have HB:=hid hb;have bt:=hid bG;have bu:=hid bH;unfold zpn at ih;have IH:=hid ih;have HX:=hid hx;have HY:=hid hy;rw[←bG]at bB;rw[←bH]at bC;obtain⟨mn,bI⟩:∃mn,mn=if ys.length<xs.length then ys.length else xs.length:=⟨_,rfl⟩
 have dZ:¬(mn:Int)<8:=by split at bI<;>omega
 have d2:(if ys.length<xs.length then (ys.length:Int)else (xs.length:Int))=(mn:Int):=by rw[bI];split<;>rfl
 obtain⟨g,bJ⟩:∃g,g=if xs.length<ys.length then ys.length else xs.length:=⟨_,rfl⟩
 have d0:(if xs.length<ys.length then (ys.length:Int)else (xs.length:Int))=(g:Int):=by rw[bJ];split<;>rfl
 have dl:xs.length≤g∧ys.length≤g∧g≤LIM∧g≤M∧4*g≤LIM:=by have:=zaP;split at bJ<;>omega
 have eW:8≤g:=by omega
 have R:=hid dl;have eX:g≤9223372036854775806:=by have:=zaP;omega
 clear bI bJ dl;clear ih ha hb hx hy dT dU d4 d5 bG bH;have c0:(((w.alloc (.cells #[(A,xs.length,c)] 45)).alloc (.cells #[(B,ys.length,c')] 45)).alloc (.cells #[()] 45)).cell? ⟨w.heap.size,0,none⟩=some (A,xs.length,c):=cell_al (cell_al (zax rfl rfl))
 have n:(((w.alloc (.cells #[(A,xs.length,c)] 45)).alloc (.cells #[(B,ys.length,c')] 45)).alloc (.cells #[()] 45)).cell? ⟨w.heap.size+1,0,none⟩=some (B,ys.length,c'):=cell_al (zax (by simp) rfl);have k2:(((w.alloc (.cells #[(A,xs.length,c)] 45)).alloc (.cells #[(B,ys.length,c')] 45)).alloc (.cells #[()] 45)).heap[w.heap.size+1+1]? = some (.cells #[()] 45 (0,0)):=zam (by simp)
 have kb:Below w.heap.size w (((w.alloc (.cells #[(A,xs.length,c)] 45)).alloc (.cells #[(B,ys.length,c')] 45)).alloc (.cells #[()] 45)):=((zae w _).alloc (by simp) _).alloc (by simp;omega) _;have kz:(((w.alloc (.cells #[(A,xs.length,c)] 45)).alloc (.cells #[(B,ys.length,c')] 45)).alloc (.cells #[()] 45)).heap.size=w.heap.size+1+1+1:=by simp
 have c6:=HA.out.below kb;have c7:=HB.out.below kb;have de:=HX.out.below kb;have df:=HY.out.below kb;go_enter Tryz.func111,Tryz.ntmps111;go_wp2_with fail
 generalize (((w.alloc (.cells #[(A,xs.length,c)] 45)).alloc (.cells #[(B,ys.length,c')] 45)).alloc (.cells #[()] 45))=W0 at *
 have o:=hid (show ∀w',Below W0.heap.size W0 w'→((w'.cell? ⟨w.heap.size,0,none⟩=some (A,xs.length,c)∧w'.cell? ⟨w.heap.size+1,0,none⟩=some (B,ys.length,c'))∧Below W0.heap.size W0 w')from fun w' h=>⟨⟨zab h c0,zab h n⟩,h⟩);have bv:=hid de;have bw:=hid df;have dz:=hid c6;have dB:=hid c7;have cn:=hid k2;have co:=hid kb;have cp:=hid kz;clear de df c6 c7 k2 kb kz;have dw:=hid bB;have dx:=hid bC;clear dX dY bB bC
 go_region_held3 (fun w'=>(w'.cell? ⟨w.heap.size,0,none⟩=some (A,xs.length,c)∧w'.cell? ⟨w.heap.size+1,0,none⟩=some (B,ys.length,c'))∧Below W0.heap.size W0 w')
  ((refine o.out _ ?_;repeat(first | exact Below.refl _ _ | exact(by assumption:_∧Below _ _ _).2 | with_reducible refine bdrew ?_ | with_reducible refine al2 ?_ _)))
  (first
   | (go_at_call 129;(with_reducible refine(Nt.len (A,xs.length,c) xs _ (bv.out.below (by assumption:_∧Below _ _ _).2)).mono ?_);rintro e w' ⟨rfl,rfl⟩)
   | (go_at_call 129;(with_reducible refine(Nt.len (B,ys.length,c') ys _ (bw.out.below (by assumption:_∧Below _ _ _).2)).mono ?_);rintro e w' ⟨rfl,rfl⟩))
 go_wp2_with fail
 go_region_held3 (fun w'=>(w'.cell? ⟨w.heap.size,0,none⟩=some (A,xs.length,c)∧w'.cell? ⟨w.heap.size+1,0,none⟩=some (B,ys.length,c'))∧Below W0.heap.size W0 w')
  ((refine o.out _ ?_;repeat(first | exact Below.refl _ _ | exact(by assumption:_∧Below _ _ _).2 | with_reducible refine bdrew ?_ | with_reducible refine al2 ?_ _)))
  (first
   | (go_at_call 129;(with_reducible refine(Nt.len (A,xs.length,c) xs _ (bv.out.below (by assumption:_∧Below _ _ _).2)).mono ?_);rintro e w' ⟨rfl,rfl⟩)
   | (go_at_call 129;(with_reducible refine(Nt.len (B,ys.length,c') ys _ (bw.out.below (by assumption:_∧Below _ _ _).2)).mono ?_);rintro e w' ⟨rfl,rfl⟩))
 obtain⟨k,hk⟩:∃k,k=(g+1)/2:=⟨_,rfl⟩
 have e1:IntKind.i64.wrap ((IntKind.i64.wrap ((g:Int)+1)).tdiv 2)=(k:Int):=by
  rw[IntWalk.i64_in ((g:Int)+1) (by omega),Int.tdiv_eq_ediv_of_nonneg (by omega),hk];have:((g:Int)+1)/2=(((g+1)/2:Nat):Int):=by omega
  rw[this,IntWalk.i64_in _ (by omega)]
 simp only[e1];clear e1;have dW:4≤k:=by omega
 have dk:k+1<g:=by omega
 have dj:g≤2*k:=by omega
 clear hk;have hh:=(by assumption:_∧Below W0.heap.size W0 ((((W0.alloc (.cells #[(A,xs.length,c)] 45)).alloc (.cells #[(B,ys.length,c')] 45)).alloc (.cells #[(A,xs.length,c)] 45)).alloc (.cells #[(B,ys.length,c')] 45)).drew.drew).2;generalize hV:((((W0.alloc (.cells #[(A,xs.length,c)] 45)).alloc (.cells #[(B,ys.length,c')] 45)).alloc (.cells #[(A,xs.length,c)] 45)).alloc (.cells #[(B,ys.length,c')] 45)).drew.drew=w1 at *
 clear hV;have HK:=hid dW;have i:=hid dk;have bs:=hid dj;have d1:=zab hh n;have ci:=hid (dz.out.below hh);have cj:=hid (dB.out.below hh);have D1:=hid d1;have D2:=hid (zad hh cn.out);have DB:=hid (co.out.trans (hh.mono (by have:=cp.out;omega)));have DZ:=hid (show w.heap.size+3≤w1.heap.size by have:=hh.size;have:=cp.out;omega);clear dj dk c0 n d2 d0 dZ HX HY bv bw co o cn;go_wp2_with fail
 have G:(∃v,v=1):=⟨1,rfl⟩
 refine(cut A xs.length c a k _ ci.out (by omega) (by have:=R.out;have:=i.out;omega) (by rw[←bt.out];have:=dw.out;omega) (by have:=R.out;rw[←bt.out];omega)).mono ?_;rintro e w2 ⟨A1,m1,n,A2,m2,c2,rfl,ha0,a4,f⟩;have d3:=cell_al (ob:=.cells #[(A2,m2,c2)] 45) (cell_al (ob:=.cells #[(A1,m1,n)] 45) (zab f D1.out));have cb:=hid ha0;have cc:=hid a4;have a5:=hid f;have aW:=f.size;have aV:=DZ.out;clear ha0 a4 f G;go_wp2_with fail
 refine(cut B ys.length c' b k _ ((cj.out.below a5.out).alloc _ |>.alloc _) (by omega) (by have:=R.out;have:=i.out;omega) (by rw[←bu.out];have:=dx.out;omega) (by have:=R.out;rw[←bu.out];omega)).mono ?_;rintro e H ⟨B1,m3,c3,B2,m4,c4,rfl,hb0,hb1',hb3⟩;have aX:=hb3.size;simp at aX;clear d3;go_wp2_with fail
 have P0:((H.alloc (.cells #[(B1,m3,c3)] 45)).alloc (.cells #[(B2,m4,c4)] 45)).cell? ⟨w2.heap.size,0,none⟩=some (A1,m1,n):=cell_al (cell_al (zab hb3 (cell_al (zax rfl rfl))));have P1:((H.alloc (.cells #[(B1,m3,c3)] 45)).alloc (.cells #[(B2,m4,c4)] 45)).cell? ⟨w2.heap.size+1,0,none⟩=some (A2,m2,c2):=cell_al (cell_al (zab hb3 (zax (by simp) rfl)))
 have P2:((H.alloc (.cells #[(B1,m3,c3)] 45)).alloc (.cells #[(B2,m4,c4)] 45)).cell? ⟨H.heap.size,0,none⟩=some (B1,m3,c3):=cell_al (zax rfl rfl);have P3:((H.alloc (.cells #[(B1,m3,c3)] 45)).alloc (.cells #[(B2,m4,c4)] 45)).cell? ⟨H.heap.size+1,0,none⟩=some (B2,m4,c4):=zax (by simp) rfl
 have N0:=hid ((((cb.out.alloc (.cells #[(A1,m1,n)] 45)).alloc (.cells #[(A2,m2,c2)] 45)).below hb3).alloc (.cells #[(B1,m3,c3)] 45) |>.alloc (.cells #[(B2,m4,c4)] 45));have N1:=hid ((((cc.out.alloc (.cells #[(A1,m1,n)] 45)).alloc (.cells #[(A2,m2,c2)] 45)).below hb3).alloc (.cells #[(B1,m3,c3)] 45) |>.alloc (.cells #[(B2,m4,c4)] 45));have N2:=hid ((hb0.alloc (.cells #[(B1,m3,c3)] 45)).alloc (.cells #[(B2,m4,c4)] 45))
 have N3:=hid ((hb1'.alloc (.cells #[(B1,m3,c3)] 45)).alloc (.cells #[(B2,m4,c4)] 45));have X:=hid (show((H.alloc (.cells #[(B1,m3,c3)] 45)).alloc (.cells #[(B2,m4,c4)] 45)).heap[w.heap.size+1+1]? = some (.cells #[()] 45 (0,0))from zak (zak (zad hb3 (zak (zak (zad a5.out D2.out))))));have W:=hid (show Below w.heap.size w ((H.alloc (.cells #[(B1,m3,c3)] 45)).alloc (.cells #[(B2,m4,c4)] 45))from al2 (al2 (zc1 (al2 (al2 (zc1 DB.out a5.out) _) _) hb3) _) _)
 have E:=hid (show w.heap.size+3≤((H.alloc (.cells #[(B1,m3,c3)] 45)).alloc (.cells #[(B2,m4,c4)] 45)).heap.size by simp;omega);generalize hV:(H.alloc (.cells #[(B1,m3,c3)] 45)).alloc (.cells #[(B2,m4,c4)] 45)=V at *
 clear hV hb0 hb1' hb3 aX a5 cb cc DB DZ D2 D1 ci cj;generalize w2.heap.size=p0 at *
 generalize H.heap.size=q0 at *
 have a4:wlen (a%B64^k)≤k:=zaZ (Nat.mod_lt _ (Nat.pow_pos (by decide)));have l:wlen (b%B64^k)≤k:=zaZ (Nat.mod_lt _ (Nat.pow_pos (by decide)));have dg:wlen (a/B64^k)≤g-k:=zaZ (by
  have h1:=zfD a;have h2:B64^wlen a≤B64^(g-k)*B64^k:=by rw[←Nat.pow_add];exact Nat.pow_le_pow_right (by decide) (by have:=R.out;have:=bt.out;have:=i.out;omega)
  exact(Nat.div_lt_iff_lt_mul (Nat.pow_pos (by decide))).2 (by omega))
 have f:wlen (b/B64^k)≤g-k:=zaZ (by
  have h1:=zfD b;have h2:B64^wlen b≤B64^(g-k)*B64^k:=by rw[←Nat.pow_add];exact Nat.pow_le_pow_right (by decide) (by have:=R.out;have:=bu.out;have:=i.out;omega)
  exact(Nat.div_lt_iff_lt_mul (Nat.pow_pos (by decide))).2 (by omega))
 have dc:4*g≤LIM:=by have:=R.out;omega
 have F0:=hid (show 4*wlen (a%B64^k)≤LIM by have:=i.out;omega);have F1:=hid (show 4*wlen (a/B64^k)≤LIM by omega);have F2:=hid (show 4*wlen (b%B64^k)≤LIM by have:=i.out;omega);have F3:=hid (show 4*wlen (b/B64^k)≤LIM by omega);have dd:g≤M:=by have:=R.out;omega
 have G0:=hid (show wlen (a%B64^k)<M by have:=i.out;omega);have G1:=hid (show wlen (a/B64^k)<M by have:=HK.out;omega);have G2:=hid (show wlen (b%B64^k)<M by have:=i.out;omega);have G3:=hid (show wlen (b/B64^k)<M by have:=HK.out;omega);have a6:=hid (And.intro a4 dg);have a7:=hid (And.intro l f);have F:=hid dc;have cq:=hid dd;clear a4 dg l f dc dd
 have o:=hid (show ∀w',Below V.heap.size V w'→((w'.cell? ⟨p0,0,none⟩=some (A1,m1,n)∧w'.cell? ⟨p0+1,0,none⟩=some (A2,m2,c2)∧w'.cell? ⟨q0,0,none⟩=some (B1,m3,c3)∧w'.cell? ⟨q0+1,0,none⟩=some (B2,m4,c4))∧Below V.heap.size V w')from fun w' h=>⟨⟨zab h P0,zab h P1,zab h P2,zab h P3⟩,h⟩)
 go_cut[10,11] (fun ea eb wr=>∃(N O:Nat) (q:OA) (C x:Nat) (r:OA) (z u:Nat),ea=.pointer (some ⟨N,0,none⟩)∧eb=.pointer (some ⟨O,0,none⟩)∧Below V.heap.size V wr ∧
  wr.cell? ⟨N,0,none⟩=some (q,C,x)∧wr.cell? ⟨O,0,none⟩=some (r,z,u)∧zas wr (q,C,x) (a%B64^k*(b%B64^k))∧zas wr (r,z,u) (a/B64^k*(b/B64^k))∧V.heap.size≤N∧V.heap.size≤O)
 case first =>
  go_region_held3 (fun w'=>(w'.cell? ⟨p0,0,none⟩=some (A1,m1,n)∧w'.cell? ⟨p0+1,0,none⟩=some (A2,m2,c2)∧w'.cell? ⟨q0,0,none⟩=some (B1,m3,c3)∧w'.cell? ⟨q0+1,0,none⟩=some (B2,m4,c4))∧Below V.heap.size V w')
   ((refine o.out _ ?_;repeat(first | exact Below.refl _ _ | exact(by assumption:_∧Below _ _ _).2 | with_reducible refine bdrew ?_ | with_reducible refine al2 ?_ _ | with_reducible refine set2 ?_ (by omega) | with_reducible refine zc1 ?_ (by assumption))))
   (first
    | (go_at_call 111;(with_reducible refine(IH.out A1 B1 m1 n m3 c3 (a%B64^k) (b%B64^k) _ (N0.out.below (by assumption:_∧Below _ _ _).2) (N2.out.below (by assumption:_∧Below _ _ _).2) F0.out F2.out G0.out G2.out).mono ?_);rintro e u1 ⟨q,C,x,rfl,hl,hbl⟩;have d9:=hbl.size;(try simp at d9);have eY:V.heap.size≤u1.heap.size:=(by omega);(try((first | (have d:=zan (b:=V.heap.size) (v:=.slice none 0 0) (t:=45) hbl (zal _ _ _);obtain⟨j,⟨cF,cI⟩,⟨cG,cJ⟩,⟨cH,cK⟩,⟨cL,cM⟩,cN,cO⟩:=d) | (have d:=zan (b:=V.heap.size) (v:=.slice none 0 0) (t:=45) hbl (zak (zal _ _ _));obtain⟨j,⟨cF,cI⟩,⟨cG,cJ⟩,⟨cH,cK⟩,⟨cL,cM⟩,cN,cO⟩:=d) | (have d:=zan (b:=V.heap.size) (v:=.slice none 0 0) (t:=45) hbl (zbD _ _ _ _);obtain⟨j,⟨cF,cI⟩,⟨cG,cJ⟩,⟨cH,cK⟩,⟨cL,cM⟩,cN,cO⟩:=d));have j:=hid j));(try((first | (have d:=zan (b:=V.heap.size+1) (v:=.slice none 0 0) (t:=45) hbl (zal _ _ _);obtain⟨s,⟨cP,cS⟩,⟨cQ,cT⟩,⟨cR,cU⟩,⟨cV,cW⟩,cX,cY⟩:=d) | (have d:=zan (b:=V.heap.size+1) (v:=.slice none 0 0) (t:=45) hbl (zak (zal _ _ _));obtain⟨s,⟨cP,cS⟩,⟨cQ,cT⟩,⟨cR,cU⟩,⟨cV,cW⟩,cX,cY⟩:=d) | (have d:=zan (b:=V.heap.size+1) (v:=.slice none 0 0) (t:=45) hbl (zbD _ _ _ _);obtain⟨s,⟨cP,cS⟩,⟨cQ,cT⟩,⟨cR,cU⟩,⟨cV,cW⟩,cX,cY⟩:=d));have s:=hid s));have dE:=hid hl;clear hl)
    | (go_at_call 111;(with_reducible refine(IH.out A2 B2 m2 c2 m4 c4 (a/B64^k) (b/B64^k) _ (N1.out.below (by assumption:_∧Below _ _ _).2) (N3.out.below (by assumption:_∧Below _ _ _).2) F1.out F3.out G1.out G3.out).mono ?_);rintro e u2 ⟨r,z,u,rfl,hh2,hbh⟩;have d8:=hbh.size;(try simp at d8);have eZ:V.heap.size≤u2.heap.size:=(by omega);(try((first | (have d:=zan (b:=V.heap.size) (v:=.slice none 0 0) (t:=45) hbh (j.out);obtain⟨I,⟨Y,ab⟩,⟨Z,ac⟩,⟨aa,ad⟩,⟨ae,af⟩,ag,ah⟩:=d) | (have d:=zan (b:=V.heap.size) (v:=.slice none 0 0) (t:=45) hbh (s.out);obtain⟨I,⟨Y,ab⟩,⟨Z,ac⟩,⟨aa,ad⟩,⟨ae,af⟩,ag,ah⟩:=d) | (have d:=zan (b:=V.heap.size) (v:=.slice none 0 0) (t:=45) hbh (zak j.out);obtain⟨I,⟨Y,ab⟩,⟨Z,ac⟩,⟨aa,ad⟩,⟨ae,af⟩,ag,ah⟩:=d) | (have d:=zan (b:=V.heap.size) (v:=.slice none 0 0) (t:=45) hbh (zak s.out);obtain⟨I,⟨Y,ab⟩,⟨Z,ac⟩,⟨aa,ad⟩,⟨ae,af⟩,ag,ah⟩:=d) | (have d:=zan (b:=V.heap.size) (v:=.slice none 0 0) (t:=45) hbh (zak (zak j.out));obtain⟨I,⟨Y,ab⟩,⟨Z,ac⟩,⟨aa,ad⟩,⟨ae,af⟩,ag,ah⟩:=d) | (have d:=zan (b:=V.heap.size) (v:=.slice none 0 0) (t:=45) hbh (zal _ _ _);obtain⟨I,⟨Y,ab⟩,⟨Z,ac⟩,⟨aa,ad⟩,⟨ae,af⟩,ag,ah⟩:=d) | (have d:=zan (b:=V.heap.size) (v:=.slice none 0 0) (t:=45) hbh (zak (zal _ _ _));obtain⟨I,⟨Y,ab⟩,⟨Z,ac⟩,⟨aa,ad⟩,⟨ae,af⟩,ag,ah⟩:=d) | (have d:=zan (b:=V.heap.size) (v:=.slice none 0 0) (t:=45) hbh (zbD _ _ _ _);obtain⟨I,⟨Y,ab⟩,⟨Z,ac⟩,⟨aa,ad⟩,⟨ae,af⟩,ag,ah⟩:=d));have I:=hid I));(try((first | (have d:=zan (b:=V.heap.size+1) (v:=.slice none 0 0) (t:=45) hbh (j.out);obtain⟨J,⟨ai,al⟩,⟨aj,am⟩,⟨ak,an⟩,⟨ao,ap⟩,aq,ar⟩:=d) | (have d:=zan (b:=V.heap.size+1) (v:=.slice none 0 0) (t:=45) hbh (s.out);obtain⟨J,⟨ai,al⟩,⟨aj,am⟩,⟨ak,an⟩,⟨ao,ap⟩,aq,ar⟩:=d) | (have d:=zan (b:=V.heap.size+1) (v:=.slice none 0 0) (t:=45) hbh (zak j.out);obtain⟨J,⟨ai,al⟩,⟨aj,am⟩,⟨ak,an⟩,⟨ao,ap⟩,aq,ar⟩:=d) | (have d:=zan (b:=V.heap.size+1) (v:=.slice none 0 0) (t:=45) hbh (zak s.out);obtain⟨J,⟨ai,al⟩,⟨aj,am⟩,⟨ak,an⟩,⟨ao,ap⟩,aq,ar⟩:=d) | (have d:=zan (b:=V.heap.size+1) (v:=.slice none 0 0) (t:=45) hbh (zak (zak j.out));obtain⟨J,⟨ai,al⟩,⟨aj,am⟩,⟨ak,an⟩,⟨ao,ap⟩,aq,ar⟩:=d) | (have d:=zan (b:=V.heap.size+1) (v:=.slice none 0 0) (t:=45) hbh (zal _ _ _);obtain⟨J,⟨ai,al⟩,⟨aj,am⟩,⟨ak,an⟩,⟨ao,ap⟩,aq,ar⟩:=d) | (have d:=zan (b:=V.heap.size+1) (v:=.slice none 0 0) (t:=45) hbh (zak (zal _ _ _));obtain⟨J,⟨ai,al⟩,⟨aj,am⟩,⟨ak,an⟩,⟨ao,ap⟩,aq,ar⟩:=d) | (have d:=zan (b:=V.heap.size+1) (v:=.slice none 0 0) (t:=45) hbh (zbD _ _ _ _);obtain⟨J,⟨ai,al⟩,⟨aj,am⟩,⟨ak,an⟩,⟨ao,ap⟩,aq,ar⟩:=d));have J:=hid J));(try((first | (have d:=zan (b:=u1.heap.size) (v:=.slice none 0 0) (t:=45) hbh (j.out);obtain⟨K,⟨au,ax⟩,⟨av,ay⟩,⟨aw,az⟩,⟨aA,aB⟩,aC,aD⟩:=d) | (have d:=zan (b:=u1.heap.size) (v:=.slice none 0 0) (t:=45) hbh (s.out);obtain⟨K,⟨au,ax⟩,⟨av,ay⟩,⟨aw,az⟩,⟨aA,aB⟩,aC,aD⟩:=d) | (have d:=zan (b:=u1.heap.size) (v:=.slice none 0 0) (t:=45) hbh (zak j.out);obtain⟨K,⟨au,ax⟩,⟨av,ay⟩,⟨aw,az⟩,⟨aA,aB⟩,aC,aD⟩:=d) | (have d:=zan (b:=u1.heap.size) (v:=.slice none 0 0) (t:=45) hbh (zak s.out);obtain⟨K,⟨au,ax⟩,⟨av,ay⟩,⟨aw,az⟩,⟨aA,aB⟩,aC,aD⟩:=d) | (have d:=zan (b:=u1.heap.size) (v:=.slice none 0 0) (t:=45) hbh (zak (zak j.out));obtain⟨K,⟨au,ax⟩,⟨av,ay⟩,⟨aw,az⟩,⟨aA,aB⟩,aC,aD⟩:=d) | (have d:=zan (b:=u1.heap.size) (v:=.slice none 0 0) (t:=45) hbh (zal _ _ _);obtain⟨K,⟨au,ax⟩,⟨av,ay⟩,⟨aw,az⟩,⟨aA,aB⟩,aC,aD⟩:=d) | (have d:=zan (b:=u1.heap.size) (v:=.slice none 0 0) (t:=45) hbh (zak (zal _ _ _));obtain⟨K,⟨au,ax⟩,⟨av,ay⟩,⟨aw,az⟩,⟨aA,aB⟩,aC,aD⟩:=d) | (have d:=zan (b:=u1.heap.size) (v:=.slice none 0 0) (t:=45) hbh (zbD _ _ _ _);obtain⟨K,⟨au,ax⟩,⟨av,ay⟩,⟨aw,az⟩,⟨aA,aB⟩,aC,aD⟩:=d));have K:=hid K));(try((first | (have d:=zan (b:=u1.heap.size+1) (v:=.slice none 0 0) (t:=45) hbh (j.out);obtain⟨L,⟨aE,aH⟩,⟨aF,aI⟩,⟨aG,aJ⟩,⟨aK,aL⟩,aM,aN⟩:=d) | (have d:=zan (b:=u1.heap.size+1) (v:=.slice none 0 0) (t:=45) hbh (s.out);obtain⟨L,⟨aE,aH⟩,⟨aF,aI⟩,⟨aG,aJ⟩,⟨aK,aL⟩,aM,aN⟩:=d) | (have d:=zan (b:=u1.heap.size+1) (v:=.slice none 0 0) (t:=45) hbh (zak j.out);obtain⟨L,⟨aE,aH⟩,⟨aF,aI⟩,⟨aG,aJ⟩,⟨aK,aL⟩,aM,aN⟩:=d) | (have d:=zan (b:=u1.heap.size+1) (v:=.slice none 0 0) (t:=45) hbh (zak s.out);obtain⟨L,⟨aE,aH⟩,⟨aF,aI⟩,⟨aG,aJ⟩,⟨aK,aL⟩,aM,aN⟩:=d) | (have d:=zan (b:=u1.heap.size+1) (v:=.slice none 0 0) (t:=45) hbh (zak (zak j.out));obtain⟨L,⟨aE,aH⟩,⟨aF,aI⟩,⟨aG,aJ⟩,⟨aK,aL⟩,aM,aN⟩:=d) | (have d:=zan (b:=u1.heap.size+1) (v:=.slice none 0 0) (t:=45) hbh (zal _ _ _);obtain⟨L,⟨aE,aH⟩,⟨aF,aI⟩,⟨aG,aJ⟩,⟨aK,aL⟩,aM,aN⟩:=d) | (have d:=zan (b:=u1.heap.size+1) (v:=.slice none 0 0) (t:=45) hbh (zak (zal _ _ _));obtain⟨L,⟨aE,aH⟩,⟨aF,aI⟩,⟨aG,aJ⟩,⟨aK,aL⟩,aM,aN⟩:=d) | (have d:=zan (b:=u1.heap.size+1) (v:=.slice none 0 0) (t:=45) hbh (zbD _ _ _ _);obtain⟨L,⟨aE,aH⟩,⟨aF,aI⟩,⟨aG,aJ⟩,⟨aK,aL⟩,aM,aN⟩:=d));have L:=hid L));have dF:=hid hh2;clear hh2))
  all_goals
   go_wp2;go_meet
   case rel =>
    refine⟨_,_,q,C,x,r,z,u,rfl,rfl,(by assumption:_∧Below V.heap.size V _).2,?_,?_,?_,?_,?_,?_⟩
    all_goals (repeat' (first
     | exact dF.out | exact dE.out | assumption
     | with_reducible exact zeo _ _ _ | with_reducible exact zfx _ _ _ _
     | with_reducible refine cell_al ?_ | with_reducible refine Box.cell ?_ | with_reducible refine cell_set ?_ ?_
     | with_reducible exact Box.new _ _ | with_reducible exact Box.new1 _ _ _ | with_reducible refine Box.alloc ?_ | with_reducible refine Box.set ?_
     | exact Box.of I.out | exact Box.of J.out | exact Box.of K.out | exact Box.of L.out
     | with_reducible refine zas.alloc ?_ _ | with_reducible refine zas.setBox ?_ ?_ | refine zas.below ?_ hbh | with_reducible refine zas.drew ?_
     | omega))
 case rest =>
  obtain⟨N,O,q,C,x,r,z,u,rfl,rfl,y,k0,k1,da,db,dh,di⟩:=hcut;rename World=>wa
  have P0:=zab y P0;have P1:=zab y P1;have P2:=zab y P2;have P3:=zab y P3;have N0:=hid (N0.out.below y);have N1:=hid (N1.out.below y);have N2:=hid (N2.out.below y);have N3:=hid (N3.out.below y);have aQ:=hid da;have aR:=hid db;have dv:=E;have X:=hid (zad y X.out);have W:=hid (W.out.trans (y.mono (by have:=E.out;omega)));have E:=hid (show w.heap.size+3≤wa.heap.size by have:=E.out;have:=y.size;omega);have ck:=hid (show w.heap.size+3≤N∧w.heap.size+3≤O by have:=dv.out;omega);clear dh di
  have S1:wlen (a%B64^k+a/B64^k)≤k+1:=by have:=zgg (a%B64^k) (a/B64^k);have:=a6.out;have:=bs.out;omega
  have S2:wlen (b%B64^k+b/B64^k)≤k+1:=by have:=zgg (b%B64^k) (b/B64^k);have:=a7.out;have:=bs.out;omega
  have F4:=hid (show 4*wlen (a%B64^k+a/B64^k)≤LIM by have:=F.out;have:=i.out;omega);have F5:=hid (show 4*wlen (b%B64^k+b/B64^k)≤LIM by have:=F.out;have:=i.out;omega);have G4:=hid (show wlen (a%B64^k+a/B64^k)<M by have:=cq.out;have:=i.out;omega);have G5:=hid (show wlen (b%B64^k+b/B64^k)<M by have:=cq.out;have:=i.out;omega);have Q0:=hid (show wlen (a%B64^k)≤LIM by have:=F0.out;omega);have Q1:=hid (show wlen (a/B64^k)≤LIM by have:=F1.out;omega)
  have Q2:=hid (show wlen (b%B64^k)≤LIM by have:=F2.out;omega);have Q3:=hid (show wlen (b/B64^k)≤LIM by have:=F3.out;omega);clear S1 S2 y da db o F0 F1 F2 F3 G0 G1 G2 G3;go_wp2_with fail
  have o:=hid (show ∀w',Below wa.heap.size wa w'→((w'.cell? ⟨p0,0,none⟩=some (A1,m1,n)∧w'.cell? ⟨p0+1,0,none⟩=some (A2,m2,c2)∧w'.cell? ⟨q0,0,none⟩=some (B1,m3,c3)∧w'.cell? ⟨q0+1,0,none⟩=some (B2,m4,c4)∧w'.cell? ⟨N,0,none⟩=some (q,C,x)∧w'.cell? ⟨O,0,none⟩=some (r,z,u))∧Below wa.heap.size wa w')from fun w' h=>⟨⟨zab h P0,zab h P1,zab h P2,zab h P3,zab h k0,zab h k1⟩,h⟩)
  go_cut[12] (fun ec wr=>∃(g2:Nat) (D:OA) (md cd:Nat),ec=.pointer (some ⟨g2,0,none⟩)∧Below wa.heap.size wa wr ∧
   wr.cell? ⟨g2,0,none⟩=some (D,md,cd)∧zas wr (D,md,cd) ((a%B64^k+a/B64^k)*(b%B64^k+b/B64^k)))
  case first =>
   go_region_held3 (fun w'=>((w'.cell? ⟨p0,0,none⟩=some (A1,m1,n)∧w'.cell? ⟨p0+1,0,none⟩=some (A2,m2,c2)∧w'.cell? ⟨q0,0,none⟩=some (B1,m3,c3)∧w'.cell? ⟨q0+1,0,none⟩=some (B2,m4,c4)∧w'.cell? ⟨N,0,none⟩=some (q,C,x)∧w'.cell? ⟨O,0,none⟩=some (r,z,u))∧Below wa.heap.size wa w'))
    ((refine o.out _ ?_;repeat(first | exact Below.refl _ _ | exact(by assumption:_∧Below _ _ _).2 | with_reducible refine bdrew ?_ | with_reducible refine al2 ?_ _ | with_reducible refine set2 ?_ (by omega) | with_reducible refine zc1 ?_ (by assumption))))
    (first
     | (go_at_call 132;(with_reducible refine(Nt.add A1 A2 m1 n m2 c2 (a%B64^k) (a/B64^k) _ (N0.out.below (by assumption:_∧Below _ _ _).2) (N1.out.below (by assumption:_∧Below _ _ _).2) Q0.out Q1.out).mono ?_);rintro e u1 ⟨E1,me,ce,rfl,he1,l⟩;have aV:=l.size;(try simp at aV);have dq:wa.heap.size≤u1.heap.size:=(by omega);(try((first | (have d:=zan (b:=wa.heap.size) (v:=.slice none 0 0) (t:=45) l (zal _ _ _);obtain⟨Q,⟨eo,er⟩,⟨ep,es⟩,⟨eq,et⟩,⟨eu,ev⟩,ew,ex⟩:=d));have Q:=hid Q));have a1:=hid he1;clear he1)
     | (go_at_call 132;(with_reducible refine(Nt.add B1 B2 m3 c3 m4 c4 (b%B64^k) (b/B64^k) _ (N2.out.below (by assumption:_∧Below _ _ _).2) (N3.out.below (by assumption:_∧Below _ _ _).2) Q2.out Q3.out).mono ?_);rintro e u2 ⟨E2,mf,cf,rfl,he2,f⟩;have aW:=f.size;(try simp at aW);have dr:wa.heap.size≤u2.heap.size:=(by omega);(try((first | (have d:=zan (b:=wa.heap.size) (v:=.slice none 0 0) (t:=45) f (Q.out);obtain⟨P,⟨bN,bQ⟩,⟨bO,bR⟩,⟨bP,bS⟩,⟨bT,bU⟩,bV,bW⟩:=d) | (have d:=zan (b:=wa.heap.size) (v:=.slice none 0 0) (t:=45) f (zak Q.out);obtain⟨P,⟨bN,bQ⟩,⟨bO,bR⟩,⟨bP,bS⟩,⟨bT,bU⟩,bV,bW⟩:=d));have P:=hid P));(try((first | (have d:=zan (b:=u1.heap.size) (v:=.slice none 0 0) (t:=45) f (zal _ _ _);obtain⟨U,⟨ey,eh⟩,⟨ez,ei⟩,⟨eg,ej⟩,⟨ek,el⟩,em,en⟩:=d));have U:=hid U));have a2:=hid he2;clear he2)
     | (go_at_call 111;(with_reducible refine(IH.out E1 E2 me ce mf cf _ _ _ (by repeat(first | exact a1.out | with_reducible refine zas.alloc ?_ _ | with_reducible refine zas.drew ?_ | refine zas.below ?_ f)) (by repeat(first | exact a2.out | with_reducible refine zas.alloc ?_ _ | with_reducible refine zas.drew ?_)) F4.out F5.out G4.out G5.out).mono ?_);rintro e u3 ⟨E3,mg,cg,rfl,he3,hb3⟩;have aX:=hb3.size;(try simp at aX);(try((first | (have d:=zan (b:=wa.heap.size) (v:=.slice none 0 0) (t:=45) hb3 (P.out);obtain⟨bi,⟨eQ,eT⟩,⟨eR,eA⟩,⟨eS,eB⟩,⟨eC,eD⟩,eE,eF⟩:=d) | (have d:=zan (b:=wa.heap.size) (v:=.slice none 0 0) (t:=45) hb3 (zak P.out);obtain⟨bi,⟨eQ,eT⟩,⟨eR,eA⟩,⟨eS,eB⟩,⟨eC,eD⟩,eE,eF⟩:=d));have bi:=hid bi));(try((first | (have d:=zan (b:=u1.heap.size) (v:=.slice none 0 0) (t:=45) hb3 (U.out);obtain⟨bj,⟨eG,eJ⟩,⟨eH,eK⟩,⟨eI,eL⟩,⟨eM,eN⟩,eO,eP⟩:=d) | (have d:=zan (b:=u1.heap.size) (v:=.slice none 0 0) (t:=45) hb3 (zak U.out);obtain⟨bj,⟨eG,eJ⟩,⟨eH,eK⟩,⟨eI,eL⟩,⟨eM,eN⟩,eO,eP⟩:=d));have bj:=hid bj));(try((first | (have d:=zan (b:=u2.heap.size) (v:=.slice none 0 0) (t:=45) hb3 (zal _ _ _);obtain⟨bX,⟨e2,e5⟩,⟨e3,e6⟩,⟨e4,e7⟩,⟨e8,e9⟩,fa,fb⟩:=d));have bX:=hid bX));have br:=hid he3;clear he3))
   all_goals
    go_wp2;go_meet
    case rel =>
     refine⟨_,E3,mg,cg,rfl,(by assumption:_∧Below wa.heap.size wa _).2,?_,?_⟩
     all_goals
      repeat' (first
       | with_reducible exact br.out
       | with_reducible assumption
       | with_reducible exact zeo _ _ _
       | with_reducible exact zfx _ _ _ _
       | with_reducible refine cell_al ?_
       | with_reducible refine Box.cell ?_
       | with_reducible refine cell_set ?_ ?_
       | with_reducible exact Box.new _ _
       | with_reducible exact Box.new1 _ _ _
       | with_reducible refine Box.alloc ?_
       | with_reducible refine Box.set ?_
       | exact Box.of bi.out
       | exact Box.of bj.out
       | exact Box.of bX.out
       | with_reducible refine zas.alloc ?_ _
       | with_reducible refine zas.setBox ?_ ?_
       | with_reducible refine zas.drew ?_
       | omega)
  case rest =>
   obtain⟨g2,D,md,cd,rfl,S,k2,hD⟩:=hcut;rename World=>wb
   have k0:=zab S k0;have k1:=zab S k1;have aQ:=hid (aQ.out.below S);have aR:=hid (aR.out.below S);have ND:=hid hD;have X:=hid (zad S X.out);have W:=hid (W.out.trans (S.mono (by have:=E.out;omega)));have E:=hid (show w.heap.size+3≤wb.heap.size by have:=E.out;have:=S.size;omega);have S3:wlen (a%B64^k*(b%B64^k))≤2*k:=by have:=zdy (a%B64^k) (b%B64^k);have:=a6.out;have:=a7.out;omega
   have S4:wlen (a/B64^k*(b/B64^k))≤2*(g-k):=by have:=zdy (a/B64^k) (b/B64^k);have:=a6.out;have:=a7.out;omega
   have S5:wlen ((a%B64^k+a/B64^k)*(b%B64^k+b/B64^k))≤2*(k+1):=by
    have:=zdy (a%B64^k+a/B64^k) (b%B64^k+b/B64^k);have:=zgg (a%B64^k) (a/B64^k);have:=zgg (b%B64^k) (b/B64^k);have:=a6.out;have:=a7.out;have:=bs.out;omega
   have hle:a%B64^k*(b%B64^k)+a/B64^k*(b/B64^k)≤(a%B64^k+a/B64^k)*(b%B64^k+b/B64^k):=zAW _ _ _ _;have S6:wlen ((a%B64^k+a/B64^k)*(b%B64^k+b/B64^k)-(a%B64^k*(b%B64^k)+a/B64^k*(b/B64^k)))≤2*(k+1):=Nat.le_trans (zco (Nat.sub_le _ _)) S5;have Q4:=hid (show wlen (a%B64^k*(b%B64^k))≤LIM by have:=F.out;have:=i.out;omega);have Q5:=hid (show wlen (a/B64^k*(b/B64^k))≤LIM by have:=F.out;have:=i.out;omega);have Q6:=hid (show wlen ((a%B64^k+a/B64^k)*(b%B64^k+b/B64^k))≤LIM by have:=F.out;have:=i.out;omega)
   have Q7:=hid hle;have HV:=hid (kara a b (B64^k) (Nat.pow_pos (by decide)));have bk:B64^(2*k)=B64^k*B64^k:=by rw[Nat.two_mul,Nat.pow_add]
   have wX:wlen (B64^k)≤k+1:=zaZ (Nat.pow_lt_pow_right (by decide) (by omega));have R1:=hid (show k+wlen ((a%B64^k+a/B64^k)*(b%B64^k+b/B64^k)-(a%B64^k*(b%B64^k)+a/B64^k*(b/B64^k)))≤LIM by have:=F.out;have:=i.out;omega);have R2:=hid (show 2*k+wlen (a/B64^k*(b/B64^k))≤LIM by have:=F.out;have:=i.out;omega);generalize a%B64^k*(b%B64^k)=lo at *
   generalize a/B64^k*(b/B64^k)=hi at *
   generalize (a%B64^k+a/B64^k)*(b%B64^k+b/B64^k)=bo at *
   have R3:=hid (show wlen ((bo-(lo+hi))*B64^k)≤3*k+3 by have:=zdy (bo-(lo+hi)) (B64^k);omega);have R4:=hid (show wlen (hi*B64^(2*k))≤2*g+2 by have h1:=zdy hi (B64^(2*k));have h2:=zdy (B64^k) (B64^k);rw[←bk]at h2;have:=i.out;omega);have R5:=hid (show wlen ((bo-(lo+hi))*B64^k)≤LIM by have:=R3.out;have:=F.out;have:=i.out;omega);have R6:=hid (show wlen (hi*B64^(2*k))≤LIM by have:=R4.out;have:=F.out;omega)
   have R7:=hid (show wlen ((bo-(lo+hi))*B64^k+hi*B64^(2*k))≤LIM by have:=zgg ((bo-(lo+hi))*B64^k) (hi*B64^(2*k));have:=R3.out;have:=R4.out;have:=F.out;have:=i.out;omega);have cs:=hid (show lo+((bo-(lo+hi))*B64^k+hi*B64^(2*k))=a*b by rw[bk];exact HV.out);clear S3 S4 S5 S6 hle S hD o bk wX HV Q0 Q1 Q2 Q3 F4 F5 G4 G5;go_wp2_with fail
   have o:=hid (show ∀w',Below wb.heap.size wb w'→((w'.cell? ⟨N,0,none⟩=some (q,C,x)∧w'.cell? ⟨O,0,none⟩=some (r,z,u)∧w'.cell? ⟨g2,0,none⟩=some (D,md,cd))∧Below wb.heap.size wb w')from fun w' h=>⟨⟨zab h k0,zab h k1,zab h k2⟩,h⟩)
   go_cut[13,14] (fun ed ee wr=>∃(g3:Nat) (G:OA) (mg cg:Nat),ed=.pointer (some ⟨g3,0,none⟩)∧ee=true∧Below wb.heap.size wb wr ∧
    wr.cell? ⟨g3,0,none⟩=some (G,mg,cg)∧zas wr (G,mg,cg) (bo-(lo+hi))∧wb.heap.size≤g3)
   case first =>
    go_region_held3 (fun w'=>((w'.cell? ⟨N,0,none⟩=some (q,C,x)∧w'.cell? ⟨O,0,none⟩=some (r,z,u)∧w'.cell? ⟨g2,0,none⟩=some (D,md,cd))∧Below wb.heap.size wb w'))
     ((refine o.out _ ?_;repeat(first | exact Below.refl _ _ | exact(by assumption:_∧Below _ _ _).2 | with_reducible refine bdrew ?_ | with_reducible refine al2 ?_ _ | with_reducible refine set2 ?_ (by omega) | with_reducible refine zc1 ?_ (by assumption))))
     (first
      | (go_at_call 132;(with_reducible refine(Nt.add q r C x z u lo hi _ (aQ.out.below (by assumption:_∧Below _ _ _).2) (aR.out.below (by assumption:_∧Below _ _ _).2) Q4.out Q5.out).mono ?_);rintro e u1 ⟨E1,me,ce,rfl,he1,l⟩;have aV:=l.size;(try simp at aV);have dq:wb.heap.size≤u1.heap.size:=(by omega);(try((first | (have d:=zan (b:=wb.heap.size) (v:=.slice none 0 0) (t:=45) l (zal _ _ _);obtain⟨Q,⟨eo,er⟩,⟨ep,es⟩,⟨eq,et⟩,⟨eu,ev⟩,ew,ex⟩:=d));have Q:=hid Q));have a1:=hid he1;clear he1)
      | (go_at_call 133;(with_reducible refine(Nt.sub_ok D E1 md cd me ce bo (lo+hi) _ (ND.out.below (by assumption:_∧Below _ _ _).2) (by repeat(first | exact a1.out | with_reducible refine zas.alloc ?_ _ | with_reducible refine zas.drew ?_)) Q7.out Q6.out).mono ?_);rintro e u2 ⟨E2,mf,cf,rfl,he2,f⟩;have aW:=f.size;(try simp at aW);have dr:wb.heap.size≤u2.heap.size:=(by omega);(try((first | (have d:=zan (b:=wb.heap.size) (v:=.slice none 0 0) (t:=45) f (Q.out);obtain⟨P,⟨bN,bQ⟩,⟨bO,bR⟩,⟨bP,bS⟩,⟨bT,bU⟩,bV,bW⟩:=d) | (have d:=zan (b:=wb.heap.size) (v:=.slice none 0 0) (t:=45) f (zak Q.out);obtain⟨P,⟨bN,bQ⟩,⟨bO,bR⟩,⟨bP,bS⟩,⟨bT,bU⟩,bV,bW⟩:=d));have P:=hid P));(try((first | (have d:=zan (b:=u1.heap.size) (v:=.slice none 0 0) (t:=45) f (zal _ _ _);obtain⟨U,⟨ey,eh⟩,⟨ez,ei⟩,⟨eg,ej⟩,⟨ek,el⟩,em,en⟩:=d));have U:=hid U));have a2:=hid he2;clear he2))
    all_goals
     go_wp2;go_meet
     case rel =>
      refine⟨_,E2,mf,cf,rfl,rfl,(by assumption:_∧Below wb.heap.size wb _).2,?_,?_,?_⟩
      all_goals
       repeat' (first
        | with_reducible exact a2.out
        | with_reducible assumption
        | with_reducible exact zeo _ _ _
        | with_reducible exact zfx _ _ _ _
        | with_reducible refine cell_al ?_
        | with_reducible refine Box.cell ?_
        | with_reducible refine cell_set ?_ ?_
        | with_reducible exact Box.new _ _
        | with_reducible exact Box.new1 _ _ _
        | with_reducible refine Box.alloc ?_
        | with_reducible refine Box.set ?_
        | exact Box.of P.out
        | exact Box.of U.out
        | with_reducible refine zas.alloc ?_ _
        | with_reducible refine zas.setBox ?_ ?_
        | with_reducible refine zas.drew ?_
        | omega)
   case rest =>
    obtain⟨g3,G,mg,cg,rfl,rfl,T,k3,hG,dV⟩:=hcut;rename World=>wd
    have k0:=zab T k0;have k1:=zab T k1;have aQ:=hid (aQ.out.below T);have aR:=hid (aR.out.below T);have NG:=hid hG;have du:=E;have X:=hid (zad T X.out);have W:=hid (W.out.trans (T.mono (by have:=E.out;omega)));have E:=hid (show w.heap.size+3≤wd.heap.size by have:=E.out;have:=T.size;omega);have dV:w.heap.size+3≤g3:=by have:=du.out;omega
    have dh:=ck.out.1;have di:=ck.out.2;clear T hG o;go_wp2_with fail
    obtain⟨kk,bF⟩:∃kk,kk=2*k:=⟨_,rfl⟩
    rw[←bF]at R2 R4 R6 R7 cs;have dD:=hid (show IntKind.i64.wrap (2*(k:Int))=(kk:Int)by rw[IntWalk.i64_in _ (by have:=i.out;have:=F.out;have:=zaP;omega),bF];omega);clear bF
    go_region_held3 (fun w'=>w'.cell? ⟨N,0,none⟩=some (q,C,x)∧w'.cell? ⟨O,0,none⟩=some (r,z,u)∧w'.cell? ⟨g3,0,none⟩=some (G,mg,cg))
     (((try go_split_ands);(try simp only[World.cell?_drew]);(repeat' apply And.intro)<;>(first | assumption | exact zab l (by assumption) | exact zab f (by assumption) | exact zab hb3 (by assumption) | exact zab hb4 (by assumption) | exact cell_set (by omega) (by assumption) | exact cell_al (by assumption))))
     (first
      | (go_at_call 134;(with_reducible refine(raised G mg cg (bo-(lo+hi)) k _ (by repeat(first | exact NG.out | with_reducible refine zas.alloc ?_ _ | with_reducible refine zas.drew ?_)) R1.out).mono ?_);rintro e u1 ⟨E1,me,ce,rfl,he1,l⟩;have aV:=l.size;(try simp at aV);have dq:wd.heap.size≤u1.heap.size:=(by omega);have a1:=hid he1;clear he1)
      | (go_at_call 134;(with_reducible refine(zA8 r z u hi kk (IntKind.i64.wrap (2*(k:Int))) dD.out _ (by repeat(first | exact aR.out | with_reducible refine zas.alloc ?_ _ | with_reducible refine zas.drew ?_ | refine zas.below ?_ l)) R2.out).mono ?_);rintro e u2 ⟨E2,mf,cf,rfl,he2,f⟩;have aW:=f.size;(try simp at aW);have dr:wd.heap.size≤u2.heap.size:=(by omega);have a2:=hid he2;clear he2)
      | (go_at_call 132;(with_reducible refine(Nt.add E1 E2 me ce mf cf _ _ _ (by repeat(first | exact a1.out | with_reducible refine zas.alloc ?_ _ | with_reducible refine zas.drew ?_ | refine zas.below ?_ f)) (by repeat(first | exact a2.out | with_reducible refine zas.alloc ?_ _ | with_reducible refine zas.drew ?_)) R5.out R6.out).mono ?_);rintro e u3 ⟨E3,mg3,cg3,rfl,he3,hb3⟩;have aX:=hb3.size;(try simp at aX);have br:=hid he3;clear he3)
      | (go_at_call 132;(with_reducible refine(Nt.add q E3 C x mg3 cg3 lo _ _ (by repeat(first | exact aQ.out | with_reducible refine zas.alloc ?_ _ | with_reducible refine zas.drew ?_ | refine zas.below ?_ hb3 | refine zas.below ?_ f | refine zas.below ?_ l)) (by repeat(first | exact br.out | with_reducible refine zas.alloc ?_ _ | with_reducible refine zas.drew ?_)) Q4.out R7.out).mono ?_);rintro e u4 ⟨E4,mh4,ch4,rfl,he4,hb4⟩;have d6:=hb4.size;(try simp at d6);have dC:=hid he4;have bl:=hid (zad hb4 (zad hb3 (zad f (zad l X.out))));have dt:=hid (zc1 (zc1 (zc1 (zc1 (bdrew W.out) l) f) hb3) hb4);have b2:=zac bl.out 0;have eU:=zag bl.out 0;simp only[List.getElem?_toArray,List.getElem?_cons_zero]at b2;clear he4))
    all_goals
     go_wp2;refine bodyPost_ret (v:=.agg #[(E4,mh4,ch4)]) (by simp[results,Tryz.results111,go_sem,b2]) rfl ?_;have dm:=dC.out;rw[cs.out]at dm;exact⟨_,_,_,rfl,dm.setCell (p:=⟨w.heap.size+1+1,0,none⟩) bl.out (by decide) _,Below.setCell dt.out (by simp;omega) _⟩
theorem zrH:∀M,zpn M
 | 0=>fun _ _ _ _ _ _ _ _ _ _ _ _ _ h _=>absurd h (by omega)
 | M+1=>fun A B m c m' c' a b w d e g i j k=>by
  by_cases f:wlen a<8∨wlen b<8
  ·exact zu7 A B m c m' c' a b w d e (by omega) f
  ·exact zA1 A B m c m' c' a b M w (zrH M) (by omega) d e g i (by omega) (by omega)
theorem mul(A B:OA)(m c m' c' a b:Nat)(w:World)(d:zas w (A,m,c) a)(e:zas w (B,m',c') b)(f:4*wlen a≤LIM)(g:4*wlen b≤LIM) :
  Calls Tryz.prog 111 #[.agg #[(A,m,c)],.agg #[(B,m',c')]] w (zc0 w (a*b)) :=
 zrH (wlen a+wlen b+1) A B m c m' c' a b w d e f g (by omega) (by omega)
