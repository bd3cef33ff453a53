/- Contracts and lemmas: Quot5 Quot6 Quot8 Quot9. Conditions: as each says. -/
import Derived.Test.YtbhfhkcdfmmmiaaGreatQuot2Zj
set_option linter.all false
set_option maxHeartbeats 1000000
set_option maxRecDepth 100000
namespace Go.Proofs.YtbhfhkcdfmmmiaaGreat
open Go.RowKit Am Tryz
attribute [local go_sem ↓] Go.wp_at_zero Go.wp_at_succ
variable {qs us vs xs ys:List Nat}{H L N a b c cap g k n q s size:Nat}{e:TypeId}{v:Value}{w:World}
def zv4 (w:World) (q r:Nat) (b:Bool) (e:Ending) (w':World):Prop:=∃(A:OA) (m c:Nat) (A':OA) (m' c':Nat),e=.returned (.tuple #[.agg #[(A,m,c)],.agg #[(A',m',c')],b])∧zas w' (A,m,c) q∧zas w' (A',m',c') r∧Below w w w'
namespace Qt
theorem zIg(s:Value)(ys:List Nat)(b:Nat)(w:World)(a:SW w s ys)(h:wd ys 0=b):Calls prog 138 #[.agg #[s],.int .i64 0] w fun e w'=>e=.returned (.int .u64 (b:Int))∧Below w w w' :=
 (Nt.word s ys 0 (by decide) w a).mono fun e w' h1=>⟨by rw[h1.1,←h];rfl,by rw[h1.2];simp[zae]⟩
theorem zIa(g r:Nat)(w:World)(hr:r<18446744073709551616)(hc:w.cell? ⟨g,0,none⟩=some (.int .u64 (r:Int))):Calls prog 89 #[.slice (some ⟨g,0,none⟩) 1 1] w (zc0 w r):=by
 have h:SR w (.slice (some ⟨g,0,none⟩) 1 1) [r]:=⟨some ⟨g,0,none⟩,1,rfl,Za _,by omega,by intro z b;grind,by simp,fun d c j u a=>by
  cases c
  match j,a with
  | 0,a=>simp[wcells]at a;subst a;simpa[Addr.add]using hc
  | j+1,a=>simp[wcells]at a⟩
 have:=Nt.of _ [r] w h (by have:=zaP;simp;omega);simpa[nval]using this
theorem zr5(A B:OA)(m c m' c' a b:Nat)(w:World)(ha:zas w (A,m,c) a)(C:zas w (B,m',c') b)(ae:0<b)(D:wlen b≤1)(af:wlen a≤LIM) :
  Calls prog 157 #[.agg #[(A,m,c)],.agg #[(B,m',c')]] w (zv4 w (a/b) (a%b) true):=by
 obtain⟨ys,hy,aw,ah,ag,hm⟩:=C.words;subst hm;have O:=un ha;have X:=un hy;have ax:(ys.length:Int)≤1:=by omega

 have an:=un ag;have ao:=un ah;clear ha C hy ag ah;have W0:∃W,W=(((w.alloc (.cells #[(A,m,c)] 37)).alloc (.cells #[(B,ys.length,c')] 37)).alloc (.cells #[()] 37)).alloc (.cells #[()] 37):=⟨_,rfl⟩
 obtain⟨W,j⟩:=W0;have M:W.heap.size=w.heap.size+1+1+1+1:=by rw[j];simp
 have E:W.cell? ⟨w,0,none⟩=some (A,m,c):=by rw[j];exact cell_al (cell_al (cell_al (zax rfl rfl)))
 have F:W.cell? ⟨w.heap.size+1,0,none⟩=some (B,ys.length,c'):=by rw[j];exact cell_al (cell_al (zax (by simp) rfl))
 have r2:W.heap[w.heap.size+1+1]? = some (.cells #[()] 37 (0,0)):=by rw[j];exact zak (zam (by simp))
 have r3:W.heap[w.heap.size+1+1+1]? = some (.cells #[()] 37 (0,0)):=by rw[j];exact zam (by simp)
 have x:Below w w W:=by rw[j];exact(((zae w _).alloc (by simp) _).alloc (by simp;omega) _).alloc (by simp;omega) _
 have P:=un (O.o.below x);have K:=un (X.o.below x);have o:=un r2;have p:=un r3;have i:=un x;have l:=un M;clear r2 r3 x M

 go_enter func157,ntmps157;go_wp2_with fail
 rw[←j];clear j;refine(Nt.len (B,ys.length,c') ys _ K.o).mono ?_;rintro e w' ⟨rfl,rfl⟩;have E:=cell_al (ob:=.cells #[(B,ys.length,c')] 37) E;have F:=cell_al (ob:=.cells #[(B,ys.length,c')] 37) F;go_wp2_with fail
 have ai:wd ys 0=b:=by
  have h1:=an.o;have h2:=ao.o
  match ys,h1 with
  | [],_=>simp[nval]at h2;omega
  | [y],_=>simpa[nval,wd]using h2
  | y::z::r,h1=>simp at h1;omega
 have ar:=un ai;have Y:=un (P.o.alloc (.cells #[(B,ys.length,c')] 37));have L:=un (K.o.alloc (.cells #[(B,ys.length,c')] 37));have o:=un (show(W.alloc (.cells #[(B,ys.length,c')] 37)).heap[w.heap.size+1+1]? = some (.cells #[()] 37 (0,0))from zak o.o);have p:=un (show(W.alloc (.cells #[(B,ys.length,c')] 37)).heap[w.heap.size+1+1+1]? = some (.cells #[()] 37 (0,0))from zak p.o)
 have i:=un (i.o.alloc i.o.size (.cells #[(B,ys.length,c')] 37));have l:=un (show w.heap.size+4≤(W.alloc (.cells #[(B,ys.length,c')] 37)).heap.size by have:=l.o;simp;omega);have T:=un (ae);have U:=un (show b<18446744073709551616 by have:=zdM L.o.2 0;omega);have am:=un af;clear P K O X ai af D ax aw ae;generalize W.alloc (.cells #[(B,ys.length,c')] 37)=V at *
 have S:=un (show ∀w',Below V V w'→((w'.cell? ⟨w,0,none⟩=some (A,m,c)∧w'.cell? ⟨w.heap.size+1,0,none⟩=some (B,ys.length,c'))∧Below V V w')from fun w' h=>⟨⟨zab h E,zab h F⟩,h⟩)
 go_cut[7,8,9] (fun s7 s8 s9 wr=>∃(g:Nat) (Q:OA) (f d:Nat),s7=.pointer (some ⟨g,0,none⟩)∧s8=.int .u64 ((a%b:Nat):Int)∧s9=true∧Below V V wr ∧
  wr.cell? ⟨g,0,none⟩=some (Q,f,d)∧zas wr (Q,f,d) (a/b)∧V.heap.size≤g)
 case first =>
  go_region_held3 (fun w'=>((w'.cell? ⟨w,0,none⟩=some (A,m,c)∧w'.cell? ⟨w.heap.size+1,0,none⟩=some (B,ys.length,c'))∧Below V V w'))
   ((refine S.o _ ?_;repeat(first | exact Zg _ _ | exact(by assumption:_∧Below _ _ _).2 | with_reducible refine bdrew ?_ | with_reducible refine al2 ?_ _ | with_reducible refine set2 ?_ (by omega) | with_reducible refine zc1 ?_ (by assumption))))
   (first
    | (go_at_call 138;(with_reducible refine(zIg (B,ys.length,c') ys b _ (L.o.below (by assumption:_∧Below _ _ _).2) ar.o).mono ?_);rintro e u1 ⟨rfl,D⟩;have ay:=D.size;(try simp at ay);have aR:=(by omega);(try((first | (have k:=zan (b:=V.heap.size) (v:=.slice none 0 0) (t:=37) D (zal _ _ _);obtain⟨I,⟨a3,a6⟩,⟨a4,a7⟩,⟨a5,a8⟩,⟨a9,ba⟩,bb,bc⟩:=k));have I:=un I)))
    | (go_at_call 162;(with_reducible refine(zCw A m c a b _ (Y.o.below (by assumption:_∧Below _ _ _).2) T.o U.o am.o).mono ?_);rintro e u2 ⟨Q,f,d,rfl,hq,hb2⟩;have az:=hb2.size;(try simp at az);have aS:V.heap.size≤u2.heap.size:=(by omega);(try((first | (have k:=zan (b:=V.heap.size) (v:=.slice none 0 0) (t:=37) hb2 (I.o);obtain⟨J,⟨aE,aH⟩,⟨aF,aI⟩,⟨aG,aJ⟩,⟨aK,aL⟩,aM,aN⟩:=k) | (have k:=zan (b:=V.heap.size) (v:=.slice none 0 0) (t:=37) hb2 (zak I.o);obtain⟨J,⟨aE,aH⟩,⟨aF,aI⟩,⟨aG,aJ⟩,⟨aK,aL⟩,aM,aN⟩:=k));have J:=un J));(try((first | (have k:=zan (b:=u1.heap.size) (v:=.slice none 0 0) (t:=37) hb2 (zal _ _ _);obtain⟨N,⟨bd,aW⟩,⟨be,aX⟩,⟨aV,aY⟩,⟨aZ,a0⟩,a1,a2⟩:=k));have N:=un N));have HQ:=un hq;clear hq))
  all_goals
   go_wp2;go_meet
   case rel =>
    refine⟨_,Q,f,d,rfl,rfl,rfl,(by assumption:_∧Below V V _).2,?_,?_,?_⟩
    all_goals
     repeat' (first
      | with_reducible exact HQ.o
      | with_reducible assumption
      | with_reducible exact zeo _ _ _
      | with_reducible exact zfx _ _ _ _
      | with_reducible refine cell_al ?_
      | with_reducible refine Box.cell ?_
      | with_reducible refine cell_set ?_ ?_
      | with_reducible exact Box.new _ _
      | with_reducible exact Box.new1 _ _ _
      | with_reducible refine Box.alloc ?_
      | with_reducible refine Box.set ?_
      | exact Box.of J.o
      | exact Box.of N.o
      | with_reducible refine zas.alloc ?_ _
      | with_reducible refine zas.setBox ?_ ?_
      | with_reducible refine zas.drew ?_
      | omega)
 case rest =>
  obtain⟨g,Q,f,d,rfl,rfl,rfl,q,kq,hQ,hg⟩:=hcut;rename World=>wa
  have NQ:=un hQ;have o:=un (zad q o.o);have p:=un (zad q p.o);have i:=un (i.o.trans (q.mono i.o.size));have l:=un (show w.heap.size+4≤wa.heap.size by have:=l.o;have:=q.size;omega);have hr:=un (show a%b<18446744073709551616 by have:=Zv a T.o;have:=U.o;omega);clear q hQ hg S Y L E F;generalize a%b=r at *
  generalize a/b=qq at *
  have av:Hid ((wa.alloc (.cells #[.int .u64 (r:Int)] 165)).drew.cell? ⟨wa,0,none⟩=some (.int .u64 (r:Int))):=un (zeo wa _ _);have aT:wa.drew.cell? ⟨g,0,none⟩=some (Q,f,d):=kq;have aA:(wa.alloc (.cells #[.int .u64 (r:Int)] 165)).drew.cell? ⟨g,0,none⟩=some (Q,f,d):=cell_al kq;go_wp2_with fail
  go_region_with (go_at_call 89;go_loud (refine(zIa wa.heap.size r _ hr.o av.o).mono ?_;rintro e w2 ⟨A2,m2,c2,rfl,hs2,hb2⟩;have s:=un (zad hb2 (show(wa.alloc (.cells #[.int .u64 (r:Int)] 165)).drew.heap[w.heap.size+1+1]? = some (.cells #[()] 37 (0,0))from zak o.o));have u:=un (zad hb2 (show(wa.alloc (.cells #[.int .u64 (r:Int)] 165)).drew.heap[w.heap.size+1+1+1]? = some (.cells #[()] 37 (0,0))from zak p.o));have aU:=zab hb2 aA;have Z:=zac s.o 0;have g4:=zag s.o 0;have g5:=zac u.o 0;have g6:=zag u.o 0;simp only[ZF,Zz]at Z g5;have aq:=un hs2;have R:=un hb2;clear hs2 hb2))
  all_goals
   go_wp2;refine Zd (v:=.tuple #[.agg #[(Q,f,d)],.agg #[(A2,m2,c2)],true]) (by simp[results,results157,go_sem,Z,g5]) rfl ?_;have M:=l.o;have nq:=((NQ.o.alloc (.cells #[.int .u64 (r:Int)] 165)).drew).below R.o;have C:=bstep (zhk (i.o.alloc i.o.size _) 1) R.o (by simp;omega)
   exact⟨_,_,_,_,_,_,rfl,zas.setBox (zas.setBox nq (Box.of s.o)) (Box.set (Box.of u.o)),zas.setBox (zas.setBox aq.o (Box.of s.o)) (Box.set (Box.of u.o)),ZQ (ZQ C (by simp;omega) _) (by simp;omega) _⟩
end Qt
namespace Qt

theorem zpY(A B:OA)(m c m' c' a b:Nat)(w:World)(J:zas w (A,m,c) a)(u:zas w (B,m',c') b)(Q:¬wlen b≤1)(x:a<b) :
  Calls prog 157 #[.agg #[(A,m,c)],.agg #[(B,m',c')]] w (zv4 w (a/b) (a%b) true):=by
 obtain⟨ys,L,_,_,N,hm⟩:=u.words;subst hm;have z:=un J;have C:=un u;have E:=un L;have R:¬(ys.length:Int)≤1:=by omega
 clear J u L N;have W0:∃W,W=(((w.alloc (.cells #[(A,m,c)] 37)).alloc (.cells #[(B,ys.length,c')] 37)).alloc (.cells #[()] 37)).alloc (.cells #[()] 37):=⟨_,rfl⟩
 obtain⟨W,f⟩:=W0;have y:W.heap.size=w.heap.size+1+1+1+1:=by rw[f];simp
 have o:W.cell? ⟨w,0,none⟩=some (A,m,c):=by rw[f];exact cell_al (cell_al (cell_al (zax rfl rfl)))
 have q:W.cell? ⟨w.heap.size+1,0,none⟩=some (B,ys.length,c'):=by rw[f];exact cell_al (cell_al (zax (by simp) rfl))
 have r2:W.heap[w.heap.size+1+1]? = some (.cells #[()] 37 (0,0)):=by rw[f];exact zak (zam (by simp))
 have r3:W.heap[w.heap.size+1+1+1]? = some (.cells #[()] 37 (0,0)):=by rw[f];exact zam (by simp)
 have j:Below w w W:=by rw[f];exact(((zae w _).alloc (by simp) _).alloc (by simp;omega) _).alloc (by simp;omega) _
 have l:=un (z.o.below j);have s:=un (C.o.below j);have t:=un (E.o.below j);have g:=un r2;have i:=un r3;have r:=un j;have k:=un y;clear r2 r3 j y z C E;go_enter func157,ntmps157;go_wp2_with fail
 rw[←f];clear f;refine(Nt.len (B,ys.length,c') ys _ t.o).mono ?_;rintro e w' ⟨rfl,rfl⟩;have o:=cell_al (ob:=.cells #[(B,ys.length,c')] 37) o;have q:=cell_al (ob:=.cells #[(B,ys.length,c')] 37) q;go_wp2_with fail
 refine(Nt.cmp A B m c ys.length c' a b _ (l.o.alloc _) (s.o.alloc _)).mono ?_;rintro e M ⟨rfl,hb2⟩;have d:=((zae W _).trans (hb2.mono (by simp)))
 have o:=zab hb2 o;have q:=zab hb2 q;have l:=un (l.o.below d);have s:=un (s.o.below d);have t:=un (t.o.below d);have g:=un (zad d g.o);have i:=un (zad d i.o);have r:=un (r.o.trans (d.mono (by have:=k.o;omega)));have k:=un (show w.heap.size+4≤M.heap.size by have:=k.o;have:=d.size;omega);clear hb2 d;rw[zeb (show(a:Int)<(b:Int)by omega)];go_wp2_with fail
 have F:=zac g.o 0;have O:=zag g.o 0;have I:=zac i.o 0;have P:=zag i.o 0;simp only[ZF,Zz]at F I;have K:=XT x;have hr:=XN x;have D:=un (And.intro K hr);clear K hr x;go_region
 all_goals
  go_wp2;refine Zd (v:=.tuple #[.agg #[()],.agg #[(A,m,c)],true]) (by simp[results,results157,go_sem,F,I]) rfl ?_;have y:=k.o;rw[D.o.1,D.o.2];exact⟨_,_,_,_,_,_,rfl,zas.zero _,(zas.setBox (zas.setBox l.o (Box.of g.o)) (Box.set (Box.of i.o))).drew,(bsc (bsc r.o)).drew⟩
end Qt
def zq4 (w:World) (xs:List Nat) (e:Ending) (w':World):Prop:=∃(A:OA) (m c:Nat),e=.returned (A,m,c)∧w'.ownsRow w.heap.size 165 1 (A,m,c) xs.length (wcells xs)∧Wds xs∧Below w w w'
theorem zoq(h:Canon xs)(a:0<xs.length):wd xs (xs.length-1)≠0:=by
 have h1:=h (by grind);rw[List.getLast_eq_getElem]at h1;unfold wd;rw[Zi,Ze (by omega)];exact h1
theorem zA5{xs:List Value}(h:w.ownsRow H e size (g,n,cap) n xs)(i:Nat)(hi:i≤n) :
  w.ownsRow g e size (g,i,cap) i (xs.take (i*size)):=by
 have d:i*size≤n*size:=Zt _ hi;refine⟨by rw[Zn,h.1];omega,?_⟩;rcases h.2 with ⟨a,_⟩ | ⟨g',j,cur,a,k,hg,l,b,c,f⟩
 ·simp at a
 ·simp only[Value.slice.injEq,Option.some.injEq,Addr.mk.injEq,and_true,true_and]at a;obtain⟨rfl,rfl⟩:=a;refine .inr ⟨g,cap,cur,rfl,Za _,hg,by omega,b,c,?_⟩;rw[←f,YS,Xb d]
theorem zxt{base:Nat}{xs:List Value}(h:w.ownsRow base e size v n xs)(b:0<n):∃g cp,v=.slice (some ⟨g,0,none⟩) n cp∧n≤cp∧base≤g:=by
 rcases h.2 with ⟨_,h0⟩ | ⟨g,cap,cur,rfl,a,_,hc,_⟩
 ·omega
 grind
theorem zfF{B:Nat}{xs:List Value}{w':World}(h:w.ownsRow B e k v n xs)(a:Below w w w'):w'.ownsRow B e k v n xs:=by
 refine⟨h.1,?_⟩;rcases h.2 with hn | ⟨g,cap,cur,hv,hB,hg,r⟩
 ·grind
 ·exact .inr ⟨g,cap,cur,hv,hB,by rw[a.block g (ZI.1 hg).1];exact hg,r⟩
theorem zxv(h:w.ownsRow H 165 1 (g,n,cap) n (wcells ys))(hk:k≤n) :
  w.ownsRow g 165 1 (g,k,cap) k (wcells (ys.take k)):=by
 have:=zA5 h k hk;rw[Xi,←zg7]at this;exact this
namespace Nt
theorem zC7(s:Value)(xs:List Nat)(w:World)(h:SR w s xs)(y:xs.length≤LIM):Calls prog 133 #[s] w (zq4 w xs):=by
 obtain⟨A,c,rfl,C,z,hw,b,a⟩:=h;have l:=un hw;clear hw;rcases A with _ | ad
 ·obtain⟨rfl,rfl⟩:=b rfl;clear a b;have D:=fun(w:World)=>XY (P:=prog) w 35 165 none 0 0 0 0 underlying35
  go_enter func133,ntmps133;go_wp2;go_ret
  exact⟨_,_,_,rfl,Xf _ _ _ _,Wds.nil,Zg _ _⟩
 ·have f:=un (a ad rfl);clear a b;have D:=fun(w:World)=>XY (P:=prog) w 35 165 (some ad) xs.length c 0 0 underlying35
  obtain⟨K,hi,F,I,J⟩:=info_parts zf7;have o:=YP (e:=165) (size:=1) (base:=w.heap.size) w #[] 0 (Za _) (by unfold maxLen;omega) rfl
  have m:∀j u,(wcells xs)[j]? = some u→(w.alloc (.cells #[] 165)).cell? (ad.add j)=some u:=fun j u p =>
   (Yf w _ _ (XC w _ (f.o j u p))).trans (f.o j u p)
  have x:=un o;have v:=un m;have g:0+xs.length≤maxLen:=by unfold maxLen;omega
  have i:(0+xs.length)*8≤140737488355328:=by have:=zaP;omega
  have r:=un g;have t:=un i;clear o m g i y C z;go_enter func133,ntmps133;go_wp2_with (at_builtin;refine wpList_append_own _ rfl _ _ 35 rfl w.heap.size 165 K (.int .u64 0) 1 8 underlying35 hi F I J rfl (by decide) _ _ _ rfl x.o ad xs.length c (wcells xs) rfl (by rw[zdA];omega) v.o (zgf xs) r.o t.o (by simp) ?_;intro M w1 d B L)
  go_ret
  rw[Z2,YQ]at d;have E:=SW.of_own d l.o;obtain⟨q,m',c',rfl⟩:=E.slice;exact⟨q,m',c',rfl,d,l.o,(zae w _).trans ((Zg _ _).grown B (by simp) (fun k hk=>by cases hk;exact Za _))⟩
theorem wordsF(A:OA)(m c:Nat)(xs:List Nat)(w:World)(h:SW w (A,m,c) xs)(b:xs.length≤LIM):Calls prog 139 #[.agg #[(A,m,c)]] w (zq4 w xs):=by
 have a:=(h.alloc (.cells #[(A,m,c)] 37)).reads;have d:=un a;have f:=un b;clear h a b;go_enter func139,ntmps139;go_wp2_with fail
 refine(zC7 _ xs _ d.o f.o).mono ?_;rintro e w1 ⟨A1,m1,c1,rfl,hs1,hw1,hb1⟩;go_wp2;go_ret
 exact⟨_,_,_,rfl,zbu hs1 (by simp),hw1,bstep (zae w _) hb1 (by simp)⟩
end Nt
theorem zH5(w:World)(n:Nat)(a:w.heap.size=n)(j:Nat)(u:Value)(h:(wcells [0,0])[j]? = some u):(w.alloc (.cells #[.int .u64 0,.int .u64 0] 165)).cell? ((⟨n,0,none⟩:Addr).add j)=some u:=by
 subst a;rw[show(⟨w,0,none⟩:Addr).add j=⟨w,j,none⟩by unfold Addr.add;split<;>simp_all];exact(zac (zal w _ _) j).trans (by match j,h with | 0,h=>simpa[wcells]using h | 1,h=>simpa[wcells]using h | j+2,h=>simp[wcells]at h)
theorem zo4{ops:Array Oper}{o:Oper}{a:Act}{K:Act→World→Prop}{Q:Exit→Act→World→Prop}{E:Prop}(hg:o.guard=none)
  (s x:Operand) (p:o.op=.call { callee:=.builtin .append,args:=#[s,x],argTypes:=#[35,35] })
     (i:w.ownsRow H 165 1 v n (wcells ys)) (q:a.eval s=v) {d:Addr} {m:Nat} (r:a.eval x=.slice (some d) m c) (hm:m=xs.length)
  (l:∀j u,(wcells xs)[j]? = some u→w.cell? (d.add j)=some u) (B:n+xs.length≤2*LIM) (f:H≤w.heap.size)
  (g:∀b w',w'.ownsRow H 165 1 b (n+xs.length) (wcells (ys++xs))→w.grownBy w' v.ownBlock→K (a.put o.dst b) w') :
  if Region.wanted o (yielded ops a.tmps)=true then Oper.wp prog o a w K Q else E:=by
 have hw:Region.wanted o (yielded ops a.tmps)=true:=by simp[Region.wanted,hg]
 rw[if_pos hw];subst hm;obtain⟨A,hi,t,y,z⟩:=info_parts zf7
 refine wp_append_own w s x 35 p H 165 A (.int .u64 0) 1 8 underlying35 hi t y z rfl (by decide) v n _ q i d xs.length c (wcells xs) r (by rw[zdA];omega) l (zgf xs)
  (by unfold maxLen;have:=zaP;omega) (by have:=zaP;omega) f fun b w' e k _=>?_
 rw[←zia]at e;grind
namespace Qt
theorem zrL(b:ys.length=L+1):nval ys=nval (ys.take L)+B64^L*wd ys L:=by
 have h:=zaY ys L (by omega);have a:ys.drop L=[wd ys L]:=by
  rw[XE (by omega),List.drop_of_length_le (by omega)];unfold wd;rw[Zi,Ze (by omega)];rfl
 rw[a]at h;simpa[nval]using h
theorem zqo{top:Nat}(hw:Wds ys)(i:ys.length=L+1)(c:wd ys L=top)(h0:0<top)(p:64-blen top=s) :
  nval ys*2^s<B64^(L+1)∧2^63*B64^L≤nval ys*2^s:=by
 have e:=zrL i;rw[c]at e;have o:=zlm ys L hw;have k:top<18446744073709551616:=by rw[←c];grind[zdM]
 have l:=zmT k;have m:=zhl h0;have h1:top<2^blen top:=zil.1 (Za _);have g:2^(blen top-1)≤top:=znL.1 (by omega);have f:2^blen top*2^s=B64:=by rw[←Z8,show blen top+s=64 by omega]
 have d:2^(blen top-1)*2^s=2^63:=by rw[←Z8,show blen top-1+s=63 by omega]
 have j:0<2^s:=Zx (by decide);constructor
 ·have b:nval ys<B64^L*2^blen top:=by
   have:B64^L*(top+1)≤B64^L*2^blen top:=Z1 _ h1;rw[Xu,Xi]at this;omega
  have a:=YN b j;rw[XD,f]at a;rw[ZS];exact a
 ·have b:B64^L*2^(blen top-1)≤nval ys:=by
   have:B64^L*2^(blen top-1)≤B64^L*top:=Z1 _ g;omega
  have a:=Zt (2^s) b;rw[XD,d]at a;rw[Zp];exact a
theorem zxq(hw:Wds vs)(hc:Canon vs)(b:nval vs=N)(h1:N<B64^(L+1))(c:2^63*B64^L≤N):vs.length=L+1∧9223372036854775808≤wd vs L:=by
 have f:=zk7 vs hw hc;have k:0<B64^L:=Zx (by decide);have a:vs.length=L+1:=by
  rw[f,b];have g:=zaZ h1;have i:¬wlen N≤L:=by
   rw[zfP];have:1*B64^L≤2^63*B64^L:=Zt _ (by decide);omega
  omega
 refine⟨a,?_⟩;have e:=zrL a;have j:=zlm vs L hw;rw[b]at e;rcases ZV (wd vs L) 9223372036854775808 with h | h
 ·exfalso
  have d:B64^L*(wd vs L+1)≤B64^L*2^63:=Z1 _ h;rw[Xu,Xi]at d;rw[Zp (2^63)]at c;omega
 ·exact h
theorem zw3(m:us.length=n+1)(k:nval us=a*2^s)(d:a<B64^n)(l:s<64)(j:L+1≤n)(f:2^63*B64^L≤nval vs):nval (us.drop (n-L))<nval vs:=by
 have e:=zaY us (n-L) (by omega);have h1:a*2^s<B64^n*2^s:=YN d (Zx (by decide));have b:B64^n=B64^(n-L)*B64^L:=by rw[←Z8];grind
 have c:B64^(n-L)*nval (us.drop (n-L))<B64^(n-L)*(B64^L*2^s):=by
  rw[←XD,←b];omega
 have g:=Va c;have i:B64^L*2^s≤B64^L*2^63:=Z1 _ (Xd (by decide) (by omega));rw[Zp (2^63)]at f;omega
theorem zA6(h1:n≤xs.length)(b:xs.length≤n+1):nval ((xs++[0,0]).take (n+1))=nval xs∧((xs++[0,0]).take (n+1)).length=n+1:=by
 have a:((xs++[0,0]).take (n+1)).length=n+1:=by rw[Zn,Zj];simp;omega
 refine⟨?_,a⟩;rw[List.take_append,zc7];rw[ZH (show xs.length≤n+1 by omega)];have:nval (([0,0]:List Nat).take (n+1-xs.length))=0:=by
  rcases(show n+1-xs.length=0∨n+1-xs.length=1 by omega)with h | h<;>rw[h]<;>rfl
 rw[this];simp
theorem unshift{r:Nat}(h:r+b*2^s*q=a*2^s)(e:r<b*2^s):q=a/b∧r/2^s=a%b:=by
 have f:0<2^s:=Zx (by decide);have k:2^s∣r:=by
  have h1:2^s∣a*2^s:=YT _ _;have g:2^s∣b*2^s*q:=Nat.dvd_trans (YT _ _) (Nat.dvd_mul_right _ _);rw[←h]at h1;exact(Nat.dvd_add_left g).1 h1
 obtain⟨t,rfl⟩:=k;have i:2^s*(t+b*q)=2^s*a:=by
  rw[Zp _ a,←h];grind
 have c:=Y9 f i;have d:t<b:=by
  rw[Zp b]at e;exact Va e
 rw[Nat.mul_div_cancel_left _ f];grind[Nat.add_mul_div_left,Nat.div_eq_of_lt,Nat.add_mul_mod_self_left,Nat.mod_eq_of_lt]
structure DS (w wr:World) (H G gv n nq cu:Nat) (us qs vs:List Nat) (Av:OA) (cv:Nat):Prop where
  u:wr.ownsRow H 165 1 (H,n+1,cu) (n+1) (wcells us)
  q:wr.ownsRow G 165 1 (G,nq,nq) nq (wcells qs)
  v:wr.heap[gv]? = some (.cells #[(Av,vs.length,cv)] 37 (0,0))
  sv:SW wr (Av,vs.length,cv) vs
  r2:wr.heap[w.heap.size+1+1]? = some (.cells #[()] 37 (0,0))
  r3:wr.heap[w.heap.size+1+1+1]? = some (.cells #[()] 37 (0,0))
  bel:Below w w wr
structure DF (w:World) (H G gv:Nat) (v:Value):Prop where
  hg:H<G
  gh:gv<H
  hw:w.heap.size+4≤gv
  vh:v.ownBlock≠some H
  vg:v.ownBlock≠some G
namespace DS
variable {w wr w':World} {H G gv n nq cu:Nat} {us qs us' qs' vs:List Nat} {Av:OA} {cv:Nat}
theorem step(h:DS w wr H G gv n nq cu us qs vs Av cv)(a:Below wr wr w'):DS w w' H G gv n nq cu us qs vs Av cv :=
 ⟨zfF h.u a,zfF h.q a,zad a h.v,h.sv.below a,zad a h.r2,zad a h.r3,h.bel.trans (a.mono h.bel.size)⟩
theorem blk{x:Nat}{o:Obj}(h:wr.heap[x]? = some o)(hg:wr.grownBy w' (some H))(a:x≠H):w'.heap[x]? = some o :=
 (hg.block x (ZI.1 h).1 (fun e=>a (Option.some.inj e))).trans h
theorem turnU(h:DS w wr H G gv n nq cu us qs vs Av cv)(f:DF w H G gv (Av,vs.length,cv))(hg:wr.grownBy w' (some H))(a:w'.ownsRow H 165 1 (H,n+1,cu) (n+1) (wcells us')):DS w w' H G gv n nq cu us' qs vs Av cv :=
 ⟨a,h.q.kept hg (.inr (by have:=f.hg;simp[Value.ownBlock];omega)),blk h.v hg (by have:=f.gh;omega),
  h.sv.keep fun k hk=>hg.block k (h.sv.block hk) (fun e=>f.vh (by rw[hk,e])),
  blk h.r2 hg (by have:=f.gh;have:=f.hw;omega),blk h.r3 hg (by have:=f.gh;have:=f.hw;omega),
  h.bel.grown hg h.bel.size (fun k hk=>by cases hk;have:=f.gh;have:=f.hw;omega)⟩
theorem turnQ(h:DS w wr H G gv n nq cu us qs vs Av cv)(f:DF w H G gv (Av,vs.length,cv))(hg:wr.grownBy w' (some G))(a:w'.ownsRow G 165 1 (G,nq,nq) nq (wcells qs')):DS w w' H G gv n nq cu us qs' vs Av cv :=
 ⟨h.u.kept hg (.inr (by have:=f.hg;simp[Value.ownBlock];omega)),a,blk h.v hg (by have:=f.gh;have:=f.hg;omega),
  h.sv.keep fun k hk=>hg.block k (h.sv.block hk) (fun e=>f.vg (by rw[hk,e])),
  blk h.r2 hg (by have:=f.gh;have:=f.hg;have:=f.hw;omega),blk h.r3 hg (by have:=f.gh;have:=f.hg;have:=f.hw;omega),
  h.bel.grown hg h.bel.size (fun k hk=>by cases hk;have:=f.gh;have:=f.hg;have:=f.hw;omega)⟩
theorem setQ(h:DS w wr H G gv n nq cu us qs vs Av cv)(f:DF w H G gv (Av,vs.length,cv))(k x:Nat):DS w (wr.setCell ⟨G,k,none⟩ (.int .u64 (x:Int))) H G gv n nq cu us (qs.set k x) vs Av cv :=
 h.turnQ f (h.q.stored k _).2 (by rw[ziN];exact(h.q.stored k _).1)
theorem cellU(h:DS w wr H G gv n nq cu us qs vs Av cv)(a:us.length=n+1)(hk:k<n+1):wr.cell? ⟨H,k,none⟩=some (.int .u64 ((wd us k:Nat):Int)):=by
 rw[h.u.cellAt k (by omega),zeu (by omega)]
theorem cellQ(h:DS w wr H G gv n nq cu us qs vs Av cv)(a:qs.length=nq)(hk:k<nq):wr.cell? ⟨G,k,none⟩=some (.int .u64 ((wd qs k:Nat):Int)):=by
 rw[h.q.cellAt k (by omega),zeu (by omega)]
theorem cellV(h:DS w wr H G gv n nq cu us qs vs Av cv):wr.cell? ⟨gv,0,none⟩=some (Av,vs.length,cv):=zac h.v 0
theorem swQ(h:DS w wr H G gv n nq cu us qs vs Av cv)(a:qs.length=nq)(hw:Wds qs):SW wr (G,nq,nq) qs:=by
 subst a;exact SW.of_own h.q hw
theorem swU(h:DS w wr H G gv n nq cu us qs vs Av cv)(b:us.length=n+1)(hw:Wds us):SW wr (H,n+1,cu) us:=by
 have a:=h.u;rw[←b]at a ⊢;grind[SW.of_own]
theorem outC(h:DS w wr H G gv n nq cu us qs vs Av cv)(a:us.length=n+1):OutC wr wr H (n+1) cu us:=⟨h.u,⟨rfl,rfl,rfl,Za _,fun _ _ _=>rfl⟩,a⟩
theorem ofOut(h:DS w wr H G gv n nq cu us qs vs Av cv)(f:DF w H G gv (Av,vs.length,cv))(o:OutC wr w' H (n+1) cu us'):DS w w' H G gv n nq cu us' qs vs Av cv:=h.turnU f o.bel o.own
end DS
theorem zvl(W:World)(g n c k j:Nat)(K:Int)(b:K=(j:Int))(h1:k≤j)(f:j≤c)(i:k<c) :
  (Instr.slice 35 (g,n,c) (some (.int .i64 (k:Int))) (some (.int .i64 K)) none).run prog W=.ok (.slice (some ⟨g,k,none⟩) (j-k) (c-k)) W:=by
 subst b;have e:prog.underlying 35=some (.slice (prog.elem 35)):=by rfl
 have d:prog.elem 35=165:=by rfl
 rw[run_slice_lh W 35 _ _ _ e .i64 .i64 _ _ (by omega) (by omega) (by omega),d];have h0:c≠k:=by omega
 by_cases a:k=0
 ·subst a;simp[Result.andThen,sliced,Addr.add,h0]
 ·simp[Result.andThen,sliced,Addr.add,h0,a]
theorem zmb{os zs:List Nat}(h:za8 us os a b)(k:za8 os zs a b):za8 us zs a b:=⟨k.1.trans h.1,fun j hj=>(k.2 j hj).trans (h.2 j hj)⟩
theorem zqw{nq:Nat}{a:List Nat}(b:LdInv N (nval vs) us qs (k+1))(d:Window us vs k)(j:Wds vs)(hm:2≤vs.length)(hk:k<qs.length)(f:k≤us.length)(l:9223372036854775808≤wd vs (vs.length-1))
  (hg:GuessIs (wd us (k+vs.length)) (wd us (k+vs.length-1)) (wd us (k+vs.length-2)) (wd vs (vs.length-1)) (wd vs (vs.length-2)) q)
  (i:za8 us a k (k+vs.length+1)) (g:Wds a) (c:nval a+B64^k*(q*nval vs)=nval us+B64^(k+vs.length+1)*0):LdInv N (nval vs) a (qs.set k q) k:=by
 have _:=nq;have e:=d.guess b.wu j hm (by unfold wd at l;omega) hg;rw[Nat.mul_zero,XK]at c;exact b.step hk f i g c e.1 hg.lt
theorem zsu{a d:List Nat}(e:LdInv N (nval vs) us qs (k+1))(b:Window us vs k)(v:Wds vs)(hm:2≤vs.length)(hk:k<qs.length)(f:k≤us.length)(x:9223372036854775808≤wd vs (vs.length-1))
  (hg:GuessIs (wd us (k+vs.length)) (wd us (k+vs.length-1)) (wd us (k+vs.length-2)) (wd vs (vs.length-1)) (wd vs (vs.length-2)) q)
  (i:za8 us a k (k+vs.length+1)) (t:Wds a) (j:nval a+B64^k*(q*nval vs)=nval us+B64^(k+vs.length+1)*1)
  (m:za8 a d k (k+vs.length+1)) (l:Wds d) (p:nval d+B64^(k+vs.length+1)*c=nval a+B64^k*nval vs):LdInv N (nval vs) d ((qs.set k q).set k (q-1)) k∧0<q:=by
 have r:=b.guess e.wu v hm (by unfold wd at x;omega) hg;have s:¬q*nval vs≤nval (us.drop k):=fun h=>by
  have:=zo6 b t i f j (Za 1) h;omega
 have g:0<q:=by grind
 have u:=(b.z.lt e.wu).2;have o:=ztX b l (zmb i m) f j p g r.2 u;refine⟨?_,g⟩;rw[List.set_set];exact e.step hk f (zmb i m) l o (by rw[Nat.sub_add_cancel g];omega) (by have:=hg.lt;omega)
