/- Contracts and lemmas: Nat2 Out Nat4 Nat5 Nat6 Nat7. Conditions: as each says. -/
import Derived.Test.YtbhfhkcdfmmmiaaGreatDoorWord2Zd
import Derived.Deep.DeepMust
set_option linter.all false
set_option maxHeartbeats 1000000
set_option maxRecDepth 100000
namespace Go.Proofs.YtbhfhkcdfmmmiaaGreatDoor
open Go.RowKit Am
open Lib (hid)
variable {cs:Array Value}{a:Int}{os xs:List Nat}{b o s:Nat}{ob:Obj}{t:TypeId}{v:Value}{W:World}
namespace Nt
theorem clone(s:Value)(xs:List Nat)(w:World)(h:SR w s xs)(z:xs.length≤LIM):Calls Tryz.prog 136 #[s] w (zCs w xs):=by
 obtain⟨A,c,rfl,E,B,hw,b,a⟩:=h;have y:=hid hw;clear hw;rcases A with _ | ad
 ·obtain⟨rfl,rfl⟩:=b rfl;clear a b;have F:=fun(w:World)=>Lib.run_eql_slice_nil (P:=Tryz.prog) w 43 184 none 0 0 0 0 Tryz.underlying43
  go_enter Tryz.func136,Tryz.ntmps136;go_wp2;go_ret
  exact⟨_,_,_,rfl,SW.nil _,Below.refl _ _⟩
 ·have d:=hid (a ad rfl);clear a b;have F:=fun(w:World)=>Lib.run_eql_slice_nil (P:=Tryz.prog) w 43 184 (some ad) xs.length c 0 0 Tryz.underlying43
  obtain⟨K,D,G,I,J⟩:=info_parts zf7;have l:=World.ownsRow_made (e:=184) (size:=1) (base:=w.heap.size) w #[] 0 (Nat.le_refl _) (by unfold maxLen;omega) rfl
  have i:∀j u,(wcells xs)[j]? = some u→(w.alloc (.cells #[] 184)).cell? (ad.add j)=some u:=fun j u p =>
   (World.cell?_alloc_lt w _ _ (World.block_lt_of_cell? w _ (d.out j u p))).trans (d.out j u p)
  have x:=hid l;have v:=hid i;have f:0+xs.length≤maxLen:=by unfold maxLen;omega
  have g:(0+xs.length)*8≤140737488355328:=by have:=zaP;omega
  have r:=hid f;have t:=hid g;clear l i f g z E B;go_enter Tryz.func136,Tryz.ntmps136;go_wp2_with (at_builtin;refine wpList_append_own _ rfl _ _ 43 rfl w.heap.size 184 K (.int .u64 0) 1 8 Tryz.underlying43 D G I J rfl (by decide) _ _ _ rfl x.out ad xs.length c (wcells xs) rfl (by rw[zdA];omega) v.out (zgf xs) r.out t.out (by simp) ?_;intro M w1 m C L)
  go_ret
  rw[Nat.zero_add,List.nil_append]at m;have o:=SW.of_own m y.out;obtain⟨q,m',c',rfl⟩:=o.slice;exact⟨q,m',c',rfl,o,(zae w _).trans ((Below.refl _ _).grown C (by simp) (fun k hk=>by cases hk;exact Nat.le_refl _))⟩
theorem of(s:Value)(xs:List Nat)(w:World)(h:SR w s xs)(f:xs.length≤LIM):Calls Tryz.prog 112 #[s] w (zc0 w (nval xs)):=by
 have a:SR (w.alloc (.cells #[()] 45)) s xs:=by
  obtain⟨A,c,h1,a,o,q,r,d⟩:=h;exact⟨A,c,h1,a,o,q,r,fun b g j u i=>(World.cell?_alloc_lt w _ _ (World.block_lt_of_cell? w _ (d b g j u i))).trans (d b g j u i)⟩
 have k:=hid a;have l:=hid f;clear h a f;go_enter Tryz.func112,Tryz.ntmps112;go_wp2_with fail
 refine(clone s xs _ k.out l.out).mono ?_;rintro e w1 ⟨A1,m1,c1,rfl,hs1,hb1⟩;go_wp2_with fail
 refine(trim _ xs _ hs1).mono ?_;rintro e w2 ⟨A2,m2,c2,rfl,hs2,hb2⟩;have x:w.heap.size<w2.heap.size:=by have h1:=hb1.size;have a:=hb2.size;simp at h1;omega
 have hk:=zad hb2 (zad hb1 (zal w #[()] 45));have hc:w2.cell? ⟨w.heap.size,0,none⟩=some ():=zac hk 0;have t:=zag hk 0;have m:=hid hk;clear hk;go_wp2;refine bodyPost_ret (v:=.agg #[(A2,m2,c2)]) (by simp[results,Tryz.results112,go_sem,hc]) rfl ⟨_,_,_,rfl,hs2.setCell (p:=⟨w.heap.size,0,none⟩) m.out (by decide) _,?_⟩;exact(bstep (bstep (zae w _) hb1 (by simp)) hb2 (by have h1:=hb1.size;simp at h1;omega)).setCell (Nat.le_refl _) _
end Nt
theorem SW.drew{w:World}{s:Value}{xs:List Nat}(h:SW w s xs):SW w.drew s xs:=h.drewN 1

theorem cell_al(h:W.cell? ⟨b,o,none⟩=some v):(W.alloc ob).cell? ⟨b,o,none⟩=some v :=
 (World.cell?_alloc_lt W ob ⟨b,o,none⟩ (World.block_lt_of_cell? W ⟨b,o,none⟩ h)).trans h
theorem zax(a:W.heap.size=b)(h:cs[o]? = some v):(W.alloc (.cells cs t)).cell? ⟨b,o,none⟩=some v:=by
 subst a;exact(zac (zal W cs t) o).trans h
theorem zam(a:W.heap.size=b):(W.alloc (.cells cs t)).heap[b]? = some (.cells cs t (0,0)):=by
 subst a;exact zal W cs t
theorem zak{o:Obj}(h:W.heap[b]? = some o):(W.alloc ob).heap[b]? = some o :=
 (Below.heap_alloc W ob b (Array.getElem?_eq_some_iff.1 h).1).trans h
theorem cell_set{a c:Nat}{u:Value}(d:b≠a)(h:W.cell? ⟨b,o,none⟩=some v):(W.setCell ⟨a,c,none⟩ u).cell? ⟨b,o,none⟩=some v :=
 (World.cell?_setCell_other W ⟨a,c,none⟩ ⟨b,o,none⟩ u (fun e=>d (congrArg Addr.block e).symm)).trans h
theorem zd1(a:b<W.heap.size)(h:W.frozen? ⟨b,o,none⟩=false):(W.alloc ob).frozen? ⟨b,o,none⟩=false :=
 (World.frozen?_alloc_old W ob ⟨b,o,none⟩ (Nat.ne_of_lt a)).trans h
theorem zxk(a:b<W.heap.size):b<(W.alloc ob).heap.size:=by simp;omega

structure OutAt (w w1:World) (H n:Nat) (os:List Nat):Prop where
  own:w1.ownsRow H 184 1 (H,n,n) n (wcells os)
  bel:Below H w w1
  len:os.length=n
namespace OutAt
variable {w w1 w2:World} {H n:Nat} {os:List Nat}
theorem lt(h:OutAt w w1 H n os):H<w1.heap.size:=(h.own.lt H rfl).2
theorem step(h:OutAt w w1 H n os)(a:Below w1.heap.size w1 w2):OutAt w w2 H n os :=
 ⟨⟨h.own.1,by
   rcases h.own.2 with h2 | ⟨g,cap,cur,hv,hg,hh,r⟩
   ·exact .inl h2
   ·exact .inr ⟨g,cap,cur,hv,hg,by rw[a.block g (Array.getElem?_eq_some_iff.1 hh).1];exact hh,r⟩⟩,h.bel.trans (a.mono (Nat.le_of_lt h.lt)),h.len⟩
theorem alloc(h:OutAt w w1 H n os)(o:Obj):OutAt w (w1.alloc o) H n os:=h.step (zae w1 o)
theorem drewN(h:OutAt w w1 H n os)(k:Nat):OutAt w (w1.drewN k) H n os:=h.step (zap w1 k)
theorem drew(h:OutAt w w1 H n os):OutAt w w1.drew H n os:=h.drewN 1
theorem store(h:OutAt w w1 H n os)(k v:Nat):OutAt w (w1.setCell ⟨H,k,none⟩ (.int .u64 (v:Int))) H n (os.set k v) :=
 ⟨by rw[ziN];exact(h.own.stored k _).1,h.bel.setCell (Nat.le_refl _) _,by rw[List.length_set];exact h.len⟩
theorem cell(h:OutAt w w1 H n os){k:Nat}(hk:k<n):w1.cell? ⟨H,k,none⟩=some (.int .u64 ((wd os k:Nat):Int)):=by
 rw[h.own.cellAt k (by omega),zeu (by rw[h.len];exact hk)]
theorem fro(h:OutAt w w1 H n os)(k:Nat):w1.frozen? ⟨H,k,none⟩=false:=h.own.frozenAt k
theorem old(h:OutAt w w1 H n os)(a:b<H)(hc:w.cell? ⟨b,o,none⟩=some v):w1.cell? ⟨b,o,none⟩=some v :=
 (h.bel.cell (p:=⟨b,o,none⟩) a).trans hc
theorem keep(h:OutAt w w1 H n os){s:Value}(b:SW w s xs)(a:w.heap.size≤H):SW w1 s xs:=b.below (h.bel.mono a)
theorem sw(h:OutAt w w1 H n os)(hw:Wds os):SW w1 (H,n,n) os:=by
 have:=h.own;have a:=h.len;subst a;exact SW.of_own this hw
end OutAt

theorem zdz{w:World}{ops:Array Oper}{rest:List Oper}{o:Oper}{a:Act}{Q:Exit→Act→World→Prop}
  (hg:o.guard=none) (l c:Operand) (p:o.op=Op.makeSlice 43 l c) (n:Nat) (L:Int) (m:a.eval l=.int .i64 L) (hc:a.eval c=.int .i64 L) (g:L=(n:Int)) (u:n≤16*LIM) (H:Nat) (e:w.heap.size=H)
  (f:∀w1,OutAt w w1 H n (List.replicate n 0)→wpList Tryz.prog ops Q rest (a.put o.dst (H,n,n)) w1):wpList Tryz.prog ops Q (o::rest) a w:=by
 obtain⟨t,j,q,r,s⟩:=info_parts zf7;have v:=zaP;subst e;subst g;refine wpList_make_full w hg l c 43 p w.heap.size 184 t (.int .u64 0) 1 Tryz.underlying43 j q r .i64 .i64 n n n m hc rfl rfl (by rw[s];omega) (by unfold maxLen;omega) (Nat.le_refl _) ?_;intro w1 b i;have d:(madeCells (Value.int IntKind.u64 0).cells (n*1)).toList=wcells (List.replicate n 0):=by
  rw[zlr,Nat.mul_one];exact toList_madeCells_one _ n
 rw[d]at b;exact f w1 ⟨b,(Below.refl _ _).grown i (Nat.le_refl _) (fun k hk=>by cases hk),by simp⟩

def zrow (n:Nat):Array Value:=(wcells (List.replicate n 0)).toArray
theorem zyv(n:Nat)(j:n≤16*LIM)(w:World):(Instr.makeSlice 43 (n:Int) (n:Int)).run Tryz.prog w=.ok (w.heap.size,n,n) (w.alloc (.cells (zrow n) 184)):=by
 obtain⟨a,e,f,g,i⟩:=info_parts zf7;have k:=zaP;have c:(n:Int)≤9223372036854775807:=by omega
 have d:(a.bytes:Int)*(n:Int)≤281474976710656:=by rw[i];omega
 have hr:=run_make (P:=Tryz.prog) w 43 184 a (.int .u64 0) Tryz.underlying43 e f .i64 .i64 n n (by omega) (Int.le_refl _) d c;simp only[Int.toNat_natCast]at hr;rw[hr,g];have b:madeCells (Value.int IntKind.u64 0).cells (n*1)=zrow n:=by
  apply Array.ext';rw[zrow,zlr,Nat.mul_one];exact toList_madeCells_one _ n
 rw[b]
theorem zn5(w:World)(n:Nat)(a:n≤16*LIM):OutAt w (w.alloc (.cells (zrow n) 184)) w.heap.size n (List.replicate n 0):=by
 have b:=zaP;have h:=World.ownsRow_lit (e:=184) (size:=1) w (zrow n) n (Nat.le_refl w.heap.size) (by unfold maxLen;omega) (by simp[zrow,wcells]);exact⟨by simpa[zrow]using h,(Below.refl _ _).alloc (Nat.le_refl _) _,by simp⟩
attribute [local go_sem ↓] Go.wp_at_zero Go.wp_at_succ
def ze9 (a b:Int):Int:=if a<b then -1 else if b<a then 1 else 0
theorem zeb{b:Int}(h:a<b):ze9 a b = -1:=by unfold ze9;rw[if_pos h]
theorem zea{b:Int}(h:b<a):ze9 a b=1:=by unfold ze9;rw[if_neg (by omega),if_pos h]
theorem zgN{b:Int}(h:a=b):ze9 a b=0:=by unfold ze9;rw[if_neg (by omega),if_neg (by omega)]
namespace Nt
theorem zut(a b:Int)(w:World):Calls Tryz.prog 116 #[.int .i64 a,.int .i64 b] w fun e w'=>e=.returned (.int .i64 (ze9 a b))∧w=w':=by
 rcases Int.lt_trichotomy a b with h | h | h
 ·have E:=hid (zeb h);go_enter Tryz.func116,Tryz.ntmps116;go_wp2;go_ret
  exact⟨zst (by rw[E.out]),rfl⟩
 ·subst h;have E:=hid (zgN (a:=a) rfl);go_enter Tryz.func116,Tryz.ntmps116;go_wp2;go_ret
  exact⟨zst (by rw[E.out]),rfl⟩
 ·have E:=hid (zea h);go_enter Tryz.func116,Tryz.ntmps116;go_wp2;go_ret
  exact⟨zst (by rw[E.out]),rfl⟩
theorem zJ7(a b:Int)(w:World):Calls Tryz.prog 117 #[.int .u64 a,.int .u64 b] w fun e w'=>e=.returned (.int .i64 (ze9 a b))∧w=w':=by
 rcases Int.lt_trichotomy a b with h | h | h
 ·have E:=hid (zeb h);go_enter Tryz.func117,Tryz.ntmps117;go_wp2;go_ret
  exact⟨zst (by rw[E.out]),rfl⟩
 ·subst h;have E:=hid (zgN (a:=a) rfl);go_enter Tryz.func117,Tryz.ntmps117;go_wp2;go_ret
  exact⟨zst (by rw[E.out]),rfl⟩
 ·have E:=hid (zea h);go_enter Tryz.func117,Tryz.ntmps117;go_wp2;go_ret
  exact⟨zst (by rw[E.out]),rfl⟩

theorem zuw(A B:OA)(c c':Nat)(xs ys:List Nat)(w:World)(b:xs.length≠ys.length)(v:Int)(a:v=ze9 xs.length ys.length) :
  Calls Tryz.prog 90 #[.agg #[(A,xs.length,c)],.agg #[(B,ys.length,c')]] w fun e w'=>e=.returned (.int .i64 v)∧Below w.heap.size w w':=by
 rcases Nat.lt_or_ge xs.length ys.length with h | h
 ·have e:ze9 xs.length ys.length = -1:=zeb (by omega);rw[e]at a;subst a;clear b h;go_enter Tryz.func90,Tryz.ntmps90;go_wp2_with fail
  refine(zut _ _ _).mono ?_;rw[e];rintro d w' ⟨rfl,rfl⟩;clear e;go_wp2;go_ret
  exact⟨rfl,(zae w _).alloc (by simp) _⟩
 ·have e:ze9 xs.length ys.length=1:=zea (by omega);rw[e]at a;subst a;clear b h;go_enter Tryz.func90,Tryz.ntmps90;go_wp2_with fail
  refine(zut _ _ _).mono ?_;rw[e];rintro d w' ⟨rfl,rfl⟩;clear e;go_wp2;go_ret
  exact⟨rfl,(zae w _).alloc (by simp) _⟩

theorem zuv(A B:OA)(c c':Nat)(xs ys:List Nat)(w:World)(p:SW w (A,xs.length,c) xs)(I:SW w (B,ys.length,c') ys)(G:xs.length=ys.length) :
  Calls Tryz.prog 90 #[.agg #[(A,xs.length,c)],.agg #[(B,ys.length,c')]] w fun e w'=>e=.returned (.int .i64 (ze9 (nval xs) (nval ys)))∧Below w.heap.size w w':=by
 have Z:=p.len_le;have x:ze9 xs.length ys.length=0:=zgN (by omega);have J:=hid x;have s:=hid G;clear x;have u:=hid p;have v:=hid I;have z:Below w.heap.size w ((w.alloc (.cells #[(A,xs.length,c)] 45)).alloc (.cells #[(B,ys.length,c')] 45)):=(zae w _).alloc (by simp) _;have l:=hid z;clear p I G z;go_enter Tryz.func90,Tryz.ntmps90;go_wp2_with fail
 refine(zut _ _ _).mono ?_;rw[J.out];rintro U w' ⟨rfl,rfl⟩;go_wp2
 go_loopw [6] (fun i wr=>∃(j q:Nat),i=.int .i64 ((j:Int)-1)∧j≤xs.length∧xs.drop j=ys.drop j∧wr=(((w.alloc (.cells #[(A,xs.length,c)] 45)).alloc (.cells #[(B,ys.length,c')] 45))).drewN q)
  (fun i _=>(intOf i+1).toNat)
 case atStart =>
  exact⟨xs.length,0,rfl,Nat.le_refl _,by rw[List.drop_eq_nil_of_le (Nat.le_refl _),List.drop_eq_nil_of_le (by rw[s.out];exact Nat.le_refl _)],rfl⟩
 case round =>
  obtain⟨j,q,rfl,hj,E,rfl⟩:=hrel;have r:=hid E;clear E;rcases Nat.eq_zero_or_pos j with rfl | hpos
  ·have a:ze9 (nval xs) (nval ys)=0:=zgN (by have:=r.out;simp at this;rw[this]);have k:=hid a;clear a;go_wp2;go_ret
   exact⟨zst (by rw[k.out]),zhk l.out q⟩
  ·have d:j-1<xs.length:=by omega
   have f:j-1<ys.length:=by have:=s.out;omega
   rcases u.out.form with ⟨h1,O⟩ | ⟨g,cap,h1,hg,V,hm,C⟩
   ·exfalso;rw[O]at d;simp at d
   rcases v.out.form with ⟨y,P⟩ | ⟨g',T,y,Y,X,aa,D⟩
   ·exfalso;rw[P]at f;simp at f
   injection h1 with hA _ hc1;injection y with hB _ hc2;subst hA hB hc1 hc2;have M:=cell_al (ob:=.cells #[(g',ys.length,c')] 45) (cell_al (ob:=.cells #[(g,xs.length,c)] 45) (C (j-1) d));have N:=cell_al (ob:=.cells #[(g',ys.length,c')] 45) (cell_al (ob:=.cells #[(g,xs.length,c)] 45) (D (j-1) f))
   have K:=cell_al (ob:=.cells #[(g',ys.length,c')] 45) (zax (W:=w) (o:=0) (t:=45) (cs:=#[.slice (some ⟨g,0,none⟩) xs.length c]) rfl rfl);have L:=zax (W:=w.alloc (.cells #[(g,xs.length,c)] 45)) (b:=w.heap.size+1) (o:=0) (t:=45) (cs:=#[.slice (some ⟨g',0,none⟩) ys.length c']) (by simp) rfl;clear C D;have R:(j:Int)-1<(xs.length:Int):=by omega
   have S:(j:Int)-1<(ys.length:Int):=by omega
   go_wp2_with fail
   go_region_held3 (fun w'=>w'.cell? ⟨w.heap.size,0,none⟩=some (g,xs.length,c)∧w'.cell? ⟨w.heap.size+1,0,none⟩=some (g',ys.length,c') ∧
     w'.cell? ⟨g,j-1,none⟩=some (.int .u64 ((wd xs (j-1):Nat):Int))∧w'.cell? ⟨g',j-1,none⟩=some (.int .u64 ((wd ys (j-1):Nat):Int)))
    (first | ((try go_split_ands);(try simp only[World.cell?_drew,World.cell?_drewN]);(repeat' apply And.intro)<;>assumption) | go_keep)
    (first | (go_at_call 117;(with_reducible refine(zJ7 _ _ _).mono ?_);rintro e w' ⟨rfl,rfl⟩))
   have F:xs.drop (j-1+1)=ys.drop (j-1+1):=by rw[show j-1+1=j by omega];exact r.out
   have m:=hid F;clear F M N K L R S;rcases Nat.lt_trichotomy (wd xs (j-1)) (wd ys (j-1))with h | h | h
   ·have a:ze9 (nval xs) (nval ys) = -1:=zeb (by have:=zi7 u.out.2 (j-1) d f m.out h;omega);have k:=hid a;have hr:ze9 ((wd xs (j-1):Nat):Int) ((wd ys (j-1):Nat):Int) = -1:=zeb (by omega);clear a h;rw[hr];clear hr;go_wp2;go_ret
    exact⟨zst (by rw[k.out]),zhk l.out _⟩
   ·have hr:ze9 ((wd xs (j-1):Nat):Int) ((wd ys (j-1):Nat):Int)=0:=zgN (by omega);have Q:=hid (zoy (j-1) d f m.out h);clear h;rw[hr];clear hr;go_wp2;go_roundw
    case rel=>exact⟨j-1,_,by congr 1;omega,by omega,Q.out,rfl⟩
    case measure=>simp[intOf];omega
   ·have a:ze9 (nval xs) (nval ys)=1:=zea (by have:=zi7 v.out.2 (j-1) f d m.out.symm h;omega);have k:=hid a;have hr:ze9 ((wd xs (j-1):Nat):Int) ((wd ys (j-1):Nat):Int)=1:=zea (by omega);clear a h;rw[hr];clear hr;go_wp2;go_ret
    exact⟨zst (by rw[k.out]),zhk l.out _⟩

theorem cmp(A B:OA)(m c m' c' a b:Nat)(w:World)(g:zas w (A,m,c) a)(i:zas w (B,m',c') b) :
  Calls Tryz.prog 90 #[.agg #[(A,m,c)],.agg #[(B,m',c')]] w fun e w'=>e=.returned (.int .i64 (ze9 a b))∧Below w.heap.size w w':=by
 obtain⟨xs,d,j,rfl,l,rfl⟩:=g.words;obtain⟨ys,f,k,rfl,o,rfl⟩:=i.words;rcases Nat.lt_trichotomy xs.length ys.length with h | h | h
 ·have:=zgo d.2 k h;exact zuw A B c c' xs ys w (by omega) _ (by rw[zeb (by omega),zeb (by omega)])
 ·exact zuv A B c c' xs ys w d f h
 ·have:=zgo f.2 j h;exact zuw A B c c' xs ys w (by omega) _ (by rw[zea (by omega),zea (by omega)])
end Nt
namespace Nt
theorem sub_no(A B:OA)(m c m' c' a b:Nat)(w:World)(d:zas w (A,m,c) a)(f:zas w (B,m',c') b)(j:a<b) :
  Calls Tryz.prog 133 #[.agg #[(A,m,c)],.agg #[(B,m',c')]] w (zjL w 0 false):=by
 have e:ze9 a b = -1:=zeb (by omega);have g:=hid (((d.alloc (.cells #[(A,m,c)] 45)).alloc (.cells #[(B,m',c')] 45)).alloc (.cells #[()] 45));have i:=hid (((f.alloc (.cells #[(A,m,c)] 45)).alloc (.cells #[(B,m',c')] 45)).alloc (.cells #[()] 45));have E:=hid e;clear d f j e;go_enter Tryz.func133,Tryz.ntmps133;go_wp2_with fail
 refine(cmp A B m c m' c' a b _ g.out i.out).mono ?_;rw[E.out];rintro k w1 ⟨rfl,hb1⟩;have hk:=zad hb1 (zam (W:=((w.alloc (.cells #[(A,m,c)] 45)).alloc (.cells #[(B,m',c')] 45))) (b:=w.heap.size+1+1) (cs:=#[.slice none 0 0]) (t:=45) (by simp));have hc:w1.cell? ⟨w.heap.size+1+1,0,none⟩=some ():=zac hk 0;have l:=zag hk 0;clear hk;go_wp2;refine bodyPost_ret (v:=.tuple #[.agg #[()],false]) (by simp[results,Tryz.results133,go_sem,hc]) rfl ?_
 refine⟨_,_,_,rfl,zas.zero _,Below.setCell ?_ (by simp;omega) _⟩;exact bstep (((zae w _).alloc (by simp) _).alloc (by simp;omega) _) hb1 (by simp;omega)

theorem sub_ok(A B:OA)(m c m' c' a b:Nat)(w:World)(y:zas w (A,m,c) a)(z:zas w (B,m',c') b)(hle:b≤a)(D:wlen a≤LIM) :
  Calls Tryz.prog 133 #[.agg #[(A,m,c)],.agg #[(B,m',c')]] w (zjL w (a-b) true):=by
 have K:ze9 a b=0∨ze9 a b=1:=by
  rcases Nat.lt_or_ge b a with h | h
  ·exact .inr (zea (by omega))
  ·exact .inl (zgN (by omega))
 have hA:=hid (((y.alloc (.cells #[(A,m,c)] 45)).alloc (.cells #[(B,m',c')] 45)).alloc (.cells #[()] 45));have hB:=hid (((z.alloc (.cells #[(A,m,c)] 45)).alloc (.cells #[(B,m',c')] 45)).alloc (.cells #[()] 45));obtain⟨xs,S,o,rfl,E,rfl⟩:=y.words;obtain⟨ys,T,ar,rfl,M,rfl⟩:=z.words;have N:ys.length≤xs.length:=by rw[E,M];exact zco hle
 rw[←E]at D;clear E M y z;have ac:=hid hle;have ad:=hid N;have s:=hid S;have u:=hid T;have ab:=hid D;have g1:=hid (show xs.length≤16*LIM by omega);clear S T o ar hle N D;generalize hcv:ze9 (nval xs) (nval ys)=cv at K;have Y:=hid hcv;clear hcv;go_enter Tryz.func133,Tryz.ntmps133;go_wp2_with fail
 refine(cmp A B _ c _ c' _ _ _ hA.out hB.out).mono ?_;rw[Y.out];rintro e' w1 ⟨rfl,hb1⟩;have au:=hb1.size;simp at au;have hk:=zad hb1 (zam (W:=((w.alloc (.cells #[(A,xs.length,c)] 45)).alloc (.cells #[(B,ys.length,c')] 45))) (b:=w.heap.size+1+1) (cs:=#[.slice none 0 0]) (t:=45) (by simp));have U:=zad hb1 (zak (ob:=.cells #[()] 45) (zak (ob:=.cells #[(B,ys.length,c')] 45) (zam (W:=w) (b:=w.heap.size) (cs:=#[.slice A xs.length c]) (t:=45) rfl)))
 have V:=zad hb1 (zak (ob:=.cells #[()] 45) (zam (W:=w.alloc (.cells #[(A,xs.length,c)] 45)) (b:=w.heap.size+1) (cs:=#[.slice B ys.length c']) (t:=45) (by simp)));have l:=bstep (((zae w _).alloc (by simp) _).alloc (by simp;omega) _) hb1 (by simp;omega);have c0:w1.cell? ⟨w.heap.size,0,none⟩=some (A,xs.length,c):=zac U 0;have c1:w1.cell? ⟨w.heap.size+1,0,none⟩=some (B,ys.length,c'):=zac V 0;have Z:=hid hk;have X:=hid l
 have G:=hid (s.out.below l);have ah:=hid (u.out.below l);clear hk U V l hb1;have aB:¬cv<0:=by omega
 clear K;go_wp2_with (at_make;go_must (refine zdz rfl _ _ rfl xs.length _ rfl rfl rfl g1.out w1.heap.size rfl ?_))
 intro w2 O;have HO:=hid O;clear O;go_wp2
 go_loopw [7,20] (fun cy i wr=>∃(j C:Nat) (os:List Nat),i=.int .i64 j∧cy=.int .u64 C∧j≤xs.length∧SubInv xs ys os j C∧OutAt w1 wr w1.heap.size xs.length os)
  (fun _ i _=>xs.length-(intOf i).toNat)
 case atStart=>exact⟨0,0,List.replicate xs.length 0,rfl,rfl,Nat.zero_le _,SubInv.start xs ys _,HO.out⟩
 case round =>
  obtain⟨j,C,os,rfl,rfl,hj,x,d⟩:=hrel;have q:=hid x;have r:=hid d;have hC:=x.one;have ap:=hid (d.keep G.out (Nat.le_refl _));have aq:=hid (d.keep ah.out (Nat.le_refl _));have ay:=d.old (by omega) c0;have az:=d.old (by omega) c1;have aH:=zdM s.out.2 j;have aJ:=zdM u.out.2 j;clear x;by_cases f:j<xs.length
  ·rcases ap.out.form with ⟨h1,h2⟩ | ⟨g,cap,h1,hg,aA,hm,o⟩
   ·exfalso;rw[h2]at f;simp at f
   injection h1 with hA' _ hc1';subst hA' hc1';have aI:=o j f;have J:=d.cell f;have L:=d.fro j;have Q:=d.lt;have aG:xs.length≤9223372036854775807:=by have:=ab.out;have:=zaP;omega
   have aE:(0:Int)≤(j:Int):=Int.natCast_nonneg _;have aF:(j:Int)<(xs.length:Int):=by omega
   have q1:=cell_al (ob:=.cells #[(B,ys.length,c')] 45) J;have q2:=zd1 (ob:=.cells #[(B,ys.length,c')] 45) Q L;have aD:g≠w1.heap.size:=by
    have:=G.out.block (k:=g) rfl;omega
   clear d o J L;go_wp2_with fail
   go_region_held3 (fun w'=>w'.cell? ⟨w.heap.size,0,none⟩=some (g,xs.length,c)∧w'.cell? ⟨w.heap.size+1,0,none⟩=some (B,ys.length,c') ∧
     w'.cell? ⟨g,j,none⟩=some (.int .u64 ((wd xs j:Nat):Int)))
    (first | ((try go_split_ands);(try simp only[World.cell?_drew]);(repeat' apply And.intro)<;>(first | assumption | exact cell_al (by assumption) | exact cell_set (by first | omega | assumption) (by assumption) | exact cell_al (cell_set (by first | omega | assumption) (by assumption)))) | go_keep)
    (first
     | (go_at_call 145;(with_reducible refine(word (B,ys.length,c') ys _ (by omega) _ ?_).mono ?_);(exact aq.out.drew);rintro e w' ⟨rfl,rfl⟩)
     | (go_at_call 148;(with_reducible refine(Word.sub (wd xs j) (wd ys j) C (by assumption) (by assumption) (by assumption) _).mono ?_);rintro e w' ⟨rfl,rfl⟩))
   go_wp2;go_roundw
   case rel=>exact⟨j+1,_,_,by go_num,rfl,by omega,q.out.next (by rw[r.out.len];exact f) s.out.2 u.out.2,((r.out.store j _).alloc _).drew⟩
   case measure=>simp[intOf];omega
  ·obtain rfl:j=xs.length:=by omega
   have R:=q.out.done (Nat.le_refl _) ad.out ac.out (by rw[r.out.len];exact Nat.le_refl _);have P:=d.sw q.out.wds;have I:=d.bel;have HV:=hid R;have HS:=hid P;have F:=hid I;have Q:=d.lt;clear R P I d;go_wp2_with fail
   refine(trim _ os _ HS.out).mono ?_;rintro e w3 ⟨A2,m2,c2,rfl,hs2,hb2⟩;have hk:=zad hb2 ((F.out.block (w.heap.size+1+1) (by omega)).trans Z.out);have hc:w3.cell? ⟨w.heap.size+1+1,0,none⟩=some ():=zac hk 0;have hf:=zag hk 0;have aa:=hid hk;have h1:=hb2.size;clear hk;go_wp2;refine bodyPost_ret (v:=.tuple #[.agg #[(A2,m2,c2)],true]) (by simp[results,Tryz.results133,go_sem,hc]) rfl ?_;rw[HV.out]at hs2
   refine⟨_,_,_,rfl,hs2.setCell (p:=⟨w.heap.size+1+1,0,none⟩) aa.out (by decide) _,Below.setCell ?_ (by simp;omega) _⟩;exact bstep (X.out.trans (F.out.mono (by omega))) hb2 (by omega)
end Nt
namespace Nt
theorem zd3(k:Nat):((2:Int)^k)=((2^k:Nat):Int):=by simp
theorem zAk(x s:Nat)(a:s<64):(x:Int)/2^(64-s)=((zBd x s:Nat):Int):=by
 rw[zd3,←Int.natCast_ediv,zoZ a];rfl
theorem zAl(o x s:Nat)(c:s<64)(b:o<2^s):bits BinOp.or IntKind.u64 (o:Int) (IntKind.u64.wrap ((x:Int)*2^s))=((zxB o x s:Nat):Int):=by
 have d:(2:Nat)^s<18446744073709551616:=by
  have:(2:Nat)^s<2^64:=Nat.pow_lt_pow_right (by decide) c;omega
 have e:=pow64_split s (by omega);have h1:x*2^s%B64=2^s*(x%2^(64-s)):=by rw[e,Nat.mul_comm x,Nat.mul_mod_mul_left]
 rw[zd3,←Int.natCast_mul,IntKind.wrap_u64];have a:((x*2^s:Nat):Int)%18446744073709551616=((x*2^s%B64:Nat):Int):=(Int.natCast_emod _ _).symm;rw[a,u64_or_nat _ _ (by omega) (Nat.mod_lt _ (by decide)),h1,Nat.mul_comm (2^s),zvd b];unfold zxB;rw[h1,Nat.mul_comm (2^s)]
theorem shl(A:OA)(m c a s:Nat)(w:World)(B:zas w (A,m,c) a)(f:s<64)(D:wlen a≤LIM) :
  Calls Tryz.prog 154 #[.agg #[(A,m,c)],(s:Int)] w (zjL w (a*2^s) true):=by
 obtain⟨xs,J,q,rfl,E,rfl⟩:=B.words;rw[←E]at D;have z:=hid J;have ad:xs.length+1≤9223372036854775807:=by have:=zaP;omega
 have P:=hid (show xs.length+1≤16*LIM by have:=zaP;omega);clear B E J q D;have G:(s:Int)/64=0:=by omega
 have hr:(s:Int)%64=(s:Int):=by omega
 have T:decide ((s:Int)<0)=false:=by rw[decide_eq_false_iff_not];omega
 have U:decide ((65536:Int)<(s:Int))=false:=by rw[decide_eq_false_iff_not];omega
 go_enter Tryz.func154,Tryz.ntmps154;go_wp2_with (at_make;go_must (refine zdz rfl _ _ rfl (xs.length+1) _ rfl rfl (by simp) P.out (w.heap.size+1+1) (by simp) ?_))
 intro w1 F;have x:=hid F;clear F;have O:=x.out.old (b:=w.heap.size) (o:=0) (v:=.slice A xs.length c) (by omega) (cell_al (zax rfl rfl));have N:=hid ((z.out.alloc (.cells #[(A,xs.length,c)] 45)).alloc (.cells #[()] 45));go_wp2;simp only[hr];clear hr G;have G:(s:Int)/64=0:=by omega
 go_loopw [30] (fun i wr=>∃(j:Nat) (os:List Nat),i=.int .i64 j∧j≤xs.length∧ShlInv xs os 0 s j ∧
   OutAt ((w.alloc (.cells #[(A,xs.length,c)] 45)).alloc (.cells #[()] 45)) wr (w.heap.size+1+1) (xs.length+1) os)
  (fun i _=>xs.length-(intOf i).toNat)
 case atStart=>exact⟨0,List.replicate (xs.length+1) 0,rfl,Nat.zero_le _,ShlInv.start xs 0 s _,x.out⟩
 case round =>
  obtain⟨j,os,rfl,hj,l,d⟩:=hrel;have t:=hid l;have y:=hid d;clear O;by_cases u:j<xs.length
  ·rcases N.out.form with ⟨h1,Q⟩ | ⟨g,cap,h1,hg,V,hm,q⟩
   ·exfalso;rw[Q]at u;simp at u
   injection h1 with hA' _ hc1';subst hA' hc1';simp at hg;have af:=d.old (by omega) (q j u);have W:=d.cell (k:=j) (by omega);have X:=d.cell (k:=j+1) (by omega);have Z:=d.fro j;have aa:=d.fro (j+1);have R:wd os j<2^s:=l.low;have ah:=zAl (wd os j) (wd xs j) s f R;have ag:=zAk (wd xs j) s f;have ab:(0:Int)≤(j:Int):=Int.natCast_nonneg _;have ac:(j:Int)<(xs.length:Int):=by omega
   clear d l q;go_wp2_with fail
   go_region
   go_wp2;go_roundw
   case rel=>exact⟨j+1,_,by go_num,by omega,t.out.next z.out.2 f (by rw[y.out.len];omega),((y.out.store j _).store (j+1) _).drew⟩
   case measure=>simp[intOf];omega
  ·obtain rfl:j=xs.length:=by omega
   have I:nval os=nval xs*2^s:=by
    have:=t.out.eq;rw[List.take_of_length_le (Nat.le_refl _)]at this;simpa using this
   have f:=d.sw t.out.wds;have C:=d.bel;have M:=hid I;have L:=hid f;have r:=hid C;have ae:=d.lt;clear I f C d l;go_wp2_with fail
   refine(trim _ os _ L.out).mono ?_;rintro e S ⟨A2,m2,c2,rfl,hs2,hb2⟩;have hk:=zad hb2 ((r.out.block (w.heap.size+1) (by omega)).trans (zam (by simp)));have hc:S.cell? ⟨w.heap.size+1,0,none⟩=some ():=zac hk 0;have Y:=zag hk 0;have K:=hid hk;have h1:=hb2.size;have h0:=r.out.size;simp at h0;clear hk;go_wp2;refine bodyPost_ret (v:=.tuple #[.agg #[(A2,m2,c2)],true]) (by simp[results,Tryz.results154,go_sem,hc]) rfl ?_;rw[M.out]at hs2
   refine⟨_,_,_,rfl,hs2.setCell (p:=⟨w.heap.size+1,0,none⟩) K.out (by decide) _,Below.setCell ?_ (by simp) _⟩;exact bstep (((zae w _).alloc (by simp) _).trans (r.out.mono (by omega))) hb2 (by omega)
end Nt
namespace Nt
structure ShrInv (xs os:List Nat) (s j:Nat):Prop where
  wds:Wds os
  eq:∀i,i<j→wd os i=nval xs/2^s/B64^i%B64
theorem zBh(x y s:Nat)(f:s<64)(c:x<18446744073709551616):zBf x y s<18446744073709551616:=by
 have e:=pow64_split s (by omega);have h1:y*2^(64-s)%B64=2^(64-s)*(y%2^s):=by rw[e,Nat.mul_comm (2^s),Nat.mul_comm y,Nat.mul_mod_mul_left]
 have d:x/2^s<2^(64-s):=by
  rw[Nat.div_lt_iff_lt_mul (Nat.pow_pos (by decide)),Nat.mul_comm,←e];exact c
 have a:y%2^s<2^s:=Nat.mod_lt _ (Nat.pow_pos (by decide));have b:2^(64-s)*(y%2^s+1)≤2^(64-s)*2^s:=Nat.mul_le_mul_left _ a;rw[Nat.mul_add,Nat.mul_one,Nat.mul_comm _ (2^s),←e]at b;unfold zBf;rw[h1];have:B64=18446744073709551616:=rfl;omega
theorem zDd(x y s:Nat)(d:s<64)(a:x<18446744073709551616) :
  bits BinOp.or IntKind.u64 ((x:Int)/2^s) (IntKind.u64.wrap ((y:Int)*2^(64-s)))=((zBf x y s:Nat):Int):=by
 have e:=pow64_split s (by omega);have h1:y*2^(64-s)%B64=(y%2^s)*2^(64-s):=by rw[e,Nat.mul_comm (2^s),Nat.mul_comm y,Nat.mul_mod_mul_left,Nat.mul_comm]
 have c:x/2^s<2^(64-s):=by
  rw[Nat.div_lt_iff_lt_mul (Nat.pow_pos (by decide)),Nat.mul_comm,←e];exact a
 rw[zd3,zd3,←Int.natCast_mul,←Int.natCast_ediv,IntKind.wrap_u64];have b:((y*2^(64-s):Nat):Int)%18446744073709551616=((y*2^(64-s)%B64:Nat):Int):=(Int.natCast_emod _ _).symm;rw[b,u64_or_nat _ _ (Nat.lt_of_le_of_lt (Nat.div_le_self _ _) a) (Nat.mod_lt _ (by decide)),h1,zvd c];unfold zBf;rw[h1]
theorem ShrInv.next{j:Nat}(h:ShrInv xs os s j)(b:Wds xs)(a:s<64)(hj:j<os.length):ShrInv xs (os.set j (zBf (wd xs j) (wd xs (j+1)) s)) s (j+1):=by
 refine⟨h.wds.set _ _ (zBh _ _ _ a (zdM b j)),fun i c=>?_⟩;unfold wd;rw[zcU _ _ _ _ hj];by_cases e:i=j
 ·subst e;rw[if_pos rfl];exact zBg b i s a
 ·rw[if_neg e];exact h.eq i (by omega)
theorem ShrInv.done(h:ShrInv xs os s os.length)(b:Wds xs)(a:xs.length=os.length):nval os=nval xs/2^s:=by
 apply znM h.eq;have:=zc8 xs b;rw[a]at this;exact Nat.lt_of_le_of_lt (Nat.div_le_self _ _) this

theorem shr(A:OA)(m c a s:Nat)(w:World)(z:zas w (A,m,c) a)(f:s<64)(q:wlen a≤LIM) :
  Calls Tryz.prog 158 #[.agg #[(A,m,c)],(s:Int)] w (zc0 w (a/2^s)):=by
 obtain⟨xs,L,D,rfl,G,rfl⟩:=z.words;rw[←G]at q;have g:=hid L;have Y:=hid q;have ah:xs.length+1≤9223372036854775807:=by have:=zaP;omega
 have x:=hid (show xs.length≤16*LIM by have:=zaP;omega);have J:(s:Int)/64=0:=by omega
 have hr:(s:Int)%64=(s:Int):=by omega
 have Z:decide ((s:Int)<0)=false:=by rw[decide_eq_false_iff_not];omega
 clear z G L q;by_cases h0:xs.length=0
 ·have R:xs=[]:=List.length_eq_zero_iff.1 h0;subst R;clear D h0 hr x;go_enter Tryz.func158,Tryz.ntmps158;go_wp2;refine bodyPost_ret (v:=.agg #[()]) (by simp[results,Tryz.results158,go_sem]) rfl ⟨_,_,_,rfl,?_,((zae w _).alloc (by simp) _)⟩;simpa[nval]using zas.zero _
 ·have d2:decide ((xs.length:Int)≤0)=false:=by rw[decide_eq_false_iff_not];omega
  clear D;go_enter Tryz.func158,Tryz.ntmps158;go_wp2_with (at_make;go_must (refine zdz rfl _ _ rfl xs.length _ rfl rfl (by simp) x.out (w.heap.size+1+1) (by simp) ?_))
  intro w1 I;have N:=hid I;clear I;have Q:=hid ((g.out.alloc (.cells #[(A,xs.length,c)] 45)).alloc (.cells #[()] 45));go_wp2;simp only[hr];clear hr J;have J:(s:Int)/64=0:=by omega
  go_loopw [30] (fun i wr=>∃(j:Nat) (os:List Nat),i=.int .i64 j∧j≤xs.length∧ShrInv xs os s j ∧
    OutAt ((w.alloc (.cells #[(A,xs.length,c)] 45)).alloc (.cells #[()] 45)) wr (w.heap.size+1+1) xs.length os)
   (fun i _=>xs.length-(intOf i).toNat)
  case atStart=>exact⟨0,List.replicate xs.length 0,rfl,Nat.zero_le _,⟨Wds.replicate _,fun i hi=>by omega⟩,N.out⟩
  case round =>
   obtain⟨j,os,rfl,hj,k,d⟩:=hrel;have t:=hid k;have u:=hid d;by_cases F:j<xs.length
   ·have y:=hid (d.keep Q.out (by simp));have ab:=d.old (b:=w.heap.size) (o:=0) (v:=.slice A xs.length c) (by omega) (cell_al (zax rfl rfl));have C:=d.cell F;have E:=d.fro j;have r:=d.lt;have S:=zdM g.out.2 j;have rW:=zDd (wd xs j) (wd xs (j+1)) s f S;have ae:(0:Int)≤(j:Int):=Int.natCast_nonneg _;have af:(j:Int)<(xs.length:Int):=by omega
    have q1:=cell_al (ob:=.cells #[(A,xs.length,c)] 45) (cell_al (ob:=.cells #[(A,xs.length,c)] 45) C);have q2:=zd1 (ob:=.cells #[(A,xs.length,c)] 45) (zxk (ob:=.cells #[(A,xs.length,c)] 45) r) (zd1 (ob:=.cells #[(A,xs.length,c)] 45) r E);clear d k C E;have ag:(0:Int)≤(j:Int)+1:=by omega
    have ai:w.heap.size≠w.heap.size+1+1:=by omega
    have s3:(64-(s:Int)).toNat=64-s:=by omega
    go_wp2_with fail
    have U:IntKind.i64.wrap 0=0:=rfl;have V:IntKind.i64.wrap (j:Int)=(j:Int):=IntWalk.i64_in _ (by omega);have W:IntKind.i64.wrap ((j:Int)+1)=(j:Int)+1:=IntWalk.i64_in _ (by omega);have X:IntKind.i64.wrap (64-(s:Int))=64-(s:Int):=IntWalk.i64_in _ (by omega)
    go_region_held3 (fun w'=>w'.cell? ⟨w.heap.size,0,none⟩=some (A,xs.length,c))
     (first | ((try go_split_ands);(try simp only[World.cell?_drew]);(repeat' apply And.intro)<;>(first | assumption | exact cell_al (by assumption) | exact cell_set (by assumption) (by assumption) | exact cell_al (cell_set (by assumption) (by assumption)) | exact cell_al (cell_al (cell_set (by assumption) (by assumption))))) | go_keep)
     (first
      | (go_at_call 145;(with_reducible refine(word (A,xs.length,c) xs _ (by assumption) _ ?_).mono ?_);(first | exact y.out.drew | exact(y.out.alloc _).drew);rintro e w' ⟨rfl,rfl⟩))
    clear U V W X;go_wp2;go_roundw
    case rel=>exact⟨j+1,_,by go_num,by omega,t.out.next g.out.2 f (by rw[u.out.len];exact F),(((u.out.alloc _).alloc _).store j _).drew⟩
    case measure=>simp[intOf];omega
   ·obtain rfl:j=xs.length:=by omega
    have K:nval os=nval xs/2^s:=ShrInv.done (by rw[d.len];exact k) g.out.2 d.len.symm;have f:=d.sw t.out.wds;have B:=d.bel;have P:=hid K;have O:=hid f;have l:=hid B;have r:=d.lt;clear K f B d k;go_wp2_with fail
    refine(trim _ os _ O.out).mono ?_;rintro e T ⟨A2,m2,c2,rfl,hs2,hb2⟩;have hk:=zad hb2 ((l.out.block (w.heap.size+1) (by omega)).trans (zam (by simp)));have hc:T.cell? ⟨w.heap.size+1,0,none⟩=some ():=zac hk 0;have hf:=zag hk 0;have M:=hid hk;have h0:=l.out.size;simp at h0;clear hk;go_wp2;refine bodyPost_ret (v:=.agg #[(A2,m2,c2)]) (by simp[results,Tryz.results158,go_sem,hc]) rfl ?_;rw[P.out]at hs2
    refine⟨_,_,_,rfl,hs2.setCell (p:=⟨w.heap.size+1,0,none⟩) M.out (by decide) _,Below.setCell ?_ (by simp) _⟩;exact bstep (((zae w _).alloc (by simp) _).trans (l.out.mono (by omega))) hb2 (by omega)
