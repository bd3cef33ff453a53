/- Contracts and lemmas: Quot6 Quot8 Quot9 Quot7 Quot10 Gcd1 Gcd2 Int1. Conditions: as each says. -/
import Derived.Test.YtbdhheepakmgkaaGreatQuot1Zc
import Derived.Deep.LoopGhost
set_option linter.all false
set_option maxHeartbeats 10000000
set_option maxRecDepth 100000
namespace Go.Proofs.YtbdhheepakmgkaaGreat
open Go.RowKit Am
open Lib (hid)
attribute [local go_sem ↓] Go.wp_at_zero Go.wp_at_succ
namespace Qt

theorem zpY(A B:OA)(m c m' c' a b:Nat)(w:World)(J:zas w (.slice A m c) a)(u:zas w (.slice B m' c') b)(Q:¬wlen b≤1)(x:a<b) :
  Calls Tryz.prog 123 #[.agg #[.slice A m c],.agg #[.slice B m' c']] w (zv4 w (a/b) (a%b) true):=by
 obtain⟨ys,L,_,_,N,hm⟩:=u.words;subst hm;have z:=hid J;have C:=hid u;have E:=hid L;have R:¬(ys.length:Int)≤1:=by omega
 clear J u L N;have W0:∃W,W=(((w.alloc (.cells #[.slice A m c] 43)).alloc (.cells #[.slice B ys.length c'] 43)).alloc (.cells #[.slice none 0 0] 43)).alloc (.cells #[.slice none 0 0] 43):=⟨_,rfl⟩
 obtain⟨W,f⟩:=W0;have y:W.heap.size=w.heap.size+1+1+1+1:=by rw[f];simp
 have o:W.cell? ⟨w.heap.size,0,none⟩=some (.slice A m c):=by rw[f];exact cell_al (cell_al (cell_al (zax rfl rfl)))
 have q:W.cell? ⟨w.heap.size+1,0,none⟩=some (.slice B ys.length c'):=by rw[f];exact cell_al (cell_al (zax (by simp) rfl))
 have r2:W.heap[w.heap.size+1+1]? = some (.cells #[.slice none 0 0] 43 (0,0)):=by rw[f];exact zak (zam (by simp))
 have r3:W.heap[w.heap.size+1+1+1]? = some (.cells #[.slice none 0 0] 43 (0,0)):=by rw[f];exact zam (by simp)
 have j:Below w.heap.size w W:=by rw[f];exact(((zae w _).alloc (by simp) _).alloc (by simp;omega) _).alloc (by simp;omega) _
 have l:=hid (z.out.below j);have s:=hid (C.out.below j);have t:=hid (E.out.below j);have g:=hid r2;have i:=hid r3;have r:=hid j;have k:=hid y;clear r2 r3 j y z C E;go_enter Tryz.func123,Tryz.ntmps123;go_wp2_with fail
 rw[←f];clear f;refine(Nt.len (.slice B ys.length c') ys _ t.out).mono ?_;rintro e w' ⟨rfl,rfl⟩;have o:=cell_al (ob:=.cells #[.slice B ys.length c'] 43) o;have q:=cell_al (ob:=.cells #[.slice B ys.length c'] 43) q;go_wp2_with fail
 refine(Nt.cmp A B m c ys.length c' a b _ (l.out.alloc _) (s.out.alloc _)).mono ?_;rintro e M ⟨rfl,hb2⟩;have d:Below W.heap.size W M:=((zae W _).trans (hb2.mono (by simp)))
 have o:=zab hb2 o;have q:=zab hb2 q;have l:=hid (l.out.below d);have s:=hid (s.out.below d);have t:=hid (t.out.below d);have g:=hid (zad d g.out);have i:=hid (zad d i.out);have r:=hid (r.out.trans (d.mono (by have:=k.out;omega)));have k:=hid (show w.heap.size+4≤M.heap.size by have:=k.out;have:=d.size;omega);clear hb2 d;rw[zeb (show(a:Int)<(b:Int)by omega)];go_wp2_with fail
 have F:=zac g.out 0;have O:=zag g.out 0;have I:=zac i.out 0;have P:=zag i.out 0;simp only[List.getElem?_toArray,List.getElem?_cons_zero]at F I;have K:a/b=0:=Nat.div_eq_of_lt x;have hr:a%b=a:=Nat.mod_eq_of_lt x;have D:=hid (And.intro K hr);clear K hr x;go_region
 all_goals
  go_wp2;refine bodyPost_ret (v:=.tuple #[.agg #[.slice none 0 0],.agg #[.slice A m c],.bool true]) (by simp[results,Tryz.results123,go_sem,F,I]) rfl ?_;have y:=k.out;rw[D.out.1,D.out.2];exact⟨_,_,_,_,_,_,rfl,zas.zero _,(zas.setBox (zas.setBox l.out (Box.of g.out)) (Box.set (Box.of i.out))).drew,(bsc (bsc r.out)).drew⟩
end Qt
def zq4 (w:World) (xs:List Nat) (e:Ending) (w':World):Prop:=∃(A:OA) (m c:Nat),e=.returned (.slice A m c)∧w'.ownsRow w.heap.size 131 1 (.slice A m c) xs.length (wcells xs)∧Wds xs∧Below w.heap.size w w'
theorem zoq{xs:List Nat}(h:Canon xs)(a:0<xs.length):wd xs (xs.length-1)≠0:=by
 have h1:=h (by intro e;subst e;simp at a);rw[List.getLast_eq_getElem]at h1;unfold wd;rw[List.getD_eq_getElem?_getD,List.getElem?_eq_getElem (by omega)];exact h1
theorem zA5{w:World}{H g n b:Nat}{e:TypeId}{size:Nat}{xs:List Value}(h:w.ownsRow H e size (.slice (some ⟨g,0,none⟩) n b) n xs)(i:Nat)(f:i≤n) :
  w.ownsRow g e size (.slice (some ⟨g,0,none⟩) i b) i (xs.take (i*size)):=by
 have j:i*size≤n*size:=Nat.mul_le_mul_right _ f;refine⟨by rw[List.length_take,h.1];omega,?_⟩;rcases h.2 with ⟨a,_⟩ | ⟨g',l,cur,a,m,hg,o,c,d,k⟩
 ·simp at a
 ·simp only[Value.slice.injEq,Option.some.injEq,Addr.mk.injEq,and_true,true_and]at a;obtain⟨rfl,rfl⟩:=a;refine .inr ⟨g,b,cur,rfl,Nat.le_refl _,hg,by omega,c,d,?_⟩;rw[←k,List.take_take,Nat.min_eq_left j]
theorem zxt{w:World}{base:Nat}{e:TypeId}{size:Nat}{v:Value}{n:Nat}{xs:List Value}(h:w.ownsRow base e size v n xs)(c:0<n):∃g cp,v=.slice (some ⟨g,0,none⟩) n cp∧n≤cp∧base≤g:=by
 rcases h.2 with ⟨_,h0⟩ | ⟨g,a,cur,rfl,b,_,hc,_⟩
 ·omega
 ·exact⟨g,a,rfl,hc,b⟩
theorem zfF{B:Nat}{e:TypeId}{k:Nat}{v:Value}{n:Nat}{xs:List Value}{w w':World}(h:w.ownsRow B e k v n xs)(a:Below w.heap.size w w'):w'.ownsRow B e k v n xs:=by
 refine⟨h.1,?_⟩;rcases h.2 with hn | ⟨g,cap,cur,hv,hB,hg,r⟩
 ·exact .inl hn
 ·exact .inr ⟨g,cap,cur,hv,hB,by rw[a.block g (Array.getElem?_eq_some_iff.1 hg).1];exact hg,r⟩
theorem zxv{w:World}{H g n a k:Nat}{ys:List Nat}(h:w.ownsRow H 131 1 (.slice (some ⟨g,0,none⟩) n a) n (wcells ys))(hk:k≤n) :
  w.ownsRow g 131 1 (.slice (some ⟨g,0,none⟩) k a) k (wcells (ys.take k)):=by
 have:=zA5 h k hk;rw[Nat.mul_one,←zg7]at this;exact this
namespace Nt
theorem zC7(s:Value)(xs:List Nat)(w:World)(h:SR w s xs)(y:xs.length≤LIM):Calls Tryz.prog 104 #[s] w (zq4 w xs):=by
 obtain⟨A,c,rfl,D,z,hw,b,a⟩:=h;have l:=hid hw;clear hw;rcases A with _ | ad
 ·obtain⟨rfl,rfl⟩:=b rfl;clear a b;have E:=fun(w:World)=>Lib.run_eql_slice_nil (P:=Tryz.prog) w 41 131 none 0 0 0 0 Tryz.underlying41
  go_enter Tryz.func104,Tryz.ntmps104;go_wp2;go_ret
  exact⟨_,_,_,rfl,World.ownsRow_nil _ _ _ _,Wds.nil,Below.refl _ _⟩
 ·have f:=hid (a ad rfl);clear a b;have E:=fun(w:World)=>Lib.run_eql_slice_nil (P:=Tryz.prog) w 41 131 (some ad) xs.length c 0 0 Tryz.underlying41
  obtain⟨L,C,I,J,K⟩:=info_parts zf7;have o:=World.ownsRow_made (e:=131) (size:=1) (base:=w.heap.size) w #[] 0 (Nat.le_refl _) (by unfold maxLen;omega) rfl
  have m:∀j u,(wcells xs)[j]? = some u→(w.alloc (.cells #[] 131)).cell? (ad.add j)=some u:=fun j u p =>
   (World.cell?_alloc_lt w _ _ (World.block_lt_of_cell? w _ (f.out j u p))).trans (f.out j u p)
  have x:=hid o;have v:=hid m;have g:0+xs.length≤maxLen:=by unfold maxLen;omega
  have i:(0+xs.length)*8≤140737488355328:=by have:=zaP;omega
  have r:=hid g;have t:=hid i;clear o m g i y D z;go_enter Tryz.func104,Tryz.ntmps104;go_wp2_with (at_builtin;refine wpList_append_own _ rfl _ _ 41 rfl w.heap.size 131 L (.int .u64 0) 1 8 Tryz.underlying41 C I J K rfl (by decide) _ _ _ rfl x.out ad xs.length c (wcells xs) rfl (by rw[zdA];omega) v.out (zgf xs) r.out t.out (by simp) ?_;intro N w1 d B M)
  go_ret
  rw[Nat.zero_add,List.nil_append]at d;have F:=SW.of_own d l.out;obtain⟨q,m',c',rfl⟩:=F.slice;exact⟨q,m',c',rfl,d,l.out,(zae w _).trans ((Below.refl _ _).grown B (by simp) (fun k hk=>by cases hk;exact Nat.le_refl _))⟩
theorem wordsF(A:OA)(m c:Nat)(xs:List Nat)(w:World)(h:SW w (.slice A m c) xs)(b:xs.length≤LIM):Calls Tryz.prog 111 #[.agg #[.slice A m c]] w (zq4 w xs):=by
 have a:=(h.alloc (.cells #[.slice A m c] 43)).reads;have d:=hid a;have f:=hid b;clear h a b;go_enter Tryz.func111,Tryz.ntmps111;go_wp2_with fail
 refine(zC7 _ xs _ d.out f.out).mono ?_;rintro e w1 ⟨A1,m1,c1,rfl,hs1,hw1,hb1⟩;go_wp2;go_ret
 exact⟨_,_,_,rfl,zbu hs1 (by simp),hw1,bstep (zae w _) hb1 (by simp)⟩
end Nt
theorem zH5(w:World)(n:Nat)(a:w.heap.size=n)(j:Nat)(u:Value)(h:(wcells [0,0])[j]? = some u):(w.alloc (.cells #[.int .u64 0,.int .u64 0] 131)).cell? ((⟨n,0,none⟩:Addr).add j)=some u:=by
 subst a;rw[show(⟨w.heap.size,0,none⟩:Addr).add j=⟨w.heap.size,j,none⟩by unfold Addr.add;split<;>simp_all];exact(zac (zal w _ _) j).trans (by match j,h with | 0,h=>simpa[wcells]using h | 1,h=>simpa[wcells]using h | j+2,h=>simp[wcells]at h)
theorem zo4{ops:Array Oper}{o:Oper}{a:Act}{w:World}{K:Act→World→Prop}{Q:Exit→Act→World→Prop}{E:Prop}(hg:o.guard=none)
  (s x:Operand) (q:o.op=.call { callee:=.builtin .append,args:=#[s,x],argTypes:=#[41,41] })
  {H n:Nat} {v:Value} {ys xs:List Nat} (i:w.ownsRow H 131 1 v n (wcells ys)) (r:a.eval s=v) {d:Addr} {m c:Nat} (t:a.eval x=.slice (some d) m c) (hm:m=xs.length)
  (p:∀j u,(wcells xs)[j]? = some u→w.cell? (d.add j)=some u) (C:n+xs.length≤2*LIM) (f:H≤w.heap.size)
  (g:∀b w',w'.ownsRow H 131 1 b (n+xs.length) (wcells (ys++xs))→w.grownBy w' v.ownBlock→K (a.put o.dst b) w') :
  if Region.wanted o (yielded ops a.tmps)=true then Oper.wp Tryz.prog o a w K Q else E:=by
 have hw:Region.wanted o (yielded ops a.tmps)=true:=by simp[Region.wanted,hg]
 rw[if_pos hw];subst hm;obtain⟨B,l,y,z,A⟩:=info_parts zf7
 refine wp_append_own w s x 41 q H 131 B (.int .u64 0) 1 8 Tryz.underlying41 l y z A rfl (by decide) v n _ r i d xs.length c (wcells xs) t (by rw[zdA];omega) p (zgf xs)
  (by unfold maxLen;have:=zaP;omega) (by have:=zaP;omega) f fun b w' e k _=>?_
 rw[←zia]at e;exact g b w' e k
end Go.Proofs.YtbdhheepakmgkaaGreat
namespace Go.Proofs.YtbdhheepakmgkaaGreat
open Go.RowKit Am
open Lib (hid)
namespace Qt
theorem zrL{ys:List Nat}{L:Nat}(b:ys.length=L+1):nval ys=nval (ys.take L)+B64^L*wd ys L:=by
 have h:=zaY ys L (by omega);have a:ys.drop L=[wd ys L]:=by
  rw[List.drop_eq_getElem_cons (by omega),List.drop_of_length_le (by omega)];unfold wd;rw[List.getD_eq_getElem?_getD,List.getElem?_eq_getElem (by omega)];rfl
 rw[a]at h;simpa[nval]using h
theorem zqo{ys:List Nat}{L top s:Nat}(hw:Wds ys)(i:ys.length=L+1)(c:wd ys L=top)(h0:0<top)(p:64-blen top=s) :
  nval ys*2^s<B64^(L+1)∧2^63*B64^L≤nval ys*2^s:=by
 have e:=zrL i;rw[c]at e;have o:=zlm ys L hw;have k:top<18446744073709551616:=by rw[←c];exact zdM hw L
 have l:=zmT k;have m:=zhl h0;have h1:top<2^blen top:=zil.1 (Nat.le_refl _);have g:2^(blen top-1)≤top:=znL.1 (by omega);have f:2^blen top*2^s=B64:=by rw[←Nat.pow_add,show blen top+s=64 by omega]
 have d:2^(blen top-1)*2^s=2^63:=by rw[←Nat.pow_add,show blen top-1+s=63 by omega]
 have j:0<2^s:=Nat.pow_pos (by decide);constructor
 ·have b:nval ys<B64^L*2^blen top:=by
   have:B64^L*(top+1)≤B64^L*2^blen top:=Nat.mul_le_mul_left _ h1;rw[Nat.mul_add,Nat.mul_one]at this;omega
  have a:=Nat.mul_lt_mul_of_pos_right b j;rw[Nat.mul_assoc,f]at a;rw[Nat.pow_succ];exact a
 ·have b:B64^L*2^(blen top-1)≤nval ys:=by
   have:B64^L*2^(blen top-1)≤B64^L*top:=Nat.mul_le_mul_left _ g;omega
  have a:=Nat.mul_le_mul_right (2^s) b;rw[Nat.mul_assoc,d]at a;rw[Nat.mul_comm];exact a
theorem zxq{vs:List Nat}{N L:Nat}(hw:Wds vs)(hc:Canon vs)(b:nval vs=N)(h1:N<B64^(L+1))(c:2^63*B64^L≤N):vs.length=L+1∧9223372036854775808≤wd vs L:=by
 have f:=zk7 vs hw hc;have i:0<B64^L:=Nat.pow_pos (by decide);have a:vs.length=L+1:=by
  rw[f,b];have a1:wlen N≤L+1:=zaZ h1;have a2:¬wlen N≤L:=by
   rw[zfP];have:1*B64^L≤2^63*B64^L:=Nat.mul_le_mul_right _ (by decide);omega
  omega
 refine⟨a,?_⟩;have e:=zrL a;have g:=zlm vs L hw;rw[b]at e;rcases Nat.lt_or_ge (wd vs L) 9223372036854775808 with h | h
 ·exfalso
  have d:B64^L*(wd vs L+1)≤B64^L*2^63:=Nat.mul_le_mul_left _ h;rw[Nat.mul_add,Nat.mul_one]at d;rw[Nat.mul_comm (2^63)]at c;omega
 ·exact h
theorem zw3{us vs:List Nat}{a s n L:Nat}(m:us.length=n+1)(k:nval us=a*2^s)(d:a<B64^n)(l:s<64)(j:L+1≤n)(f:2^63*B64^L≤nval vs):nval (us.drop (n-L))<nval vs:=by
 have e:=zaY us (n-L) (by omega);have h1:a*2^s<B64^n*2^s:=Nat.mul_lt_mul_of_pos_right d (Nat.pow_pos (by decide));have b:B64^n=B64^(n-L)*B64^L:=by rw[←Nat.pow_add];congr 1;omega
 have c:B64^(n-L)*nval (us.drop (n-L))<B64^(n-L)*(B64^L*2^s):=by
  rw[←Nat.mul_assoc,←b];omega
 have g:=Nat.lt_of_mul_lt_mul_left c;have i:B64^L*2^s≤B64^L*2^63:=Nat.mul_le_mul_left _ (Nat.pow_le_pow_right (by decide) (by omega));rw[Nat.mul_comm (2^63)]at f;omega
theorem zA6{xs:List Nat}{n:Nat}(h1:n≤xs.length)(b:xs.length≤n+1):nval ((xs++[0,0]).take (n+1))=nval xs∧((xs++[0,0]).take (n+1)).length=n+1:=by
 have a:((xs++[0,0]).take (n+1)).length=n+1:=by rw[List.length_take,List.length_append];simp;omega
 refine⟨?_,a⟩;rw[List.take_append,zc7];rw[List.take_of_length_le (show xs.length≤n+1 by omega)];have:nval (([0,0]:List Nat).take (n+1-xs.length))=0:=by
  rcases(show n+1-xs.length=0∨n+1-xs.length=1 by omega)with h | h<;>rw[h]<;>rfl
 rw[this];simp
theorem unshift{a b s q r:Nat}(h:r+b*2^s*q=a*2^s)(e:r<b*2^s):q=a/b∧r/2^s=a%b:=by
 have f:0<2^s:=Nat.pow_pos (by decide);have k:2^s∣r:=by
  have h1:2^s∣a*2^s:=Nat.dvd_mul_left _ _;have g:2^s∣b*2^s*q:=Nat.dvd_trans (Nat.dvd_mul_left _ _) (Nat.dvd_mul_right _ _);rw[←h]at h1;exact(Nat.dvd_add_left g).1 h1
 obtain⟨t,rfl⟩:=k;have i:2^s*(t+b*q)=2^s*a:=by
  rw[Nat.mul_comm _ a,←h];grind
 have c:=Nat.eq_of_mul_eq_mul_left f i;have d:t<b:=by
  rw[Nat.mul_comm b]at e;exact Nat.lt_of_mul_lt_mul_left e
 rw[Nat.mul_div_cancel_left _ f];have j:0<b:=by omega
 constructor
 ·rw[←c,Nat.add_mul_div_left _ _ j,Nat.div_eq_of_lt d];simp
 ·rw[←c,Nat.add_mul_mod_self_left,Nat.mod_eq_of_lt d]
structure DS (w wr:World) (H G gv n nq cu:Nat) (us qs vs:List Nat) (Av:OA) (cv:Nat):Prop where
  u:wr.ownsRow H 131 1 (.slice (some ⟨H,0,none⟩) (n+1) cu) (n+1) (wcells us)
  q:wr.ownsRow G 131 1 (.slice (some ⟨G,0,none⟩) nq nq) nq (wcells qs)
  v:wr.heap[gv]? = some (.cells #[.slice Av vs.length cv] 43 (0,0))
  sv:SW wr (.slice Av vs.length cv) vs
  r2:wr.heap[w.heap.size+1+1]? = some (.cells #[.slice none 0 0] 43 (0,0))
  r3:wr.heap[w.heap.size+1+1+1]? = some (.cells #[.slice none 0 0] 43 (0,0))
  bel:Below w.heap.size w wr
structure DF (w:World) (H G gv:Nat) (v:Value):Prop where
  hg:H<G
  gh:gv<H
  hw:w.heap.size+4≤gv
  vh:v.ownBlock≠some H
  vg:v.ownBlock≠some G
namespace DS
variable {w wr w':World} {H G gv n nq cu:Nat} {us qs us' qs' vs:List Nat} {Av:OA} {cv:Nat}
theorem step(h:DS w wr H G gv n nq cu us qs vs Av cv)(a:Below wr.heap.size wr w'):DS w w' H G gv n nq cu us qs vs Av cv :=
 ⟨zfF h.u a,zfF h.q a,zad a h.v,h.sv.below a,zad a h.r2,zad a h.r3,h.bel.trans (a.mono h.bel.size)⟩
theorem blk{x:Nat}{o:Obj}(h:wr.heap[x]? = some o)(hg:wr.grownBy w' (some H))(a:x≠H):w'.heap[x]? = some o :=
 (hg.block x (Array.getElem?_eq_some_iff.1 h).1 (fun e=>a (Option.some.inj e))).trans h
theorem turnU(h:DS w wr H G gv n nq cu us qs vs Av cv)(f:DF w H G gv (.slice Av vs.length cv))(hg:wr.grownBy w' (some H))(a:w'.ownsRow H 131 1 (.slice (some ⟨H,0,none⟩) (n+1) cu) (n+1) (wcells us')):DS w w' H G gv n nq cu us' qs vs Av cv :=
 ⟨a,h.q.kept hg (.inr (by have:=f.hg;simp[Value.ownBlock];omega)),blk h.v hg (by have:=f.gh;omega),
  h.sv.keep fun k hk=>hg.block k (h.sv.block hk) (fun e=>f.vh (by rw[hk,e])),
  blk h.r2 hg (by have:=f.gh;have:=f.hw;omega),blk h.r3 hg (by have:=f.gh;have:=f.hw;omega),
  h.bel.grown hg h.bel.size (fun k hk=>by cases hk;have:=f.gh;have:=f.hw;omega)⟩
theorem turnQ(h:DS w wr H G gv n nq cu us qs vs Av cv)(f:DF w H G gv (.slice Av vs.length cv))(hg:wr.grownBy w' (some G))(a:w'.ownsRow G 131 1 (.slice (some ⟨G,0,none⟩) nq nq) nq (wcells qs')):DS w w' H G gv n nq cu us qs' vs Av cv :=
 ⟨h.u.kept hg (.inr (by have:=f.hg;simp[Value.ownBlock];omega)),a,blk h.v hg (by have:=f.gh;have:=f.hg;omega),
  h.sv.keep fun k hk=>hg.block k (h.sv.block hk) (fun e=>f.vg (by rw[hk,e])),
  blk h.r2 hg (by have:=f.gh;have:=f.hg;have:=f.hw;omega),blk h.r3 hg (by have:=f.gh;have:=f.hg;have:=f.hw;omega),
  h.bel.grown hg h.bel.size (fun k hk=>by cases hk;have:=f.gh;have:=f.hg;have:=f.hw;omega)⟩
theorem setQ(h:DS w wr H G gv n nq cu us qs vs Av cv)(f:DF w H G gv (.slice Av vs.length cv))(k x:Nat):DS w (wr.setCell ⟨G,k,none⟩ (.int .u64 (x:Int))) H G gv n nq cu us (qs.set k x) vs Av cv :=
 h.turnQ f (h.q.stored k _).2 (by rw[ziN];exact(h.q.stored k _).1)
theorem cellU(h:DS w wr H G gv n nq cu us qs vs Av cv)(a:us.length=n+1){k:Nat}(hk:k<n+1):wr.cell? ⟨H,k,none⟩=some (.int .u64 ((wd us k:Nat):Int)):=by
 rw[h.u.cellAt k (by omega),zeu (by omega)]
theorem cellQ(h:DS w wr H G gv n nq cu us qs vs Av cv)(a:qs.length=nq){k:Nat}(hk:k<nq):wr.cell? ⟨G,k,none⟩=some (.int .u64 ((wd qs k:Nat):Int)):=by
 rw[h.q.cellAt k (by omega),zeu (by omega)]
theorem cellV(h:DS w wr H G gv n nq cu us qs vs Av cv):wr.cell? ⟨gv,0,none⟩=some (.slice Av vs.length cv):=zac h.v 0
theorem swQ(h:DS w wr H G gv n nq cu us qs vs Av cv)(a:qs.length=nq)(hw:Wds qs):SW wr (.slice (some ⟨G,0,none⟩) nq nq) qs:=by
 subst a;exact SW.of_own h.q hw
theorem swU(h:DS w wr H G gv n nq cu us qs vs Av cv)(b:us.length=n+1)(hw:Wds us):SW wr (.slice (some ⟨H,0,none⟩) (n+1) cu) us:=by
 have a:=h.u;rw[←b]at a ⊢;exact SW.of_own a hw
theorem outC(h:DS w wr H G gv n nq cu us qs vs Av cv)(a:us.length=n+1):OutC wr wr H (n+1) cu us:=⟨h.u,⟨rfl,rfl,rfl,Nat.le_refl _,fun _ _ _=>rfl⟩,a⟩
theorem ofOut(h:DS w wr H G gv n nq cu us qs vs Av cv)(f:DF w H G gv (.slice Av vs.length cv))(o:OutC wr w' H (n+1) cu us'):DS w w' H G gv n nq cu us' qs vs Av cv:=h.turnU f o.bel o.own
end DS
theorem zvl(W:World)(g n c k j:Nat)(K:Int)(b:K=(j:Int))(h1:k≤j)(f:j≤c)(i:k<c) :
  (Instr.slice 41 (.slice (some ⟨g,0,none⟩) n c) (some (.int .i64 (k:Int))) (some (.int .i64 K)) none).run Tryz.prog W=.ok (.slice (some ⟨g,k,none⟩) (j-k) (c-k)) W:=by
 subst b;have e:Tryz.prog.underlying 41=some (.slice (Tryz.prog.elem 41)):=by simp[Program.elem,Tryz.underlying41]
 have d:Tryz.prog.elem 41=131:=by simp[Program.elem,Tryz.underlying41]
 rw[run_slice_lh W 41 _ _ _ e .i64 .i64 _ _ (by omega) (by omega) (by omega),d];have h0:c≠k:=by omega
 by_cases a:k=0
 ·subst a;simp[Result.andThen,sliced,Addr.add,h0]
 ·simp[Result.andThen,sliced,Addr.add,h0,a]
theorem zmb{us os zs:List Nat}{a b:Nat}(h:za8 us os a b)(k:za8 os zs a b):za8 us zs a b:=⟨k.1.trans h.1,fun j hj=>(k.2 j hj).trans (h.2 j hj)⟩
theorem zqw{N k q nq:Nat}{us qs a vs:List Nat}(b:LdInv N (nval vs) us qs (k+1))(d:Window us vs k)(j:Wds vs)(hm:2≤vs.length)(hk:k<qs.length)(f:k≤us.length)(l:9223372036854775808≤wd vs (vs.length-1))
  (hg:GuessIs (wd us (k+vs.length)) (wd us (k+vs.length-1)) (wd us (k+vs.length-2)) (wd vs (vs.length-1)) (wd vs (vs.length-2)) q)
  (i:za8 us a k (k+vs.length+1)) (g:Wds a) (c:nval a+B64^k*(q*nval vs)=nval us+B64^(k+vs.length+1)*0):LdInv N (nval vs) a (qs.set k q) k:=by
 have _:=nq;have e:=d.guess b.wu j hm (by unfold wd at l;omega) hg;rw[Nat.mul_zero,Nat.add_zero]at c;exact b.step hk f i g c e.1 hg.lt
theorem zsu{N k q c:Nat}{us qs a d vs:List Nat}(e:LdInv N (nval vs) us qs (k+1))(b:Window us vs k)(v:Wds vs)(hm:2≤vs.length)(hk:k<qs.length)(f:k≤us.length)(x:9223372036854775808≤wd vs (vs.length-1))
  (hg:GuessIs (wd us (k+vs.length)) (wd us (k+vs.length-1)) (wd us (k+vs.length-2)) (wd vs (vs.length-1)) (wd vs (vs.length-2)) q)
  (i:za8 us a k (k+vs.length+1)) (t:Wds a) (j:nval a+B64^k*(q*nval vs)=nval us+B64^(k+vs.length+1)*1)
  (m:za8 a d k (k+vs.length+1)) (l:Wds d) (p:nval d+B64^(k+vs.length+1)*c=nval a+B64^k*nval vs):LdInv N (nval vs) d ((qs.set k q).set k (q-1)) k∧0<q:=by
 have r:=b.guess e.wu v hm (by unfold wd at x;omega) hg;have s:¬q*nval vs≤nval (us.drop k):=fun h=>by
  have:=zo6 b t i f j (Nat.le_refl 1) h;omega
 have g:0<q:=by
  rcases Nat.eq_zero_or_pos q with h | h
  ·subst h;simp at s
  ·exact h
 have u:=(b.z.lt e.wu).2;have o:=ztX b l (zmb i m) f j p g r.2 u;refine⟨?_,g⟩;rw[List.set_set];exact e.step hk f (zmb i m) l o (by rw[Nat.sub_add_cancel g];omega) (by have:=hg.lt;omega)
end Qt
end Go.Proofs.YtbdhheepakmgkaaGreat
namespace Go.Proofs.YtbdhheepakmgkaaGreat
open Go.RowKit Am
open Lib (hid)
attribute [local go_sem ↓] Go.wp_at_zero Go.wp_at_succ
namespace Qt
theorem zJH(s:Value)(xs:List Nat)(w:World)(a:SW w s xs):Calls Tryz.prog 81 #[.agg #[s]] w fun e w'=>e=.returned (.int .i64 (xs.length:Int))∧Below w.heap.size w w' :=
 (Nt.len s xs w a).mono fun e w' h=>⟨h.1,by rw[h.2];exact zae w _⟩
theorem zBr(s:Value)(xs:List Nat)(k x:Nat)(K:Int)(a:K=(k:Int))(w:World)(b:SW w s xs)(c:wd xs k=x):Calls Tryz.prog 110 #[.agg #[s],.int .i64 K] w fun e w'=>e=.returned (.int .u64 (x:Int))∧Below w.heap.size w w':=by
 subst a;exact(Nt.word s xs k (Int.natCast_nonneg _) w b).mono fun e w' h=>⟨by rw[h.1,←c];rfl,by rw[h.2];exact zae w _⟩
theorem zH4(x s:Nat)(c:x<18446744073709551616)(b:64-blen x=s)(w:World):Calls Tryz.prog 128 #[.int .u64 x] w fun e w'=>e=.returned (.int .i64 (s:Int))∧Below w.heap.size w w' :=
 (Word.lead x c w).mono fun e w' h=>by
  obtain⟨h1,n,a⟩:=h;exact⟨by rw[h1,b],by rw[a];exact zap w n⟩
theorem zvm(W:World)(g n c k:Nat)(K:Int)(b:K=(k:Int))(h1:k≤c)(a:0<c) :
  (Instr.slice 41 (.slice (some ⟨g,0,none⟩) n c) none (some (.int .i64 K)) none).run Tryz.prog W=.ok (.slice (some ⟨g,0,none⟩) k c) W:=by
 subst b;exact Pr.run_upto W g n c k h1 a
theorem ztS{V a W b:World}{f i:Value}{xs:List Nat}{H n m:Nat}(o:Below V.heap.size V a)(s:(wcells xs).length=m)(c:b.ownsRow H 131 1 i (n+2) (wcells (xs++[0,0])))(q:W.grownBy b f.ownBlock)
  (l:W.ownsRow H 131 1 f n (wcells xs)) (d:Below a.heap.size a W) (t:n+([0,0]:List Nat).length=n+2) (e:V.heap.size≤a.heap.size) (j:V.heap.size≤H) :
  ∃g p,i=.slice (some ⟨g,0,none⟩) (n+2) p∧n+2≤p∧V.heap.size≤g∧b.ownsRow H 131 1 (.slice (some ⟨g,0,none⟩) (n+2) p) (n+2) (wcells (xs++[0,0]))∧Below V.heap.size V b:=by
 obtain⟨g,p,rfl,r,hg⟩:=zxt c (by omega);refine⟨g,p,rfl,r,by omega,c,?_⟩;exact(o.trans (d.mono e)).grown q (Nat.le_trans e d.size) (fun k hk=>Nat.le_trans j (l.lt k hk).1)
theorem zDD(u2 u1 u0 v1 v0:Nat)(w:World)(a:u2≤v1)(h1:u1<18446744073709551616)(h0:u0<18446744073709551616)(c:9223372036854775808≤v1)(f:v1<18446744073709551616)(d:v0<18446744073709551616) :
  Calls Tryz.prog 130 #[.int .u64 (u2:Int),.int .u64 (u1:Int),.int .u64 (u0:Int),.int .u64 (v1:Int),.int .u64 (v0:Int)] w fun e w'=>∃q:Nat,e=.returned (.int .u64 (q:Int))∧GuessIs u2 u1 u0 v1 v0 q∧Below w.heap.size w w' :=
 (guess u2 u1 u0 v1 v0 w a h1 h0 c f d).mono fun e w' h=>by
  obtain⟨⟨q,h1,a⟩,n,b⟩:=h;exact⟨q,h1,a,by rw[b];exact zap w n⟩
theorem zr4(A B:OA)(m c m' c' a b:Nat)(w:World)(ha:zas w (.slice A m c) a)(hb:zas w (.slice B m' c') b)(Q:¬wlen b≤1)(hle:b≤a)(ct:wlen a+1≤LIM) :
    Calls Tryz.prog 123 #[.agg #[.slice A m c],.agg #[.slice B m' c']] w (zv4 w (a/b) (a%b) true):=by
  obtain⟨ys,hy,cm,cB,cx,hm⟩:=hb.words;subst hm;have HA:=hid ha;have bF:=hid hb;have HY:=hid hy;have eE:¬(ys.length:Int)≤1:=by omega
  have a5:=hid cx;have dg:=hid cB;clear ha hb hy cx cB;have W0:∃W,W=(((w.alloc (.cells #[.slice A m c] 43)).alloc (.cells #[.slice B ys.length c'] 43)).alloc (.cells #[.slice none 0 0] 43)).alloc (.cells #[.slice none 0 0] 43):=⟨_,rfl⟩
  obtain⟨W,I⟩:=W0;have hz:W.heap.size=w.heap.size+1+1+1+1:=by rw[I];simp
  have g:W.cell? ⟨w.heap.size,0,none⟩=some (.slice A m c):=by rw[I];exact cell_al (cell_al (cell_al (zax rfl rfl)))
  have k1:W.cell? ⟨w.heap.size+1,0,none⟩=some (.slice B ys.length c'):=by rw[I];exact cell_al (cell_al (zax (by simp) rfl))
  have r2:W.heap[w.heap.size+1+1]? = some (.cells #[.slice none 0 0] 43 (0,0)):=by rw[I];exact zak (zam (by simp))
  have r3:W.heap[w.heap.size+1+1+1]? = some (.cells #[.slice none 0 0] 43 (0,0)):=by rw[I];exact zam (by simp)
  have hB:Below w.heap.size w W:=by rw[I];exact(((zae w _).alloc (by simp) _).alloc (by simp;omega) _).alloc (by simp;omega) _
  have E:=hid (HA.out.below hB);have NB:=hid (bF.out.below hB);have F:=hid (HY.out.below hB);have O:=hid r2;have P:=hid r3;have y:=hid hB;have N:=hid hz;clear r2 r3 hB hz HA bF HY;go_enter Tryz.func123,Tryz.ntmps123;go_wp2_with fail
  rw[←I];clear I;refine(Nt.len (.slice B ys.length c') ys _ F.out).mono ?_;rintro e w' ⟨rfl,rfl⟩;have g:=cell_al (ob:=.cells #[.slice B ys.length c'] 43) g;have k1:=cell_al (ob:=.cells #[.slice B ys.length c'] 43) k1;go_wp2_with fail
  refine(Nt.cmp A B m c ys.length c' a b _ (E.out.alloc _) (NB.out.alloc _)).mono ?_;rintro e i ⟨rfl,hb2⟩;have D:Below W.heap.size W i:=((zae W _).trans (hb2.mono (by simp)))
  have g:=zab hb2 g;have k1:=zab hb2 k1;have E:=hid (E.out.below D);have NB:=hid (NB.out.below D);have F:=hid (F.out.below D);have O:=hid (zad D O.out);have P:=hid (zad D P.out);have y:=hid (y.out.trans (D.mono (by have:=N.out;omega)));have N:=hid (show w.heap.size+4≤i.heap.size by have:=N.out;have:=D.size;omega);clear hb2 D
  have d1:¬ze9 (a:Int) (b:Int)<0:=by
    rcases Nat.lt_or_ge b a with h | h
    · rw[zea (by omega)];omega
    · rw[zgN (by omega)];omega
  obtain⟨cv,aE⟩:∃cv,cv=ze9 (a:Int) (b:Int):=⟨_,rfl⟩
  rw[←aE]at d1 ⊢;clear aE;go_wp2_with fail
  obtain⟨top,aH⟩:∃top,wd ys (ys.length-1)=top:=⟨_,rfl⟩
  obtain⟨s,hs⟩:∃s,64-blen top=s:=⟨_,rfl⟩
  have bV:=hid aH;have bS:=hid hs;obtain⟨L,bf⟩:∃L,ys.length=L+1:=⟨ys.length-1,by have:=a5.out;omega⟩
  have U:=hid (show(b*2^s<B64^(L+1)∧2^63*B64^L≤b*2^s)∧1≤L∧L+1≤wlen a by
    have h0:0<top:=by
      rw[←aH];exact Nat.pos_of_ne_zero (zoq cm (by omega))
    have h1:=zqo (L:=L) (top:=top) (s:=s) F.out.2 bf (by rw[←aH,bf];rfl) h0 hs;rw[dg.out]at h1;have h2:=a5.out;have h3:=zco hle;exact⟨h1,by omega,by omega⟩)
  clear bf;have dv:=hid (show top<18446744073709551616 by rw[←aH];exact zdM F.out.2 _);have dX:2≤ys.length:=by have:=a5.out;omega
  have da:=hid dX;have eF:ys.length≤9223372036854775807:=F.out.len_le;have cd:IntKind.i64.wrap ((ys.length:Int)-1)=((ys.length-1:Nat):Int):=by rw[IntWalk.i64_in _ (by omega)];omega
  have c9:=hid cd;have aN:=hid (show wlen a≤LIM by omega);have bM:=hid ct;have dc:=hid hle;clear aH hs cd ct hle Q;have HS:=hid (show ∀w',Below i.heap.size i w'→((w'.cell? ⟨w.heap.size,0,none⟩=some (.slice A m c)∧w'.cell? ⟨w.heap.size+1,0,none⟩=some (.slice B ys.length c'))∧Below i.heap.size i w')from fun w' h=>⟨⟨zab h g,zab h k1⟩,h⟩);go_cut[10] (fun en wr=>en=.int .i64 (s:Int)∧Below i.heap.size i wr)
  case first =>
    go_region_held3 (fun w'=>((w'.cell? ⟨w.heap.size,0,none⟩=some (.slice A m c)∧w'.cell? ⟨w.heap.size+1,0,none⟩=some (.slice B ys.length c'))∧Below i.heap.size i w'))
      ((refine HS.out _ ?_;repeat(first | exact Below.refl _ _ | exact(by assumption:_∧Below _ _ _).2 | with_reducible refine bdrew ?_ | with_reducible refine al2 ?_ _ | with_reducible refine set2 ?_ (by omega) | with_reducible refine zc1 ?_ (by assumption))))
      (first
        | (go_at_call 81;(with_reducible refine(zJH (.slice B ys.length c') ys _ (F.out.below (by assumption:_∧Below _ _ _).2)).mono ?_);rintro e u1 ⟨rfl,Q⟩;have ee:=Q.size;(try simp at ee);have eG:i.heap.size≤u1.heap.size:=(by omega))
        | (go_at_call 110;(with_reducible refine(zBr (.slice B ys.length c') ys (ys.length-1) top (IntKind.i64.wrap ((ys.length:Int)-1)) c9.out _ (F.out.below (by assumption:_∧Below _ _ _).2) bV.out).mono ?_);rintro e u2 ⟨rfl,hb2⟩;have ef:=hb2.size;(try simp at ef);have eH:i.heap.size≤u2.heap.size:=(by omega))
        | (go_at_call 128;(with_reducible refine(zH4 top s dv.out bS.out _).mono ?_);rintro e u3 ⟨rfl,hb3⟩;have eg:=hb3.size;(try simp at eg);have eI:i.heap.size≤u3.heap.size:=(by omega)))
    all_goals
      go_wp2;go_meet
      case rel=>exact⟨rfl,(by assumption:_∧Below i.heap.size i _).2⟩
  case rest =>
    obtain⟨rfl,f⟩:=hcut;rename World=>w3
    have g:=zab f g;have k1:=zab f k1;have E:=hid (E.out.below f);have NB:=hid (NB.out.below f);have F:=hid (F.out.below f);have O:=hid (zad f O.out);have P:=hid (zad f P.out);have y:=hid (y.out.trans (f.mono (by have:=N.out;omega)));have N:=hid (show w.heap.size+4≤w3.heap.size by have:=N.out;have:=f.size;omega);clear f HS
    have cI:s<64:=by
      rw[←bS.out]
      have h0:0<top:=by
        rw[←bV.out];exact Nat.pos_of_ne_zero (zoq cm (by have:=da.out;omega))
      have:=zhl h0;omega
    have av:=hid cI;have cw:wlen b≤LIM:=Nat.le_trans (zco dc.out) aN.out;have db:=hid cw;clear cI cw;go_wp2_with fail
    refine(Nt.shl B ys.length c' b s _ NB.out av.out db.out).mono ?_;rintro e S ⟨Av,mv,cv',rfl,hv4,hb4⟩;have cU:=cell_al (ob:=.cells #[.slice Av mv cv'] 43) (zab hb4 g);have bX:=hid (hv4.alloc (.cells #[.slice Av mv cv'] 43));have D:Below w3.heap.size w3 (S.alloc (.cells #[.slice Av mv cv'] 43)):=hb4.trans (zae S _ |>.mono hb4.size);have b3:=hid (E.out.below D);have b2:=hid hb4.size;have HV:=hid D;clear hv4 hb4 D k1;go_wp2_with fail
    refine(Nt.shl A m c a s _ b3.out av.out aN.out).mono ?_;rintro e x ⟨As,ms,cs,rfl,hs5,hb5⟩;have aC:Below w3.heap.size w3 (x.alloc (.cells #[.slice As ms cs] 43)):=(HV.out.trans (hb5.mono HV.out.size)).trans ((zae x _).mono (Nat.le_trans HV.out.size hb5.size));have aX:Below (S.alloc (.cells #[.slice Av mv cv'] 43)).heap.size (S.alloc (.cells #[.slice Av mv cv'] 43)) (x.alloc (.cells #[.slice As ms cs] 43)):=hb5.trans ((zae x _).mono hb5.size)
    have g:(x.alloc (.cells #[.slice As ms cs] 43)).cell? ⟨w.heap.size,0,none⟩=some (.slice A m c):=zab aX cU;have kv:(x.alloc (.cells #[.slice As ms cs] 43)).heap[S.heap.size]? = some (.cells #[.slice Av mv cv'] 43 (0,0)):=zad aX (zam rfl);have ks:(x.alloc (.cells #[.slice As ms cs] 43)).cell? ⟨x.heap.size,0,none⟩=some (.slice As ms cs):=zax rfl rfl;have E:=hid (E.out.below aC);have NV:=hid (bX.out.below aX);have NS:=hid (hs5.alloc (.cells #[.slice As ms cs] 43));have O:=hid (zad aC O.out)
    have P:=hid (zad aC P.out);have y:=hid (y.out.trans (aC.mono (by have:=N.out;omega)));have dC:=hid (show w.heap.size+4≤S.heap.size∧S.heap.size<x.heap.size∧(x.alloc (.cells #[.slice As ms cs] 43)).heap.size=x.heap.size+1 by have:=N.out;have:=b2.out;have:=hb5.size;simp at this;simp;omega);have KV:=hid kv;clear cU aC aX hb5 hs5 kv bX b3 HV NB F N b2;go_wp2_with fail
    generalize hq1:S.heap.size=gv at *
    generalize hq2:x.heap.size=gs at *
    generalize x.alloc (.cells #[.slice As ms cs] 43)=V at *
    clear hq1 hq2
    have bY:=hid (show ∀k,(Value.slice Av mv cv').ownBlock=some k→k<V.heap.size by
      obtain⟨zs,hz,_⟩:=NV.out;exact fun k hk=>hz.block hk)
    obtain⟨d,cJ,d0,d8,aD,d5⟩:=E.out.words;subst d5;obtain⟨xs,cK,d3,cA,bo,d7⟩:=NS.out.words;subst d7
    have cR:xs.length≤d.length+1:=by
      rw[bo,aD];have h1:=zdy a (2^s);have h2:wlen (2^s)≤1:=zdl (Nat.lt_of_le_of_lt (Nat.pow_le_pow_right (show 0<2 by decide) (Nat.le_of_lt_succ av.out)) (by decide));omega
    have cS:d.length≤xs.length:=by
      rw[bo,aD];exact zco (Nat.le_mul_of_pos_right a (Nat.pow_pos (by decide)))
    have ck:d.length≤LIM:=by rw[aD];exact aN.out
    have SA:=hid cK;have SN:=hid cJ;have aJ:=hid aD;have df:=hid cA;have dB:=hid cR;have ba:=hid cS;have a0:=hid ck;have SL:=hid (show xs.length≤LIM by have:=bM.out;omega);have dY:d.length≤9223372036854775800:=by have:=zaP;omega
    have cY:=hid (show IntKind.i64.wrap ((d.length:Int)+1)=((d.length+1:Nat):Int)by rw[IntWalk.i64_in _ (by omega)];omega);clear cJ d0 d8 aD cK d3 cA bo cR cS ck;have ej:V.drew.cell? ⟨w.heap.size,0,none⟩=some (.slice A d.length c):=g;have ei:(V.alloc (.cells #[.int .u64 0,.int .u64 0] 131)).drew.cell? ⟨w.heap.size,0,none⟩=some (.slice A d.length c):=cell_al g;have el:V.drew.cell? ⟨gs,0,none⟩=some (.slice As xs.length cs):=ks
    have ek:(V.alloc (.cells #[.int .u64 0,.int .u64 0] 131)).drew.cell? ⟨gs,0,none⟩=some (.slice As xs.length cs):=cell_al ks;have bg:Below V.heap.size V (V.alloc (.cells #[.int .u64 0,.int .u64 0] 131)).drew:=(zae V _).drew;go_cut[15] (fun eo wr=>∃(H cu:Nat),eo=.slice (some ⟨H,0,none⟩) (d.length+1) cu∧d.length+1≤cu∧V.heap.size≤H∧wr.ownsRow H 131 1 (.slice (some ⟨H,0,none⟩) (d.length+1) cu) (d.length+1) (wcells ((xs++[0,0]).take (d.length+1)))∧Wds xs∧Below V.heap.size V wr)
    case first =>
      go_region_law (first
        | (refine znT (by rfl) 111 Tryz.func111 (by kernel_rfl) (by rfl) _ _ (by rfl) _ (by rfl) (Nt.wordsF As xs.length cs xs _ (by first | exact SA.out.drew | exact (SA.out.alloc _).drew) SL.out) ?_;rintro e w6 ⟨A6,m6,c6,rfl,hO6,hW6,hb6⟩;refine ⟨_,rfl,?_⟩;
           have au:=hid hO6;have bC:=hid hb6.size;have cZ:=hid (show V.heap.size≤w6.heap.size from(by first | exact Nat.le_trans (by simp) hb6.size));have dx:=hid hW6;have bB:=hid (show Below V.heap.size V w6 by first | exact(zap V 1).trans (hb6.mono (by first | exact Nat.le_refl _ | (simp;done))) | exact bg.trans (hb6.mono bg.size));
           have eh:=zab bB.out g;have eL:=cell_al (ob:=.cells #[.int .u64 0,.int .u64 0] 131) eh;try(have L6:∀j u,(wcells [0,0])[j]? = some u→w6.cell? ((⟨V.heap.size,0,none⟩:Addr).add j)=some u:=fun j u hu=>(Below.cell hb6 (World.block_lt_of_cell? (V.alloc (.cells #[.int .u64 0,.int .u64 0] 131)) _ (zH5 V V.heap.size rfl j u hu))).trans (zH5 V V.heap.size rfl j u hu)))
        | ((refine zo4 (by rfl) _ _ (by rfl) (by first | exact au.out.alloc _ | exact au.out) (by rfl) (by rfl) (xs:=[0,0]) (by rfl) (by first | exact zH5 _ _ (by rfl) | exact L6) (by have:=SL.out;have:=zaP;simp;omega) (by first | exact bC.out | exact Nat.le_trans bC.out (by simp)) ?_;rintro v7 w7 cg cp;have hq:=ztS bB.out au.out.1 cg cp (by first | exact au.out.alloc _ | exact au.out) (by first | exact zae _ _ | exact Below.refl _ _) (by rfl) cZ.out (by first | exact Nat.le_refl _ | simp);obtain⟨H7,p7,rfl,eC,ca,aA,aY⟩:=hq;have a6:=hid aA;have bD:=hid aY;have c8:=hid ca;have eM:=zab aY g;have dJ:=hid (SN.out.below aY);have cC:d.length+1≤p7:=(by have:=ba.out;omega);have eD:=fun W=>zvm W H7 (xs.length+2) p7 (d.length+1) (IntKind.i64.wrap ((d.length:Int)+1)) cY.out cC (by omega);clear cg cp aA aY ca))
        | (refine znT (by rfl) 81 Tryz.func81 (by kernel_rfl) (by rfl) _ _ (by rfl) _ (by rfl) (zJH (.slice A d.length c) d _ dJ.out) ?_;rintro e w8 ⟨rfl,hb8⟩;refine⟨_,rfl,?_⟩;have bE:=hid hb8;clear hb8))
      all_goals
        go_wp2;go_meet
        case rel=>exact⟨H7,p7,rfl,cC,c8.out,zxv (zfF a6.out bE.out) (by have:=ba.out;omega),dx.out,bD.out.trans (bE.out.mono bD.out.size)⟩
    case rest =>
      obtain⟨H,cu,rfl,d2,cb,hO,ch,f⟩:=hcut;rename World=>Y
      have KV:=hid (zad f KV.out);have g:=zab f g;have E:=hid (SN.out.below f);have NV:=hid (NV.out.below f);have O:=hid (zad f O.out);have P:=hid (zad f P.out);have y:=hid (y.out.trans (f.mono y.out.size));have HO:=hid hO;have dA:=hid ch;have ds:=hid (show V.heap.size≤H∧V.heap.size≤Y.heap.size by exact⟨cb,f.size⟩);clear f hO ch cb SA SN NS ej ei el ek ks bg;obtain⟨vs,bl,aE,bi,ec,d6⟩:=NV.out.words;subst d6;have cz:=zxq bl.2 aE bi U.out.1.1 U.out.1.2;have SV:=hid bl;have aj:=hid cz
      have aS:=hid bi;have bj:=zA6 ba.out dB.out;rw[df.out]at bj;have cP:Wds ((xs++[0,0]).take (d.length+1)):=(dA.out.append (by intro z hz;simp at hz;subst hz;decide)).take _;generalize (xs++[0,0]).take (d.length+1)=us at *
      have aP:=hid bj;have dz:=hid cP;clear bl aE bi ec cz bj cP;have em:=zac KV.out 0;simp only[List.getElem?_toArray,List.getElem?_cons_zero]at em;go_wp2_with fail
      refine(Nt.len (.slice Av vs.length cv') vs _ SV.out).mono ?_;rintro e w' ⟨rfl,rfl⟩;have g:=cell_al (ob:=.cells #[.slice Av vs.length cv'] 43) g;go_wp2_with fail
      refine(Nt.len (.slice A d.length c) d _ (E.out.alloc _)).mono ?_;rintro e w' ⟨rfl,rfl⟩;have ed:vs.length≤d.length:=by have:=aj.out.1;have:=U.out.2.2;have:=aJ.out;omega
      obtain⟨nq,d9⟩:∃nq,nq=d.length-vs.length+1:=⟨_,rfl⟩
      have ar:=hid (show nq+vs.length=d.length+1 by omega);have ce:wrap64 (wrap64 ((d.length:Int)-(vs.length:Int))+1)=(nq:Int):=by unfold wrap64;omega
      have dd:=hid ce;have ea:nq≤16*LIM:=by have:=a0.out;have:=zaP;omega
      have aO:=hid ea;clear d9 ce ed;have ci:Below Y.heap.size Y ((Y.alloc (.cells #[.slice Av vs.length cv'] 43)).alloc (.cells #[.slice A d.length c] 43)):=(zae Y _).alloc (by simp) _;generalize (Y.alloc (.cells #[.slice Av vs.length cv'] 43)).alloc (.cells #[.slice A d.length c] 43)=Z at *
      have X:=hid ci;clear ci g;go_wp2_with (at_make;go_must (refine zdz rfl _ _ rfl nq _ rfl rfl dd.out aO.out Z.heap.size rfl ?_))
      intro w1 ho
      have hD:DS w w1 H Z.heap.size gv d.length nq cu us (List.replicate nq 0) vs Av cv' :=
        ⟨zfF (zfF HO.out X.out) ho.bel,ho.own,zad ho.bel (zad X.out KV.out),(SV.out.below X.out).below ho.bel,zad ho.bel (zad X.out O.out),zad ho.bel (zad X.out P.out),(y.out.trans (X.out.mono y.out.size)).trans (ho.bel.mono (Nat.le_trans y.out.size X.out.size))⟩
      have hF:DF w H Z.heap.size gv (.slice Av vs.length cv'):=by
        have h1:=ds.out;have h2:=(HO.out.lt H rfl).2;have h3:=X.out.size;have h4:=dC.out;exact⟨by omega,by omega,by omega,fun e=>by have:=bY.out _ e;omega,fun e=>by have:=bY.out _ e;omega⟩
      have HD:=hid hD;have T:=hid hF;clear ho hD hF;generalize Z.heap.size=G at *
      have hI:LdInv (a*2^s) (nval vs) us (List.replicate nq 0) nq:=by
        refine⟨dz.out,Wds.replicate nq,by rw[zbK,aP.out.1];simp,?_,fun j _=>by rw[List.getD_eq_getElem?_getD,List.getElem?_replicate];split<;>rfl⟩;have h1:=zw3 (us:=us) (vs:=vs) (a:=a) (s:=s) (n:=d.length) (L:=L) aP.out.2 aP.out.1 (by rw[aJ.out];exact zfD a) av.out (by have:=U.out.2.2;have:=aJ.out;omega) (by rw[aS.out];exact U.out.1.2);rw[show nq=d.length-L by have:=ar.out;have:=aj.out.1;omega];exact h1
      have l:=hid hI;clear hI;go_wp2_with fail
      go_loopw [18] (fun kv wr=>∃(k:Nat) (us' qs:List Nat),kv=.int .i64 ((k:Int)-1)∧k≤nq∧us'.length=d.length+1∧qs.length=nq∧LdInv (a*2^s) (nval vs) us' qs k∧DS w wr H G gv d.length nq cu us' qs vs Av cv')
        (fun kv _=>(intOf kv+1).toNat)
      case atStart =>
        have h1:wrap64 ((nq:Int)-1)=(nq:Int)-1:=by have:=aO.out;have:=zaP;unfold wrap64;omega
        exact⟨nq,us,List.replicate nq 0,by rw[h1],Nat.le_refl _,aP.out.2,List.length_replicate,l.out,HD.out⟩
      case round =>
        obtain⟨k,us',qs,rfl,hk,cO,cG,hI,hD⟩:=hrel;have l:=hid hI;have HD:=hid hD;have M:=hid cO;have K:=hid cG;clear hI hD cO cG;rcases k with _ | k
        · have cn:=unshift (a:=a) (b:=b) (s:=s) (q:=nval qs) (r:=nval us') (by have:=l.out.eq;rw[aS.out]at this;exact this) (by have:=l.out.lt;rw[List.drop_zero,aS.out]at this;exact this);have bJ:=hid cn
          have cH:wlen (nval us')≤LIM:=by
            have h1:=l.out.lt;rw[List.drop_zero,aS.out]at h1;have h2:wlen (nval us')≤L+1:=zaZ (Nat.lt_trans h1 U.out.1.1);have:=U.out.2.2;have:=aN.out;omega
          have dr:=hid cH;clear cn cH;go_wp2_with fail
          refine(Nt.of _ qs _ (HD.out.swQ K.out l.out.wq).reads (by rw[K.out];have:=ar.out;have:=aj.out.1;have:=a0.out;omega)).mono ?_;rintro e i ⟨A2,m2,c2,rfl,hq2,hb2⟩;have aK:=hid (HD.out.step hb2);have dl:=hid hq2;clear hq2 hb2;go_wp2_with fail
          refine(Nt.of _ us' _ (aK.out.swU M.out l.out.wu).reads (by rw[M.out,aJ.out];exact bM.out)).mono ?_;rintro e w3 ⟨A3,m3,c3,rfl,hr3,hb3⟩;have aq:=hid (aK.out.step hb3);have dm:=hid (dl.out.below hb3);have dp:=hid hr3;clear hr3 hb3;go_wp2_with fail
          refine(Nt.shr A3 m3 c3 (nval us') s _ dp.out av.out dr.out).mono ?_;rintro e S ⟨A4,m4,c4,rfl,aG,hb4⟩;have C:=hid (aq.out.step hb4);have dn:=hid (dm.out.below hb4);have dq:=hid aG;clear aG hb4;have g3:=zac C.out.r2 0;have g4:=zag C.out.r2 0;have g5:=zac C.out.r3 0;have g6:=zag C.out.r3 0;simp only[List.getElem?_toArray,List.getElem?_cons_zero]at g3 g5;go_wp2
          refine bodyPost_ret (v:=.tuple #[.agg #[.slice A2 m2 c2],.agg #[.slice A4 m4 c4],.bool true]) (by simp[results,Tryz.results123,go_sem,g3,g5]) rfl ?_;have cE:=dn.out;have aG:=dq.out;rw[bJ.out.1]at cE;rw[bJ.out.2]at aG;exact⟨_,_,_,_,_,_,rfl,zas.setBox (zas.setBox cE (Box.of C.out.r2)) (Box.set (Box.of C.out.r3)),zas.setBox (zas.setBox aG (Box.of C.out.r2)) (Box.set (Box.of C.out.r3)),bsc (bsc C.out.bel)⟩
        · have I:=zvB l.out.wu SV.out.2 l.out.lt (by have:=M.out;have:=ar.out;omega);have aU:=hid I;have HK:=hid (show k+vs.length≤d.length by have:=ar.out;omega);have e1:((k+1:Nat):Int)-1=(k:Int):=by omega
          simp only[e1];clear I e1;go_wp2_with fail
          have bn:2≤vs.length:=by have:=aj.out.1;have:=U.out.2.1;omega
          have dZ:=dY;obtain⟨o,bm⟩:∃t,t=k+vs.length:=⟨_,rfl⟩
          obtain⟨t1,cM⟩:∃t,t=k+vs.length-1:=⟨_,rfl⟩
          obtain⟨t0,cL⟩:∃t,t=k+vs.length-2:=⟨_,rfl⟩
          obtain⟨R,aZ⟩:∃t,t=vs.length-1:=⟨_,rfl⟩
          obtain⟨m0,cy⟩:∃t,t=vs.length-2:=⟨_,rfl⟩
          have d4:=HK.out;have q2:o<d.length+1:=by omega
          have q1:t1<d.length+1:=by omega
          have q0:t0<d.length+1:=by omega
          have qk:k<nq:=by have:=ar.out;omega
          have W2:=hid (show IntKind.i64.wrap ((k:Int)+(vs.length:Int))=(o:Int)by rw[IntWalk.i64_in _ (by omega)];omega);have W1:=hid (show IntKind.i64.wrap ((o:Int)-1)=(t1:Int)by rw[IntWalk.i64_in _ (by omega)];omega);have W0:=hid (show IntKind.i64.wrap ((o:Int)-2)=(t0:Int)by rw[IntWalk.i64_in _ (by omega)];omega);have X1:=hid (show IntKind.i64.wrap ((vs.length:Int)-1)=(R:Int)by rw[IntWalk.i64_in _ (by omega)];omega)
          have X0:=hid (show IntKind.i64.wrap ((vs.length:Int)-2)=(m0:Int)by rw[IntWalk.i64_in _ (by omega)];omega);have co:wd us' o≤wd vs R:=by rw[bm,aZ];exact aU.out.top l.out.wu SV.out.2 bn
          have cr:9223372036854775808≤wd vs R:=by rw[aZ,aj.out.1];exact aj.out.2
          have c7:=hid co;have bK:=hid cr;have bT:=hid bm;have du:=hid cM;have dt:=hid cL;have bN:=hid aZ;have de:=hid cy;have bW:=hid bn;have J:=hid qk;clear co cr;have D0:DS w wr.drew H G gv d.length nq cu us' qs vs Av cv':=HD.out.step (zap wr 1);have bG:=hid D0;have dS:=D0.cellU M.out q2;have dR:=D0.cellU M.out q1;have dQ:=D0.cellU M.out q0;have cV:=D0.cellV;have i2:(o:Int)<(d.length:Int)+1:=by omega
          have i1:(t1:Int)<(d.length:Int)+1:=by omega
          have i0:(t0:Int)<(d.length:Int)+1:=by omega
          have ik:(k:Int)<(nq:Int):=by omega
          have dI:=hid q2;have et:=hid q1;have es:=hid q0;clear D0 bm cM cL aZ cy bn d4 q2 q1 q0 qk dZ;have eQ:=W2.out;have eP:=W1.out;have eO:=W0.out;have eU:=X1.out;have eT:=X0.out;have dF:=hid (zdM l.out.wu t1);have dE:=hid (zdM l.out.wu t0);have dH:=hid (zdM SV.out.2 R);have dG:=hid (zdM SV.out.2 m0);go_cut[] (fun er=>∃(q:Nat),GuessIs (wd us' o) (wd us' t1) (wd us' t0) (wd vs R) (wd vs m0) q∧DS w er H G gv d.length nq cu us' (qs.set k q) vs Av cv')
          case first =>
            have eA:H<G:=T.out.hg;have eB:gv<G:=Nat.lt_trans T.out.gh T.out.hg
            go_region_held3 (fun w'=>w'.cell? ⟨H,o,none⟩=some (.int .u64 ((wd us' o:Nat):Int))∧w'.cell? ⟨H,t1,none⟩=some (.int .u64 ((wd us' t1:Nat):Int))∧w'.cell? ⟨H,t0,none⟩=some (.int .u64 ((wd us' t0:Nat):Int))∧w'.cell? ⟨gv,0,none⟩=some (.slice Av vs.length cv'))
              (((try go_split_ands);(try simp only[World.cell?_drew]);(repeat' apply And.intro)<;>(first | assumption | exact zab Q (by assumption) | exact zab hb2 (by assumption) | exact zab hb3 (by assumption) | exact cell_set (by omega) (by assumption))))
              (first
                | (go_at_call 110;(with_reducible refine(zBr (.slice Av vs.length cv') vs R (wd vs R) (R:Int) rfl _ bG.out.sv rfl).mono ?_);rintro e y1 ⟨rfl,Q⟩;have bH:=hid (bG.out.step Q))
                | (go_at_call 110;(with_reducible refine(zBr (.slice Av vs.length cv') vs m0 (wd vs m0) (m0:Int) rfl _ bH.out.sv rfl).mono ?_);rintro e y2 ⟨rfl,hb2⟩;have aK:=hid (bH.out.step hb2))
                | (go_at_call 130;(with_reducible refine(zDD (wd us' o) (wd us' t1) (wd us' t0) (wd vs R) (wd vs m0) _ c7.out dF.out dE.out bK.out dH.out dG.out).mono ?_);rintro e y3 ⟨q,rfl,ak,hb3⟩;have aq:=hid (aK.out.step hb3);have aM:=hid ak;have cQ:=aq.out.cellQ K.out J.out;have fQ:=aq.out.q.frozenAt k;clear ak))
            all_goals
              go_wp2;go_meet
              case rel=>exact⟨q,aM.out,aq.out.setQ T.out k q⟩
          case rest =>
            obtain⟨q,ak,b9⟩:=hcut;rename World=>y4
            have cq:GuessIs (wd us' (k+vs.length)) (wd us' (k+vs.length-1)) (wd us' (k+vs.length-2)) (wd vs (vs.length-1)) (wd vs (vs.length-2)) q:=by
              have:=ak;rw[bT.out,du.out,dt.out,bN.out,de.out]at this;exact this
            have aM:=hid cq;have cF:q<18446744073709551616:=ak.lt;have bP:=hid cF;have D4:DS w y4.drew H G gv d.length nq cu us' (qs.set k q) vs Av cv':=b9.step (zap y4 1);have C:=hid D4
            have dO:y4.drew.cell? ⟨G,k,none⟩=some (.int .u64 (q:Int)):=by
              have h:=D4.cellQ (by rw[List.length_set];exact K.out) J.out;have e:wd (qs.set k q) k=q:=by unfold wd;rw[zcU _ _ _ _ (by rw[K.out];exact J.out),if_pos rfl]
              rw[e]at h;exact h
            have dU:=D4.cellV;have di:=hid (D4.outC M.out);have ao:=hid (show k+vs.length+1≤cu by have:=HK.out;omega);have b0:=hid (show IntKind.i64.wrap ((o:Int)+1)=((k+vs.length+1:Nat):Int)by have:=dI.out;have:=bT.out;rw[IntWalk.i64_in _ (by omega)];omega);have aF:=fun W=>zvl W H (d.length+1) cu k (k+vs.length+1) (IntKind.i64.wrap ((o:Int)+1)) b0.out (by omega) ao.out (by have:=ao.out;omega)
            rw[show k+vs.length+1-k=vs.length+1 by omega]at aF;have a8:=hid (show k+vs.length<d.length+1 by have:=HK.out;omega);have dw:=hid (show vs.length+1≤cu-k by have:=ao.out;omega);have bU:=hid (show d.length+1≤2*LIM by have:=a0.out;have:=zaP;omega);have bZ:=hid T.out.vh;clear ak cq b9 D4 cF dS dR dQ cV d2;go_wp2_with fail
            go_region_with (go_at_call 131;(with_reducible refine(take y4.drew y4.drew H (d.length+1) cu k (cu-k) q us' vs Av cv' di.out C.out.sv bZ.out l.out.wu bP.out a8.out dw.out bU.out).mono ?_);rintro e y5 ⟨bb,us2,rfl,hbb,hO5,hw5,hs5,he5⟩;have dh:=hid hO5;have aT:=hid hw5;have aQ:=hid hs5;have a1:=hid he5;clear hO5 hw5 hs5 he5)
            all_goals
              have D5:=C.out.ofOut T.out dh.out;have aL:=hid D5;have a9:=hid (show us2.length=d.length+1 by rw[aQ.out.1];exact M.out);have a3:=hid (show k<qs.length by rw[K.out];exact J.out);have a4:=hid (show k≤us'.length by rw[M.out];have:=a8.out;omega);have bL:=hid (show 9223372036854775808≤wd vs (vs.length-1)by rw[←bN.out];exact bK.out);clear D5 dO dU aF;rcases(show bb=0∨bb=1 by omega)with rfl | rfl
              · have cl:((0:Nat) == 1)=false:=rfl;simp only[cl];clear cl;have hR:=zqw (nq:=nq) l.out aU.out SV.out.2 bW.out a3.out a4.out bL.out aM.out aQ.out aT.out a1.out;have HR:=hid hR;clear hR;go_wp2_with fail
                have h1:wrap64 ((k:Int)-1)=(k:Int)-1:=by have:=J.out;have:=aO.out;have:=zaP;unfold wrap64;omega
                exact⟨⟨k,us2,qs.set k q,by rw[h1],by have:=J.out;omega,a9.out,by rw[List.length_set];exact K.out,HR.out,aL.out⟩,by rw[h1];simp[intOf]⟩
              · have Q:((1:Nat) == 1)=true:=rfl;simp only[Q];clear Q
                have cD:0<q:=by
                  rcases Nat.eq_zero_or_pos q with h | h
                  · subst h;have:=zo6 aU.out aT.out aQ.out a4.out a1.out (Nat.le_refl 1) (by simp);omega
                  · exact h
                have dk:=hid (zdN cD bP.out)
                have dP:y5.cell? ⟨G,k,none⟩=some (.int .u64 (q:Int)):=by
                  have h:=aL.out.cellQ (by rw[List.length_set];exact K.out) J.out;have e:wd (qs.set k q) k=q:=by unfold wd;rw[zcU _ _ _ _ a3.out,if_pos rfl]
                  rw[e]at h;exact h
                have dV:=aL.out.q.frozenAt k;clear cD;go_wp2_with fail
                rw[dk.out];have D6:=aL.out.setQ T.out k (q-1);have c0:=hid D6;clear D6 dP dV;generalize y5.setCell ⟨G,k,none⟩ (.int .u64 ((q-1:Nat):Int))=y6 at *
                have D7:DS w y6.drew H G gv d.length nq cu us2 ((qs.set k q).set k (q-1)) vs Av cv':=c0.out.step (zap y6 1);have bI:=hid D7;have ev:=D7.cellV;have dj:=hid (D7.outC a9.out);have aF:=fun W=>zvl W H (d.length+1) cu k (k+vs.length+1) (IntKind.i64.wrap ((o:Int)+1)) b0.out (by omega) ao.out (by have:=ao.out;omega)
                rw[show k+vs.length+1-k=vs.length+1 by omega]at aF;clear D7;go_region_with (go_at_call 132;(with_reducible refine(back y6.drew y6.drew H (d.length+1) cu k (cu-k) us2 vs Av cv' dj.out bI.out.sv bZ.out aT.out a8.out bU.out).mono ?_);rintro e y7 ⟨us3,rfl,aA,hw8,hs8,cc,he8⟩;have a6:=hid aA;have dy:=hid hw8;have bR:=hid hs8;have c5:=hid he8;clear aA hw8 hs8 he8)
                all_goals
                  have D8:=bI.out.ofOut T.out a6.out;have c1:=hid D8;have hR:=zsu (c:=cc) l.out aU.out SV.out.2 bW.out a3.out a4.out bL.out aM.out aQ.out aT.out a1.out bR.out dy.out c5.out;have HR:=hid hR;clear hR D8 aF;go_wp2_with fail
                  have h1:wrap64 ((k:Int)-1)=(k:Int)-1:=by have:=J.out;have:=aO.out;have:=zaP;unfold wrap64;omega
                  exact⟨⟨k,us3,(qs.set k q).set k (q-1),by rw[h1],by have:=J.out;omega,by rw[bR.out.1];exact a9.out,by rw[List.length_set,List.length_set];exact K.out,HR.out.1,c1.out⟩,by rw[h1];simp[intOf]⟩
end Qt
namespace Qt
theorem zyj(A B:OA)(m c m' c' a b:Nat)(w:World)(d:zas w (.slice A m c) a)(e:zas w (.slice B m' c') b)(f:0<b)(g:wlen a+1≤LIM) :
  Calls Tryz.prog 123 #[.agg #[.slice A m c],.agg #[.slice B m' c']] w (zv4 w (a/b) (a%b) true):=by
 by_cases h1:wlen b≤1
 ·exact zr5 A B m c m' c' a b w d e f h1 (by omega)
 ·rcases Nat.lt_or_ge a b with h | h
  ·exact zpY A B m c m' c' a b w d e h1 h
  ·exact zr4 A B m c m' c' a b w d e h1 h g
theorem div(A B:OA)(m c m' c' a b:Nat)(w:World)(i:zas w (.slice A m c) a)(d:zas w (.slice B m' c') b)(j:0<b)(k:wlen a+1≤LIM) :
  Calls Tryz.prog 107 #[.agg #[.slice A m c],.agg #[.slice B m' c']] w (zjL w (a/b) true):=by
 have o:=hid i;have q:=hid d;have u:=hid k;have r:=hid j;clear i d k j;go_enter Tryz.func107,Tryz.ntmps107;go_wp2_with fail
 refine(zyj A B m c m' c' a b _ (((o.out.alloc _).alloc _).alloc _) (((q.out.alloc _).alloc _).alloc _) r.out u.out).mono ?_;rintro e l ⟨A1,m1,c1,A2,m2,c2,rfl,hq,hr,hb2⟩;have z:=hid ((hb2.block (w.heap.size+1+1) (by simp)).trans (zam (cs:=#[.slice none 0 0]) (t:=43) (by simp)));have y:=hb2.size;simp at y;have x:=hid hq;have s:=hid hb2;clear hq hr hb2
 have f:=hid (show((l.alloc (.cells #[.slice A1 m1 c1] 43)).alloc (.cells #[.slice A2 m2 c2] 43)).heap[w.heap.size+1+1]? = some (.cells #[.slice none 0 0] 43 (0,0))from zak (zak z.out));have g:=zac f.out 0;have C:=zag f.out 0;simp only[List.getElem?_toArray,List.getElem?_cons_zero]at g;go_wp2;refine bodyPost_ret (v:=.tuple #[.agg #[.slice A1 m1 c1],.bool true]) (by simp[results,Tryz.results107,go_sem,g]) rfl ?_
 have d:Below w.heap.size w ((l.alloc (.cells #[.slice A1 m1 c1] 43)).alloc (.cells #[.slice A2 m2 c2] 43)):=(((((zae w _).alloc (by simp) _).alloc (by simp;omega) _).trans (s.out.mono (by simp;omega))).alloc (by omega) _).alloc (by simp;omega) _;exact⟨_,_,_,rfl,zas.setBox ((x.out.alloc _).alloc _) (Box.of f.out),bsc d⟩
theorem mod(A B:OA)(m c m' c' a b:Nat)(w:World)(i:zas w (.slice A m c) a)(d:zas w (.slice B m' c') b)(j:0<b)(k:wlen a+1≤LIM) :
  Calls Tryz.prog 122 #[.agg #[.slice A m c],.agg #[.slice B m' c']] w (zjL w (a%b) true):=by
 have o:=hid i;have q:=hid d;have u:=hid k;have r:=hid j;clear i d k j;go_enter Tryz.func122,Tryz.ntmps122;go_wp2_with fail
 refine(zyj A B m c m' c' a b _ (((o.out.alloc _).alloc _).alloc _) (((q.out.alloc _).alloc _).alloc _) r.out u.out).mono ?_;rintro e l ⟨A1,m1,c1,A2,m2,c2,rfl,hq,hr,hb2⟩;have z:=hid ((hb2.block (w.heap.size+1+1) (by simp)).trans (zam (cs:=#[.slice none 0 0]) (t:=43) (by simp)));have y:=hb2.size;simp at y;have x:=hid hr;have s:=hid hb2;clear hq hr hb2
 have f:=hid (show((l.alloc (.cells #[.slice A1 m1 c1] 43)).alloc (.cells #[.slice A2 m2 c2] 43)).heap[w.heap.size+1+1]? = some (.cells #[.slice none 0 0] 43 (0,0))from zak (zak z.out));have g:=zac f.out 0;have C:=zag f.out 0;simp only[List.getElem?_toArray,List.getElem?_cons_zero]at g;go_wp2;refine bodyPost_ret (v:=.tuple #[.agg #[.slice A2 m2 c2],.bool true]) (by simp[results,Tryz.results122,go_sem,g]) rfl ?_
 have d:Below w.heap.size w ((l.alloc (.cells #[.slice A1 m1 c1] 43)).alloc (.cells #[.slice A2 m2 c2] 43)):=(((((zae w _).alloc (by simp) _).alloc (by simp;omega) _).trans (s.out.mono (by simp;omega))).alloc (by omega) _).alloc (by simp;omega) _;exact⟨_,_,_,rfl,zas.setBox ((x.out.alloc _).alloc _) (Box.of f.out),bsc d⟩
end Qt
namespace Gc
structure GS (w wr:World) (A:OA) (m c:Nat) (B:OA) (m' c' x y:Nat):Prop where
  ka:wr.heap[w.heap.size]? = some (.cells #[.slice A m c] 43 (0,0))
  kb:wr.heap[w.heap.size+1]? = some (.cells #[.slice B m' c'] 43 (0,0))
  kr:wr.heap[w.heap.size+1+1]? = some (.cells #[.slice none 0 0] 43 (0,0))
  x:zas wr (.slice A m c) x
  y:zas wr (.slice B m' c') y
  bel:Below w.heap.size w wr
theorem GS.step{w wr w':World}{A:OA}{m c:Nat}{B:OA}{m' c' x y:Nat}(h:GS w wr A m c B m' c' x y)(a:Below wr.heap.size wr w'):GS w w' A m c B m' c' x y :=
 ⟨zad a h.ka,zad a h.kb,zad a h.kr,h.x.below a,h.y.below a,h.bel.trans (a.mono h.bel.size)⟩
theorem GS.turn{w wr:World}{A:OA}{m c:Nat}{B:OA}{m' c' x y:Nat}(h:GS w wr A m c B m' c' x y){C:OA}{b a z:Nat}(f:zas wr (.slice C b a) z) :
  GS w ((wr.setCell ⟨w.heap.size,0,none⟩ (.slice B m' c')).setCell ⟨w.heap.size+1,0,none⟩ (.slice C b a)) B m' c' C b a y z:=by
 have d:Box wr w.heap.size:=Box.of h.ka;have e:Box (wr.setCell ⟨w.heap.size,0,none⟩ (.slice B m' c')) (w.heap.size+1):=Box.set (Box.of h.kb);have k2:=(Below.heap_setCell wr ⟨w.heap.size,0,none⟩ (.slice B m' c') (w.heap.size+1) (by simp)).trans h.kb;refine⟨?_,one_setCell k2,?_,zas.setBox (zas.setBox h.y d) e,zas.setBox (zas.setBox f d) e,bsc (Below.setCell h.bel (p:=⟨w.heap.size,0,none⟩) (Nat.le_refl _) _)⟩
 ·exact(Below.heap_setCell _ ⟨w.heap.size+1,0,none⟩ _ w.heap.size (by simp)).trans (one_setCell h.ka)
 ·exact(Below.heap_setCell _ ⟨w.heap.size+1,0,none⟩ _ (w.heap.size+1+1) (by simp)).trans ((Below.heap_setCell _ ⟨w.heap.size,0,none⟩ _ (w.heap.size+1+1) (by simp;omega)).trans h.kr)
theorem of(A B:OA)(m c m' c' a b:Nat)(w:World)(E:zas w (.slice A m c) a)(F:zas w (.slice B m' c') b)(J:wlen a+1≤LIM)(K:wlen b+1≤LIM) :
  Calls Tryz.prog 106 #[.agg #[.slice A m c],.agg #[.slice B m' c']] w (zc0 w (Nat.gcd a b)):=by
 have T:=hid E;have U:=hid F;have V:=hid J;have W:=hid K;clear E F J K;go_enter Tryz.func106,Tryz.ntmps106;go_wp2_with fail
 have HS:=hid (show GS w (((w.alloc (.cells #[.slice A m c] 43)).alloc (.cells #[.slice B m' c'] 43)).alloc (.cells #[.slice none 0 0] 43)) A m c B m' c' a b from
  ⟨zak (zak (zam rfl)),zak (zam (by simp)),zam (by simp),((T.out.alloc _).alloc _).alloc _,((U.out.alloc _).alloc _).alloc _,((zae w _).alloc (by simp) _).alloc (by simp;omega) _⟩)
 generalize ((w.alloc (.cells #[.slice A m c] 43)).alloc (.cells #[.slice B m' c'] 43)).alloc (.cells #[.slice none 0 0] 43)=w1 at *
 go_loopg [] b (fun gg wr=>∃(k:OA) (r q:Nat) (f:OA) (i g x y:Nat),GS w wr k r q f i g x y∧Nat.gcd x y=Nat.gcd a b∧wlen x+1≤LIM∧wlen y+1≤LIM∧y≤gg)
 case atStart=>exact⟨A,m,c,B,m',c',a,b,HS.out,rfl,V.out,W.out,Nat.le_refl _⟩
 case round =>
  obtain⟨k,r,q,f,i,g,x,y,u,I,L,M,O⟩:=hrel;have s:=hid u;have C:=hid I;have X:=hid L;have D:=hid M;have ab:=hid O;have kb:=zac u.kb 0;simp only[List.getElem?_toArray,List.getElem?_cons_zero]at kb;clear u I L M O;rcases Nat.eq_zero_or_pos y with hy0 | hy0
  ·have P:isZ y=true:=by rw[hy0];rfl
   have o:=hid hy0;have d:=hid (s.out.step (zae wr (.cells #[.slice f i g] 43)));have t:=zac d.out.ka 0;have S:=zac d.out.kr 0;have ai:=zag d.out.kr 0;simp only[List.getElem?_toArray,List.getElem?_cons_zero]at t S;clear hy0;go_wp2_with (go_at_call 80;(with_reducible refine(Nt.zero (.slice f i g) y _ s.out.y).mono ?_);rintro e w2 ⟨rfl,rfl⟩)
   refine bodyPost_ret (v:=.agg #[.slice k r q]) (by simp[results,Tryz.results106,go_sem,S]) rfl ?_;have N:=d.out.x;have hg:=C.out;rw[o.out,Nat.gcd_zero_right]at hg;rw[hg]at N;exact⟨_,_,_,rfl,zas.setBox N (Box.of d.out.kr),bsc d.out.bel⟩
  ·have P:isZ y=false:=zk4 hy0;have o:=hid hy0;have d:=hid (s.out.step (zae wr (.cells #[.slice f i g] 43)));have t:=zac d.out.ka 0;have Q:=zac d.out.kb 0;simp only[List.getElem?_toArray,List.getElem?_cons_zero]at t Q;clear hy0
   go_wp2_with (first
    | (go_at_call 80;(with_reducible refine(Nt.zero (.slice f i g) y _ s.out.y).mono ?_);rintro e w2 ⟨rfl,rfl⟩)
    | (go_at_call 122;(with_reducible refine(Qt.mod k f r q i g x y _ d.out.x d.out.y o.out X.out).mono ?_);rintro e j ⟨A3,m3,c3,rfl,hr,hb3⟩;have z:=hid (d.out.step hb3);have Y:=hid hr;clear hr hb3))
   have l:Hid (GS w (j.alloc (.cells #[.slice A3 m3 c3] 43)).drew k r q f i g x y):=hid (z.out.step ((zae j _).drew));have Z:Hid (zas (j.alloc (.cells #[.slice A3 m3 c3] 43)).drew (.slice A3 m3 c3) (x%y)):=hid ((Y.out.alloc _).drew);have al:(j.alloc (.cells #[.slice A3 m3 c3] 43)).drew.cell? ⟨j.heap.size,0,none⟩=some (.slice A3 m3 c3):=zax rfl rfl;have ag:w.heap.size+3≤j.heap.size:=by
    have:=(Array.getElem?_eq_some_iff.1 z.out.kr).1;omega
   have ad:=zac l.out.ka 0;have aj:=zag l.out.ka 0;have R:=zac l.out.kb 0;have ae:=zag l.out.kb 0;simp only[List.getElem?_toArray,List.getElem?_cons_zero]at ad R;have am:((j.alloc (.cells #[.slice A3 m3 c3] 43)).setCell ⟨w.heap.size,0,none⟩ (.slice f i g)).drew.cell? ⟨j.heap.size,0,none⟩=some (.slice A3 m3 c3):=cell_set (by omega) (zax rfl rfl);have ah:(j.alloc (.cells #[.slice A3 m3 c3] 43)).cell? ⟨w.heap.size+1,0,none⟩=some (.slice f i g):=R
   have ak:(j.alloc (.cells #[.slice A3 m3 c3] 43)).frozen? ⟨w.heap.size+1,0,none⟩=false:=ae;clear t Q kb P;go_region
   all_goals
    go_wp2;go_roundg (x%y)
    case measure=>have:=Nat.mod_lt x o.out;have:=ab.out;omega
    case rel =>
     refine⟨f,i,g,A3,m3,c3,y,x%y,l.out.turn Z.out,?_,D.out,?_,Nat.le_refl _⟩
     ·rw[←C.out,Nat.gcd_comm y,←Nat.gcd_rec,Nat.gcd_comm]
     ·have:=zco (Nat.le_of_lt (Nat.mod_lt x o.out));have:=D.out;omega
end Gc
namespace Gc
structure RS (w wr:World) (A:OA) (m c:Nat) (B:OA) (m' c' x y:Nat):Prop where
  ka:wr.heap[w.heap.size]? = some (.cells #[.slice A m c] 43 (0,0))
  kb:wr.heap[w.heap.size+1]? = some (.cells #[.slice B m' c'] 43 (0,0))
  k2:wr.heap[w.heap.size+1+1]? = some (.cells #[.slice none 0 0] 43 (0,0))
  k3:wr.heap[w.heap.size+1+1+1]? = some (.cells #[.slice none 0 0] 43 (0,0))
  x:zas wr (.slice A m c) x
  y:zas wr (.slice B m' c') y
  bel:Below w.heap.size w wr
theorem RS.step{w wr w':World}{A:OA}{m c:Nat}{B:OA}{m' c' x y:Nat}(h:RS w wr A m c B m' c' x y)(a:Below wr.heap.size wr w'):RS w w' A m c B m' c' x y :=
 ⟨zad a h.ka,zad a h.kb,zad a h.k2,zad a h.k3,h.x.below a,h.y.below a,h.bel.trans (a.mono h.bel.size)⟩
theorem zx8{w:World}{b:Nat}{v:Value}(h:w.heap[b]? = some (.cells #[v] 43 (0,0))):w.cell? ⟨b,0,none⟩=some v:=zac h 0
theorem reduce(A B:OA)(m c m' c' a b:Nat)(w:World)(D:zas w (.slice A m c) a)(E:zas w (.slice B m' c') b)(F:0<b)(I:wlen a+1≤LIM)(J:wlen b+1≤LIM) :
  Calls Tryz.prog 76 #[.agg #[.slice A m c],.agg #[.slice B m' c']] w (zpo w (a/Nat.gcd a b) (b/Nat.gcd a b)):=by
 have M:=hid D;have N:=hid E;have q:=hid I;have r:=hid J;have j:=hid (Nat.gcd_pos_of_pos_right a F);clear D E I J F;go_enter Tryz.func76,Tryz.ntmps76;go_wp2_with fail
 have k:=hid (show RS w ((((w.alloc (.cells #[.slice A m c] 43)).alloc (.cells #[.slice B m' c'] 43)).alloc (.cells #[.slice none 0 0] 43)).alloc (.cells #[.slice none 0 0] 43)) A m c B m' c' a b from
  ⟨zak (zak (zak (zam rfl))),zak (zak (zam (by simp))),zak (zam (by simp)),zam (by simp),(((M.out.alloc _).alloc _).alloc _).alloc _,(((N.out.alloc _).alloc _).alloc _).alloc _,(((zae w _).alloc (by simp) _).alloc (by simp;omega) _).alloc (by simp;omega) _⟩)
 generalize (((w.alloc (.cells #[.slice A m c] 43)).alloc (.cells #[.slice B m' c'] 43)).alloc (.cells #[.slice none 0 0] 43)).alloc (.cells #[.slice none 0 0] 43)=W0 at *
 refine(of A B m c m' c' a b _ k.out.x k.out.y q.out r.out).mono ?_;rintro e w1 ⟨G1,mg,cg,rfl,hg1,hb1⟩;have P:=hid ((k.out.step hb1).step (zae w1 (.cells #[.slice G1 mg cg] 43)));have s:=hid (hg1.alloc (.cells #[.slice G1 mg cg] 43));have o:(w1.alloc (.cells #[.slice G1 mg cg] 43)).heap[w1.heap.size]? = some (.cells #[.slice G1 mg cg] 43 (0,0)):=zam rfl;have T:=hid o;have ad:=zx8 o;clear hg1 hb1 o;have K:isZ (Nat.gcd a b)=false:=zk4 j.out;go_wp2_with fail
 generalize w1.alloc (.cells #[.slice G1 mg cg] 43)=W1 at *
 generalize w1.heap.size=gb at *
 refine(Nt.zero (.slice G1 mg cg) (Nat.gcd a b) _ s.out).mono ?_;rintro e w' ⟨rfl,rfl⟩;rw[K];have l:=hid (P.out.step (zae W1 (.cells #[.slice G1 mg cg] 43)));have t:=hid (s.out.alloc (.cells #[.slice G1 mg cg] 43));have u:=hid (zad (zae W1 (.cells #[.slice G1 mg cg] 43)) T.out);have ab:=zx8 u.out;have Z:=zx8 l.out.ka;clear ad K;generalize W1.alloc (.cells #[.slice G1 mg cg] 43)=W2 at *
 go_wp2_with fail
 refine(Qt.div A G1 m c mg cg a (Nat.gcd a b) _ l.out.x t.out j.out q.out).mono ?_;rintro e g ⟨X3,m3,c3,rfl,hx3,hb3⟩;have i:=hid ((l.out.step hb3).step (zae g (.cells #[.slice X3 m3 c3] 43)));have O:=hid ((t.out.below hb3).alloc (.cells #[.slice X3 m3 c3] 43));have Q:=hid (hx3.alloc (.cells #[.slice X3 m3 c3] 43));have U:=hid (zad (zae g (.cells #[.slice X3 m3 c3] 43)) (zad hb3 u.out))
 have L:(g.alloc (.cells #[.slice X3 m3 c3] 43)).heap[g.heap.size]? = some (.cells #[.slice X3 m3 c3] 43 (0,0)):=zam rfl;have V:=hid L;have ac:=zx8 U.out;have aa:=zx8 i.out.kb;clear ab Z L hx3 hb3;go_wp2_with fail
 generalize g.alloc (.cells #[.slice X3 m3 c3] 43)=W3 at *
 generalize g.heap.size=xb at *
 refine(Qt.div B G1 m' c' mg cg b (Nat.gcd a b) _ i.out.y O.out j.out r.out).mono ?_;rintro e d ⟨Y4,m4,c4,rfl,hy4,hb4⟩;have f:Hid (RS w (d.alloc (.cells #[.slice Y4 m4 c4] 43)).drew A m c B m' c' a b):=hid ((i.out.step hb4).step ((zae d _).drew));have R:Hid (zas (d.alloc (.cells #[.slice Y4 m4 c4] 43)).drew (.slice X3 m3 c3) (a/Nat.gcd a b)):=hid (((Q.out.below hb4).alloc _).drew)
 have S:Hid (zas (d.alloc (.cells #[.slice Y4 m4 c4] 43)).drew (.slice Y4 m4 c4) (b/Nat.gcd a b)):=hid ((hy4.alloc _).drew);have ah:(d.alloc (.cells #[.slice Y4 m4 c4] 43)).drew.cell? ⟨xb,0,none⟩=some (.slice X3 m3 c3):=cell_al (zx8 (zad hb4 V.out));have ai:(d.alloc (.cells #[.slice Y4 m4 c4] 43)).drew.cell? ⟨d.heap.size,0,none⟩=some (.slice Y4 m4 c4):=zax rfl rfl;have ag:w.heap.size+4≤d.heap.size:=by have:=(Array.getElem?_eq_some_iff.1 (zad hb4 i.out.k3)).1;omega
 have z:=zx8 f.out.k2;have g4:=zag f.out.k2 0;have C:=zx8 f.out.k3;have Y:=zag f.out.k3 0;have W:(d.alloc (.cells #[.slice Y4 m4 c4] 43)).cell? ⟨w.heap.size+1+1,0,none⟩=some (.slice none 0 0):=z;have X:(d.alloc (.cells #[.slice Y4 m4 c4] 43)).cell? ⟨w.heap.size+1+1+1,0,none⟩=some (.slice none 0 0):=C;have af:(d.alloc (.cells #[.slice Y4 m4 c4] 43)).frozen? ⟨w.heap.size+1+1+1,0,none⟩=false:=Y
 have aj:((d.alloc (.cells #[.slice Y4 m4 c4] 43)).setCell ⟨w.heap.size+1+1,0,none⟩ (.slice X3 m3 c3)).drew.cell? ⟨d.heap.size,0,none⟩=some (.slice Y4 m4 c4):=cell_set (by omega) (zax rfl rfl);clear ac aa hy4 hb4;go_wp2_with fail
 go_region
 all_goals
  go_wp2;refine bodyPost_ret (v:=.tuple #[.agg #[.slice X3 m3 c3],.agg #[.slice Y4 m4 c4]]) (by simp[results,Tryz.results76,go_sem,z,C,W,X]) rfl ?_;exact⟨_,_,_,_,_,_,rfl,zas.setBox (zas.setBox R.out (Box.of f.out.k2)) (Box.set (Box.of f.out.k3)),zas.setBox (zas.setBox S.out (Box.of f.out.k2)) (Box.set (Box.of f.out.k3)),bsc (bsc f.out.bel)⟩
end Gc
structure IntS (w:World) (g:Bool) (s:Value) (z:Int):Prop where
  abs:zas w s z.natAbs
  neg:g=decide (z<0)
theorem IntS.below{w w':World}{g:Bool}{s:Value}{z:Int}(h:IntS w g s z)(a:Below w.heap.size w w'):IntS w' g s z:=⟨h.abs.below a,h.neg⟩
theorem IntS.alloc{w:World}{g:Bool}{s:Value}{z:Int}(h:IntS w g s z)(o:Obj):IntS (w.alloc o) g s z:=⟨h.abs.alloc o,h.neg⟩
def zfg (w:World) (z:Int) (e:Ending) (w':World):Prop:=∃(g:Bool) (A:OA) (m c:Nat),e=.returned (.agg #[.bool g,.slice A m c])∧IntS w' g (.slice A m c) z∧Below w.heap.size w w'
namespace It
theorem zBc(g:Bool)(n:Nat):(g && !isZ n)=decide ((if g then -(n:Int)else (n:Int))<0):=by
 unfold isZ;cases g
 ·simp
 ·by_cases h:n=0
  ·simp[h]
  ·simp[h];omega
theorem zlh{w:World}{b:Nat}{u v:Value}{s:Value}{n:Nat}(h:zas w s n)(a:w.heap[b]? = some (.cells #[.bool false,.slice none 0 0] 45 (0,0))):zas ((w.setCell ⟨b,0,none⟩ u).setCell ⟨b,1,none⟩ v) s n:=by
 have h1:=heap_setCell_same w b 0 _ 45 u a;exact(h.setCell (p:=⟨b,0,none⟩) a (by decide) u).setCell (p:=⟨b,1,none⟩) h1 (by decide) v
theorem new(g:Bool)(A:OA)(m c n:Nat)(w:World)(k:zas w (.slice A m c) n) :
  Calls Tryz.prog 42 #[.bool g,.agg #[.slice A m c]] w (zfg w (if g then -(n:Int)else (n:Int))):=by
 have q:=hid (zBc g n);obtain⟨W,a⟩:∃W,W=(w.alloc (.cells #[.slice A m c] 43)).alloc (.cells #[.bool false,.slice none 0 0] 45):=⟨_,rfl⟩
 have i:=hid (show zas W (.slice A m c) n by rw[a];exact(k.alloc _).alloc _);have o:Hid (zas W.drew (.slice A m c) n):=hid i.out.drew;have j:=hid (show W.heap[w.heap.size]? = some (.cells #[.slice A m c] 43 (0,0))by rw[a];exact zak (zam rfl));have b:=hid (show W.heap[w.heap.size+1]? = some (.cells #[.bool false,.slice none 0 0] 45 (0,0))by rw[a];exact zam (by simp));have f:=hid (show Below w.heap.size w W by rw[a];exact(zae w _).alloc (by simp) _)
 have x:W.drew.cell? ⟨w.heap.size,0,none⟩=some (.slice A m c):=zac j.out 0;have y:(W.alloc (.cells #[.slice A m c] 43)).drew.cell? ⟨w.heap.size,0,none⟩=some (.slice A m c):=cell_al (zac j.out 0);have d:Hid ((W.alloc (.cells #[.slice A m c] 43)).heap[w.heap.size+1]? = some (.cells #[.bool false,.slice none 0 0] 45 (0,0))):=hid (zak b.out);have t:W.cell? ⟨w.heap.size+1,0,none⟩=some (.bool false):=zac b.out 0;have u:W.cell? ⟨w.heap.size+1,1,none⟩=some (.slice none 0 0):=zac b.out 1
 have C:=zag b.out 0;have D:=zag b.out 1;have r:(W.alloc (.cells #[.slice A m c] 43)).cell? ⟨w.heap.size+1,0,none⟩=some (.bool false):=zac d.out 0;have s:(W.alloc (.cells #[.slice A m c] 43)).cell? ⟨w.heap.size+1,1,none⟩=some (.slice none 0 0):=zac d.out 1;have z:=zag d.out 0;have B:=zag d.out 1;clear k;have l:Hid (zas (W.alloc (.cells #[.slice A m c] 43)) (.slice A m c) n):=hid (i.out.alloc _);cases g
 case false =>
  go_enter Tryz.func42,Tryz.ntmps42;go_wp2_with fail
  rw[←a];clear a;go_region_with fail
  all_goals
   go_wp2;refine bodyPost_ret (v:=.agg #[.bool false,.slice A m c]) (by simp[results,Tryz.results42,go_sem,t,u]) rfl ?_;exact⟨false,A,m,c,rfl,⟨by simpa using(zlh i.out b.out).drew,by simp⟩,(bsc (bsc f.out)).drew⟩
 case true =>
  go_enter Tryz.func42,Tryz.ntmps42;go_wp2_with fail
  rw[←a];clear a;go_region_with (go_at_call 80;(with_reducible refine(Nt.zero (.slice A m c) n _ o.out).mono ?_);rintro e E ⟨rfl,rfl⟩)
  all_goals
   go_wp2;refine bodyPost_ret (v:=.agg #[.bool (!isZ n),.slice A m c]) (by simp[results,Tryz.results42,go_sem,r,s]) rfl ?_;exact⟨!isZ n,A,m,c,rfl,⟨by simpa using(zlh l.out d.out).drew,by have:=q.out;simpa using this⟩,(bsc (bsc (f.out.alloc f.out.size _))).drew⟩
