/- Contracts and lemmas: Vec4. Conditions: as each says. -/
import Derived.Test.YtbhfhkcdfmmmiaaGreatDoorRat5Zd
set_option linter.all false
set_option maxHeartbeats 2000000
set_option maxRecDepth 100000
namespace Go.Proofs.YtbhfhkcdfmmmiaaGreatDoor
open Go.RowKit Am
open Lib (hid)
attribute [local go_sem ↓] Go.wp_at_zero Go.wp_at_succ
variable {ps:List (Int × Int)}
abbrev I64 (x:Int):Prop := -9223372036854775808≤x∧x≤9223372036854775807
def zcs (w:World) (A:OA) (ps:List (Int × Int)):Prop:=∀(k:Nat) (x:Int × Int),ps[k]? = some x→I64 x.1∧I64 x.2∧∃b o,A=some ⟨b,o,none⟩∧w.cell? ⟨b,o+k*2,none⟩=some (.int .i64 x.1)∧w.cell? ⟨b,o+k*2+1,none⟩=some (.int .i64 x.2)
theorem zcs.below{w w':World}{A:OA}(h:zcs w A ps)(a:Below w.heap.size w w'):zcs w' A ps:=by
 intro k x g;obtain⟨h1,c,b,o,d,e,f⟩:=h k x g;exact⟨h1,c,b,o,d,zab a e,zab a f⟩
def frs (ps:List (Int × Int)):List Rat:=ps.map fun x=>fr x.1 x.2
theorem zw8{k:Nat}{x:Int × Int}(h:ps[k]? = some x):frs (ps.take (k+1))=frs (ps.take k)++[fr x.1 x.2]:=by
 unfold frs;rw[List.take_add_one,h];simp
namespace Lw
theorem zA3(p d:Int)(c:d≠0)(j:I64 p)(i:I64 d)(w:World):Calls Tryz.prog 48 #[.agg #[.int .i64 p,.int .i64 d]] w (ze4 w (fr p d)):=by
 have m:=hid (zDB (p:=p) c);have B:(d == 0)=false:=by simpa using c
 have g:=hid j;have f:=hid i;have l:=hid c;clear j c i;obtain⟨W,b⟩:∃W,((w.alloc (.cells #[.int .i64 p,.int .i64 d] 114)).alloc (.cells #[false,(),()] 49))=W:=⟨_,rfl⟩
 have o:=hid (show W.heap[w.heap.size]? = some (.cells #[.int .i64 p,.int .i64 d] 114 (0,0))by rw[←b];exact zak (zam (by simp)));have q:=hid (show W.heap[w.heap.size+1]? = some (.cells #[false,(),()] 49 (0,0))by rw[←b];exact zam (by simp));have a:=hid (show Below w.heap.size w W by rw[←b];exact(zae w _).alloc (by simp) _);obtain⟨C,_,D,_⟩:=bc2 o.out;go_enter Tryz.func48,Tryz.ntmps48;go_wp2_with fail
 clear b;with_reducible refine(Rt.of p d l.out g.out.1 g.out.2 f.out.1 f.out.2 _).mono ?_
 rintro e w1 ⟨g3,A3,m3,c3,D3,md3,cd3,rfl,hn,hb⟩;have k:=hid (show(w1.alloc (.cells #[g3,(A3,m3,c3),(D3,md3,cd3)] 49)).heap[w.heap.size+1]? = some (.cells #[false,(),()] 49 (0,0))from zak (zad hb q.out));have n:=hid (show RatS (w1.alloc (.cells #[g3,(A3,m3,c3),(D3,md3,cd3)] 49)) g3 (A3,m3,c3) (D3,md3,cd3) (Rat.divInt p d)from(hn).alloc _)
 have s:=hid (show Below w.heap.size w (w1.alloc (.cells #[g3,(A3,m3,c3),(D3,md3,cd3)] 49))from((a.out.trans ((hb).mono a.out.size))).alloc ((a.out.trans ((hb).mono a.out.size))).size _);have A:=hid (show(w1.alloc (.cells #[g3,(A3,m3,c3),(D3,md3,cd3)] 49)).heap[w1.heap.size]? = some (.cells #[g3,(A3,m3,c3),(D3,md3,cd3)] 49 (0,0))from zam (by simp));obtain⟨x,t,F,_,y,r,E,_,u,z,G,_⟩:=bf3 k.out;obtain⟨H,_,I,_,J,_⟩:=bc3 A.out;clear hn hb;go_wp2
 refine bodyPost_ret (v:=.agg #[g3,(A3,m3,c3),(D3,md3,cd3)]) (by simp[results,Tryz.results48,go_sem,x,t,y,r,u,z]) rfl ?_;rw[m.out];exact⟨g3,A3,m3,c3,D3,md3,cd3,rfl,n.out.set3 k.out (by decide) _ _ _,bsc (bsc (bsc s.out))⟩
theorem one(p d:Int)(a:I64 p)(b:I64 d)(w:World):Calls Tryz.prog 48 #[.agg #[.int .i64 p,.int .i64 d]] w (ze4 w (fr p d)):=by
 by_cases h:d=0
 ·exact zxr p d h a.1 a.2 w
 ·exact zA3 p d h a b w
theorem make(A:OA)(n c:Nat)(ps:List (Int × Int))(w:World)(y:n=ps.length)(u:zcs w A ps)(v:n≤1048576) :
  Calls Tryz.prog 47 #[(A,n,c)] w (zq5 w (frs ps)):=by
 have q:=hid y;have P:=hid u;have Z:n≤9223372036854775807:=by omega
 have I:=hid v;clear y u v;go_enter Tryz.func47,Tryz.ntmps47;go_wp2
 go_loopw [3,4] (fun T i wr=>∃(k:Nat) (f:OA) (p c':Nat),i=.int .i64 k∧T=(f,p,c')∧k≤n∧VecS wr w.heap.size (f,p,c') (frs (ps.take k))∧Below w.heap.size w wr)
  (fun _ i _=>n-(intOf i).toNat)
 case atStart=>exact⟨0,none,0,0,rfl,rfl,Nat.zero_le _,VecS.nil _ _,Below.refl _ _⟩
 case round =>
  obtain⟨k,f,p,c',rfl,rfl,hk,d,j⟩:=hrel;have M:=hid d;have a:=hid j;by_cases R:k<n
  ·obtain⟨x,l⟩:∃x,ps[k]? = some x:=⟨ps[k]'(by rw[←q.out];exact R),List.getElem?_eq_getElem _⟩
   have K:=hid l;obtain⟨V,W⟩:=x;obtain⟨z,t,b,o,rfl,h0,h1⟩:=(P.out.below a.out) k _ l;have J:=hid z;have G:=hid t;have X:(0:Int)≤(k:Int):=Int.natCast_nonneg _;have Y:(k:Int)<(n:Int):=by omega
   clear j d l z t;simp only at h0 h1;go_wp2_with fail
   refine(one V W J.out G.out _).mono ?_;rintro e U ⟨g,A,m,c2,D,md,cd,rfl,hq,hb⟩;have r:=hid (show w.heap.size≤U.heap.size from Nat.le_trans a.out.size hb.size);have E:=hid (a.out.trans (hb.mono a.out.size));have N:=hid (M.out.below hb);have L:=hid hq;clear hb hq
   go_wp2_with (at_builtin;go_loud (refine zev rfl _ _ rfl rfl (N.out.alloc _) rfl (zal _ _ _) (L.out.alloc _) (by unfold frs;rw[List.length_map,List.length_take];have:=I.out;omega) (by have:=r.out;simp;omega) ?_;intro C n3 Q w3 B s S;have O:=hid B;have F:=hid s;clear B s))
   subst S;exact⟨⟨k+1,C,_,Q,by simp,rfl,by omega,by rw[zw8 K.out];exact O.out,(E.out.alloc r.out _).trans F.out⟩,by simp[intOf];omega⟩
  ·obtain rfl:k=n:=by omega
   have H:=hid d;clear j d;go_wp2;go_ret
   refine⟨_,_,_,rfl,?_,a.out⟩;have h:=H.out;rw[q.out,List.take_length]at h;exact h
