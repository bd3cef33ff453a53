/- Contracts and lemmas: Mat3 Vec8. Conditions: as each says. -/
import Derived.Test.YtbdhheepakmgkaaGreatMat2Zc
set_option linter.all false
set_option maxHeartbeats 4000000
set_option maxRecDepth 100000
namespace Go.Proofs.YtbdhheepakmgkaaGreat
open Go.RowKit Am
open Lib (hid)
attribute [local go_sem ↓] Go.wp_at_zero Go.wp_at_succ
def zsR (w:World) (n:Nat) (L:List (List Rat)) (c:Nat) (e:Ending) (w':World):Prop:=∃(A:OA) (cR:Nat) (l:List Value),e=.returned (.tuple #[.agg #[.slice A n cR,.int .i64 (c:Int)],.bool true])∧VecsL w' w.heap.size (.slice A n cR) l L∧zbG l∧Below w.heap.size w w'
def zx4 (w:World) (n:Nat) (L:List (List Rat)) (c:Nat) (e:Ending) (w':World):Prop:=∃(A:OA) (cR:Nat) (l:List Value),e=.returned (.agg #[.slice A n cR,.int .i64 (c:Int)])∧VecsL w' w.heap.size (.slice A n cR) l L∧zbG l∧Below w.heap.size w w'
def noughts (n c:Nat):List (List Rat):=List.replicate n (List.replicate c 0)
namespace Mt
theorem new(n c:Nat)(P:n≤64)(hc:c≤64)(w:World):Calls Tryz.prog 90 #[.int .i64 (n:Int),.int .i64 (c:Int)] w (zsR w n (noughts n c) c):=by
 have h1:decide ((n:Int)<0)=false:=by simp
 have h2:decide ((64:Int)<(n:Int))=false:=by simp;omega
 have h3:decide ((c:Int)<0)=false:=by simp
 have h4:decide ((64:Int)<(c:Int))=false:=by simp;omega
 have HN:=hid P;have X:=hid hc;have ar:n≤9223372036854775807:=by omega
 clear P hc;obtain⟨W,u⟩:∃W,(w.alloc (.cells #[.slice none 0 0,.int .i64 0] 70))=W:=⟨_,rfl⟩
 have I:=hid (show W.heap[w.heap.size]? = some (.cells #[.slice none 0 0,.int .i64 0] 70 (0,0))by rw[←u];exact zam (by simp));have q:=hid (show Below w.heap.size w W by rw[←u];exact zae w _);have HZ:=hid (show w.heap.size+1≤W.heap.size by rw[←u];simp);go_enter Tryz.func90,Tryz.ntmps90;go_wp2;clear u
 go_loopw [25] (fun i wr=>∃(k:Nat) (A:OA) (d:Nat) (l:List Value),i=.int .i64 k∧k≤n∧wr.heap[W.heap.size]? = some (.cells #[.slice A k d,.int .i64 (c:Int)] 70 (0,0))∧VecsL wr W.heap.size (.slice A k d) l (noughts k c)∧zbG l∧Below W.heap.size W wr)
  (fun i _=>n-(intOf i).toNat)
 case atStart=>exact⟨0,none,0,[],rfl,Nat.zero_le _,zal _ _ _,VecsL.nil _ _,zbG.nil,zae W _⟩
 case round =>
  obtain⟨k,A,d,l,rfl,hk,x,t,J,f⟩:=hrel;have H:=hid J;clear J;have au:=HZ.out;have ah:=f.size;by_cases aq:k<n
  ·skip
   have j:=hid (zad f I.out);have r:=hid (show VecsL wr W.heap.size (.slice A k d) l (noughts k c)from t);have HW:=hid (show Bel W wr from Bel.mk f);have T:=hid (q.out.trans ((f).mono q.out.size));obtain⟨y,B,F,_,z,C,G,_⟩:=bf2 j.out;have s:=hid x;obtain⟨y,B,F,_,z,C,G,_⟩:=bf2 j.out;obtain⟨aj,_,_,_,ak,_⟩:=bf2 s.out;clear x t f;have ap:(k:Int)<(n:Int):=by omega
   have Z:=hid (show(noughts k c).length=k by simp[noughts]);go_wp2_with fail
   refine za2 (S:=fun w'=>w'.cell? ⟨W.heap.size,0,none⟩=some (.slice A k d)∧w'.cell? ⟨W.heap.size,1,none⟩=some (.int .i64 (c:Int))) 7 (h:=fun hHeld=>?_);refine zaw [0,1,2] ?_;repeat refine tkE (hS:=hHeld) (h:=?_)
   refine zao ?_;refine zaN 3 (h:=fun K a=>?_)
   (refine zh5 rfl _ _ rfl c _ rfl rfl rfl (by have:=X.out;omega) ?_;intro Q E D;have U:=hid (zad D s.out);have ai:=hid (r.out.drew.below D);have al:=hid (HW.out.drew.below D);have HR:=hid (show VecS Q W.heap.size (.slice (some ⟨wr.heap.size,0,none⟩) c c) (List.replicate c 0)from(E.base ah));obtain⟨az,_,_,_,aA,_⟩:=bf2 U.out;have av:wr.heap.size<Q.heap.size:=(E.lt rfl).2;clear E)
   refine a.out _ _ kp fun hHeld=>?_
   clear a K;try simp only[Act.put,pu1,pu2,pu3,pu4,pu5,pu6]
   refine zaN 4 (h:=fun K a=>?_);go_simp;refine a.out _ _ kp fun hHeld=>?_
   clear a K;try simp only[Act.put,pu1,pu2,pu3,pu4,pu5,pu6]
   refine zaN 5 (h:=fun K a=>?_)
   (refine zjh rfl _ _ rfl rfl (ai.out.alloc _) rfl (zal _ _ _) (HR.out.alloc _) Z.out (by have:=HN.out;omega) (by simp;omega) ?_;intro V c5 R L O M;have Y:=hid L;have m:=hid (O.blk (zak U.out) (by decide));have ad:=hid ((al.out.alloc _).b.trans M);have p0:R.cell? ⟨W.heap.size,0,none⟩=some (.slice A k d):=zac m.out 0;have p1:R.cell? ⟨W.heap.size,1,none⟩=some (.int .i64 (c:Int)):=zac m.out 1;have ay:=zag m.out 0;clear L O M)
   refine a.out _ _ kp fun hHeld=>?_
   clear a K;try simp only[Act.put,pu1,pu2,pu3,pu4,pu5,pu6]
   refine zaw [6] ?_;repeat refine tkE (hS:=hHeld) (h:=?_)
   refine zao ?_;refine zba (h:=fun K a=>?_);go_simp;refine a.out _ _ ?_;clear a K;try simp only[Act.put,pu1,pu2,pu3,pu4,pu5,pu6]
   refine za1 (h:=?_);go_wp2;go_roundw
   case rel=>exact⟨k+1,V,c5,_,by go_num,by omega,zar _ m.out,by rw[show noughts (k+1) c=noughts k c++[List.replicate c 0]from List.replicate_succ'];exact Y.out.tk (TKeep.set m.out _) (by decide) (by decide) (by decide),H.out.push fun g b hg hb e=>(by have N:some wr.heap.size=some g:=hg;injection N with N;have:=(r.out.lt hb e).2;omega),Below.setCell ad.out (p:=⟨W.heap.size,0,none⟩) (Nat.le_refl _) _⟩
   case measure=>simp[intOf];omega
  ·obtain rfl:k=n:=by omega
   have j:=hid (zad f I.out);have r:=hid (show VecsL wr W.heap.size (.slice A k d) l (noughts k c)from t);have T:=hid (q.out.trans ((f).mono q.out.size));obtain⟨y,B,F,_,z,C,G,_⟩:=bf2 j.out;have s:=hid x;obtain⟨y,B,F,_,z,C,G,_⟩:=bf2 j.out;obtain⟨aj,_,ak,_⟩:=bc2 s.out;clear x t f;go_wp2;refine bodyPost_ret (v:=.tuple #[.agg #[.slice A k d,.int .i64 (c:Int)],.bool true]) (by simp[results,Tryz.results90,go_sem,y,B,z,C]) rfl ?_
   have h1:=((r.out.base (show w.heap.size≤W.heap.size by omega)).tk (TKeep.set (o:=0) j.out (.slice A k d)) (by decide) (by decide) (by decide)).tk (TKeep.set (o:=1) (zar _ j.out) (.int .i64 (c:Int))) (by decide) (by decide) (by decide);exact⟨A,d,l,rfl,h1,H.out,bsc (bsc T.out)⟩
end Mt
theorem zqJ{o:Oper}{a:Act}{w:World}{K:Act→World→Prop}{Q:Exit→Act→World→Prop}(s x:Operand)
  (y:o.op=.call { callee:=.builtin .append,args:=#[s,x],argTypes:=#[28,28] }) (z:a.eval s=.slice none 0 0) {H:Nat} {A:OA} {n c:Nat} {qs:List Rat} (C:a.eval x=.slice A n c) (f:VecS w H (.slice A n c) qs) (Y:qs.length≤1000000)
  (p:∀b c' w',VecS w' w.heap.size (.slice b n c') qs→Below w.heap.size w w'→K (a.put o.dst (.slice b n c')) w'):Oper.wp Tryz.prog o a w K Q:=by
 obtain⟨E,v,R,S,T⟩:=info_parts ze0;obtain rfl:=f.len;rcases f.form.2.2.2 with ⟨rfl,rfl,rfl⟩ | ⟨g,rfl,W,X⟩
 ·have O:=run_append_owned_none (P:=Tryz.prog) (w:=w) w.heap.size 28 o.type 47 E 3 Tryz.underlying28 v (.slice none 0 0) 0 [] (World.ownsRow_nil _ _ _ _);unfold Oper.wp;simp[execOp,y,resolve,invoke,builtin,z,C,O,Result.andThen];exact p none 0 w (VecS.nil _ _) (Below.refl _ _)
 ·obtain⟨l,d,i,F⟩:=f.row;have L:∀u∈rcells l,u.oneCell'=true:=ziJ l fun r hr=>by
   obtain⟨k,hk,J⟩:=List.getElem_of_mem hr;have I:l[k]? = some r:=by rw[List.getElem?_eq_getElem hk,J]
   obtain⟨q,N⟩:∃q,qs[k]? = some q:=⟨qs[k]'(by omega),List.getElem?_eq_getElem _⟩
   obtain⟨A,m,c,D,Z,V,h1,e⟩:=(i k r q I N).shape;rw[h1,e];exact⟨rfl,rfl⟩
  refine wp_append_own w s x 28 y w.heap.size 47 E _ 3 56 Tryz.underlying28 v R S T rfl (by decide) (.slice none 0 0) 0 [] z (World.ownsRow_nil _ _ _ _) ⟨g,0,none⟩ qs.length c (rcells l) C (by rw[zcC,d])
   (fun j u B=>by
    have hj:=(List.getElem?_eq_some_iff.1 B).1;rw[zcC,d]at hj;show w.cell? (Addr.add _ _)=_
    rw[show(⟨g,0,none⟩:Addr).add j=⟨g,j,none⟩by unfold Addr.add;split<;>simp_all];rw[F.cellAt j hj];exact B) L (by unfold maxLen;omega) (by omega) (Nat.le_refl _) ?_
  intro U w' M G _;have t:Below w.heap.size w w':=(Below.refl _ _).grown G (Nat.le_refl _) (fun k hk=>by cases hk);have hS:VecS w' w.heap.size U qs:=⟨l,d,fun k r q h1 e=>(i k r q h1 e).below t,by simpa using M⟩
  obtain⟨b,n',c',rfl⟩:=hS.slice;obtain rfl:=hS.len;exact p b c' w' hS t
namespace Vc
theorem copy(A:OA)(n c:Nat)(qs:List Rat)(H:Nat)(w:World)(h:VecS w H (.slice A n c) qs)(f:n≤1000000) :
  Calls Tryz.prog 32 #[.slice A n c] w fun e w'=>∃(a:OA) (c':Nat),e=.returned (.slice a n c')∧VecS w' w.heap.size (.slice a n c') qs∧Below w.heap.size w w':=by
 have l:=hid h;have j:=hid f;have k:=hid h.len;clear h f;go_enter Tryz.func32,Tryz.ntmps32;go_wp2_with (at_builtin;go_loud (refine wpList_plain rfl fun K b=>zqJ _ _ rfl rfl rfl l.out (by have:=k.out;have:=j.out;omega) ?_;intro a c' w' g d;refine b _ _ ?_;have m:=hid g;have i:=hid d;clear g d b))
 go_ret
 exact⟨a,c',rfl,m.out,i.out⟩
