/- Contracts and lemmas: Copy. Conditions: as each says. -/
import Derived.Test.YtbdhheepakmgkaaGreatDuBZc
set_option linter.all false
set_option maxHeartbeats 4000000
set_option maxRecDepth 100000
namespace Go.Proofs.YtbdhheepakmgkaaGreat
open Go.RowKit Am
open Lib (hid)
attribute [local go_sem ↓] Go.wp_at_zero Go.wp_at_succ
theorem yhZ{w:World}{ops:Array Oper}{rest:List Oper}{o:Oper}{a:Act}{Q:Exit→Act→World→Prop}(f:o.guard=none)(s x:Operand)
  (B:o.op=.call { callee:=.builtin .append,args:=#[s,x],argTypes:=#[29,29] }) {H:Nat} {v:Value} {l:List RR} {ps:List PRow} (F:a.eval s=v) (G:RowsL w H v l ps) {b:Nat} (I:a.eval x=.slice (some ⟨b,0,none⟩) 1 1)
  {C:OA} {nc cc:Nat} {kd:Int} {g:Bool} {A:OA} {m c:Nat} {D:OA} {i e:Nat} {p:PRow} (u:w.heap[b]? = some (.cells #[.slice C nc cc,.int .i64 kd,.bool g,.slice A m c,.slice D i e] 60 (0,0)))
  (hr:RowS w ⟨.slice C nc cc,kd,g,.slice A m c,.slice D i e⟩ p) {n:Nat} (z:ps.length=n) (y:n+1≤1000000) (q:H≤w.heap.size)
  (r:∀d c' w',RowsL w' H (.slice d (n+1) c') (l++[⟨.slice C nc cc,kd,g,.slice A m c,.slice D i e⟩]) (ps++[p])→zij w w'→Below H w w'→wpList Tryz.prog ops Q rest (a.put o.dst (.slice d (n+1) c')) w') :
  wpList Tryz.prog ops Q (o::rest) a w:=by
 refine wpList_plain f fun K t=>?_
 have h:=zKn (ops:=ops) (Q:=Q) (K:=K) (E:=False) f s x B F G I u hr z y q fun d c' w' h1 j k=>t _ _ (r d c' w' h1 j k)
 rw[if_pos (show Region.wanted o (yielded ops a.tmps)=true by simp[Region.wanted,f])]at h;exact h
namespace Pb
theorem copy(C:OA)(nc cc:Nat)(R:OA)(nr s:Nat)(cost:List Rat)(rows:List PRow)(w:World)(hc:VecS w 0 (.slice C nc cc) cost)(hr:RowsS w 0 (.slice R nr s) rows)(ae:nc≤24)(aW:nr≤4)(ag:∀p∈rows,p.coef.length≤24) :
  Calls Tryz.prog 10 #[.agg #[.slice C nc cc,.slice R nr s]] w fun e w'=>∃(d:OA) (f:Nat) (j:OA) (r2:Nat),e=.returned (.agg #[.slice d nc f,.slice j nr r2])∧VecS w' w.heap.size (.slice d nc f) cost∧RowsS w' w.heap.size (.slice j nr r2) rows∧Below w.heap.size w w':=by
 have ar:=hid ae;have ay:=hid ag;have O:=hid hr.len;clear ae ag;obtain⟨W,q⟩:∃W,((w.alloc (.cells #[.slice C nc cc,.slice R nr s] 31)).alloc (.cells #[.slice none 0 0,.slice none 0 0] 31))=W:=⟨_,rfl⟩
 have Z:=hid (show W.heap[w.heap.size]? = some (.cells #[.slice C nc cc,.slice R nr s] 31 (0,0))by rw[←q];exact zak (zam (by simp)));have aa:=hid (show W.heap[w.heap.size+1]? = some (.cells #[.slice none 0 0,.slice none 0 0] 31 (0,0))by rw[←q];exact zam (by simp));have x:=hid (show Below w.heap.size w W by rw[←q];exact(zae w _).alloc (by simp) _);have Y:=hid (show w.heap.size+2≤W.heap.size by rw[←q];simp);have HC:=hid (show VecS W 0 (.slice C nc cc) cost by rw[←q];exact((hc).alloc _).alloc _)
 have X:=hid (show RowsS W 0 (.slice R nr s) rows by rw[←q];exact((hr).alloc _).alloc _);obtain⟨bb,_,bc,a9⟩:=bc2 Z.out;clear hc hr;go_enter Tryz.func10,Tryz.ntmps10;go_wp2_with fail
 clear q;with_reducible refine(Vc.copy C nc cc cost 0 _ HC.out (by have:=ar.out;omega)).mono ?_
 rintro e w1 ⟨d,f,rfl,hv,hb⟩;have aM:=hid (show(w1.alloc (.cells #[.slice d nc f,.slice none 0 0] 31)).heap[w.heap.size]? = some (.cells #[.slice C nc cc,.slice R nr s] 31 (0,0))from zak (zad hb Z.out));have am:=hid (show VecS (w1.alloc (.cells #[.slice d nc f,.slice none 0 0] 31)) W.heap.size (.slice d nc f) cost from(hv).alloc _)
 have aN:=hid (show(w1.alloc (.cells #[.slice d nc f,.slice none 0 0] 31)).heap[w1.heap.size]? = some (.cells #[.slice d nc f,.slice none 0 0] 31 (0,0))from zam (by simp));obtain⟨_,_,ba,bd⟩:=bc2 aM.out;obtain⟨_,_,be,_⟩:=bc2 aN.out;have aB:=hid (show W.heap.size≤w1.heap.size from hb.size);have ak:=hid (hb.alloc hb.size (.cells #[.slice d nc f,.slice none 0 0] 31));clear hv hb;go_wp2
 go_loopw [13] (fun i wr=>∃(k:Nat) (j:OA) (r2:Nat) (l:List RR),i=.int .i64 k∧k≤nr∧wr.heap[w1.heap.size]? = some (.cells #[.slice d nc f,.slice j k r2] 31 (0,0))∧RowsL wr W.heap.size (.slice j k r2) l (rows.take k)∧VecS wr W.heap.size (.slice d nc f) cost∧Below W.heap.size W wr)
  (fun i _=>nr-(intOf i).toNat)
 case atStart=>exact⟨0,none,0,[],rfl,Nat.zero_le _,zal _ _ _,RowsL.nil _ _,am.out,ak.out⟩
 case round =>
  obtain⟨k,j,r2,l,rfl,hk,G,E,F,o⟩:=hrel;by_cases aG:k<nr
  ·obtain⟨p,H⟩:∃p,rows[k]? = some p:=⟨rows[k]'(by rw[←O.out];exact aG),List.getElem?_eq_getElem _⟩
   obtain⟨b,rfl,aS,aT⟩:=(X.out).has (by omega);obtain⟨Q,nq,u,g,A,m,c,D,I,B,k0,k1,k2,k3,k4,T,af⟩:=(X.out.below o).at_ H;generalize hkd:p.kind=kd at k1;have ao:=hid hkd;have az:=hid (show rows.take (k+1)=rows.take k++[p]by rw[List.take_add_one,H];rfl);have aq:=hid (show(rows.take k).length=k by rw[List.length_take,←O.out];omega);have aw:=hid (show nq≤24 by rw[T.len];exact ay.out p (List.mem_of_getElem? H));have n:=hid (zad o aa.out);have HQ:=hid (show VecS wr 0 (.slice Q nq u) p.coef from T)
   have ax:=hid (show RatS wr g (.slice A m c) (.slice D I B) p.rhs from af);have N:=hid (show RowsL wr W.heap.size (.slice j k r2) l (rows.take k)from E);have P:=hid (show VecS wr W.heap.size (.slice d nc f) cost from F);have y:=hid (show Bel W wr from Bel.mk o);have ai:=hid (x.out.trans ((o).mono x.out.size));obtain⟨L,K,U,_,M,J,V,_⟩:=bf2 n.out;have t:=hid G;obtain⟨L,K,U,_,M,J,V,_⟩:=bf2 n.out;obtain⟨aO,_,_,_,aP,_⟩:=bf2 t.out;clear o H T af hkd G E F;have aU:(0:Int)≤(k:Int):=Int.natCast_nonneg _
   have aV:(k:Int)<(nr:Int):=by omega
   have aH:=aB.out;go_wp2_with fail
   have ad:=zae wr (.cells #[.slice Q nq u,.int .i64 kd,.bool g,.slice A m c,.slice D I B] 60);have aR:=hid (zad ad t.out);have aL:=hid (HQ.out.below ad);have KR:=hid (zal wr #[.slice Q nq u,.int .i64 kd,.bool g,.slice A m c,.slice D I B] 60);with_reducible refine(Vc.copy Q nq u p.coef 0 _ aL.out (by have:=aw.out;omega)).mono ?_
   rintro e v1 ⟨Q2,q2,rfl,hv,hb⟩;have aQ:=hid (zad hb aR.out);have ah:=hid (zad hb KR.out);have av:=hid (show VecS v1 0 (.slice Q2 nq q2) p.coef from(hv.base (Nat.zero_le _)));obtain⟨_,_,_,_,bf,_⟩:=bf2 aQ.out;obtain⟨a7,_,a3,_,a8,_,_,_,a4,_,_,_,a5,_,_,_,a6,_⟩:=bf5 ah.out;have r:=hid (((zae wr (.cells #[.slice Q nq u,.int .i64 kd,.bool g,.slice A m c,.slice D I B] 60)).trans (hb.mono (by simp))).setCell (p:=⟨wr.heap.size,0,none⟩) (Nat.le_refl _) (.slice Q2 nq q2))
   have aX:W.heap.size≤v1.heap.size:=Nat.le_trans y.out.b.size (Nat.le_trans (by simp) hb.size);clear hv hb
   go_wp2_with (at_builtin;go_loud (refine yhZ rfl _ _ rfl rfl ((N.out.below r.out).alloc _) rfl (zam (by simp)) (p:=p) ⟨((av.out.setT (p:=⟨wr.heap.size,0,none⟩) ah.out (by decide) (by decide) _).alloc _),ao.out.symm,(ax.out.below r.out).alloc _⟩ aq.out (by omega) (by simp;omega) ?_;intro R3 r3 w3 ab S ac;have z:=hid (S.blk (zak (zad r.out t.out)) (by decide));have ap:=hid ab;have aA:=hid (((P.out.below r.out).alloc _).keepR S);have aj:=hid (((y.out.b.trans (r.out.mono y.out.b.size)).alloc (Nat.le_trans y.out.b.size r.out.size) _).trans ac);obtain⟨_,_,_,_,q1,_,a1,_⟩:=bf2 z.out;clear ab S ac))
   go_roundw
   case rel=>exact⟨k+1,R3,r3,_,by go_num,by omega,zar _ z.out,by rw[az.out];exact ap.out.setT z.out (by decide) (by decide) (by decide) _,aA.out.setT z.out (by decide) (by decide) _,aj.out.setCell (p:=⟨w1.heap.size,1,none⟩) aH _⟩
   case measure=>simp[intOf];omega
  ·obtain rfl:nr=k:=by omega
   have n:=hid (zad o aa.out);have N:=hid (show RowsL wr W.heap.size (.slice j nr r2) l (rows.take nr)from E);have P:=hid (show VecS wr W.heap.size (.slice d nc f) cost from F);have ai:=hid (x.out.trans ((o).mono x.out.size));obtain⟨L,K,U,_,M,J,V,_⟩:=bf2 n.out;have t:=hid G;obtain⟨L,K,U,_,M,J,V,_⟩:=bf2 n.out;obtain⟨aO,_,aP,_⟩:=bc2 t.out;clear G E F o;have HF:=hid (show rows.take nr=rows by rw[O.out,List.take_length]);go_wp2
   refine bodyPost_ret (v:=.agg #[.slice d nc f,.slice j nr r2]) (by simp[results,Tryz.results10,go_sem,L,K,M,J]) rfl ?_;have h1:=N.out;rw[HF.out]at h1;have h2:=(h1.base' (show w.heap.size≤W.heap.size by have:=Y.out;omega)).setT (a:=⟨w.heap.size+1,0,none⟩) n.out (by decide) (by decide) (by decide) (.slice d nc f);have h3:=h2.setT (a:=⟨w.heap.size+1,1,none⟩) (zar _ n.out) (by decide) (by decide) (by decide) (.slice j nr r2)
   have v2:=(P.out.base (show w.heap.size≤W.heap.size by have:=Y.out;omega)).setT (p:=⟨w.heap.size+1,0,none⟩) n.out (by decide) (by decide) (.slice d nc f);have v3:=v2.setT (p:=⟨w.heap.size+1,1,none⟩) (zar _ n.out) (by decide) (by decide) (.slice j nr r2);exact⟨d,f,j,r2,rfl,v3,h3.toS,bsc (bsc ai.out)⟩
