/- Contracts and lemmas: Copy Ls5. Conditions: as each says. -/
import Derived.Test.YtbhfhkcdfmmmiaaGreatDuBZv
set_option linter.all false
set_option maxHeartbeats 4000000
set_option maxRecDepth 100000
namespace Go.Proofs.YtbhfhkcdfmmmiaaGreat
open Go.RowKit Am Go.Proofs.Tryz
attribute [local go_sem ↓] Go.wp_at_zero Go.wp_at_succ
variable {cs:Array Value}{ps:List PRow}{l:List RR}{H b:Nat}{v:Value}{w:World}
theorem yhZ{ops:Array Oper}{rest:List Oper}{o:Oper}{a:Act}{Q:Exit→Act→World→Prop}(f:o.guard=none)(s x:Operand)
  (B:o.op=.call { callee:=.builtin .append,args:=#[s,x],argTypes:=#[29,29] })     (F:a.eval s=v) (G:RowsL w H v l ps)  (I:a.eval x=.slice (some ⟨b,0,none⟩) 1 1)
  {C:OA} {nc cc:Nat} {kd:Int} {g:Bool} {A:OA} {m c:Nat} {D:OA} {i e:Nat} {p:PRow} (u:w.heap[b]? = some (.cells #[(C,nc,cc),.int .i64 kd,g,(A,m,c),(D,i,e)] 43 (0,0)))
  (hr:RowS w ⟨.slice C nc cc,kd,g,.slice A m c,.slice D i e⟩ p) {n:Nat} (z:ps.length=n) (y:n+1≤1000000) (q:H≤w.heap.size)
  (r:∀d c' w',RowsL w' H (.slice d (n+1) c') (l++[⟨.slice C nc cc,kd,g,.slice A m c,.slice D i e⟩]) (ps++[p])→zij w w'→Below H w w'→wpList prog ops Q rest (a.put o.dst (.slice d (n+1) c')) w') :
  wpList prog ops Q (o::rest) a w:=by
 refine wpList_plain f fun K t=>?_
 have h:=zKn (ops:=ops) (Q:=Q) (K:=K) (E:=False) f s x B F G I u hr z y q fun d c' w' h1 j k=>t _ _ (r d c' w' h1 j k)
 rw[if_pos (show Region.wanted o (yielded ops a.tmps)=true by simp[Region.wanted,f])]at h;exact h
namespace Pb
theorem yzB(C:OA)(nc cc:Nat)(R:OA)(nr s:Nat)(cost:List Rat)(rows:List PRow)(w:World)(hc:VecS w 0 (C,nc,cc) cost)(hr:RowsS w 0 (R,nr,s) rows)(ao:nc≤24)(aV:nr≤4)(aq:∀p∈rows,p.coef.length≤24) :
  Calls prog 12 #[.agg #[(C,nc,cc),(R,nr,s)]] w fun e w'=>∃(d:OA) (f:Nat) (j:OA) (r2:Nat),e=.returned (.agg #[(d,nc,f),(j,nr,r2)])∧VecS w' w (d,nc,f) cost∧(∃(l:List RR) (N:Nat),RowsL w' w (j,nr,r2) l rows∧From N l∧∀b,(Value.slice d nc f).ownBlock=some b→b<N)∧Below w w w':=by
 have aI:=un ao;have bd:=un aV;have aN:=un aq;have X:=un hr.len;have bi:nr≤9223372036854775807:=by omega
 clear ao aq;obtain⟨W,q⟩:∃W,((w.alloc (.cells #[(C,nc,cc),(R,nr,s)] 31)).alloc (.cells #[(),()] 31))=W:=⟨_,rfl⟩
 have F:=un (show W.heap[w.heap.size]? = some (.cells #[(C,nc,cc),(R,nr,s)] 31 (0,0))by rw[←q];exact zak (zam (by simp)));have G:=un (show W.heap[w.heap.size+1]? = some (.cells #[(),()] 31 (0,0))by rw[←q];exact zam (by simp));have z:=un (show Below w w W by rw[←q];exact(zae w _).alloc (by simp) _);have HZ:=un (show w.heap.size+2≤W.heap.size by rw[←q];simp);have HC:=un (show VecS W 0 (C,nc,cc) cost by rw[←q];exact((hc).alloc _).alloc _)
 have B:=un (show RowsS W 0 (R,nr,s) rows by rw[←q];exact((hr).alloc _).alloc _);obtain⟨cg,cl,ch,cb⟩:=bc2 F.o;obtain⟨cx,cv,cN,cs,ct,cB,cC,co⟩:=bf2 G.o;clear hc hr;go_enter func12,ntmps12;go_wp2_with fail
 clear q;with_reducible refine(Vc.copy C nc cc cost 0 _ HC.o (by have:=aI.o;omega)).mono ?_
 rintro e w1 ⟨d,f,rfl,hv,hb⟩;have a3:=un (show(w1.alloc (.cells #[(d,nc,f),()] 31)).heap[w.heap.size]? = some (.cells #[(C,nc,cc),(R,nr,s)] 31 (0,0))from zak (zad hb F.o));have a2:=un (show(w1.alloc (.cells #[(d,nc,f),()] 31)).heap[w.heap.size+1]? = some (.cells #[(),()] 31 (0,0))from zak (zad hb G.o))
 have aB:=un (show VecS (w1.alloc (.cells #[(d,nc,f),()] 31)) W.heap.size (d,nc,f) cost from(hv).alloc _);have a6:=un (show(w1.alloc (.cells #[(d,nc,f),()] 31)).heap[w1.heap.size]? = some (.cells #[(d,nc,f),()] 31 (0,0))from zam (by simp));obtain⟨ce,cj,cf,ck⟩:=bc2 a3.o;obtain⟨cw,ci,cK,cp,cy,ca,cI,cu⟩:=bf2 a2.o;obtain⟨cS,cF,cT,cG⟩:=bc2 a6.o;have aQ:=un (hb.size)
 have az:=un (hb.alloc hb.size (.cells #[(d,nc,f),()] 31));have aC:=un (show ∀b,(Value.slice d nc f).ownBlock=some b→b<w1.heap.size from fun b e=>(hv.lt e).2);clear hv hb;go_wp2
 go_loopw [13] (fun i wr=>∃(k:Nat) (j:OA) (r2:Nat) (l:List RR),i=.int .i64 k∧k≤nr∧wr.heap[w1.heap.size]? = some (.cells #[(d,nc,f),(j,k,r2)] 31 (0,0))∧RowsL wr W.heap.size (j,k,r2) l (rows.take k)∧VecS wr W.heap.size (d,nc,f) cost∧From w1.heap.size l∧Below W.heap.size W wr)
  (fun i _=>nr-(intOf i).toNat)
 case atStart=>exact⟨0,none,0,[],rfl,Nat.zero_le _,zal _ _ _,RowsL.nil _ _,aB.o,zLw _,az.o⟩
 case round =>
  obtain⟨k,j,r2,l,rfl,hk,y,J,K,hF,n⟩:=hrel;have aj:=un hF;clear hF;by_cases aU:k<nr
  ·obtain⟨p,M⟩:∃p,rows[k]? = some p:=⟨rows[k]'(by rw[←X.o];exact aU),List.getElem?_eq_getElem _⟩
   obtain⟨b,rfl,be,bf⟩:=(B.o).has (by omega);obtain⟨Q,nq,x,g,A,m,c,D,O,I,k0,k1,k2,k3,k4,hq,ap⟩:=(B.o.below n).at_ M;generalize hkd:p.kind=kd at k1;have aF:=un hkd;have aO:=un (show rows.take (k+1)=rows.take k++[p]by rw[List.take_add_one,M];rfl);have aH:=un (show(rows.take k).length=k by rw[List.length_take,←X.o];omega);have aL:=un (show nq≤24 by rw[hq.len];exact aN.o p (List.mem_of_getElem? M));have t:=un (zad n F.o);have o:=un (zad n G.o);have bc:=un (B.o.below n)
   have HQ:=un (hq);have aM:=un (ap);have V:=un (J);have Y:=un (K);have E:=un (Bel.mk n);have au:=un (z.o.trans ((n).mono z.o.size));obtain⟨ad,ab,ae,ac⟩:=bc2 t.o;obtain⟨T,S,af,ah,U,P,ai,ag⟩:=bf2 o.o;have u:=un y;obtain⟨ad,ab,ae,ac⟩:=bc2 t.o
   obtain⟨a9,a7,dh,df,ba,a8,di,dg⟩:=bf2 u.o;have aX:=(Array.getElem?_eq_some_iff.1 y).1;clear n M hq ap hkd y J K;have bg:(0:Int)≤(k:Int):=Int.natCast_nonneg _;have bh:(k:Int)<(nr:Int):=by omega
   have aW:=aQ.o;go_wp2_with fail
   have L:=zae wr (.cells #[(Q,nq,x),.int .i64 kd,g,(A,m,c),(D,O,I)] 43);have av:=un (zad L t.o);have aw:=un (zad L o.o);have ax:=un (zad L u.o);have a1:=un (HQ.o.below L);obtain⟨cU,cm,cV,cn⟩:=bc2 av.o;obtain⟨c7,cW,dc,c3,c8,cX,db,c4⟩:=bf2 aw.o;obtain⟨dj,dd,dn,dl,dk,de,dp,dm⟩:=bf2 ax.o;have KR:=un (zal wr #[(Q,nq,x),.int .i64 kd,g,(A,m,c),(D,O,I)] 43);obtain⟨bH,bW,bx,bM,bI,bX,bz,bO,bJ,bY,bB,bQ,bK,bZ,bD,bS,bL,bw,bF,bU⟩:=bf5 KR.o
   with_reducible refine(Vc.copy Q nq x p.coef 0 _ a1.o (by have:=aL.o;omega)).mono ?_
   rintro e v1 ⟨Q2,q2,rfl,hv,hb⟩;have a4:=un (zad hb av.o);have a5:=un (zad hb aw.o);have bb:=un (zad hb ax.o);have ar:=un (zad hb KR.o);have aK:=un ((hv.base (Nat.zero_le _)));obtain⟨cL,cz,cM,cA⟩:=bc2 a4.o;obtain⟨cQ,cD,cO,cH,cR,cE,cP,cJ⟩:=bf2 a5.o;obtain⟨c9,cY,c6,c0,da,cZ,c5,c1⟩:=bf2 bb.o;obtain⟨b8,b0,bv,bN,b9,b1,bA,bP,b5,b2,bC,bR,b6,b3,bE,bT,b7,b4,bG,bV⟩:=bf5 ar.o
   have r:=un (((zae wr (.cells #[(Q,nq,x),.int .i64 kd,g,(A,m,c),(D,O,I)] 43)).trans (hb.mono (by simp))).setCell (p:=⟨wr.heap.size,0,none⟩) (Nat.le_refl _) (Q2,nq,q2));have bj:=Nat.le_trans E.o.b.size (Nat.le_trans (by simp) hb.size);have aE:=un (show ∀b,(Value.slice Q2 nq q2).ownBlock=some b→w1.heap.size≤b from fun b e=>Nat.le_trans (Nat.le_of_lt (Nat.lt_of_lt_of_le aX (by simp))) (hv.lt e).1);clear hv hb
   go_wp2_with (at_builtin;go_loud (refine yhZ rfl _ _ rfl rfl ((V.o.below r.o).alloc _) rfl (zam (by simp)) (p:=p) ⟨((aK.o.setT (p:=⟨wr.heap.size,0,none⟩) ar.o (by decide) (by decide) _).alloc _),aF.o.symm,(aM.o.below r.o).alloc _⟩ aH.o (by omega) (by simp;omega) ?_;intro R3 r3 w3 am Z an;have H:=un (Z.blk (zak (zad r.o u.o)) (by decide));have aG:=un am;have aP:=un (((Y.o.below r.o).alloc _).keepR Z);have ay:=un (((E.o.b.trans (r.o.mono E.o.b.size)).alloc (Nat.le_trans E.o.b.size r.o.size) _).trans an);obtain⟨q0,bn,bq,br,q1,bp,bs,bt⟩:=bf2 H.o;clear am Z an))
   go_roundw
   case rel=>exact⟨k+1,R3,r3,_,by go_num,by omega,zar _ H.o,by rw[aO.o];exact aG.o.setT H.o (by decide) (by decide) (by decide) _,aP.o.setT H.o (by decide) (by decide) _,zKP aj.o aE.o,ay.o.setCell (p:=⟨w1,1,none⟩) aW _⟩
   case measure=>simp[intOf];omega
  ·obtain rfl:nr=k:=by omega
   have t:=un (zad n F.o);have o:=un (zad n G.o);have bc:=un (B.o.below n);have V:=un (J);have Y:=un (K);have au:=un (z.o.trans ((n).mono z.o.size));obtain⟨ad,ab,ae,ac⟩:=bc2 t.o;obtain⟨T,S,af,ah,U,P,ai,ag⟩:=bf2 o.o;have u:=un y;obtain⟨a9,a7,ba,a8⟩:=bc2 u.o;clear y J K n
   have HF:=un (show rows.take nr=rows by rw[X.o,List.take_length]);go_wp2;refine bodyPost_ret (v:=.agg #[(d,nc,f),(j,nr,r2)]) (by simp[results,results12,go_sem,T,S,U,P]) rfl ?_;have h1:=V.o;rw[HF.o]at h1;have h2:=(h1.base' (show w.heap.size≤W.heap.size by have:=HZ.o;omega)).setT (a:=⟨w.heap.size+1,0,none⟩) o.o (by decide) (by decide) (by decide) (d,nc,f)
   have h3:=h2.setT (a:=⟨w.heap.size+1,1,none⟩) (zar _ o.o) (by decide) (by decide) (by decide) (j,nr,r2);have v2:=(Y.o.base (show w.heap.size≤W.heap.size by have:=HZ.o;omega)).setT (p:=⟨w.heap.size+1,0,none⟩) o.o (by decide) (by decide) (d,nc,f);have v3:=v2.setT (p:=⟨w.heap.size+1,1,none⟩) (zar _ o.o) (by decide) (by decide) (j,nr,r2);exact⟨d,f,j,r2,rfl,v3,⟨l,w1.heap.size,h3,aj.o,aC.o⟩,bsc (bsc au.o)⟩
end Pb
theorem yz0(a:w.heap[b]? = some (.cells cs 41 (0,0)))(i j k:Nat)(u x y:Value):zff w (((w.setCell ⟨b,i,none⟩ u).setCell ⟨b,j,none⟩ x).setCell ⟨b,k,none⟩ y):=fun n _ c=>by
 have e:n≠b:=by rintro rfl;exact c _ a
 rw[Below.heap_setCell _ _ _ _ (by exact e),Below.heap_setCell _ _ _ _ (by exact e),Below.heap_setCell _ _ _ _ (by exact e)]
theorem RowsL.setV(h:RowsL w H v l ps)(g:w.heap[b]? = some (.cells cs 41 (0,0)))(hc:∀r∈l,r.c.ownBlock≠some b)(i j k:Nat)(u x y:Value) :
  RowsL (((w.setCell ⟨b,i,none⟩ u).setCell ⟨b,j,none⟩ x).setCell ⟨b,k,none⟩ y) H v l ps:=by
 have hr:=yz0 g i j k u x y;have d:∀n,n≠b→(((w.setCell ⟨b,i,none⟩ u).setCell ⟨b,j,none⟩ x).setCell ⟨b,k,none⟩ y).heap[n]? = w.heap[n]?:=fun n e=>by
  rw[Below.heap_setCell _ _ _ _ (by exact e),Below.heap_setCell _ _ _ _ (by exact e),Below.heap_setCell _ _ _ _ (by exact e)]
 refine⟨h.len,fun n r p h1 m=>?_,zc9 h.own fun n f=>d n ?_⟩
 ·have a:=h.each n r p h1 m;exact⟨a.coef.keepAll (fun n f=>d n fun e=>hc r (List.mem_of_getElem? h1) (by rw[←e];exact f)) fun _ _ _ _ q=>q.keepT hr,a.kind,a.rhs.keepT hr⟩
 ·rintro rfl;exact za6 h.own g (by decide) f
theorem yzS{N:Nat}(h:From N l)(d:b<N):∀r∈l,r.c.ownBlock≠some b:=fun r hr e=>by
 obtain⟨i,a⟩:=List.mem_iff_getElem?.1 hr;have:=h i r b a e;omega
