/- Contracts and lemmas: Copy Str5 Ls5. Conditions: as each says. -/
import Derived.Test.YtbhfhkcdfmmmiaaGreatDuBZu
set_option linter.all false
set_option maxHeartbeats 4000000
set_option maxRecDepth 100000
namespace Go.Proofs.YtbhfhkcdfmmmiaaGreat
open Go.RowKit Am
open Lib (hid)
attribute [local go_sem ↓] Go.wp_at_zero Go.wp_at_succ
variable {cs:Array Value}{g:Bool}{kd:Int}{ps:List PRow}{l:List RR}{H b c cc i m n nc:Nat}{A C D:OA}{p:PRow}{v:Value}{w w':World}
theorem yhZ{ops:Array Oper}{rest:List Oper}{o:Oper}{a:Act}{Q:Exit→Act→World→Prop}(f:o.guard=none)(s x:Operand)
  (B:o.op=.call { callee:=.builtin .append,args:=#[s,x],argTypes:=#[29,29] })     (F:a.eval s=v) (G:RowsL w H v l ps)  (I:a.eval x=.slice (some ⟨b,0,none⟩) 1 1)
         {e:Nat}  (u:w.heap[b]? = some (.cells #[(C,nc,cc),.int .i64 kd,g,(A,m,c),(D,i,e)] 43 (0,0)))
  (hr:RowS w ⟨.slice C nc cc,kd,g,.slice A m c,.slice D i e⟩ p)  (z:ps.length=n) (y:n+1≤1000000) (q:H≤w.heap.size)
  (r:∀d c' w',RowsL w' H (.slice d (n+1) c') (l++[⟨.slice C nc cc,kd,g,.slice A m c,.slice D i e⟩]) (ps++[p])→zij w w'→Below H w w'→wpList Tryz.prog ops Q rest (a.put o.dst (.slice d (n+1) c')) w') :
  wpList Tryz.prog ops Q (o::rest) a w:=by
 refine wpList_plain f fun K t=>?_
 have h:=zKn (ops:=ops) (Q:=Q) (K:=K) (E:=False) f s x B F G I u hr z y q fun d c' w' h1 j k=>t _ _ (r d c' w' h1 j k)
 rw[if_pos (show Region.wanted o (yielded ops a.tmps)=true by simp[Region.wanted,f])]at h;exact h
namespace Pb
theorem yzB(C:OA)(nc cc:Nat)(R:OA)(nr s:Nat)(cost:List Rat)(rows:List PRow)(w:World)(hc:VecS w 0 (C,nc,cc) cost)(hr:RowsS w 0 (R,nr,s) rows)(ao:nc≤24)(aV:nr≤4)(aq:∀p∈rows,p.coef.length≤24) :
  Calls Tryz.prog 12 #[.agg #[(C,nc,cc),(R,nr,s)]] w fun e w'=>∃(d:OA) (f:Nat) (j:OA) (r2:Nat),e=.returned (.agg #[(d,nc,f),(j,nr,r2)])∧VecS w' w.heap.size (d,nc,f) cost∧(∃(l:List RR) (N:Nat),RowsL w' w.heap.size (j,nr,r2) l rows∧From N l∧∀b,(Value.slice d nc f).ownBlock=some b→b<N)∧Below w.heap.size w w':=by
 have aI:=hid ao;have bd:=hid aV;have aN:=hid aq;have X:=hid hr.len;have bi:nr≤9223372036854775807:=by omega
 clear ao aq;obtain⟨W,q⟩:∃W,((w.alloc (.cells #[(C,nc,cc),(R,nr,s)] 31)).alloc (.cells #[(),()] 31))=W:=⟨_,rfl⟩
 have F:=hid (show W.heap[w.heap.size]? = some (.cells #[(C,nc,cc),(R,nr,s)] 31 (0,0))by rw[←q];exact zak (zam (by simp)));have G:=hid (show W.heap[w.heap.size+1]? = some (.cells #[(),()] 31 (0,0))by rw[←q];exact zam (by simp));have z:=hid (show Below w.heap.size w W by rw[←q];exact(zae w _).alloc (by simp) _);have HZ:=hid (show w.heap.size+2≤W.heap.size by rw[←q];simp);have HC:=hid (show VecS W 0 (C,nc,cc) cost by rw[←q];exact((hc).alloc _).alloc _)
 have B:=hid (show RowsS W 0 (R,nr,s) rows by rw[←q];exact((hr).alloc _).alloc _);obtain⟨cg,cl,ch,cb⟩:=bc2 F.out;obtain⟨cx,cv,cN,cs,ct,cB,cC,co⟩:=bf2 G.out;clear hc hr;go_enter Tryz.func12,Tryz.ntmps12;go_wp2_with fail
 clear q;with_reducible refine(Vc.copy C nc cc cost 0 _ HC.out (by have:=aI.out;omega)).mono ?_
 rintro e w1 ⟨d,f,rfl,hv,hb⟩;have a3:=hid (show(w1.alloc (.cells #[(d,nc,f),()] 31)).heap[w.heap.size]? = some (.cells #[(C,nc,cc),(R,nr,s)] 31 (0,0))from zak (zad hb F.out));have a2:=hid (show(w1.alloc (.cells #[(d,nc,f),()] 31)).heap[w.heap.size+1]? = some (.cells #[(),()] 31 (0,0))from zak (zad hb G.out))
 have aB:=hid (show VecS (w1.alloc (.cells #[(d,nc,f),()] 31)) W.heap.size (d,nc,f) cost from(hv).alloc _);have a6:=hid (show(w1.alloc (.cells #[(d,nc,f),()] 31)).heap[w1.heap.size]? = some (.cells #[(d,nc,f),()] 31 (0,0))from zam (by simp));obtain⟨ce,cj,cf,ck⟩:=bc2 a3.out;obtain⟨cw,ci,cK,cp,cy,ca,cI,cu⟩:=bf2 a2.out;obtain⟨cS,cF,cT,cG⟩:=bc2 a6.out;have aQ:=hid (hb.size)
 have az:=hid (hb.alloc hb.size (.cells #[(d,nc,f),()] 31));have aC:=hid (show ∀b,(Value.slice d nc f).ownBlock=some b→b<w1.heap.size from fun b e=>(hv.lt e).2);clear hv hb;go_wp2
 go_loopw [13] (fun i wr=>∃(k:Nat) (j:OA) (r2:Nat) (l:List RR),i=.int .i64 k∧k≤nr∧wr.heap[w1.heap.size]? = some (.cells #[(d,nc,f),(j,k,r2)] 31 (0,0))∧RowsL wr W.heap.size (j,k,r2) l (rows.take k)∧VecS wr W.heap.size (d,nc,f) cost∧From w1.heap.size l∧Below W.heap.size W wr)
  (fun i _=>nr-(intOf i).toNat)
 case atStart=>exact⟨0,none,0,[],rfl,Nat.zero_le _,zal _ _ _,RowsL.nil _ _,aB.out,zLw _,az.out⟩
 case round =>
  obtain⟨k,j,r2,l,rfl,hk,y,J,K,hF,n⟩:=hrel;have aj:=hid hF;clear hF;by_cases aU:k<nr
  ·obtain⟨p,M⟩:∃p,rows[k]? = some p:=⟨rows[k]'(by rw[←X.out];exact aU),List.getElem?_eq_getElem _⟩
   obtain⟨b,rfl,be,bf⟩:=(B.out).has (by omega);obtain⟨Q,nq,x,g,A,m,c,D,O,I,k0,k1,k2,k3,k4,hq,ap⟩:=(B.out.below n).at_ M;generalize hkd:p.kind=kd at k1;have aF:=hid hkd;have aO:=hid (show rows.take (k+1)=rows.take k++[p]by rw[List.take_add_one,M];rfl);have aH:=hid (show(rows.take k).length=k by rw[List.length_take,←X.out];omega);have aL:=hid (show nq≤24 by rw[hq.len];exact aN.out p (List.mem_of_getElem? M));have t:=hid (zad n F.out);have o:=hid (zad n G.out);have bc:=hid (B.out.below n)
   have HQ:=hid (hq);have aM:=hid (ap);have V:=hid (J);have Y:=hid (K);have E:=hid (Bel.mk n);have au:=hid (z.out.trans ((n).mono z.out.size));obtain⟨ad,ab,ae,ac⟩:=bc2 t.out;obtain⟨T,S,af,ah,U,P,ai,ag⟩:=bf2 o.out;have u:=hid y;obtain⟨ad,ab,ae,ac⟩:=bc2 t.out
   obtain⟨a9,a7,dh,df,ba,a8,di,dg⟩:=bf2 u.out;have aX:=(Array.getElem?_eq_some_iff.1 y).1;clear n M hq ap hkd y J K;have bg:(0:Int)≤(k:Int):=Int.natCast_nonneg _;have bh:(k:Int)<(nr:Int):=by omega
   have aW:=aQ.out;go_wp2_with fail
   have L:=zae wr (.cells #[(Q,nq,x),.int .i64 kd,g,(A,m,c),(D,O,I)] 43);have av:=hid (zad L t.out);have aw:=hid (zad L o.out);have ax:=hid (zad L u.out);have a1:=hid (HQ.out.below L);obtain⟨cU,cm,cV,cn⟩:=bc2 av.out;obtain⟨c7,cW,dc,c3,c8,cX,db,c4⟩:=bf2 aw.out;obtain⟨dj,dd,dn,dl,dk,de,dp,dm⟩:=bf2 ax.out;have KR:=hid (zal wr #[(Q,nq,x),.int .i64 kd,g,(A,m,c),(D,O,I)] 43);obtain⟨bH,bW,bx,bM,bI,bX,bz,bO,bJ,bY,bB,bQ,bK,bZ,bD,bS,bL,bw,bF,bU⟩:=bf5 KR.out
   with_reducible refine(Vc.copy Q nq x p.coef 0 _ a1.out (by have:=aL.out;omega)).mono ?_
   rintro e v1 ⟨Q2,q2,rfl,hv,hb⟩;have a4:=hid (zad hb av.out);have a5:=hid (zad hb aw.out);have bb:=hid (zad hb ax.out);have ar:=hid (zad hb KR.out);have aK:=hid ((hv.base (Nat.zero_le _)));obtain⟨cL,cz,cM,cA⟩:=bc2 a4.out;obtain⟨cQ,cD,cO,cH,cR,cE,cP,cJ⟩:=bf2 a5.out;obtain⟨c9,cY,c6,c0,da,cZ,c5,c1⟩:=bf2 bb.out;obtain⟨b8,b0,bv,bN,b9,b1,bA,bP,b5,b2,bC,bR,b6,b3,bE,bT,b7,b4,bG,bV⟩:=bf5 ar.out
   have r:=hid (((zae wr (.cells #[(Q,nq,x),.int .i64 kd,g,(A,m,c),(D,O,I)] 43)).trans (hb.mono (by simp))).setCell (p:=⟨wr.heap.size,0,none⟩) (Nat.le_refl _) (Q2,nq,q2));have bj:=Nat.le_trans E.out.b.size (Nat.le_trans (by simp) hb.size);have aE:=hid (show ∀b,(Value.slice Q2 nq q2).ownBlock=some b→w1.heap.size≤b from fun b e=>Nat.le_trans (Nat.le_of_lt (Nat.lt_of_lt_of_le aX (by simp))) (hv.lt e).1);clear hv hb
   go_wp2_with (at_builtin;go_loud (refine yhZ rfl _ _ rfl rfl ((V.out.below r.out).alloc _) rfl (zam (by simp)) (p:=p) ⟨((aK.out.setT (p:=⟨wr.heap.size,0,none⟩) ar.out (by decide) (by decide) _).alloc _),aF.out.symm,(aM.out.below r.out).alloc _⟩ aH.out (by omega) (by simp;omega) ?_;intro R3 r3 w3 am Z an;have H:=hid (Z.blk (zak (zad r.out u.out)) (by decide));have aG:=hid am;have aP:=hid (((Y.out.below r.out).alloc _).keepR Z);have ay:=hid (((E.out.b.trans (r.out.mono E.out.b.size)).alloc (Nat.le_trans E.out.b.size r.out.size) _).trans an);obtain⟨q0,bn,bq,br,q1,bp,bs,bt⟩:=bf2 H.out;clear am Z an))
   go_roundw
   case rel=>exact⟨k+1,R3,r3,_,by go_num,by omega,zar _ H.out,by rw[aO.out];exact aG.out.setT H.out (by decide) (by decide) (by decide) _,aP.out.setT H.out (by decide) (by decide) _,zKP aj.out aE.out,ay.out.setCell (p:=⟨w1.heap.size,1,none⟩) aW _⟩
   case measure=>simp[intOf];omega
  ·obtain rfl:nr=k:=by omega
   have t:=hid (zad n F.out);have o:=hid (zad n G.out);have bc:=hid (B.out.below n);have V:=hid (J);have Y:=hid (K);have au:=hid (z.out.trans ((n).mono z.out.size));obtain⟨ad,ab,ae,ac⟩:=bc2 t.out;obtain⟨T,S,af,ah,U,P,ai,ag⟩:=bf2 o.out;have u:=hid y;obtain⟨a9,a7,ba,a8⟩:=bc2 u.out;clear y J K n
   have HF:=hid (show rows.take nr=rows by rw[X.out,List.take_length]);go_wp2;refine bodyPost_ret (v:=.agg #[(d,nc,f),(j,nr,r2)]) (by simp[results,Tryz.results12,go_sem,T,S,U,P]) rfl ?_;have h1:=V.out;rw[HF.out]at h1;have h2:=(h1.base' (show w.heap.size≤W.heap.size by have:=HZ.out;omega)).setT (a:=⟨w.heap.size+1,0,none⟩) o.out (by decide) (by decide) (by decide) (d,nc,f)
   have h3:=h2.setT (a:=⟨w.heap.size+1,1,none⟩) (zar _ o.out) (by decide) (by decide) (by decide) (j,nr,r2);have v2:=(Y.out.base (show w.heap.size≤W.heap.size by have:=HZ.out;omega)).setT (p:=⟨w.heap.size+1,0,none⟩) o.out (by decide) (by decide) (d,nc,f);have v3:=v2.setT (p:=⟨w.heap.size+1,1,none⟩) (zar _ o.out) (by decide) (by decide) (j,nr,r2);exact⟨d,f,j,r2,rfl,v3,⟨l,w1.heap.size,h3,aj.out,aC.out⟩,bsc (bsc au.out)⟩
theorem copy(C:OA)(nc cc:Nat)(R:OA)(nr d:Nat)(cost:List Rat)(rows:List PRow)(w:World)(hc:VecS w 0 (C,nc,cc) cost)(hr:RowsS w 0 (R,nr,d) rows)(f:nc≤24)(g:nr≤4)(i:∀p∈rows,p.coef.length≤24) :
  Calls Tryz.prog 12 #[.agg #[(C,nc,cc),(R,nr,d)]] w fun e w'=>∃(a:OA) (c:Nat) (b:OA) (r2:Nat),e=.returned (.agg #[(a,nc,c),(b,nr,r2)])∧VecS w' w.heap.size (a,nc,c) cost∧RowsS w' w.heap.size (b,nr,r2) rows∧Below w.heap.size w w' :=
 (yzB C nc cc R nr d cost rows w hc hr f g i).mono fun _ _ ⟨a,c,b,r2,e,hv,⟨_,_,hL,_⟩,hb⟩=>⟨a,c,b,r2,e,hv,hL.toS,hb⟩
end Pb
theorem yw4:∀(l:List RR) (k:Nat) (r:RR),(((((zcW l).set (k*5) r.c).set (k*5+1) (.int .i64 r.k)).set (k*5+2) (.bool r.g)).set (k*5+3) r.s).set (k*5+4) r.d=zcW (l.set k r)
 | [],k,r=>by simp[zcW]
 | x::l,0,r=>by rw[List.set_cons_zero,zd4,zd4];simp
 | x::l,k+1,r=>by
  rw[List.set_cons_succ,zd4,zd4,←yw4 l k r];rw[show(k+1)*5=k*5+5 by omega];simp[show k*5+5+1=k*5+1+5 by omega,show k*5+5+2=k*5+2+5 by omega,show k*5+5+3=k*5+3+5 by omega,show k*5+5+4=k*5+4+5 by omega]
def IsT (w:World) (b:Nat) (t:TypeId):Prop:=∃cs,w.heap[b]? = some (.cells cs t (0,0))
theorem IsT.set{t:TypeId}(h:IsT w b t)(j:Nat)(u:Value):IsT (w.setCell ⟨b,j,none⟩ u) b t:=by
 obtain⟨cs,h⟩:=h;exact⟨_,heap_setCell_same w b j cs t u h⟩
theorem RowS.setI{r:RR}(h:RowS w r p)(c:IsT w b 43)(j:Nat)(u:Value):RowS (w.setCell ⟨b,j,none⟩ u) r p:=by
 obtain⟨cs,c⟩:=c;exact h.setT (a:=⟨b,j,none⟩) c (by decide) (by decide) u
theorem RowS.set5{r:RR}(h:RowS w r p)(a:IsT w b 43)(c d e f g:Nat)(u0 u1 u2 i j:Value):RowS (((((w.setCell ⟨b,c,none⟩ u0).setCell ⟨b,d,none⟩ u1).setCell ⟨b,e,none⟩ u2).setCell ⟨b,f,none⟩ i).setCell ⟨b,g,none⟩ j) r p :=
 ((((h.setI a _ _).setI (a.set _ _) _ _).setI ((a.set _ _).set _ _) _ _).setI (((a.set _ _).set _ _).set _ _) _ _).setI ((((a.set _ _).set _ _).set _ _).set _ _) _ _
theorem RowsS.store5(h:RowsS w H (b,n,c) ps)(k:Nat){rc:Value}{f:Int}{rg:Bool}{rs rd:Value}(hr:RowS w ⟨rc,f,rg,rs,rd⟩ p) :
  RowsS (((((w.setCell ⟨b,k*5,none⟩ rc).setCell ⟨b,k*5+1,none⟩ (.int .i64 f)).setCell ⟨b,k*5+2,none⟩ rg).setCell ⟨b,k*5+3,none⟩ rs).setCell ⟨b,k*5+4,none⟩ rd) H (b,n,c) (ps.set k p):=by
 have o:=h.len;subst o;obtain⟨l,h1,j,g⟩:=h.row;obtain⟨cur,hg,_⟩:=zA4 g;have m:IsT w b 43:=⟨cur,hg⟩
 refine⟨l.set k ⟨rc,f,rg,rs,rd⟩,by simp[h1],fun i r q d a=>?_,?_⟩
 ·refine RowS.set5 ?_ m _ _ _ _ _ _ _ _ _ _;rw[List.getElem?_set]at d a;split at d
  ·rename_i e
   rw[if_pos e]at a;split at d
   ·rw[if_pos (by omega)]at a;cases d;cases a;exact hr
   ·cases d
  ·rename_i e
   rw[if_neg e]at a;exact j i r q d a
 ·rw[←yw4,List.length_set];exact(((((g.stored _ _).1.stored _ _).1.stored _ _).1.stored _ _).1.stored _ _).1
theorem yxP(c:IsT w b 43)(f g i j l:Nat)(u0 u1 u2 m n:Value):TKeep 43 w (((((w.setCell ⟨b,f,none⟩ u0).setCell ⟨b,g,none⟩ u1).setCell ⟨b,i,none⟩ u2).setCell ⟨b,j,none⟩ m).setCell ⟨b,l,none⟩ n):=fun k _ e=>by
 obtain⟨cs,d⟩:=c;have a:k≠b:=by rintro rfl;exact e _ d
 rw[Below.heap_setCell _ _ _ _ (by exact a),Below.heap_setCell _ _ _ _ (by exact a),Below.heap_setCell _ _ _ _ (by exact a),Below.heap_setCell _ _ _ _ (by exact a),Below.heap_setCell _ _ _ _ (by exact a)]
theorem RowsS.isT(h:RowsS w H (b,n,c) ps):IsT w b 43:=by
 have d:=h.len;subst d;obtain⟨l,_,_,a⟩:=h.row;obtain⟨cur,hg,_⟩:=zA4 a;exact⟨cur,hg⟩
theorem yxJ(h:Below H w w')(a:H≤b)(c d e f g:Nat)(u0 u1 u2 i j:Value):Below H w (((((w'.setCell ⟨b,c,none⟩ u0).setCell ⟨b,d,none⟩ u1).setCell ⟨b,e,none⟩ u2).setCell ⟨b,f,none⟩ i).setCell ⟨b,g,none⟩ j) :=
 ((((h.setCell (p:=⟨b,c,none⟩) a _).setCell (p:=⟨b,d,none⟩) a _).setCell (p:=⟨b,e,none⟩) a _).setCell (p:=⟨b,f,none⟩) a _).setCell (p:=⟨b,g,none⟩) a _
theorem yxu{ops:Array Oper}{o:Oper}{a:Act}{K:Act→World→Prop}{Q:Exit→Act→World→Prop}{E:Prop}(hg:o.guard=none)(s x:Operand)
  (L:o.op=.call { callee:=.builtin .append,args:=#[s,x],argTypes:=#[29,29] })     (N:a.eval s=v) (d:RowsL w H v l ps)  (O:a.eval x=.slice (some ⟨b,0,none⟩) 1 1)
         {j:Nat}  (G:w.heap[b]? = some (.cells #[(C,nc,cc),.int .i64 kd,g,(A,m,c),(D,j,i)] 43 (0,0)))
  (hr:RowS w ⟨.slice C nc cc,kd,g,.slice A m c,.slice D j i⟩ p)  (J:ps.length=n) (V:n+1≤1000000) (y:H≤w.heap.size)
  (F:∀q c' w',RowsL w' H (.slice q (n+1) c') (l++[⟨.slice C nc cc,kd,g,.slice A m c,.slice D j i⟩]) (ps++[p])→zij w w'→Below H w w'→w.grownBy w' v.ownBlock→K (a.put o.dst (.slice q (n+1) c')) w') :
  if Region.wanted o (yielded ops a.tmps)=true then Oper.wp Tryz.prog o a w K Q else E:=by
 have hw:Region.wanted o (yielded ops a.tmps)=true:=by simp[Region.wanted,hg]
 rw[if_pos hw];subst J;obtain⟨T,I,P,R,S⟩:=info_parts zLy
 refine wp_append_own w s x 29 L H 43 T _ 5 88 Tryz.underlying29 I P R S rfl (by decide) v ps.length (zcW l) N d.own ⟨b,0,none⟩ 1 1 [.slice C nc cc,.int .i64 kd,.bool g,.slice A m c,.slice D j i] O rfl (zMe G)
  (by intro u B;simp at B;rcases B with rfl | rfl | rfl | rfl | rfl<;>rfl) (by unfold maxLen;omega) (by omega) y ?_
 intro U w' M t _;have hk:=zKw d.own t;have z:RowsL w' H U (l++[⟨.slice C nc cc,kd,g,.slice A m c,.slice D j i⟩]) (ps++[p]):=by
  refine⟨by simp[d.len],?_,by rw[List.length_append,zKq];exact M⟩;intro k r p' h1 f;rcases Nat.lt_trichotomy k l.length with h | h | h
  ·rw[List.getElem?_append_left h]at h1;rw[List.getElem?_append_left (by rw[←d.len];exact h)]at f;exact(d.each k r p' h1 f).keepR hk
  ·subst h;rw[List.getElem?_append_right (Nat.le_refl _)]at h1;rw[List.getElem?_append_right (by rw[d.len];exact Nat.le_refl _)]at f;simp at h1;rw[d.len]at f;simp at f;subst h1 f;exact hr.keepR hk
  ·rw[List.getElem?_eq_none (by simp;omega)]at h1;cases h1
 obtain⟨q,c',e⟩:=z.slice;rw[List.length_append]at e;subst e;exact F q c' w' z hk ((Below.refl _ _).grown t y (fun k hk=>(d.own.lt k hk).1)) t
theorem yxF{k:Nat}{o:Obj}(h:w.grownBy w' (Value.slice (some ⟨b,0,none⟩) n c).ownBlock)(hk:w.heap[k]? = some o)(a:k≠b):w'.heap[k]? = some o :=
 (h.block k (Array.getElem?_eq_some_iff.1 hk).1 (by simp[Value.ownBlock];omega)).trans hk
theorem yz0(a:w.heap[b]? = some (.cells cs 41 (0,0)))(i j k:Nat)(u x y:Value):zff w (((w.setCell ⟨b,i,none⟩ u).setCell ⟨b,j,none⟩ x).setCell ⟨b,k,none⟩ y):=fun n _ c=>by
 have e:n≠b:=by rintro rfl;exact c _ a
 rw[Below.heap_setCell _ _ _ _ (by exact e),Below.heap_setCell _ _ _ _ (by exact e),Below.heap_setCell _ _ _ _ (by exact e)]
theorem RowsL.setV(h:RowsL w H v l ps)(g:w.heap[b]? = some (.cells cs 41 (0,0)))(hc:∀r∈l,r.c.ownBlock≠some b)(i j k:Nat)(u x y:Value) :
  RowsL (((w.setCell ⟨b,i,none⟩ u).setCell ⟨b,j,none⟩ x).setCell ⟨b,k,none⟩ y) H v l ps:=by
 have hr:=yz0 g i j k u x y;have d:∀n,n≠b→(((w.setCell ⟨b,i,none⟩ u).setCell ⟨b,j,none⟩ x).setCell ⟨b,k,none⟩ y).heap[n]? = w.heap[n]?:=fun n e=>by
  rw[Below.heap_setCell _ _ _ _ (by exact e),Below.heap_setCell _ _ _ _ (by exact e),Below.heap_setCell _ _ _ _ (by exact e)]
 refine⟨h.len,fun n r p h1 m=>?_,zc9 h.own fun n f=>d n ?_⟩
 ·have a:=h.each n r p h1 m;exact⟨a.coef.keepAll (fun n f=>d n fun e=>hc r (List.mem_of_getElem? h1) (by rw[←e];exact f)) fun _ _ _ _ q=>q.keepT hr,a.kind,a.rhs.keepT hr⟩
 ·rintro rfl;exact za6 h.own g (by decide) f
theorem yzS{N:Nat}(h:From N l)(d:b<N):∀r∈l,r.c.ownBlock≠some b:=fun r hr e=>by
 obtain⟨i,a⟩:=List.mem_iff_getElem?.1 hr;have:=h i r b a e;omega
