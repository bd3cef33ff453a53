/- Contracts and lemmas: RgP RgW RgC. Conditions: as each says. -/
import Derived.Deep.CutBlock
import Derived.Test.YtbhfhkcdfmmmiaaGreatPrBZj
set_option linter.all false
set_option maxHeartbeats 4000000
set_option maxRecDepth 100000
namespace Go.Proofs.YtbhfhkcdfmmmiaaGreat
open Tryz
open Am
variable {out:List Bool}{xs ys:List Int}{rows:List PRow}{ps qs:List Rat}{H N c e j k n:Nat}{A:OA}{p:PRow}{v vb:Value}{w:World}
def yJt (κ:Int):List Int:=if κ=3 then [1, -1]else if κ=1 then [-1]else if κ=2 then [1]else []
def wTo (rows:List PRow) (out:List Bool):Nat→List (Nat × Int)
  | 0=>[]
  | k+1=>wTo rows out k++if out.getD k false=true then []else (yJt (rows.getD k default).kind).map fun g=>(k,g)
def yJE (W:List (Nat × Int)) (rows:List PRow) (j i:Nat):List Rat:=(W.take i).map fun x=>(x.2:Rat)*el (rows.getD x.1 default).coef j
def yJC (W:List (Nat × Int)) (rows:List PRow) (j:Nat):List Rat:=W.map fun x=>(x.2:Rat)*el (rows.getD x.1 default).coef j
def yJJ (W:List (Nat × Int)) (rows:List PRow) (cost x:List Rat) (j k:Nat):PRow :=
  ⟨yJC W rows k++rats (if k=j then [-1,1]else [0,0]),if el x k=0 then 1 else 3,if k=j then 0 else el cost k⟩
def yJK (W:List (Nat × Int)) (rows:List PRow) (cost x:List Rat) (j:Nat):List PRow:=(List.range cost.length).map (yJJ W rows cost x j)
def yJG (W:List (Nat × Int)):List Rat:=List.replicate W.length 0++rats [1, -1]
def yJL (W:List (Nat × Int)) (rows:List PRow) (cost:List Rat):List PRow:=(List.range cost.length).map fun j=>⟨yJC W rows j,1,el cost j⟩
def yJI (W:List (Nat × Int)) (rows:List PRow) (v:Rat):PRow:=⟨W.map fun x=>(x.2:Rat)*(rows.getD x.1 default).rhs,3,v⟩
def yJH (W:List (Nat × Int)) (k:Nat):List Rat:=W.map fun x=>if x.1=k then (x.2:Rat)else 0
def yJw (nC:Nat) (cost:List Rat) (rows:List PRow) (B:Nat):Out:=zSA (nC+cnt rows rows.length) rows.length (zc3 rows) (zg8 rows) (zjD cost rows) B
def yJA (nC:Nat) (rows:List PRow) (cols:List Nat):List Rat:=(zh1 (nC+cnt rows rows.length+rows.length) cols (za5 (zt0 (zc3 rows) (zg8 rows)) (zwh (zg8 rows)) cols)).take nC
inductive EndO where
  | spent:EndO
  | none:EndO
  | val:Option Rat→EndO
def yJD (nC:Nat) (cost:List Rat) (rows:List PRow):Out→EndO
  | .spent _=>.spent
  | .none _ _=>.none
  | .best cols _=>.val (some (dot cost (yJA nC rows cols)))
  | .falls _ _ _=>.val Option.none
inductive RangeO where
  | spent:Nat→RangeO
  | none:Nat→RangeO
  | ends:Option Rat→Option Rat→RangeO
def both:EndO→EndO→RangeO
  | .spent,_=>.spent 0
  | .none,_=>.none 0
  | .val _,.spent=>.spent 1
  | .val _,.none=>.none 1
  | .val a,.val b=>.ends a (b.map fun q => -q)
def sgE (k:Nat):Rat:=((1-2*(k:Int):Int):Rat)
def yVC (nC:Nat) (cost:List Rat) (rows:List PRow) (B k:Nat):EndO:=yJD nC (scale (sgE k) cost) rows (yJw nC (scale (sgE k) cost) rows B)
def yJF (nC:Nat) (cost:List Rat) (rows:List PRow) (B:Nat):RangeO:=both (yVC nC cost rows B 0) (yVC nC cost rows B 1)
inductive EndV (E:Nat→EndO):Nat→Option Rat→Option Rat→Prop where
  | zero:EndV E 0 none none
  | one {a:Option Rat} (h:E 0=.val a):EndV E 1 a none
  | two {a b:Option Rat} (h:E 0=.val a) (h1:E 1=.val b):EndV E 2 a (b.map fun q => -q)
namespace EndV
variable {E:Nat→EndO} {k:Nat} {a b:Option Rat}
theorem spent(h:EndV E k a b)(hk:k<2)(e:E k=.spent):both (E 0) (E 1)=.spent k:=by
 cases h with
 | zero=>rw[e];cases E 1<;>rfl
 | one h=>rw[h,e];rfl
 | two=>omega
theorem no(h:EndV E k a b)(hk:k<2)(e:E k=.none):both (E 0) (E 1)=.none k:=by
 cases h with
 | zero=>rw[e];cases E 1<;>rfl
 | one h=>rw[h,e];rfl
 | two=>omega
theorem next(h:EndV E k a b)(hk:k<2){v:Option Rat}(e:E k=.val v):EndV E (k+1) (if k=0 then v else a) (if k=0 then b else v.map fun q => -q):=by
 cases h with
 | zero=>exact .one e
 | one h=>exact .two h e
 | two=>omega
theorem last(h:EndV E 2 a b):both (E 0) (E 1)=.ends a b:=by
 cases h with
 | two h h1=>rw[h,h1];rfl
end EndV
theorem yJB(rows:List PRow)(out:List Bool):∀k,∀x∈wTo rows out k,x.1<k
 | 0,x,h=>by cases h
 | k+1,x,h=>by
  unfold wTo at h;rcases ZD.1 h with h | h
  ·have:=yJB rows out k x h;omega
  grind
theorem yJu(κ:Int):(yJt κ).length≤2:=by unfold yJt;split<;>(try split)<;>(try split)<;>simp
theorem yJv(κ:Int):∀g∈yJt κ,g=1∨g = -1:=by
 unfold yJt;grind
theorem yJy(rows:List PRow)(out:List Bool):∀k,(wTo rows out k).length≤2*k
 | 0=>Za _
 | k+1=>by
  unfold wTo;rw[Zj];have:=yJy rows out k;have d:=yJu (rows.getD k default).kind;split
  ·simp;omega
  ·rw[Zl];omega
theorem yJz(rows:List PRow)(out:List Bool):∀k,∀x∈wTo rows out k,x.2=1∨x.2 = -1
 | 0,x,h=>by cases h
 | k+1,x,h=>by
  unfold wTo at h;rcases ZD.1 h with h | h
  ·exact yJz rows out k x h
  ·split at h
   ·cases h
   ·obtain⟨g,hg,rfl⟩:=Zq.1 h;exact yJv _ g hg
theorem ySX(h:out.getD k false=true):wTo rows out (k+1)=wTo rows out k:=by
 rw[wTo,if_pos h,Yg]
theorem yNE(d:rows[k]? = some p)(h:out.getD k false=false):wTo rows out (k+1)=wTo rows out k++(yJt p.kind).map fun g=>(k,g):=by
 rw[wTo,if_neg (by rw[h];decide),Zi,d];rfl
theorem yO7(d:rows[k]? = some p)(h:out.getD k false=false)(hk:p.kind=1):wTo rows out (k+1)=wTo rows out k++[(k, -1)]:=by
 rw[yNE d h,hk];rfl
theorem yO8(d:rows[k]? = some p)(h:out.getD k false=false)(hk:p.kind=2):wTo rows out (k+1)=wTo rows out k++[(k,1)]:=by
 rw[yNE d h,hk];rfl
theorem yO9(d:rows[k]? = some p)(h:out.getD k false=false)(hk:p.kind=3):wTo rows out (k+1)=(wTo rows out k++[(k,1)])++[(k, -1)]:=by
 rw[yNE d h,hk,Xy];rfl
open Go.RowKit Am
attribute [local go_sem ↓] Go.wp_at_zero Go.wp_at_succ
structure PairS (w:World) (H:Nat) (va vb:Value) (xs ys:List Int):Prop where
  a:IntsZ w H va xs
  b:IntsZ w H vb ys
  ap:∀g,va.ownBlock=some g→vb.ownBlock≠some g
theorem PairS.swap{va:Value}(h:PairS w H va vb xs ys):PairS w H vb va ys xs:=⟨h.b,h.a,fun g h1 d=>h.ap g d h1⟩
theorem PairS.alloc{w:World}{H:Nat}{va vb:Value}{xs ys:List Int}(h:PairS w H va vb xs ys)(o:Obj):PairS (w.alloc o) H va vb xs ys:=⟨h.a.alloc o,h.b.alloc o,h.ap⟩
theorem PairS.drew{w:World}{H:Nat}{va vb:Value}{xs ys:List Int}(h:PairS w H va vb xs ys):PairS w.drew H va vb xs ys:=⟨h.a.drew,h.b.drew,h.ap⟩
theorem PairS.tk{w w':World}{H:Nat}{va vb:Value}{xs ys:List Int}{t:TypeId}(h:PairS w H va vb xs ys)(hk:TKeep t w w')(h1:3≠t):PairS w' H va vb xs ys:=⟨h.a.tk hk h1,h.b.tk hk h1,h.ap⟩
theorem yJM{ops:Array Oper}{o:Oper}{a:Act}{K:Act→World→Prop}{Q:Exit→Act→World→Prop}{E:Prop}(hg:o.guard=none)(s x:Operand)
  (X:o.op=.call { callee:=.builtin .append,args:=#[s,x],argTypes:=#[50,50] })    (hs:a.eval s=v) (j:PairS w H v vb xs ys) {b:Nat} (hx:a.eval x=.slice (some ⟨b,0,none⟩) 1 1)
  {z:Int} (S:w.heap[b]? = some (.cells #[.int .i64 z] 3 (0,0)))  (C:xs.length=n) (af:n+1≤1000000) (L:H≤w.heap.size)
  (R:∀p c' w',PairS w' H (.slice p (n+1) c') vb (xs++[z]) ys→TKeep 3 w w'→Below H w w'→(∀k,k<w.heap.size→some k≠v.ownBlock→w'.heap[k]? = w.heap[k]?)→K (a.put o.dst (.slice p (n+1) c')) w') :
  if Region.wanted o (yielded ops a.tmps)=true then Oper.wp prog o a w K Q else E:=by
 have hw:Region.wanted o (yielded ops a.tmps)=true:=by simp[Region.wanted,hg]
 rw[if_pos hw];subst C;obtain⟨y,hi,G,l,I⟩:=info_parts znF;have f:=j.a.own;have t:=zrj S;have F:∀u∈[Value.int .i64 z],u.oneCell'=true:=by intro u N;simp at N;subst N;rfl
 obtain⟨O,w',i,Y,r,_⟩:=run_append_own (P:=prog) w H 50 o.type 3 y _ 1 8 underlying50 hi G l I rfl (by decide) v xs.length (zcells xs) f ⟨b,0,none⟩ 1 1 [.int .i64 z] rfl t F (by unfold maxLen;omega) (by omega) L;have D:O.ownBlock=v.ownBlock∨∀k,O.ownBlock=some k→w.heap.size≤k:=by
  rcases f.2 with ⟨rfl,C⟩ | ⟨g',cap,cur,rfl,ad,W,ag,ae,V,ah⟩
  ·obtain⟨v2,w2,d,Z,_⟩:=run_append_own (P:=prog) w w.heap.size 50 o.type 3 y _ 1 8 underlying50 hi G l I rfl (by decide) () 0 [] (Xf _ _ _ _) ⟨b,0,none⟩ 1 1 [.int .i64 z] rfl t F (by unfold maxLen;omega) (by omega) (Za _);rw[i]at d;injection d with e1 e2;subst e1;exact .inr fun k hk=>(Z.lt k hk).1
  ·by_cases aa:xs.length+1≤cap
   ·have d:=run_append_room (P:=prog) w 50 o.type 3 y underlying50 hi g' xs.length cap cur W ⟨b,0,none⟩ 1 1 [.int .i64 z] (by rw[l];rfl) t F aa (by rw[l,V];simp;omega);rw[i]at d;injection d with e1 e2;exact .inl (by rw[e1];rfl)
   ·have d:=run_append_grow (P:=prog) w 50 o.type 3 y _ underlying50 hi G ⟨g',0,none⟩ xs.length cap (zcells xs) (by rw[l];exact f.1) (f.cells (g:=g') rfl) ⟨b,0,none⟩ 1 1 [.int .i64 z] (by rw[l];rfl) t (by omega) (by omega) (growslice_fits (by omega) (by rw[I];omega));rw[i]at d;injection d with e1 e2;exact .inr fun k hk=>by rw[e1]at hk;have M:some w.heap.size=some k:=hk;grind
 have q:=IntsZ.push Y;obtain⟨p,c',rfl⟩:=q.slice;rw[Zj]at q i D;simp only[XI,Yl,Z2]at q i D;have T:IntsZ w' H vb ys:=j.b.keep fun k hk=>r.block k (j.b.own.lt k hk).2 fun e=>j.ap k e.symm hk
 exact Lib.wp_append_run w s x 50 50 X v _ hs hx _ w' i (R p c' w' ⟨q,T,fun g h1 J=>D.elim (fun h=>j.ap g (h▸h1) J) fun h=>by have:=h g h1;have:=(j.b.own.lt g J).2;omega⟩ (TKeep.grown f r) ((Zg _ _).grown r L (fun k hk=>(f.lt k hk).1)) r.block)
def yX9 (W wr:World) (L:List (Nat × Int)) (n:Nat):Prop:=∃(A:OA) (c:Nat) (B:OA) (c':Nat),L.length=n∧wr.heap[W.heap.size]? = some (.cells #[(A,n,c),(B,n,c')] 136 (0,0))∧PairS wr W.heap.size (A,n,c) (B,n,c') (L.map fun x=>(x.1:Int)) (L.map fun x=>x.2)∧Below W W wr
def yNT (w:World) (L:List (Nat × Int)) (e:Ending) (w':World):Prop:=∃(A:OA) (c:Nat) (B:OA) (c':Nat),e=.returned (.agg #[(A,L.length,c),(B,L.length,c')])∧IntsZ w' 0 (A,L.length,c) (L.map fun x=>(x.1:Int))∧IntsZ w' 0 (B,L.length,c') (L.map fun x=>x.2)∧Below w w w'
namespace Ra
theorem yLE(C:OA)(nC cC:Nat)(R:OA)(m cR:Nat)(rows:List PRow)(oA:OA)(oc:Nat)(out:List Bool)(w:World)(hr:RowsS w 0 (R,m,cR) rows)(ho:BoolsS w 0 (oA,m,oc) out)(hm:m≤20)(hk:Kinds rows) :
  Calls prog 66 #[.agg #[(C,nC,cC),(R,m,cR)],(oA,m,oc)] w (yNT w (wTo rows out m)):=by
 have HN:=un hr.len;have bx:=un ho.len;have bd:=un hk;have cd:(m:Int)≤20:=by omega
 clear hk;obtain⟨W,hW⟩:∃W,((w.alloc (.cells #[(C,nC,cC),(R,m,cR)] 31)).alloc (.cells #[(),()] 136))=W:=⟨_,rfl⟩
 have aS:=un (show W.heap[w.heap.size]? = some (.cells #[(C,nC,cC),(R,m,cR)] 31 (0,0))by rw[←hW];exact zak (zam (by simp)));have aT:=un (show W.heap[w.heap.size+1]? = some (.cells #[(),()] 136 (0,0))by rw[←hW];exact zam (by simp));have BB:=un (show Below w w W by rw[←hW];exact(zae w _).alloc (by simp) _)
 have HR:=un (show RowsS W 0 (R,m,cR) rows by rw[←hW];exact((hr).alloc _).alloc _);have HO:=un (show BoolsS W 0 (oA,m,oc) out by rw[←hW];exact((ho).alloc _).alloc _);obtain⟨_,_,cv,cp⟩:=bc2 aS.o;clear hr ho;go_enter func66,ntmps66;go_upto_region 2 with fail
 clear hW;have bh:=zae W (.cells #[(),()] 136);have bY:=un (zad bh aS.o);obtain⟨cs,_,ct,cy⟩:=bc2 bY.o;go_wp2_with fail
 go_loopw [11] (fun i wr=>∃k n:Nat,i=.int .i64 k∧k≤m∧yX9 W wr (wTo rows out k) n)
  (fun i _=>m-(intOf i).toNat)
 case atStart=>exact⟨0,0,rfl,Zb _,none,0,none,0,rfl,zal _ _ _,⟨IntsZ.nil _ _,IntsZ.nil _ _,fun g h=>by cases h⟩,zae W _⟩
 case round =>
  obtain⟨k,n,rfl,hk,A,c,B,c',aM,hO,hP,Y⟩:=hrel;by_cases bi:k<m
  ·obtain⟨p,hp⟩:∃p,rows[k]? = some p:=⟨rows[k]'(by rw[←HN.o];exact bi),Ze _⟩
   obtain⟨ob,ba⟩:∃ob,out[k]? = some ob:=⟨out[k]'(by rw[←bx.o];exact bi),Ze _⟩
   have aP:=un (show out.getD k false=ob by rw[Zi,ba];rfl);obtain⟨bo,rfl,_,_⟩:=HO.o.has (by omega);obtain⟨b,rfl,ca,r⟩:=HR.o.has (by omega);obtain⟨Q,nq,cq,g,Ar,mr,cr,Dr,md,ce,k0,H,k2,k3,k4,_⟩:=(HR.o.below Y).at_ hp;have bM:=(HO.o.below Y).at_ ba;obtain⟨kd,aW⟩:∃kd:Int,p.kind=kd:=⟨_,rfl⟩
   rw[aW]at H;have aY:=un aW;have bK:=(bd.o p (Zh hp)).1;have bL:=(bd.o p (Zh hp)).2;rw[aW]at bK bL;have bP:=yJy rows out k;have br:=un (fun h=>ySX (rows:=rows) (out:=out) (k:=k) h);have bs:=un (fun h h2=>yO7 (out:=out) hp h h2);have bt:=un (fun h h2=>yO8 (out:=out) hp h h2);have bu:=un (fun h h2=>yO9 (out:=out) hp h h2);generalize wTo rows out k=L at *
   have G:=un aM;have cf:n+1≤1000:=by omega
   have bz:=un hP;have bw:=un hO;have aX:=un (zad Y aS.o);have aI:=un (zad Y aT.o);have HW:=un (show Bel W wr from Bel.mk Y);have bm:=un (BB.o.trans ((Y).mono BB.o.size));obtain⟨bl,bk,bZ,_,bn,bj,b3,_⟩:=bf2 aI.o;have cb:(0:Int)≤(k:Int):=Zf _;have cc:(k:Int)<(m:Int):=by omega
   clear Y hp aM hP hO bP ba hk aW;have a8:=zae wr (.cells #[(Q,nq,cq),.int .i64 kd,.bool g,(Ar,mr,cr),(Dr,md,ce)] 43);have b1:=un (zad a8 aX.o);have b5:=un (zad a8 aI.o);have b8:=un (HW.o.below a8);obtain⟨cS,cA,cT,cB⟩:=bc2 b1.o;obtain⟨cY,cU,c1,cW,cZ,cV,c0,cX⟩:=bf2 b5.o;have b4:(wr.alloc (.cells #[(Q,nq,cq),.int .i64 kd,.bool g,(Ar,mr,cr),(Dr,md,ce)] 43)).cell? ⟨wr.heap.size,0,none⟩=some (Q,nq,cq):=zax rfl rfl;have cl:=zaa b4
   have b6:(wr.alloc (.cells #[(Q,nq,cq),.int .i64 kd,.bool g,(Ar,mr,cr),(Dr,md,ce)] 43)).cell? ⟨wr.heap.size,1,none⟩=some (.int .i64 kd):=zax rfl rfl;have cm:=zaa b6;have b7:(wr.alloc (.cells #[(Q,nq,cq),.int .i64 kd,.bool g,(Ar,mr,cr),(Dr,md,ce)] 43)).cell? ⟨bo,k,none⟩=some (.bool ob):=cell_al bM;have cn:=zaa b7;have HP:=un (bz.o.alloc (.cells #[(Q,nq,cq),.int .i64 kd,.bool g,(Ar,mr,cr),(Dr,md,ce)] 43))
   have X:=un (zak (ob:=.cells #[(Q,nq,cq),.int .i64 kd,.bool g,(Ar,mr,cr),(Dr,md,ce)] 43) bw.o);obtain⟨y0,bQ,bG,bH,y1,bR,bI,bJ⟩:=bf2 X.o;have aa:=un (b8.o.b);cases ob
   case true =>
    have E:=br.o aP.o;go_wp2;go_roundw
    case rel=>exact⟨k+1,n,by go_num,by omega,A,c,B,c',by rw[E];exact G.o,X.o,by rw[E];exact HP.o,aa.o⟩
    case measure=>simp[intOf];omega
   case false =>
    rcases(show kd=3∨kd=1∨kd=2 by omega)with rfl | rfl | rfl
    ·have E:=bu.o aP.o aY.o;go_upto_block 4 with fail
     go_cut[] (fun wz=>yX9 W wz (L++[(k,1)]) (n+1))
     case first =>
      go_upto_region 10 with fail
      generalize hwv:(wr.alloc (.cells #[(Q,nq,cq),.int .i64 3,.bool g,(Ar,mr,cr),(Dr,md,ce)] 43))=wv at *
      clear hwv;have P:=un HP.o.drew;have l:=un (bdrew aa.o);obtain⟨h0,_,_,_,h1,_⟩:=bf2 X.o;refine zaS (S:=fun w'=>w'.cell? ⟨W.heap.size,0,none⟩=some (A,n,c)∧w'.cell? ⟨W.heap.size,1,none⟩=some (B,n,c')) [10,11,12] (h:=fun hHeld=>?_);refine zaw [0,1,2,5,6] ?_;repeat refine tkL (hS:=hHeld) (h:=?_)
      refine zao ?_;refine zme (i:=3) (j:=7) rfl rfl (by kernel_rfl) (fun K d=>?_) (fun K d=>?_)
      ·skip
       go_simp;refine shutOn d fun hHeld=>?_
       clear d K;refine zme (i:=4) (j:=7) rfl rfl (by kernel_rfl) (fun K d=>?_) (fun K d=>?_)
       ·skip
        ((refine yJM (by rfl) _ _ (by rfl) (by rfl) ((P.o).alloc _) (by rfl) (zal _ _ _) (n:=n) (by rw[Zl];exact G.o) (by omega) (by have:=aa.o.size;simp;omega) ?_);intro s u u1 x D r z;have N:=un x;have V:=un z;have o:=un ((Zo (l.o) (l.o).size _).trans r);have t:=un (D.blk (zak (X.o)) (by decide));obtain⟨g0,_,_,_,g1,_⟩:=bf2 t.o;clear x D r z)
        refine shutOn d fun hHeld=>?_
        clear d K;refine zaw [9] ?_;repeat refine tkL (hS:=hHeld) (h:=?_)
        refine zao ?_;refine zaB 7 (h:=fun K d=>?_);go_simp;refine shutOn d fun hHeld=>?_
        clear d K;refine zaB 8 (h:=fun K d=>?_)
        ((refine yJM (by rfl) _ _ (by rfl) (by rfl) (((N.o).alloc _).swap) (by rfl) (zal _ _ _) (n:=n) (by rw[Zl];exact G.o) (by omega) (by have:=o.o.size;simp;omega) ?_);intro I J u2 q F y T;have O:=un q.swap;have M:=un (Xo (Zo (o.o) (o.o).size _) y);have f:=un (F.blk (zak (t.o)) (by decide));obtain⟨e0,_,ah,_,e1,_,aj,_⟩:=bf2 f.o;clear q F y T)
        refine shutOn d fun hHeld=>?_
        clear d K;refine zay 10 (h:=fun K d=>?_);go_simp;refine shutOff d ?_;clear d K;refine zay 11 (h:=fun K d=>?_);go_simp;refine shutOff d ?_;clear d K;refine zay 12 (h:=fun K d=>?_);go_simp;refine shutOff d ?_;clear d K;refine zaM (h:=?_);go_wp2;go_meet;have H:TKeep 136 u2 (u2.setCell ⟨W.heap.size,0,none⟩ (s,n+1,u)):=TKeep.set f.o _;have k2:TKeep 136 _ ((u2.setCell ⟨W.heap.size,0,none⟩ (s,n+1,u)).setCell ⟨W.heap.size,1,none⟩ (I,n+1,J)):=TKeep.set (zar _ f.o) _
        case rel=>exact⟨s,u,I,J,by rw[Zj,G.o];rfl,zar _ (zar _ f.o),by rw[ZG,ZG];exact(O.o.tk H (by decide)).tk k2 (by decide),bsc (p:=⟨W.heap.size,1,none⟩) (bsc (p:=⟨W.heap.size,0,none⟩) M.o (Za _)) (Za _)⟩
       ·skip
        go_simp;refine shutOn d fun hHeld=>?_
        clear d K;refine zaB 4 (h:=fun K d=>?_)
        ((refine yJM (by rfl) _ _ (by rfl) (by rfl) (((P.o).alloc _).alloc _) (by rfl) (zak (zal _ _ _)) (n:=n) (by rw[Zl];exact G.o) (by omega) (by have:=aa.o.size;simp;omega) ?_);intro s u u1 x D r z;have N:=un x;have V:=un z;have o:=un ((Zo (Zo (l.o) (l.o).size _) (Zo (l.o) (l.o).size _).size _).trans r);have t:=un (D.blk (zak ((zak (X.o)))) (by decide));obtain⟨g0,_,_,_,g1,_⟩:=bf2 t.o;have Z:=un ((V.o _ (by simp<;>omega) (fun e=>by have:=(P.o.a.own.lt _ e.symm).2;(try simp at this)<;>omega)).trans (zbD _ _ _ _));clear x D r z)
        refine shutOn d fun hHeld=>?_
        clear d K;refine zaw [9] ?_;repeat refine tkL (hS:=hHeld) (h:=?_)
        refine zao ?_;refine zaB 8 (h:=fun K d=>?_)
        ((refine yJM (by rfl) _ _ (by rfl) (by rfl) ((N.o).swap) (by rfl) (Z.o) (n:=n) (by rw[Zl];exact G.o) (by omega) (by have:=o.o.size;simp;omega) ?_);intro I J u2 q F y T;have O:=un q.swap;have M:=un (Xo (o.o) y);have f:=un (F.blk t.o (by decide));obtain⟨e0,_,ah,_,e1,_,aj,_⟩:=bf2 f.o;clear q F y T)
        refine shutOn d fun hHeld=>?_
        clear d K;refine zay 10 (h:=fun K d=>?_);go_simp;refine shutOff d ?_;clear d K;refine zay 11 (h:=fun K d=>?_);go_simp;refine shutOff d ?_;clear d K;refine zay 12 (h:=fun K d=>?_);go_simp;refine shutOff d ?_;clear d K;refine zaM (h:=?_);go_wp2;go_meet;have H:TKeep 136 u2 (u2.setCell ⟨W.heap.size,0,none⟩ (s,n+1,u)):=TKeep.set f.o _;have k2:TKeep 136 _ ((u2.setCell ⟨W.heap.size,0,none⟩ (s,n+1,u)).setCell ⟨W.heap.size,1,none⟩ (I,n+1,J)):=TKeep.set (zar _ f.o) _
        case rel=>exact⟨s,u,I,J,by rw[Zj,G.o];rfl,zar _ (zar _ f.o),by rw[ZG,ZG];exact(O.o.tk H (by decide)).tk k2 (by decide),bsc (p:=⟨W.heap.size,1,none⟩) (bsc (p:=⟨W.heap.size,0,none⟩) M.o (Za _)) (Za _)⟩
      ·skip
       go_simp;refine shutOn d fun hHeld=>?_
       clear d K;refine zaB 3 (h:=fun K d=>?_);go_simp;refine shutOn d fun hHeld=>?_
       clear d K;refine zaB 4 (h:=fun K d=>?_)
       ((refine yJM (by rfl) _ _ (by rfl) (by rfl) (((P.o).alloc _).alloc _) (by rfl) (zbD _ _ _ _) (n:=n) (by rw[Zl];exact G.o) (by omega) (by have:=aa.o.size;simp;omega) ?_);intro s u u1 x D r z;have N:=un x;have V:=un z;have o:=un ((Zo (Zo (l.o) (l.o).size _) (Zo (l.o) (l.o).size _).size _).trans r);have t:=un (D.blk (zak ((zak (X.o)))) (by decide));obtain⟨g0,_,_,_,g1,_⟩:=bf2 t.o;have Z:=un ((V.o _ (by simp<;>omega) (fun e=>by have:=(P.o.a.own.lt _ e.symm).2;(try simp at this)<;>omega)).trans (zak (zal _ _ _)));clear x D r z)
       refine shutOn d fun hHeld=>?_
       clear d K;refine zaw [9] ?_;repeat refine tkL (hS:=hHeld) (h:=?_)
       refine zao ?_;refine zaB 8 (h:=fun K d=>?_)
       ((refine yJM (by rfl) _ _ (by rfl) (by rfl) ((N.o).swap) (by rfl) (Z.o) (n:=n) (by rw[Zl];exact G.o) (by omega) (by have:=o.o.size;simp;omega) ?_);intro I J u2 q F y T;have O:=un q.swap;have M:=un (Xo (o.o) y);have f:=un (F.blk t.o (by decide));obtain⟨e0,_,ah,_,e1,_,aj,_⟩:=bf2 f.o;clear q F y T)
       refine shutOn d fun hHeld=>?_
       clear d K;refine zay 10 (h:=fun K d=>?_);go_simp;refine shutOff d ?_;clear d K;refine zay 11 (h:=fun K d=>?_);go_simp;refine shutOff d ?_;clear d K;refine zay 12 (h:=fun K d=>?_);go_simp;refine shutOff d ?_;clear d K;refine zaM (h:=?_);go_wp2;go_meet;have H:TKeep 136 u2 (u2.setCell ⟨W.heap.size,0,none⟩ (s,n+1,u)):=TKeep.set f.o _;have k2:TKeep 136 _ ((u2.setCell ⟨W.heap.size,0,none⟩ (s,n+1,u)).setCell ⟨W.heap.size,1,none⟩ (I,n+1,J)):=TKeep.set (zar _ f.o) _
       case rel=>exact⟨s,u,I,J,by rw[Zj,G.o];rfl,zar _ (zar _ f.o),by rw[ZG,ZG];exact(O.o.tk H (by decide)).tk k2 (by decide),bsc (p:=⟨W.heap.size,1,none⟩) (bsc (p:=⟨W.heap.size,0,none⟩) M.o (Za _)) (Za _)⟩
     case rest =>
      obtain⟨A3,c3,B3,d3,be,bf,bg,a7⟩:=hcut;rename World=>wz
      generalize L++[(k,1)]=L3 at *
      have ay:=un be;have bA:=un bg;have aJ:=un bf;have aO:=un a7;have ch:=a7.size;clear be bf bg a7;go_upto_region 11 with fail
      have P:=un bA.o.drew;have l:=un (bdrew aO.o);obtain⟨h0,_,_,_,h1,_⟩:=bf2 aJ.o;refine zaS (S:=fun w'=>w'.cell? ⟨W.heap.size,0,none⟩=some (A3,n+1,c3)∧w'.cell? ⟨W.heap.size,1,none⟩=some (B3,n+1,d3)) [10,11,12] (h:=fun hHeld=>?_);refine zaw [0,1,2,5,6] ?_;repeat refine tkL (hS:=hHeld) (h:=?_)
      refine zao ?_;refine zme (i:=3) (j:=7) rfl rfl (by kernel_rfl) (fun K d=>?_) (fun K d=>?_)
      ·skip
       go_simp;refine shutOn d fun hHeld=>?_
       clear d K;refine zme (i:=4) (j:=7) rfl rfl (by kernel_rfl) (fun K d=>?_) (fun K d=>?_)
       ·skip
        ((refine yJM (by rfl) _ _ (by rfl) (by rfl) ((P.o).alloc _) (by rfl) (zal _ _ _) (n:=(n+1)) (by rw[Zl];exact ay.o) (by omega) (by have:=aO.o.size;simp;omega) ?_);intro A4 c4 u1 x D r z;have N:=un x;have V:=un z;have o:=un ((Zo (l.o) (l.o).size _).trans r);have t:=un (D.blk (zak (aJ.o)) (by decide));obtain⟨g0,_,_,_,g1,_⟩:=bf2 t.o;clear x D r z)
        refine shutOn d fun hHeld=>?_
        clear d K;refine zaw [9] ?_;repeat refine tkL (hS:=hHeld) (h:=?_)
        refine zao ?_;refine zaB 7 (h:=fun K d=>?_);go_simp;refine shutOn d fun hHeld=>?_
        clear d K;refine zaB 8 (h:=fun K d=>?_)
        ((refine yJM (by rfl) _ _ (by rfl) (by rfl) (((N.o).alloc _).swap) (by rfl) (zal _ _ _) (n:=(n+1)) (by rw[Zl];exact ay.o) (by omega) (by have:=o.o.size;simp;omega) ?_);intro B4 d4 u2 q F y T;have O:=un q.swap;have M:=un (Xo (Zo (o.o) (o.o).size _) y);have f:=un (F.blk (zak (t.o)) (by decide));obtain⟨e0,_,ah,_,e1,_,aj,_⟩:=bf2 f.o;clear q F y T)
        refine shutOn d fun hHeld=>?_
        clear d K;refine zay 10 (h:=fun K d=>?_);go_simp;refine shutOff d ?_;clear d K;refine zay 11 (h:=fun K d=>?_);go_simp;refine shutOff d ?_;clear d K;refine zay 12 (h:=fun K d=>?_);go_simp;refine shutOff d ?_;clear d K;refine zaM (h:=?_);go_wp2;go_roundw
        have H:TKeep 136 u2 (u2.setCell ⟨W.heap.size,0,none⟩ (A4,(n+1)+1,c4)):=TKeep.set f.o _;have k2:TKeep 136 _ ((u2.setCell ⟨W.heap.size,0,none⟩ (A4,(n+1)+1,c4)).setCell ⟨W.heap.size,1,none⟩ (B4,(n+1)+1,d4)):=TKeep.set (zar _ f.o) _
        case rel=>exact⟨k+1,(n+1)+1,by go_num,by omega,A4,c4,B4,d4,by rw[E,Zj,ay.o];rfl,zar _ (zar _ f.o),by rw[E,ZG,ZG];exact(O.o.tk H (by decide)).tk k2 (by decide),bsc (p:=⟨W.heap.size,1,none⟩) (bsc (p:=⟨W.heap.size,0,none⟩) M.o (Za _)) (Za _)⟩
        case measure=>simp[intOf];omega
       ·skip
        go_simp;refine shutOn d fun hHeld=>?_
        clear d K;refine zaB 4 (h:=fun K d=>?_)
        ((refine yJM (by rfl) _ _ (by rfl) (by rfl) (((P.o).alloc _).alloc _) (by rfl) (zak (zal _ _ _)) (n:=(n+1)) (by rw[Zl];exact ay.o) (by omega) (by have:=aO.o.size;simp;omega) ?_);intro A4 c4 u1 x D r z;have N:=un x;have V:=un z;have o:=un ((Zo (Zo (l.o) (l.o).size _) (Zo (l.o) (l.o).size _).size _).trans r);have t:=un (D.blk (zak ((zak (aJ.o)))) (by decide));obtain⟨g0,_,_,_,g1,_⟩:=bf2 t.o;have Z:=un ((V.o _ (by simp<;>omega) (fun e=>by have:=(P.o.a.own.lt _ e.symm).2;(try simp at this)<;>omega)).trans (zbD _ _ _ _));clear x D r z)
        refine shutOn d fun hHeld=>?_
        clear d K;refine zaw [9] ?_;repeat refine tkL (hS:=hHeld) (h:=?_)
        refine zao ?_;refine zaB 8 (h:=fun K d=>?_)
        ((refine yJM (by rfl) _ _ (by rfl) (by rfl) ((N.o).swap) (by rfl) (Z.o) (n:=(n+1)) (by rw[Zl];exact ay.o) (by omega) (by have:=o.o.size;simp;omega) ?_);intro B4 d4 u2 q F y T;have O:=un q.swap;have M:=un (Xo (o.o) y);have f:=un (F.blk t.o (by decide));obtain⟨e0,_,ah,_,e1,_,aj,_⟩:=bf2 f.o;clear q F y T)
        refine shutOn d fun hHeld=>?_
        clear d K;refine zay 10 (h:=fun K d=>?_);go_simp;refine shutOff d ?_;clear d K;refine zay 11 (h:=fun K d=>?_);go_simp;refine shutOff d ?_;clear d K;refine zay 12 (h:=fun K d=>?_);go_simp;refine shutOff d ?_;clear d K;refine zaM (h:=?_);go_wp2;go_roundw
        have H:TKeep 136 u2 (u2.setCell ⟨W.heap.size,0,none⟩ (A4,(n+1)+1,c4)):=TKeep.set f.o _;have k2:TKeep 136 _ ((u2.setCell ⟨W.heap.size,0,none⟩ (A4,(n+1)+1,c4)).setCell ⟨W.heap.size,1,none⟩ (B4,(n+1)+1,d4)):=TKeep.set (zar _ f.o) _
        case rel=>exact⟨k+1,(n+1)+1,by go_num,by omega,A4,c4,B4,d4,by rw[E,Zj,ay.o];rfl,zar _ (zar _ f.o),by rw[E,ZG,ZG];exact(O.o.tk H (by decide)).tk k2 (by decide),bsc (p:=⟨W.heap.size,1,none⟩) (bsc (p:=⟨W.heap.size,0,none⟩) M.o (Za _)) (Za _)⟩
        case measure=>simp[intOf];omega
      ·skip
       go_simp;refine shutOn d fun hHeld=>?_
       clear d K;refine zaB 3 (h:=fun K d=>?_);go_simp;refine shutOn d fun hHeld=>?_
       clear d K;refine zaB 4 (h:=fun K d=>?_)
       ((refine yJM (by rfl) _ _ (by rfl) (by rfl) (((P.o).alloc _).alloc _) (by rfl) (zbD _ _ _ _) (n:=(n+1)) (by rw[Zl];exact ay.o) (by omega) (by have:=aO.o.size;simp;omega) ?_);intro A4 c4 u1 x D r z;have N:=un x;have V:=un z;have o:=un ((Zo (Zo (l.o) (l.o).size _) (Zo (l.o) (l.o).size _).size _).trans r);have t:=un (D.blk (zak ((zak (aJ.o)))) (by decide));obtain⟨g0,_,_,_,g1,_⟩:=bf2 t.o;have Z:=un ((V.o _ (by simp<;>omega) (fun e=>by have:=(P.o.a.own.lt _ e.symm).2;(try simp at this)<;>omega)).trans (zak (zal _ _ _)));clear x D r z)
       refine shutOn d fun hHeld=>?_
       clear d K;refine zaw [9] ?_;repeat refine tkL (hS:=hHeld) (h:=?_)
       refine zao ?_;refine zaB 8 (h:=fun K d=>?_)
       ((refine yJM (by rfl) _ _ (by rfl) (by rfl) ((N.o).swap) (by rfl) (Z.o) (n:=(n+1)) (by rw[Zl];exact ay.o) (by omega) (by have:=o.o.size;simp;omega) ?_);intro B4 d4 u2 q F y T;have O:=un q.swap;have M:=un (Xo (o.o) y);have f:=un (F.blk t.o (by decide));obtain⟨e0,_,ah,_,e1,_,aj,_⟩:=bf2 f.o;clear q F y T)
       refine shutOn d fun hHeld=>?_
       clear d K;refine zay 10 (h:=fun K d=>?_);go_simp;refine shutOff d ?_;clear d K;refine zay 11 (h:=fun K d=>?_);go_simp;refine shutOff d ?_;clear d K;refine zay 12 (h:=fun K d=>?_);go_simp;refine shutOff d ?_;clear d K;refine zaM (h:=?_);go_wp2;go_roundw
       have H:TKeep 136 u2 (u2.setCell ⟨W.heap.size,0,none⟩ (A4,(n+1)+1,c4)):=TKeep.set f.o _;have k2:TKeep 136 _ ((u2.setCell ⟨W.heap.size,0,none⟩ (A4,(n+1)+1,c4)).setCell ⟨W.heap.size,1,none⟩ (B4,(n+1)+1,d4)):=TKeep.set (zar _ f.o) _
       case rel=>exact⟨k+1,(n+1)+1,by go_num,by omega,A4,c4,B4,d4,by rw[E,Zj,ay.o];rfl,zar _ (zar _ f.o),by rw[E,ZG,ZG];exact(O.o.tk H (by decide)).tk k2 (by decide),bsc (p:=⟨W.heap.size,1,none⟩) (bsc (p:=⟨W.heap.size,0,none⟩) M.o (Za _)) (Za _)⟩
       case measure=>simp[intOf];omega
    ·have E:=bs.o aP.o aY.o;go_upto_region 11 with fail
     generalize hwv:(wr.alloc (.cells #[(Q,nq,cq),.int .i64 1,.bool g,(Ar,mr,cr),(Dr,md,ce)] 43))=wv at *
     clear hwv;have P:=un HP.o.drew;have l:=un (bdrew aa.o);obtain⟨h0,_,_,_,h1,_⟩:=bf2 X.o;refine zaS (S:=fun w'=>w'.cell? ⟨W.heap.size,0,none⟩=some (A,n,c)∧w'.cell? ⟨W.heap.size,1,none⟩=some (B,n,c')) [10,11,12] (h:=fun hHeld=>?_);refine zaw [0,1,2,5,6] ?_;repeat refine tkL (hS:=hHeld) (h:=?_)
     refine zao ?_;refine zme (i:=3) (j:=7) rfl rfl (by kernel_rfl) (fun K d=>?_) (fun K d=>?_)
     ·skip
      go_simp;refine shutOn d fun hHeld=>?_
      clear d K;refine zme (i:=4) (j:=7) rfl rfl (by kernel_rfl) (fun K d=>?_) (fun K d=>?_)
      ·skip
       ((refine yJM (by rfl) _ _ (by rfl) (by rfl) ((P.o).alloc _) (by rfl) (zal _ _ _) (n:=n) (by rw[Zl];exact G.o) (by omega) (by have:=aa.o.size;simp;omega) ?_);intro s u u1 x D r z;have N:=un x;have V:=un z;have o:=un ((Zo (l.o) (l.o).size _).trans r);have t:=un (D.blk (zak (X.o)) (by decide));obtain⟨g0,_,_,_,g1,_⟩:=bf2 t.o;clear x D r z)
       refine shutOn d fun hHeld=>?_
       clear d K;refine zaw [9] ?_;repeat refine tkL (hS:=hHeld) (h:=?_)
       refine zao ?_;refine zaB 7 (h:=fun K d=>?_);go_simp;refine shutOn d fun hHeld=>?_
       clear d K;refine zaB 8 (h:=fun K d=>?_)
       ((refine yJM (by rfl) _ _ (by rfl) (by rfl) (((N.o).alloc _).swap) (by rfl) (zal _ _ _) (n:=n) (by rw[Zl];exact G.o) (by omega) (by have:=o.o.size;simp;omega) ?_);intro I J u2 q F y T;have O:=un q.swap;have M:=un (Xo (Zo (o.o) (o.o).size _) y);have f:=un (F.blk (zak (t.o)) (by decide));obtain⟨e0,_,ah,_,e1,_,aj,_⟩:=bf2 f.o;clear q F y T)
       refine shutOn d fun hHeld=>?_
       clear d K;refine zay 10 (h:=fun K d=>?_);go_simp;refine shutOff d ?_;clear d K;refine zay 11 (h:=fun K d=>?_);go_simp;refine shutOff d ?_;clear d K;refine zay 12 (h:=fun K d=>?_);go_simp;refine shutOff d ?_;clear d K;refine zaM (h:=?_);go_wp2;go_roundw
       have H:TKeep 136 u2 (u2.setCell ⟨W.heap.size,0,none⟩ (s,n+1,u)):=TKeep.set f.o _;have k2:TKeep 136 _ ((u2.setCell ⟨W.heap.size,0,none⟩ (s,n+1,u)).setCell ⟨W.heap.size,1,none⟩ (I,n+1,J)):=TKeep.set (zar _ f.o) _
       case rel=>exact⟨k+1,n+1,by go_num,by omega,s,u,I,J,by rw[E,Zj,G.o];rfl,zar _ (zar _ f.o),by rw[E,ZG,ZG];exact(O.o.tk H (by decide)).tk k2 (by decide),bsc (p:=⟨W.heap.size,1,none⟩) (bsc (p:=⟨W.heap.size,0,none⟩) M.o (Za _)) (Za _)⟩
       case measure=>simp[intOf];omega
      ·skip
       go_simp;refine shutOn d fun hHeld=>?_
       clear d K;refine zaB 4 (h:=fun K d=>?_)
       ((refine yJM (by rfl) _ _ (by rfl) (by rfl) (((P.o).alloc _).alloc _) (by rfl) (zak (zal _ _ _)) (n:=n) (by rw[Zl];exact G.o) (by omega) (by have:=aa.o.size;simp;omega) ?_);intro s u u1 x D r z;have N:=un x;have V:=un z;have o:=un ((Zo (Zo (l.o) (l.o).size _) (Zo (l.o) (l.o).size _).size _).trans r);have t:=un (D.blk (zak ((zak (X.o)))) (by decide));obtain⟨g0,_,_,_,g1,_⟩:=bf2 t.o;have Z:=un ((V.o _ (by simp<;>omega) (fun e=>by have:=(P.o.a.own.lt _ e.symm).2;(try simp at this)<;>omega)).trans (zbD _ _ _ _));clear x D r z)
       refine shutOn d fun hHeld=>?_
       clear d K;refine zaw [9] ?_;repeat refine tkL (hS:=hHeld) (h:=?_)
       refine zao ?_;refine zaB 8 (h:=fun K d=>?_)
       ((refine yJM (by rfl) _ _ (by rfl) (by rfl) ((N.o).swap) (by rfl) (Z.o) (n:=n) (by rw[Zl];exact G.o) (by omega) (by have:=o.o.size;simp;omega) ?_);intro I J u2 q F y T;have O:=un q.swap;have M:=un (Xo (o.o) y);have f:=un (F.blk t.o (by decide));obtain⟨e0,_,ah,_,e1,_,aj,_⟩:=bf2 f.o;clear q F y T)
       refine shutOn d fun hHeld=>?_
       clear d K;refine zay 10 (h:=fun K d=>?_);go_simp;refine shutOff d ?_;clear d K;refine zay 11 (h:=fun K d=>?_);go_simp;refine shutOff d ?_;clear d K;refine zay 12 (h:=fun K d=>?_);go_simp;refine shutOff d ?_;clear d K;refine zaM (h:=?_);go_wp2;go_roundw
       have H:TKeep 136 u2 (u2.setCell ⟨W.heap.size,0,none⟩ (s,n+1,u)):=TKeep.set f.o _;have k2:TKeep 136 _ ((u2.setCell ⟨W.heap.size,0,none⟩ (s,n+1,u)).setCell ⟨W.heap.size,1,none⟩ (I,n+1,J)):=TKeep.set (zar _ f.o) _
       case rel=>exact⟨k+1,n+1,by go_num,by omega,s,u,I,J,by rw[E,Zj,G.o];rfl,zar _ (zar _ f.o),by rw[E,ZG,ZG];exact(O.o.tk H (by decide)).tk k2 (by decide),bsc (p:=⟨W.heap.size,1,none⟩) (bsc (p:=⟨W.heap.size,0,none⟩) M.o (Za _)) (Za _)⟩
       case measure=>simp[intOf];omega
     ·skip
      go_simp;refine shutOn d fun hHeld=>?_
      clear d K;refine zaB 3 (h:=fun K d=>?_);go_simp;refine shutOn d fun hHeld=>?_
      clear d K;refine zaB 4 (h:=fun K d=>?_)
      ((refine yJM (by rfl) _ _ (by rfl) (by rfl) (((P.o).alloc _).alloc _) (by rfl) (zbD _ _ _ _) (n:=n) (by rw[Zl];exact G.o) (by omega) (by have:=aa.o.size;simp;omega) ?_);intro s u u1 x D r z;have N:=un x;have V:=un z;have o:=un ((Zo (Zo (l.o) (l.o).size _) (Zo (l.o) (l.o).size _).size _).trans r);have t:=un (D.blk (zak ((zak (X.o)))) (by decide));obtain⟨g0,_,_,_,g1,_⟩:=bf2 t.o;have Z:=un ((V.o _ (by simp<;>omega) (fun e=>by have:=(P.o.a.own.lt _ e.symm).2;(try simp at this)<;>omega)).trans (zak (zal _ _ _)));clear x D r z)
      refine shutOn d fun hHeld=>?_
      clear d K;refine zaw [9] ?_;repeat refine tkL (hS:=hHeld) (h:=?_)
      refine zao ?_;refine zaB 8 (h:=fun K d=>?_)
      ((refine yJM (by rfl) _ _ (by rfl) (by rfl) ((N.o).swap) (by rfl) (Z.o) (n:=n) (by rw[Zl];exact G.o) (by omega) (by have:=o.o.size;simp;omega) ?_);intro I J u2 q F y T;have O:=un q.swap;have M:=un (Xo (o.o) y);have f:=un (F.blk t.o (by decide));obtain⟨e0,_,ah,_,e1,_,aj,_⟩:=bf2 f.o;clear q F y T)
      refine shutOn d fun hHeld=>?_
      clear d K;refine zay 10 (h:=fun K d=>?_);go_simp;refine shutOff d ?_;clear d K;refine zay 11 (h:=fun K d=>?_);go_simp;refine shutOff d ?_;clear d K;refine zay 12 (h:=fun K d=>?_);go_simp;refine shutOff d ?_;clear d K;refine zaM (h:=?_);go_wp2;go_roundw
      have H:TKeep 136 u2 (u2.setCell ⟨W.heap.size,0,none⟩ (s,n+1,u)):=TKeep.set f.o _;have k2:TKeep 136 _ ((u2.setCell ⟨W.heap.size,0,none⟩ (s,n+1,u)).setCell ⟨W.heap.size,1,none⟩ (I,n+1,J)):=TKeep.set (zar _ f.o) _
      case rel=>exact⟨k+1,n+1,by go_num,by omega,s,u,I,J,by rw[E,Zj,G.o];rfl,zar _ (zar _ f.o),by rw[E,ZG,ZG];exact(O.o.tk H (by decide)).tk k2 (by decide),bsc (p:=⟨W.heap.size,1,none⟩) (bsc (p:=⟨W.heap.size,0,none⟩) M.o (Za _)) (Za _)⟩
      case measure=>simp[intOf];omega
    ·have E:=bt.o aP.o aY.o;go_upto_region 12 with fail
     generalize hwv:(wr.alloc (.cells #[(Q,nq,cq),.int .i64 2,.bool g,(Ar,mr,cr),(Dr,md,ce)] 43))=wv at *
     clear hwv;have P:=un HP.o.drew;have l:=un (bdrew aa.o);obtain⟨h0,_,_,_,h1,_⟩:=bf2 X.o;refine zaS (S:=fun w'=>w'.cell? ⟨W.heap.size,0,none⟩=some (A,n,c)∧w'.cell? ⟨W.heap.size,1,none⟩=some (B,n,c')) [10,11,12] (h:=fun hHeld=>?_);refine zaw [0,1,2,5,6] ?_;repeat refine tkL (hS:=hHeld) (h:=?_)
     refine zao ?_;refine zme (i:=3) (j:=7) rfl rfl (by kernel_rfl) (fun K d=>?_) (fun K d=>?_)
     ·skip
      go_simp;refine shutOn d fun hHeld=>?_
      clear d K;refine zme (i:=4) (j:=7) rfl rfl (by kernel_rfl) (fun K d=>?_) (fun K d=>?_)
      ·skip
       ((refine yJM (by rfl) _ _ (by rfl) (by rfl) ((P.o).alloc _) (by rfl) (zal _ _ _) (n:=n) (by rw[Zl];exact G.o) (by omega) (by have:=aa.o.size;simp;omega) ?_);intro s u u1 x D r z;have N:=un x;have V:=un z;have o:=un ((Zo (l.o) (l.o).size _).trans r);have t:=un (D.blk (zak (X.o)) (by decide));obtain⟨g0,_,_,_,g1,_⟩:=bf2 t.o;clear x D r z)
       refine shutOn d fun hHeld=>?_
       clear d K;refine zaw [9] ?_;repeat refine tkL (hS:=hHeld) (h:=?_)
       refine zao ?_;refine zaB 7 (h:=fun K d=>?_);go_simp;refine shutOn d fun hHeld=>?_
       clear d K;refine zaB 8 (h:=fun K d=>?_)
       ((refine yJM (by rfl) _ _ (by rfl) (by rfl) (((N.o).alloc _).swap) (by rfl) (zal _ _ _) (n:=n) (by rw[Zl];exact G.o) (by omega) (by have:=o.o.size;simp;omega) ?_);intro I J u2 q F y T;have O:=un q.swap;have M:=un (Xo (Zo (o.o) (o.o).size _) y);have f:=un (F.blk (zak (t.o)) (by decide));obtain⟨e0,_,ah,_,e1,_,aj,_⟩:=bf2 f.o;clear q F y T)
       refine shutOn d fun hHeld=>?_
       clear d K;refine zay 10 (h:=fun K d=>?_);go_simp;refine shutOff d ?_;clear d K;refine zay 11 (h:=fun K d=>?_);go_simp;refine shutOff d ?_;clear d K;refine zay 12 (h:=fun K d=>?_);go_simp;refine shutOff d ?_;clear d K;refine zaM (h:=?_);go_wp2;go_roundw
       have H:TKeep 136 u2 (u2.setCell ⟨W.heap.size,0,none⟩ (s,n+1,u)):=TKeep.set f.o _;have k2:TKeep 136 _ ((u2.setCell ⟨W.heap.size,0,none⟩ (s,n+1,u)).setCell ⟨W.heap.size,1,none⟩ (I,n+1,J)):=TKeep.set (zar _ f.o) _
       case rel=>exact⟨k+1,n+1,by go_num,by omega,s,u,I,J,by rw[E,Zj,G.o];rfl,zar _ (zar _ f.o),by rw[E,ZG,ZG];exact(O.o.tk H (by decide)).tk k2 (by decide),bsc (p:=⟨W.heap.size,1,none⟩) (bsc (p:=⟨W.heap.size,0,none⟩) M.o (Za _)) (Za _)⟩
       case measure=>simp[intOf];omega
      ·skip
       go_simp;refine shutOn d fun hHeld=>?_
       clear d K;refine zaB 4 (h:=fun K d=>?_)
       ((refine yJM (by rfl) _ _ (by rfl) (by rfl) (((P.o).alloc _).alloc _) (by rfl) (zak (zal _ _ _)) (n:=n) (by rw[Zl];exact G.o) (by omega) (by have:=aa.o.size;simp;omega) ?_);intro s u u1 x D r z;have N:=un x;have V:=un z;have o:=un ((Zo (Zo (l.o) (l.o).size _) (Zo (l.o) (l.o).size _).size _).trans r);have t:=un (D.blk (zak ((zak (X.o)))) (by decide));obtain⟨g0,_,_,_,g1,_⟩:=bf2 t.o;have Z:=un ((V.o _ (by simp<;>omega) (fun e=>by have:=(P.o.a.own.lt _ e.symm).2;(try simp at this)<;>omega)).trans (zbD _ _ _ _));clear x D r z)
       refine shutOn d fun hHeld=>?_
       clear d K;refine zaw [9] ?_;repeat refine tkL (hS:=hHeld) (h:=?_)
       refine zao ?_;refine zaB 8 (h:=fun K d=>?_)
       ((refine yJM (by rfl) _ _ (by rfl) (by rfl) ((N.o).swap) (by rfl) (Z.o) (n:=n) (by rw[Zl];exact G.o) (by omega) (by have:=o.o.size;simp;omega) ?_);intro I J u2 q F y T;have O:=un q.swap;have M:=un (Xo (o.o) y);have f:=un (F.blk t.o (by decide));obtain⟨e0,_,ah,_,e1,_,aj,_⟩:=bf2 f.o;clear q F y T)
       refine shutOn d fun hHeld=>?_
       clear d K;refine zay 10 (h:=fun K d=>?_);go_simp;refine shutOff d ?_;clear d K;refine zay 11 (h:=fun K d=>?_);go_simp;refine shutOff d ?_;clear d K;refine zay 12 (h:=fun K d=>?_);go_simp;refine shutOff d ?_;clear d K;refine zaM (h:=?_);go_wp2;go_roundw
       have H:TKeep 136 u2 (u2.setCell ⟨W.heap.size,0,none⟩ (s,n+1,u)):=TKeep.set f.o _;have k2:TKeep 136 _ ((u2.setCell ⟨W.heap.size,0,none⟩ (s,n+1,u)).setCell ⟨W.heap.size,1,none⟩ (I,n+1,J)):=TKeep.set (zar _ f.o) _
       case rel=>exact⟨k+1,n+1,by go_num,by omega,s,u,I,J,by rw[E,Zj,G.o];rfl,zar _ (zar _ f.o),by rw[E,ZG,ZG];exact(O.o.tk H (by decide)).tk k2 (by decide),bsc (p:=⟨W.heap.size,1,none⟩) (bsc (p:=⟨W.heap.size,0,none⟩) M.o (Za _)) (Za _)⟩
       case measure=>simp[intOf];omega
     ·skip
      go_simp;refine shutOn d fun hHeld=>?_
      clear d K;refine zaB 3 (h:=fun K d=>?_);go_simp;refine shutOn d fun hHeld=>?_
      clear d K;refine zaB 4 (h:=fun K d=>?_)
      ((refine yJM (by rfl) _ _ (by rfl) (by rfl) (((P.o).alloc _).alloc _) (by rfl) (zbD _ _ _ _) (n:=n) (by rw[Zl];exact G.o) (by omega) (by have:=aa.o.size;simp;omega) ?_);intro s u u1 x D r z;have N:=un x;have V:=un z;have o:=un ((Zo (Zo (l.o) (l.o).size _) (Zo (l.o) (l.o).size _).size _).trans r);have t:=un (D.blk (zak ((zak (X.o)))) (by decide));obtain⟨g0,_,_,_,g1,_⟩:=bf2 t.o;have Z:=un ((V.o _ (by simp<;>omega) (fun e=>by have:=(P.o.a.own.lt _ e.symm).2;(try simp at this)<;>omega)).trans (zak (zal _ _ _)));clear x D r z)
      refine shutOn d fun hHeld=>?_
      clear d K;refine zaw [9] ?_;repeat refine tkL (hS:=hHeld) (h:=?_)
      refine zao ?_;refine zaB 8 (h:=fun K d=>?_)
      ((refine yJM (by rfl) _ _ (by rfl) (by rfl) ((N.o).swap) (by rfl) (Z.o) (n:=n) (by rw[Zl];exact G.o) (by omega) (by have:=o.o.size;simp;omega) ?_);intro I J u2 q F y T;have O:=un q.swap;have M:=un (Xo (o.o) y);have f:=un (F.blk t.o (by decide));obtain⟨e0,_,ah,_,e1,_,aj,_⟩:=bf2 f.o;clear q F y T)
      refine shutOn d fun hHeld=>?_
      clear d K;refine zay 10 (h:=fun K d=>?_);go_simp;refine shutOff d ?_;clear d K;refine zay 11 (h:=fun K d=>?_);go_simp;refine shutOff d ?_;clear d K;refine zay 12 (h:=fun K d=>?_);go_simp;refine shutOff d ?_;clear d K;refine zaM (h:=?_);go_wp2;go_roundw
      have H:TKeep 136 u2 (u2.setCell ⟨W.heap.size,0,none⟩ (s,n+1,u)):=TKeep.set f.o _;have k2:TKeep 136 _ ((u2.setCell ⟨W.heap.size,0,none⟩ (s,n+1,u)).setCell ⟨W.heap.size,1,none⟩ (I,n+1,J)):=TKeep.set (zar _ f.o) _
      case rel=>exact⟨k+1,n+1,by go_num,by omega,s,u,I,J,by rw[E,Zj,G.o];rfl,zar _ (zar _ f.o),by rw[E,ZG,ZG];exact(O.o.tk H (by decide)).tk k2 (by decide),bsc (p:=⟨W.heap.size,1,none⟩) (bsc (p:=⟨W.heap.size,0,none⟩) M.o (Za _)) (Za _)⟩
      case measure=>simp[intOf];omega
  ·obtain rfl:k=m:=by omega
   have aX:=un (zad Y aS.o);have aI:=un (zad Y aT.o);have bm:=un (BB.o.trans ((Y).mono BB.o.size));obtain⟨bl,bk,bZ,_,bn,bj,b3,_⟩:=bf2 aI.o;have X:=un hO;have HP:=un hP;obtain⟨y0,bQ,bG,bH,y1,bR,bI,bJ⟩:=bf2 X.o;clear hO hP Y;go_wp2;refine Zd (v:=.agg #[(A,n,c),(B,n,c')]) (by simp[results,results66,go_sem,bl,bk,bn,bj]) rfl ?_
   have H:TKeep 136 wr (wr.setCell ⟨w.heap.size+1,0,none⟩ (A,n,c)):=TKeep.set aI.o _;have k2:TKeep 136 _ ((wr.setCell ⟨w.heap.size+1,0,none⟩ (A,n,c)).setCell ⟨w.heap.size+1,1,none⟩ (B,n,c')):=TKeep.set (zar _ aI.o) _;have q:=(HP.o.tk H (by decide)).tk k2 (by decide);exact⟨A,c,B,c',by rw[aM],by rw[aM];exact q.a.base (Zb _),by rw[aM];exact q.b.base (Zb _),bsc (bsc bm.o)⟩
end Ra
theorem yMP{U:List (Nat × Int)}{x:Nat × Int}(h:U[k]? = some x):yJE U rows j (k+1)=yJE U rows j k++[(x.2:Rat)*el (rows.getD x.1 default).coef j]:=by
 unfold yJE;rw[ZN,h];simp
theorem yLQ{U:List (Nat × Int)}(h:k≤U.length):(yJE U rows j k).length=k:=by
 unfold yJE;rw[Zl,Zn];omega
theorem yNq(U:List (Nat × Int))(rows:List PRow)(j:Nat):yJE U rows j U.length=yJC U rows j:=by
 unfold yJE yJC;rw[ZH (Za _)]
structure WorS (w:World) (A:OA) (n c:Nat) (B:OA) (c' m:Nat) (U:List (Nat × Int)):Prop where
  row:IntsZ w 0 (A,n,c) (U.map fun x=>(x.1:Int))
  sg:IntsZ w 0 (B,n,c') (U.map fun x=>x.2)
  lt:∀x∈U,x.1<m
  one:∀x∈U,x.2=1∨x.2 = -1
namespace WorS
variable {w w':World} {A:OA} {n c:Nat} {B:OA} {c' m:Nat} {U:List (Nat × Int)}
theorem below(h:WorS w A n c B c' m U)(d:Below w w w'):WorS w' A n c B c' m U:=⟨h.row.below d,h.sg.below d,h.lt,h.one⟩
theorem alloc(h:WorS w A n c B c' m U)(o:Obj):WorS (w.alloc o) A n c B c' m U:=h.below (zae w o)
theorem drew(h:WorS w A n c B c' m U):WorS w.drew A n c B c' m U:=h.below (zap w 1)
theorem len(h:WorS w A n c B c' m U):n=U.length:=by rw[h.row.len,Zl]
end WorS
theorem yO0(d:TypeId)(v x:Value)(w:World):(Builtin.append_ #[28,27] d #[v,x]).run prog w=(Builtin.append_ #[28,28] d #[v,x]).run prog w:=by
 have hk:prog.underlying 27=some (.slice 41):=by kernel_rfl
 cases v<;>simp[Builtin.append_,run_underlying underlying28,run_underlying hk]
theorem yKd(C:TypeId){L:Nat}(s:VecS w H v ps)(e:VecS w L (A,n,c) qs)(hN:ps.length+n=N)(ae:N≤1000000)(G:H≤w.heap.size) :
  ∃(d:OA) (c':Nat) (w':World),(Builtin.append_ #[28,28] C #[v,(A,n,c)]).run prog w=.ok (d,N,c') w'∧VecS w' H (d,N,c') (ps++qs)∧Below H w w':=by
 subst hN;obtain⟨K,hi,W,X,Y⟩:=info_parts ze0;obtain⟨l,h1,x,p⟩:=s.row;obtain rfl:=e.len;rcases e.form.2.2.2 with ⟨rfl,rfl,rfl⟩ | ⟨g,rfl,ac,ad⟩
 ·have z:=run_append_owned_none (P:=prog) (w:=w) H 28 C 41 K 3 underlying28 hi v ps.length (rcells l) p;obtain⟨d,Z,c',rfl⟩:=s.slice;obtain rfl:=s.len;grind[Below.refl]
 ·obtain⟨f,t,F,M⟩:=e.row;have S:∀u∈rcells f,u.oneCell'=true:=ziJ f fun r hr=>by
   obtain⟨k,hk,R⟩:=X9 hr;have O:f[k]? = some r:=by rw[Ze hk,R]
   obtain⟨q,V⟩:∃q,qs[k]? = some q:=⟨qs[k]'(by omega),Ze _⟩
   obtain⟨A,m,c,D,md,cd,h1,x⟩:=(F k r q O V).shape;rw[h1,x];exact⟨rfl,rfl⟩
  obtain⟨v',w',z,T,I,_⟩:=run_append_own (P:=prog) w H 28 C 41 K _ 3 56 underlying28 hi W X Y rfl (by decide) v ps.length (rcells l) p ⟨g,0,none⟩ qs.length c (rcells f) (by rw[zcC,t])
   (fun j u e=>by
    have hj:=(Zm.1 e).1;rw[zcC,t]at hj;show w.cell? (Addr.add _ _)=_
    rw[show(⟨g,0,none⟩:Addr).add j=⟨g,j,none⟩by unfold Addr.add;split<;>simp_all];rw[M.cellAt j hj];exact e) S (by unfold maxLen;omega) (by omega) G
  have hk:=zh3 p I;have y:VecS w' H v' (ps++qs):=by
   refine⟨l++f,by simp[h1,t],fun k r q i o=>?_,by rw[Zj,zh4];exact T⟩;by_cases Q:k<l.length
   ·rw[ZO Q]at i;rw[ZO (by omega)]at o;exact(x k r q i o).keepT hk
   ·rw[Zy (by omega)]at i;rw[Zy (by omega),←h1]at o;exact(F _ r q i o).keepT hk
  obtain⟨d,Z,c',rfl⟩:=y.slice;have J:=y.len;rw[Zj]at J;subst J;exact⟨d,c',w',z,y,(Zg _ _).grown I G (fun k hk=>(p.lt k hk).1)⟩
theorem yKi{ops:Array Oper}{rest:List Oper}{o:Oper}{a:Act}{Q:Exit→Act→World→Prop}(l:o.guard=none)(s x:Operand)
  (q:o.op=.call { callee:=.builtin .append,args:=#[s,x],argTypes:=#[28,27] })    (t:a.eval s=v) (y:VecS w H v ps)   (z:a.eval x=(A,n,c)) (u:VecS w e (A,n,c) qs)
   (hN:ps.length+n=N) (p:N≤1000000) (g:H≤w.heap.size)
  (i:∀d c' w',VecS w' H (.slice d N c') (ps++qs)→Below H w w'→wpList prog ops Q rest (a.put o.dst (.slice d N c')) w'):wpList prog ops Q (o::rest) a w:=by
 obtain⟨d,c',w',r,h1,f⟩:=yKd o.type y u hN p g;grind[wpList_plain,Lib.wp_append_run,yO0]
theorem yKb{ops:Array Oper}{o:Oper}{a:Act}{K:Act→World→Prop}{Q:Exit→Act→World→Prop}{E:Prop}(hg:o.guard=none)(s x:Operand)
  (l:o.op=.call { callee:=.builtin .append,args:=#[s,x],argTypes:=#[28,28] })    (q:a.eval s=v) (t:VecS w H v ps)   (u:a.eval x=(A,n,c)) (r:VecS w e (A,n,c) qs)
   (hN:ps.length+n=N) (j:N≤1000000) (g:H≤w.heap.size)
  (i:∀d c' w',VecS w' H (.slice d N c') (ps++qs)→Below H w w'→K (a.put o.dst (.slice d N c')) w') :
  if Region.wanted o (yielded ops a.tmps)=true then Oper.wp prog o a w K Q else E:=by
 have hw:Region.wanted o (yielded ops a.tmps)=true:=by simp[Region.wanted,hg]
 rw[if_pos hw];obtain⟨d,c',w',p,h1,f⟩:=yKd o.type t r hN j g;grind[Lib.wp_append_run]
namespace Ra
theorem column(S:Nat)(hS:4*(S+1)+8≤LIM)(A:OA)(n c:Nat)(B:OA)(c':Nat)(U:List (Nat × Int))(C:OA)(nC X:Nat)(R:OA)(m z:Nat)(rows:List PRow)(j:Nat)(M:OA)(v cM:Nat)(more:List Rat)(w:World)(H:WorS w A n c B c' m U)(hr:RowsS w 0 (R,m,z) rows)(hM:VecS w 0 (M,v,cM) more)(hj:j<nC)(hC:∀p∈rows,p.coef.length=nC)(hz:∀p∈rows,∀q∈p.coef,mw q≤S)(hn:n≤100)(cm:v≤100)(cl:nC≤100) :
  Calls prog 67 #[.agg #[(A,n,c),(B,n,c')],.agg #[(C,nC,X),(R,m,z)],(j:Int),(M,v,cM)] w fun e w'=>∃(D:OA) (d:Nat),e=.returned (D,n+v,d)∧VecS w' w (D,n+v,d) (yJC U rows j++more)∧Below w w w':=by
 have P:=un H.len;have a8:=un hr.len;have a2:=un H.lt;have a5:=un H.one;have ay:=un hC;have bh:=un hz;have bc:=un hS;have cn:n≤9223372036854775807:=by omega
 clear hS hC hz;obtain⟨W,s⟩:∃W,((w.alloc (.cells #[(A,n,c),(B,n,c')] 136)).alloc (.cells #[(C,nC,X),(R,m,z)] 31))=W:=⟨_,rfl⟩
 have ap:=un (show W.heap[w.heap.size]? = some (.cells #[(A,n,c),(B,n,c')] 136 (0,0))by rw[←s];exact zak (zam (by simp)));have aq:=un (show W.heap[w.heap.size+1]? = some (.cells #[(C,nC,X),(R,m,z)] 31 (0,0))by rw[←s];exact zam (by simp));have t:=un (show Below w w W by rw[←s];exact(zae w _).alloc (by simp) _);have HZ:=un (show w.heap.size+2≤W.heap.size by rw[←s];simp);have y:=un (show WorS W A n c B c' m U by rw[←s];exact((H).alloc _).alloc _)
 have O:=un (show RowsS W 0 (R,m,z) rows by rw[←s];exact((hr).alloc _).alloc _);have HM:=un (show VecS W 0 (M,v,cM) more by rw[←s];exact((hM).alloc _).alloc _);obtain⟨cX,c2,cY,cU⟩:=bc2 ap.o;obtain⟨_,_,c5,dd⟩:=bc2 aq.o;clear H hr hM;go_enter func67,ntmps67;go_wp2_with fail
 clear s;have co:=HZ.o
 go_loopw [9,15] (fun ov i wr=>∃(k:Nat) (E:OA) (Y:Nat),i=.int .i64 k∧ov=(E,k,Y)∧k≤n∧VecS wr W.heap.size (E,k,Y) (yJE U rows j k)∧Below W.heap.size W wr)
  (fun _ i _=>n-(intOf i).toNat)
 case atStart=>exact⟨0,none,0,rfl,rfl,Zb _,VecS.nil _ _,Zg _ _⟩
 case round =>
  obtain⟨k,E,Y,rfl,rfl,hk,F,f⟩:=hrel;by_cases bl:k<n
  ·obtain⟨x,I⟩:∃x,U[k]? = some x:=⟨U[k]'(by rw[←P.o];exact bl),Ze _⟩
   have aw:=Zh I;have ao:=un (a2.o x aw);obtain⟨p,hp⟩:∃p,rows[x.1]? = some p:=⟨rows[x.1]'(by rw[←a8.o];exact ao.o),Ze _⟩
   have ad:=Zh hp;have av:p.coef[j]? = some (el p.coef j):=zaH (by rw[ay.o p ad];exact hj);have bd:=un (show yJE U rows j (k+1)=yJE U rows j k++[(x.2:Rat)*el p.coef j]by rw[yMP I,Zi,hp];rfl);have am:=un (yLQ (rows:=rows) (j:=j) (show k≤U.length by rw[←P.o];exact hk));obtain⟨T,rfl,_,b8⟩:=y.o.row.has (by omega);obtain⟨V,rfl,_,b9⟩:=y.o.sg.has (by omega);have aG:=(y.o.row.at_ (k:=k) (x:=(x.1:Int)) (by simp[I]))
   have aH:=(y.o.sg.at_ (k:=k) (x:=x.2) (by simp[I]))
   obtain⟨b,rfl,b6,b7⟩:=O.o.has (by have:=ao.o;omega);obtain⟨Q,nq,cq,g,Ar,mr,cr,Dr,md,ce,k0,_,_,_,_,ae,_⟩:=O.o.at_ hp;obtain rfl:nC=nq:=by rw[ae.len,ay.o p ad]
   obtain⟨r,rfl,_,cb⟩:=ae.has (by omega);obtain⟨ga,J,ma,Z,L,ag,aa,y0,y1,y2,aF⟩:=ae.at_ av;have a9:=un (a5.o x aw);have al:=un (show I64 x.2 by rcases a9.o with e | e<;>rw[e]<;>exact⟨by decide,by decide⟩);have a1:=un (zu9 _ al.o);have a7:=un (bh.o p ad _ (Zh av));generalize el p.coef j=q at *
   obtain⟨u,sg⟩:=x;have cc:u<m:=ao.o;have aA:=un F;have ai:=un (zad f ap.o);have ah:=un (zad f aq.o);have aL:=un (HM.o.below f);have HW:=un (show Bel W wr from Bel.mk f);have HQ:=un (show RatS wr ga (J,ma,Z) (L,ag,aa) q from(aF.below f));have HV:=un (show VecS wr W.heap.size (E,k,Y) (yJE U rows j k)from F);obtain⟨bC,_,bD,_⟩:=bc2 ai.o
   obtain⟨bK,_,bM,_⟩:=bc2 ah.o;have bI:wr.cell? ⟨T,k,none⟩=some (.int .i64 (u:Int)):=zab f aG;have bs:=zaa bI;have bJ:wr.cell? ⟨V,k,none⟩=some (.int .i64 sg):=zab f aH;have bt:=zaa bJ;have bN:wr.cell? ⟨b,u*5,none⟩=some (r,nC,cq):=zab f k0;have bu:=zaa bN;have bO:wr.cell? ⟨r,j*3,none⟩=some (.bool ga):=zab f y0;have bv:=zaa bO;have bS:wr.cell? ⟨r,j*3+1,none⟩=some (J,ma,Z):=zab f y1;have bw:=zaa bS;have bT:wr.cell? ⟨r,j*3+2,none⟩=some (L,ag,aa):=zab f y2
   have bx:=zaa bT;clear F f aG aH k0 ae y0 y1 y2 aF hp av I aw ad;have cd:(0:Int)≤(k:Int):=Zf _;have cf:(k:Int)<(n:Int):=by omega
   have cg:(0:Int)≤(u:Int):=Zf _;have ch:(u:Int)<(m:Int):=by omega
   have ci:(0:Int)≤(j:Int):=Zf _;have cj:(j:Int)<(nC:Int):=by omega
   go_upto_region 5 with fail
   have L1:=un (show 4*(mw ((sg:Int):Rat)+mw q)+8≤LIM by have h1:mw ((sg:Int):Rat)≤1:=a1.o;have h2:=a7.o;have h3:=bc.o;omega)
   refine za2 (S:=fun w'=>w'.cell? ⟨w,0,none⟩=some (T,n,c)∧w'.cell? ⟨w,1,none⟩=some (V,n,c')∧w'.cell? ⟨w.heap.size+1,0,none⟩=some (C,nC,X)∧w'.cell? ⟨w.heap.size+1,1,none⟩=some (b,m,z)∧w'.cell? ⟨T,k,none⟩=some (.int .i64 (u:Int))∧w'.cell? ⟨V,k,none⟩=some (.int .i64 sg)∧w'.cell? ⟨b,u*5,none⟩=some (r,nC,cq)∧w'.cell? ⟨r,j*3,none⟩=some (.bool ga)∧w'.cell? ⟨r,j*3+1,none⟩=some (J,ma,Z)∧w'.cell? ⟨r,j*3+2,none⟩=some (L,ag,aa)) 19 (h:=fun hHeld=>?_)
   refine zaw [0,1,2,3,4,5,7,8,9,10,11,12,13,14,15] ?_;repeat refine tkE (hS:=hHeld) (h:=?_)
   refine zao ?_;refine zaN 6 (h:=fun K o=>?_);go_simp
   (go_at_call 13;(with_reducible refine(Rt.int sg al.o.1 al.o.2 _).mono ?_);rintro e v1 ⟨g7,A7,m7,c7,D7,md7,cd7,rfl,hn7,hb⟩;have aM:=un (zad hb ai.o);have aN:=un (zad hb ah.o);have bX:=un (HW.o.drew.below hb);have bA:=un (HQ.o.drew.below hb);have bY:=un (HV.o.drew.below hb);have a3:=un (show RatS v1 g7 (A7,m7,c7) (D7,md7,cd7) ((sg:Int):Rat)from hn7);obtain⟨cZ,_,c0,_⟩:=bc2 aM.o;obtain⟨da,_,db,_⟩:=bc2 aN.o;have aO:=zab hb bs;have aQ:=zab hb bt;have aR:=zab hb bu;have aS:=zab hb bv;have aW:=zab hb bw;have aY:=zab hb bx;clear hn7 hb)
   (try go_wp2_with fail)
   refine shutOn o fun hHeld=>?_
   clear o K;refine zaN 16 (h:=fun K o=>?_);go_simp
   (go_at_call 15;(with_reducible refine(Rt.mul g7 A7 m7 c7 D7 md7 cd7 ((sg:Int):Rat) ga J ma Z L ag aa q _ a3.o bA.o L1.o).mono ?_);rintro e v2 ⟨g8,A8,m8,c8,D8,md8,cd8,rfl,hn8,hb⟩;have bL:=un (zad hb aM.o);have bR:=un (zad hb aN.o);have a0:=un (bX.o.below hb);have bZ:=un (bY.o.below hb);have a4:=un (show RatS v2 g8 (A8,m8,c8) (D8,md8,cd8) (((sg:Int):Rat)*q)from hn8);obtain⟨bP,_,bQ,_⟩:=bc2 bL.o;obtain⟨bU,_,bV,_⟩:=bc2 bR.o;have aP:=zab hb aO;have aT:=zab hb aQ;have aV:=zab hb aR;have aU:=zab hb aS;have aX:=zab hb aW;have aZ:=zab hb aY;clear hn8 hb)
   (try go_wp2_with fail)
   refine shutOn o fun hHeld=>?_
   clear o K;refine zaN 17 (h:=fun K o=>?_);go_simp;refine shutOn o fun hHeld=>?_
   clear o K;refine zaN 18 (h:=fun K o=>?_)
   ((refine zTC (by rfl) _ _ (by rfl) (by rfl) (bZ.o.alloc _) (by rfl) (zal _ _ _) (a4.o.alloc _) (N:=k) am.o (by omega) (by have:=a0.o.b.size;simp;omega) ?_);intro A9 c9 v9 G bj l bn bk bm;have an:=un G;have ak:=un ((a0.o.alloc _).b.trans l);have t0:=zKh l (show w.heap.size<W.heap.size by omega) (cell_al (ob:=.cells #[g8,(A8,m8,c8),(D8,md8,cd8)] 41) bP);have t1:=zKh l (show w.heap.size<W.heap.size by omega) (cell_al (ob:=.cells #[g8,(A8,m8,c8),(D8,md8,cd8)] 41) bQ);have t2:=zKh l (show w.heap.size+1<W.heap.size by omega) (cell_al (ob:=.cells #[g8,(A8,m8,c8),(D8,md8,cd8)] 41) bU);have t3:=zKh l (show w.heap.size+1<W.heap.size by omega) (cell_al (ob:=.cells #[g8,(A8,m8,c8),(D8,md8,cd8)] 41) bV);have t4:=zKh l (show T<W.heap.size by omega) (cell_al (ob:=.cells #[g8,(A8,m8,c8),(D8,md8,cd8)] 41) aP);have t5:=zKh l (show V<W.heap.size by omega) (cell_al (ob:=.cells #[g8,(A8,m8,c8),(D8,md8,cd8)] 41) aT);have t6:=zKh l (show b<W.heap.size by omega) (cell_al (ob:=.cells #[g8,(A8,m8,c8),(D8,md8,cd8)] 41) aV);have t7:=zKh l (show r<W.heap.size by omega) (cell_al (ob:=.cells #[g8,(A8,m8,c8),(D8,md8,cd8)] 41) aU);have t8:=zKh l (show r<W.heap.size by omega) (cell_al (ob:=.cells #[g8,(A8,m8,c8),(D8,md8,cd8)] 41) aX);have t9:=zKh l (show r<W.heap.size by omega) (cell_al (ob:=.cells #[g8,(A8,m8,c8),(D8,md8,cd8)] 41) aZ);clear G bj l bn bk bm)
   refine shutOn o fun hHeld=>?_
   clear o K;refine zba (h:=fun K o=>?_);go_simp;refine shutOff o ?_;clear o K;refine za1 (h:=?_)
   all_goals
    go_wp2;go_roundw
    case rel=>exact⟨k+1,A9,c9,by go_num,rfl,by omega,by rw[bd.o];exact an.o,ak.o⟩
    case measure=>simp[intOf];omega
  ·obtain rfl:k=n:=by omega
   have ax:=un (show yJE U rows j k=yJC U rows j by rw[P.o];exact yNq U rows j);rw[ax.o]at F;have am:=un (show(yJC U rows j).length=k by rw[←ax.o];exact yLQ (by rw[←P.o];exact Za _));have aA:=un F;have ai:=un (zad f ap.o);have ah:=un (zad f aq.o);have aL:=un (HM.o.below f);obtain⟨bC,_,bD,_⟩:=bc2 ai.o;obtain⟨bK,_,bM,_⟩:=bc2 ah.o;have aB:=un f;clear F f
   go_wp2_with (at_builtin;refine yKi rfl _ _ rfl rfl aA.o rfl aL.o (N:=k+v) (by rw[am.o]) (by omega) aB.o.size ?_;intro A9 c9 v9 G l;have an:=un G;have ak:=un (aB.o.trans l);clear G l)
   go_ret
   exact⟨A9,c9,rfl,an.o.base t.o.size,t.o.trans (ak.o.mono t.o.size)⟩
theorem goal(A:OA)(n c:Nat)(B:OA)(c' m:Nat)(U:List (Nat × Int))(b o G:Nat)(xs:List Int)(w:World)(hu:WorS w A n c B c' m U)(hn:n≤100)(hM:o=xs.length)(hx:∀j x,xs[j]? = some x→w.cell? ⟨b,j,none⟩=some (.int .i64 x))(hr:∀x∈xs, -9223372036854775808≤x∧x≤9223372036854775807)(hl:o≤100)(hc:o≤G) :
  Calls prog 69 #[.agg #[(A,n,c),(B,n,c')],(b,o,G)] w fun e w'=>∃(D:OA) (d:Nat),e=.returned (D,n+o,d)∧VecS w' w (D,n+o,d) (List.replicate n 0++rats xs)∧Below w w w':=by
 have HX:=un hx;have Y:=un hr;have C:=un hM;have X:=un (show ∀w',Below w w w'→∀j x,xs[j]? = some x→w'.cell? ⟨b,j,none⟩=some (.int .i64 x)from fun w' f j x h=>zab f (HX.o j x h));clear hx hr hM;obtain⟨W,u⟩:∃W,(w.alloc (.cells #[(A,n,c),(B,n,c')] 136))=W:=⟨_,rfl⟩
 have M:=un (show W.heap[w.heap.size]? = some (.cells #[(A,n,c),(B,n,c')] 136 (0,0))by rw[←u];exact zam (by simp));have l:=un (show Below w w W by rw[←u];exact zae w _);have HZ:=un (show w.heap.size+1≤W.heap.size by rw[←u];simp);obtain⟨az,_,aA,_⟩:=bc2 M.o;clear hu;go_enter func69,ntmps69;go_upto_region 1 with fail
 clear u;have ax:=HZ.o;have s:=un (Bel.mk (Zg W.heap.size W));refine zaS (S:=fun w'=>w'.cell? ⟨w,0,none⟩=some (A,n,c)∧w'.cell? ⟨w,1,none⟩=some (B,n,c')) [] (h:=fun hHeld=>?_);refine zaw [0,1,2,4] ?_;repeat refine tkL (hS:=hHeld) (h:=?_)
 refine zao ?_;refine zme (i:=3) (j:=5) rfl rfl (by kernel_rfl) (fun K g=>?_) (fun K g=>?_)
 ·skip
  (refine zh5 rfl _ _ rfl n _ rfl rfl rfl (by omega) ?_;intro v1 p f;have z:=un (zad f M.o);have r:=un (s.o.drew.below f);have J:=un (show VecS v1 W.heap.size (.slice (some ⟨W.heap.size,0,none⟩) n n) (List.replicate n 0)from(p.base (by have:=s.o.b.size;simpa using this)));have y:=un (l.o.trans ((It.bdrew0' f).mono l.o.size));obtain⟨am,_,an,_⟩:=bc2 z.o;clear p f)
  refine shutOn g fun hHeld=>?_
  clear g K;refine zaB 5 (h:=fun K g=>?_);go_simp
  (go_at_call 43;(with_reducible refine(Vc.of b o G xs _ C.o (X.o _ (l.o.trans (r.o.b.mono l.o.size))) Y.o (by omega) hc).mono ?_);rintro e P ⟨D3,n3,d3,rfl,p,f⟩;have R:=un (zad f z.o);have v:=un (r.o.below f);have ar:=un (J.o.below f);have F:=un (show VecS P W.heap.size (D3,n3,d3) (rats xs)from p.base (by have:=r.o.b.size;simpa using this));obtain⟨T,_,V,_⟩:=bc2 R.o;clear p f)
  (try go_wp2_with fail)
  refine shutOn g fun hHeld=>?_
  clear g K;refine zaB 6 (h:=fun K g=>?_)
  (obtain rfl:o=n3:=by rw[F.o.len,C.o];simp[rats]);(refine yKb rfl _ _ rfl rfl ar.o rfl F.o (N:=n+o) (by simp) (by omega) v.o.b.size ?_);intro H O v9 t q;have L:=un t;have I:=un (v.o.b.trans q);have t0:=zKh q (show w.heap.size<W.heap.size by omega) T;have t1:=zKh q (show w.heap.size<W.heap.size by omega) V;clear t q
  refine shutOn g fun hHeld=>?_
  clear g K;refine zaw [7] ?_;repeat refine tkL (hS:=hHeld) (h:=?_)
  refine zao ?_;refine zaM (h:=?_);go_wp2;go_ret
  exact⟨H,O,rfl,L.o.base l.o.size,l.o.trans (I.o.mono l.o.size)⟩
 ·skip
  go_simp
  (go_at_call 43;(with_reducible refine(Vc.of b o G xs _ C.o (X.o _ (bdrew (l.o.trans (s.o.b.mono l.o.size)))) Y.o (by omega) hc).mono ?_);rintro e v1 ⟨D3,n3,d3,rfl,p,f⟩;have z:=un (zad f M.o);have r:=un (s.o.drew.below f);have F:=un (show VecS v1 W.heap.size (D3,n3,d3) (rats xs)from p.base (by have:=s.o.b.size;simpa using this));have y:=un (l.o.trans ((It.bdrew0' f).mono l.o.size));obtain⟨am,_,an,_⟩:=bc2 z.o;clear p f)
  (try go_wp2_with fail)
  refine shutOn g fun hHeld=>?_
  clear g K;refine zaB 3 (h:=fun K g=>?_)
  (refine zh5 rfl _ _ rfl n _ rfl rfl rfl (by omega) ?_;intro P p f;have R:=un (zad f z.o);have v:=un (r.o.below f);have ad:=un (F.o.below f);have J:=un (show VecS P W.heap.size (v1.heap.size,n,n) (List.replicate n 0)from(p.base (by have:=r.o.b.size;simpa using this)));obtain⟨T,_,V,_⟩:=bc2 R.o;clear p f)
  refine shutOn g fun hHeld=>?_
  clear g K;refine zaB 6 (h:=fun K g=>?_)
  (obtain rfl:o=n3:=by rw[ad.o.len,C.o];simp[rats]);(refine yKb rfl _ _ rfl rfl J.o rfl ad.o (N:=n+o) (by simp) (by omega) v.o.b.size ?_);intro H O v9 t q;have L:=un t;have I:=un (v.o.b.trans q);have t0:=zKh q (show w.heap.size<W.heap.size by omega) T;have t1:=zKh q (show w.heap.size<W.heap.size by omega) V;clear t q
  refine shutOn g fun hHeld=>?_
  clear g K;refine zaw [7] ?_;repeat refine tkL (hS:=hHeld) (h:=?_)
  refine zao ?_;refine zaM (h:=?_);go_wp2;go_ret
  exact⟨H,O,rfl,L.o.base l.o.size,l.o.trans (I.o.mono l.o.size)⟩
