/- Contracts and lemmas: BasN Tb3 PrM. Conditions: as each says. -/
import Derived.Test.YtbhfhkcdfmmmiaaGreatLuFacZj
import Derived.Test.YtbhfhkcdfmmmiaaGreatBasTZj
import Derived.Test.YtbhfhkcdfmmmiaaGreatBoolsZj
set_option linter.all false
set_option maxHeartbeats 4000000
set_option maxRecDepth 100000
namespace Go.Proofs.YtbhfhkcdfmmmiaaGreat
open Go.RowKit Am Tryz
attribute [local go_sem ↓] Go.wp_at_zero Go.wp_at_succ
variable {A:List (List Rat)}{zs:List Int}{cols:List Nat}{ys:List Rat}{N j k m:Nat}
def zCq (w:World) (n S:Nat) (C:List (List Rat)) (e:Ending) (w':World):Prop :=
  (∃q,CReg n C∧e=.returned (.tuple #[.pointer (some ⟨q,0,none⟩),.nilIface])∧zjE w' w.heap.size q n S C∧Below w w w') ∨
  (¬CReg n C∧e=.returned (.tuple #[.pointer none,.iface 73 (.int .i64 140)])∧Below w w w')
namespace Bs
theorem new(n F:Nat)(A:OA)(l0:List Value)(C:List (List Rat))(s S:Nat)(w:World)(h:VecsL w s (A,n,F) l0 C)(G:CSq n C)(N:n≤64)(P:zhg mw n S C)(J:24*uB n S+8≤LIM) :
  Calls prog 124 #[(A,n,F)] w (zCq w n S C):=by
 have u:=un N;have B:=un G;have ad:=un P;have X:=un J;have D:=un h;have m:=un h.nlen;have aq:n≤9223372036854775807:=by omega
 have al:decide ((64:Int)<(n:Int))=false:=by simp;omega
 have am:¬((64:Int)<(n:Int)):=by omega
 have an:((n:Int) != (n:Int))=false:=by simp
 clear N G P J h;go_enter func124,ntmps124;go_wp2
 go_loopw [11] (fun i wr=>∃(k:Nat) (bA:OA) (bc_:Nat) (j:List Value),i=.int .i64 k∧k≤n∧wr.heap[w.heap.size]? = some (.cells #[(bA,k,bc_),.pointer none,()] 231 (0,0))∧VecsL wr w (bA,k,bc_) j (C.take k)∧Below w w wr)
  (fun i _=>n-(intOf i).toNat)
 case atStart=>exact⟨0,none,0,[],rfl,Zb _,zal _ _ _,by rw[Y1];exact VecsL.nil _ _,zae _ _⟩
 case round =>
  obtain⟨k,bA,bc_,j,rfl,hk,l,c,d⟩:=hrel;by_cases M:k<n
  ·obtain⟨r,hr⟩:∃r,C[k]? = some r:=⟨C[k]'(by rw[←m.o];exact M),Ze _⟩
   have O:=zuy B.o r (Zh hr);obtain⟨b0,rfl,_,_⟩:=D.o.has (by omega);obtain⟨q,y,_,y0,z⟩:=(D.o.below d).at_ hr;rw[O]at y0 z;have f:=un (z);have R:=un (c);have HW:=un (Bel.mk d);have aw:=y0;have ak:wr.cell? ⟨w,0,none⟩=some (bA,k,bc_):=zac l 0;have ai:=zaa ak;have x:=un l;have Z:=un hr
   have V:=un (d.size);clear hr O z c d l y0;have ao:(0:Int)≤(k:Int):=Zf _;have ap:(k:Int)<(n:Int):=by omega
   go_wp2_with fail
   refine zaS (S:=fun w'=>w'.cell? ⟨w,0,none⟩=some (bA,k,bc_)) [11] (h:=fun hHeld=>?_);refine zaw [0,1,2,3,4,5] ?_;repeat refine tkL (hS:=hHeld) (h:=?_)
   refine zao ?_;refine zaB 6 (h:=fun K a=>?_);go_simp
   (go_at_call 45;(refine(Vc.copy q n y r s _ (f.o.drew) (by have:=u.o;omega)).mono ?_);rintro e u1 ⟨A2,c2,rfl,hv2,c⟩;have ab:=un (show VecS u1 wr.heap.size (A2,n,c2) r from hv2);have T:=un (R.o.below (show Below wr.heap.size wr u1 from It.bdrew0' c));have E:=un (HW.o.below (show Below wr.heap.size wr u1 from It.bdrew0' c));have ae:=un (zad (show Below wr.heap.size wr u1 from It.bdrew0' c) x.o);have s0:=zab c ai;clear hv2 c)
   (try go_wp2_with fail)
   refine shutOn a fun hHeld=>?_
   clear a K
   refine zaB 7 (h:=fun K a=>?_);go_simp;refine shutOn a fun hHeld=>?_
   clear a K
   refine zaB 8 (h:=fun K a=>?_)
   (refine zet rfl _ _ rfl rfl (T.o.alloc (.cells #[(A2,n,c2)] 28)) rfl (zal _ _ _) ((ab.o.base V.o).alloc _) (n:=k) (by rw[Zn];have:=m.o;omega) (by have:=u.o;omega) (by simp;have:=E.o.b.size;omega) ?_;intro Q c5 w5 H L I ah;have Y:=un H;have U:=un I;have o:=un (L.blk (zak ae.o) (by decide));have z0:=zac o.o 0;have zf:=zag o.o 0;simp only[ZF,Zz,ZU]at z0;clear H L I ah)
   refine shutOn a fun hHeld=>?_
   clear a K
   refine zaw [9] ?_;repeat refine tkX (h:=?_)
   refine zao ?_;refine zaw [10] ?_;repeat refine tkL (hS:=hHeld) (h:=?_)
   refine zao ?_;refine zay 11 (h:=fun K a=>?_);go_simp;refine shutOff a ?_;clear a K
   refine zaM (h:=?_);go_wp2;go_roundw
   case rel=>exact⟨k+1,Q,c5,_,by go_num,by omega,zar _ o.o,by rw[show C.take (k+1)=C.take k++[r]by rw[ZN,Z.o];rfl];exact Y.o.tk (TKeep.set o.o _) (by decide) (by decide) (by decide),((E.o.alloc _).b.trans U.o).setCell (p:=⟨w,0,none⟩) (Za _) _⟩
   case measure=>simp[intOf];omega
  ·obtain rfl:k=n:=by omega
   have W:=un (show VecsL wr w (bA,k,bc_) j C by have h:=c;rw[m.o,Xn]at h;rw[m.o];exact h);have v:=un d;have x:=un l;clear hk l c d M;go_wp2_with fail
   refine(factor w.heap.size w.heap.size k S bc_ bA j C _ _ _ x.o W.o (Za _) B.o u.o ad.o X.o).mono ?_;rintro e w2 (⟨hr,rfl,hs,hb2,_⟩ | ⟨hr,rfl,hb2⟩)
   ·have f:=un hr;have HS:=un (hs none (fun g h=>by cases h)).toS;have t:=un (v.o.trans hb2);clear hr hs hb2;go_wp2;go_ret2
    exact .inl ⟨_,f.o,rfl,HS.o,t.o⟩
   ·have f:=un hr;have t:=un (v.o.trans (hb2.mono v.o.size));clear hr hb2;go_wp2;go_ret2
    exact .inr ⟨f.o,rfl,t.o⟩
end Bs
theorem EtasL.base{w:World}{H c:Nat}{v:Value}{l:List (Nat × Value)}{es:List (Nat × List Rat)}(h:EtasL w H v l es)(d:c≤H):EtasL w c v l es :=
 ⟨h.len,fun k s e a b=>⟨(h.each k s e a b).1,(h.each k s e a b).2.base d⟩,zbu h.own d⟩
theorem zjE.base{w:World}{H b q n S:Nat}{C:List (List Rat)}(h:zjE w H q n S C)(a:b≤H):zjE w b q n S C:=by
 obtain⟨cA,cc,lc,K,ql,F,D,eA,ec,le,es,h⟩:=h;exact⟨cA,cc,lc,K,ql,F,D,eA,ec,le,es,h.blk,h.cols.base a,h.low,h.lu,h.fac,h.etas.base a,h.right,h.few,Zc a h.own,Zc a h.ownK⟩
theorem zhf.base{w:World}{H b q n S:Nat}{C:List (List Rat)}{tb:Option Nat}(h:zhf w H q n S C tb)(a:b≤H):zhf w b q n S C tb:=by
 obtain⟨cA,cc,lc,K,ql,F,D,eA,ec,le,es,h,c⟩:=h;exact⟨cA,cc,lc,K,ql,F,D,eA,ec,le,es,⟨h.blk,h.cols.base a,h.low,h.lu,h.fac,h.etas.base a,h.right,h.few,Zc a h.own,Zc a h.ownK⟩,c⟩
theorem zzi(h:cols[k]? = some j):bc A (cols.take (k+1))=bc A (cols.take k)++[zb4 A j]:=by
 unfold bc;rw[ZN,h,ZG];rfl
theorem zqp(a:Basis m N A cols)(hk:cols[k]? = some j):(j:Int) ∉ (cols.map fun(x:Nat)=>(x:Int)).take k:=fun h=>by
 obtain⟨i,hi⟩:=Z0.1 h;rw[Yj]at hi;split at hi
 ·rename_i hik
  rw[Zw]at hi;cases e:cols[i]? with
  | none=>rw[e]at hi;cases hi
  | some x =>
   rw[e]at hi;injection hi with hi;have b:x=j:=by have g:((x:Nat):Int)=(j:Int):=hi;omega
   have c:=(Zm.1 e).1;have f:=(Zm.1 hk).1;have:=a.inj i k (by rw[←a.len];exact c) (by rw[←a.len];exact f) (by rw[getD_some (d:=0) e,getD_some (d:=0) hk,b]);omega
 ·cases hi
namespace Tb
theorem new(rA:OA)(rc:Nat)(lA:List Value)(bA:OA)(bc_:Nat)(kA:OA)(kc:Nat)(eA:OA)(ec m N S own:Nat)(A:List (List Rat))(b c:List Rat)(left:List Int)(tA:OA)(tc:Nat)(cols:List Nat)(L:Nat)(w:World)
  (hS:StdP w rA rc lA bA bc_ kA kc eA ec m N S A b c left) (hc:IntsS w L (tA,m,tc) cols) (a:Basis m N A cols) (ar:zor m S≤LIM) :
  Calls prog 83 #[.agg #[(rA,m,rc),(N:Int),(bA,m,bc_),(kA,N,kc),(own:Int),(eA,m,ec)],(tA,m,tc)] w fun e w'=>∃(q:Nat) (a3:OA) (a4:Nat),e=.returned (.tuple #[.pointer (some ⟨q,0,none⟩),.nilIface])∧zhi w w' w.heap.size q rA rc lA bA bc_ kA kc eA ec m N S own A b c left a3 a4 cols∧Below w w w':=by
 have f:=un a;have ai:=un ar;have I:=un hS;have bv:=hS.hm;have bo:=hS.hN;have U:=hc.form;have bp:tc≤9223372036854775807:=by have:=U.2.2.1;unfold maxLen at this;omega
 have bq:m≤tc:=U.2.1;have aK:=un (show zhg mw m S (bc A cols)from fun j hj i hi=>by rw[ztZ (by rw[a.len];exact hj) (by rw[a.rect.len];exact hi)];exact hS.zen hi (a.lt j hj));clear ar a U;obtain⟨W,u⟩:∃W,(w.alloc (.cells #[(rA,m,rc),(N:Int),(bA,m,bc_),(kA,N,kc),(own:Int),(eA,m,ec)] 113))=W:=⟨_,rfl⟩
 have am:=un (show W.heap[w.heap.size]? = some (.cells #[(rA,m,rc),(N:Int),(bA,m,bc_),(kA,N,kc),(own:Int),(eA,m,ec)] 113 (0,0))by rw[←u];exact zam (by simp));have BB:=un (show Below w w W by rw[←u];exact zae w _);have HS:=un (show StdP W rA rc lA bA bc_ kA kc eA ec m N S A b c left by rw[←u];exact(hS).alloc _);have HI:=un (show IntsS W L (tA,m,tc) cols by rw[←u];exact(hc).alloc _);obtain⟨bJ,_,bK,_,bO,_,bT,_,bV,_,bE,_⟩:=bc6 am.o
 clear hS hc;go_enter func83,ntmps83;go_wp2_with fail
 clear u;refine zaS (S:=fun w'=>w'.cell? ⟨w,0,none⟩=some (rA,m,rc)∧w'.cell? ⟨w,1,none⟩=some (.int .i64 (N:Int))∧w'.cell? ⟨w,2,none⟩=some (bA,m,bc_)∧w'.cell? ⟨w,3,none⟩=some (kA,N,kc)∧w'.cell? ⟨w,4,none⟩=some (.int .i64 (own:Int))∧w'.cell? ⟨w,5,none⟩=some (eA,m,ec)) [] (h:=fun hHeld=>?_);refine zaw [0,1,2,3] ?_;repeat refine tkL (hS:=hHeld) (h:=?_)
 refine zao ?_;refine zaB 4 (h:=fun K l=>?_);go_simp
 (go_at_call 103;(refine(Mt.rows N m rc rA _).mono ?_);rintro e u1 ⟨rfl,hb⟩;have az:=un (zad hb am.o);have a9:=un (HS.o.drew.below hb);have a5:=un (HI.o.drew.below hb);have ay:=un (BB.o.trans ((It.bdrew0' hb).mono BB.o.size));obtain⟨bH,_,bI,_,bN,_,bU,_,bW,_,bF,_⟩:=bc6 az.o;clear hb)
 (try go_wp2_with fail)
 refine shutOn l fun hHeld=>?_
 clear l K
 refine zaw [5,6,7,8,9,10,11] ?_;repeat refine tkL (hS:=hHeld) (h:=?_)
 refine zao ?_;refine zaB 12 (h:=fun K l=>?_);go_simp
 (go_at_call 103;(refine(Mt.rows N m rc rA _).mono ?_);rintro e u2 ⟨rfl,hb⟩;have ac:=un (zad hb az.o);have aw:=un (a9.o.below hb);have Q:=un (a5.o.below hb);have C:=un (ay.o.trans ((hb).mono ay.o.size));obtain⟨bL,_,bM,_,bQ,_,bR,_,bS,_,bG,_⟩:=bc6 ac.o;clear hb)
 (try go_wp2_with fail)
 refine shutOn l fun hHeld=>?_
 clear l K
 refine zaw [13,14] ?_;repeat refine tkL (hS:=hHeld) (h:=?_)
 refine zao ?_;refine zaM (h:=?_);go_wp2
 go_loopw [6,32] (fun vs i wr=>∃(k:Nat) (s:OA) (t:Nat) (z:List Value),vs=(s,k,t)∧i=.int .i64 k∧k≤m∧VecsL wr u2 (s,k,t) z (bc A (cols.take k))∧Below u2 u2 wr)
  (fun _ i _=>m-(intOf i).toNat)
 case atStart=>exact⟨0,none,0,[],rfl,rfl,Zb _,VecsL.nil _ _,Zg _ _⟩
 case round =>
  obtain⟨k,s,t,z,rfl,rfl,hk,y,a⟩:=hrel;have aU:=un (show w.heap.size≤u2.heap.size from C.o.size);by_cases V:k<m
  ·obtain⟨j,hj⟩:∃j,cols[k]? = some j:=⟨cols[k]'(by rw[f.o.len];exact V),Ze _⟩
   have aZ:j<N:=by have:=f.o.lt k V;rw[getD_some (d:=0) hj]at this;exact this
   obtain⟨bt,rfl,_,_⟩:=Q.o.has (by omega);have p0:=(Q.o.below a).at_ hj;have D:=un (zad a ac.o);have P:=un (aw.o.below a);have aa:=un (Q.o.below a);have J:=un (y);have HW:=un (Bel.mk a);have F:=un (C.o.trans ((a).mono C.o.size));obtain⟨bg,_,bh,_⟩:=bc6 D.o;have bP:wr.cell? ⟨bt,k,none⟩=some (.int .i64 (j:Int)):=p0;have R:=un (And.intro hj aZ);clear y a hj p0
   have br:(0:Int)≤(k:Int):=Zf _;have bs:(k:Int)<(m:Int):=by omega
   have bu:(k:Int)≤(tc:Int):=by omega
   go_wp2_with fail
   refine(Mt.col N m rc rA lA A 0 j _ P.o.rows I.o.rl R.o.2 (by omega) (by omega)).mono ?_
   rintro e w1 ⟨B,n1,c1,rfl,hv1,hb⟩;have E:=un (zad hb D.o);have ab:=un (P.o.below hb);have Z:=un (aa.o.below hb);have ae:=un (J.o.below hb);have bi:=un (HW.o.below hb);have HU:=un (hv1);have G:=un (F.o.trans ((hb).mono F.o.size));obtain⟨bb,_,bd,_,bj,_,bk,_,bm,_,a6,_⟩:=bc6 E.o;clear hv1 hb;have T:=un (HW.o.b.size);go_wp2_with fail
   refine(Sl.has (some ⟨bt,0,none⟩) k tc ((cols.map fun(x:Nat)=>(x:Int)).take k) (j:Int) L _ (Z.o.toZ.cut (by omega))).mono ?_
   rintro e w2 ⟨rfl,hb⟩;have ad:=un (zad hb E.o);have ax:=un (ab.o.below hb);have aB:=un (ae.o.below hb);have aD:=un (bi.o.below hb);have ba:=un (HU.o.below hb);have aA:=un (G.o.trans ((hb).mono G.o.size));obtain⟨be,_,bf,_,aC,_,bl,_,bn,_,a7,_⟩:=bc6 ad.o;clear hb;have hd:=Zu (zqp f.o R.o.1);rw[hd];clear hd
   go_wp2_with (at_builtin;refine zbW rfl _ _ rfl rfl (aB.o.alloc (.cells #[(B,n1,c1)] 28)) rfl (zal _ _ _) ((ba.o.base T.o).alloc _) (n:=k) (by rw[zx7,Zn,f.o.len];omega) (by omega) (by simp;have:=aD.o.b.size;omega) ?_;intro A5 c5 w5 ao a0 ap aY;have aM:=un ao;have aF:=un ((aD.o.alloc (.cells #[(B,n1,c1)] 28)).b.trans ap);clear ao a0 ap aY)
   go_roundw
   case rel=>exact⟨k+1,A5,c5,_,rfl,by go_num,by omega,by rw[zzi R.o.1];exact aM.o,aF.o⟩
   case measure=>simp[intOf];omega
  ·obtain rfl:m=k:=by omega
   have aS:=un (show cols.take m=cols by rw[←f.o.len,Xn]);rw[aS.o]at y;have D:=un (zad a ac.o);have P:=un (aw.o.below a);have aa:=un (Q.o.below a);have J:=un (y);have F:=un (C.o.trans ((a).mono C.o.size));obtain⟨bg,_,bh,_⟩:=bc6 D.o;have T:=un (a.size);clear y a hk V;go_wp2_with fail
   refine(Bs.new m t s z (bc A cols) u2.heap.size S _ J.o f.o.sq (by omega) aK.o (zC3 (ziY ai.o))).mono ?_;rintro e O (⟨qb,hr,rfl,hs,hb⟩ | ⟨hr,rfl,hb⟩)
   ·have ah:=un hs;have E:=un (zad hb D.o);have ab:=un (P.o.below hb);have Z:=un (aa.o.below hb);have ae:=un (J.o.below hb);have aI:=un (show zjE O wr.heap.size qb m S (bc A cols)from hs);have G:=un (F.o.trans ((hb).mono F.o.size));obtain⟨bb,_,bd,_,bj,_,bk,_,bm,_,a6,_⟩:=bc6 E.o;clear hr hs hb;go_wp2_with fail
    refine zaS (S:=fun w'=>w'.cell? ⟨w,0,none⟩=some (rA,m,rc)∧w'.cell? ⟨w,1,none⟩=some (.int .i64 (N:Int))∧w'.cell? ⟨w,2,none⟩=some (bA,m,bc_)∧w'.cell? ⟨w,3,none⟩=some (kA,N,kc)∧w'.cell? ⟨w,4,none⟩=some (.int .i64 (own:Int))∧w'.cell? ⟨w,5,none⟩=some (eA,m,ec)) [] (h:=fun hHeld=>?_);refine zaw [0,1,3] ?_;repeat refine tkL (hS:=hHeld) (h:=?_)
    refine zao ?_;refine zaB 2 (h:=fun K l=>?_);go_simp
    (go_at_call 108;(refine(Sl.clone tA m tc (cols.map fun(x:Nat)=>(x:Int)) L _ (Z.o.drew.toZ) (by omega)).mono ?_);rintro e r ⟨T4,c4,rfl,hz,hb⟩;have ad:=un (zad hb E.o);have ax:=un (ab.o.drew.below hb);have aB:=un (ae.o.drew.below hb);have a8:=un (aI.o.drew.below hb);have aQ:=un (show IntsS r O (.slice T4 (cols.map fun(x:Nat)=>(x:Int)).length c4) cols from hz.toS);have aA:=un (G.o.trans ((It.bdrew0' hb).mono G.o.size));obtain⟨be,_,bf,_,aC,_,bl,_,bn,_,a7,_⟩:=bc6 ad.o;have aG:=un hb;clear hb;clear hz)
    (try go_wp2_with fail)
    refine shutOn l fun hHeld=>?_
    clear l K
    refine zaw [4] ?_;repeat refine tkL (hS:=hHeld) (h:=?_)
    refine zao ?_;refine zaB 5 (h:=fun K l=>?_);go_simp;refine shutOn l fun hHeld=>?_
    clear l K
    refine zaw [6] ?_;repeat refine tkL (hS:=hHeld) (h:=?_)
    refine zao ?_;refine zaM (h:=?_);have aN:=un (show(cols.map fun(x:Nat)=>(x:Int)).length=m by rw[Zl,f.o.len]);rw[f.o.len];have aj:=un (show IntsS r O (T4,m,c4) cols by have h:=aQ.o;rw[aN.o]at h;exact h);have aV:=un (show wr.heap.size≤O.heap.size from ah.o.hle);have H:=un (show Below w w r from aA.o)
    have s2:(r.alloc (.cells #[(rA,m,rc),(N:Int),(bA,m,bc_),(kA,N,kc),(own:Int),(eA,m,ec),(T4,m,c4),.pointer (some ⟨qb,0,none⟩),()] 200)).cell? ⟨w,2,none⟩=some (bA,m,bc_):=cell_al aC;have KT:=un (zal r #[(rA,m,rc),(N:Int),(bA,m,bc_),(kA,N,kc),(own:Int),(eA,m,ec),(T4,m,c4),.pointer (some ⟨qb,0,none⟩),()] 200)
    have aJ:=un (a8.o.alloc (.cells #[(rA,m,rc),(N:Int),(bA,m,bc_),(kA,N,kc),(own:Int),(eA,m,ec),(T4,m,c4),.pointer (some ⟨qb,0,none⟩),()] 200))
    have aH:=un ((((ah.o.drew.later (tb:=(Value.slice T4 m c4).ownBlock) (fun g hg=>(aj.o.own.lt g hg).1)).below aG.o).alloc (.cells #[(rA,m,rc),(N:Int),(bA,m,bc_),(kA,N,kc),(own:Int),(eA,m,ec),(T4,m,c4),.pointer (some ⟨qb,0,none⟩),()] 200)))
    have aP:=un (ax.o.alloc (.cells #[(rA,m,rc),(N:Int),(bA,m,bc_),(kA,N,kc),(own:Int),(eA,m,ec),(T4,m,c4),.pointer (some ⟨qb,0,none⟩),()] 200));go_wp2_with fail
    refine(Bs.solve wr.heap.size qb m S S (bc A cols) bA bc_ b 0 _ aJ.o aP.o.B (by omega) I.o.zb I.o.hS (ziY ai.o)).mono ?_;rintro e Y ⟨X6,n6,c6,rfl,hv6,hb⟩;have ak:=un hv6;have ag:=un hb;obtain rfl:m=n6:=by rw[ak.o.len,(zci f.o.sq f.o.reg b).2]
    have M:=un (zad hb KT.o);have aR:=un ((aj.o.alloc (.cells #[(rA,m,rc),(N:Int),(bA,m,bc_),(kA,N,kc),(own:Int),(eA,m,ec),(T4,m,c4),.pointer (some ⟨qb,0,none⟩),()] 200)).below hb);have t8:=zac M.o 8;have bB:=zag M.o 8;simp only[ZF,Zz,ZU]at t8;clear hv6 hb;go_wp2;have X:TKeep 200 Y (Y.setCell ⟨r,8,none⟩ (X6,m,c6)):=TKeep.set M.o _
    have aq:Below w w (Y.setCell ⟨r,8,none⟩ (X6,m,c6)):=(H.o.trans (((zae r _).trans (ag.o.mono (by simp))).mono H.o.size)).setCell (p:=⟨r,8,none⟩) H.o.size _;have a1:=H.o.size;have bw:=aU.o;have bx:=T.o;have bz:=aV.o;refine Zd (v:=.tuple #[.pointer (some ⟨r,0,none⟩),.nilIface]) (by simp[results,results83,go_sem]) rfl ?_
    refine⟨r.heap.size,T4,c4,rfl,⟨qb,X6,c6,?_,I.o,aq,Za _,(aR.o.base (by omega)).tk X (by decide),((aH.o.below ag.o).base (by omega)).tk X (by decide) (by decide) (by decide) (by decide) (by decide) (by decide) (by decide),?_,f.o,a1⟩,aq⟩
    ·have:=zar (o:=8) (X6,m,c6) M.o;simpa using this
    ·unfold za5;rw[f.o.len];exact(ak.o.base (by simp;omega)).tk X (by decide) (by decide)
   ·exact absurd f.o.reg hr
end Tb
def sgI (q:Rat):Int:=if q<0 then -1 else 1
theorem zUb(q:Rat):((sgI q:Int):Rat)=sgn q:=by unfold sgI sgn;split<;>rfl
theorem zTW(q:Rat):sgI q = -1∨sgI q=1:=by unfold sgI;split<;>simp
def bkL (zs:List Int) (ys:List Rat) (k:Nat):List Rat:=(List.range ys.length).map fun i=>if i<k then ((zs.getD i 0:Int):Rat)*el ys i else el ys i
theorem zSJ(zs:List Int)(ys:List Rat)(k:Nat):(bkL zs ys k).length=ys.length:=by simp[bkL]
theorem zVQ(zs:List Int)(ys:List Rat):bkL zs ys 0=ys:=by
 apply ZT;intro i;unfold bkL;rw[Zw];grind[List.getElem?_range,zaH,List.getElem?_eq_none]
theorem zTv{i:Nat}(h:i<ys.length):(bkL zs ys k)[i]? = some (if i<k then ((zs.getD i 0:Int):Rat)*el ys i else el ys i):=by
 unfold bkL;rw[Zw,Z4 h];rfl
theorem zXf(h:k<ys.length):(bkL zs ys k).set k (((zs.getD k 0:Int):Rat)*el ys k)=bkL zs ys (k+1):=by
 apply ZT;intro i;rw[Xg];by_cases hi:i<ys.length
 ·rw[zTv hi,zTv hi,zSJ];by_cases e:k=i
  ·subst e;rw[if_pos rfl,if_pos h,if_pos (by omega)]
  ·rw[if_neg e];by_cases a:i<k
   ·rw[if_pos a,if_pos (by omega)]
   ·rw[if_neg a,if_neg (by omega)]
 simp_all[Xq,zSJ,if_neg]
def zUG (N m k:Nat):List Rat:=List.replicate N 0++(List.replicate k 1++List.replicate (m-k) 0)
theorem zVD(N m:Nat):zUG N m 0=List.replicate (N+m) 0:=by unfold zUG;simp_all
theorem zWG(N m:Nat):zUG N m m=zJG N m:=by unfold zUG zJG;simp
theorem zWI(h:k<m):(zUG N m k).set (N+k) 1=zUG N m (k+1):=by
 unfold zUG;rw[XR,if_neg (by rw[Zr];omega),Zr,Y5,XR,if_neg (by rw[Zr];omega),Zr,ZZ,show m-k=(m-(k+1))+1 by omega,XB,YB,Yz (n:=k),Xy];rfl
theorem zWH(h:k<m):(zUG N m k)[N+k]? = some 0:=by
 unfold zUG;rw[Zy (by rw[Zr];omega),Zr,Y5,Zy (by rw[Zr];omega),Zr,ZZ,ZJ,if_pos (by omega)]
theorem zUR(N k:Nat):zKa N (k+1)=zKa N k++[N+k]:=by unfold zKa;rw[X8,ZG];rfl
theorem zUB(N m:Nat):zsn (N+m) N=zKc N m:=by unfold zsn zKc;rw[Y5]
def zVK (w:World) (n:Nat) (xs:List Bool) (e:Ending) (w':World):Prop:=∃(A:OA) (c:Nat),e=.returned (A,n,c)∧BoolsS w' w (A,n,c) xs∧Below w w w'
namespace Pr
theorem pmay(rA:OA)(rc:Nat)(bA:OA)(bc_:Nat)(kA:OA)(kc:Nat)(eA:OA)(ec:Nat)(g:OA)(j m a own N:Nat)(w:World)(D:N≤a)(z:a≤64) :
  Calls prog 55 #[.agg #[(rA,m,rc),(a:Int),(bA,m,bc_),(kA,a,kc),(own:Int),(eA,m,ec),(g,m,j),(N:Int)]] w (zVK w a (zsn a N)):=by
 obtain⟨W,e⟩:∃W,(w.alloc (.cells #[(rA,m,rc),(a:Int),(bA,m,bc_),(kA,a,kc),(own:Int),(eA,m,ec),(g,m,j),(N:Int)] 117))=W:=⟨_,rfl⟩
 have f:=un (show W.heap[w.heap.size]? = some (.cells #[(rA,m,rc),(a:Int),(bA,m,bc_),(kA,a,kc),(own:Int),(eA,m,ec),(g,m,j),(N:Int)] 117 (0,0))by rw[←e];exact zam (by simp));have n:=un (show Below w w W by rw[←e];exact zae w _);have u:=un (show w.heap.size+1≤W.heap.size by rw[←e];simp);obtain⟨_,_,_,_,_,_,aB,_⟩:=bc8 f.o;go_enter func55,ntmps55
 go_wp2_with (at_make;go_must (refine zf8 rfl _ _ rfl a _ rfl rfl rfl (by omega) W.heap.size rfl ?_;intro w1 q l;have r:=un l;have x:=un (zad l f.o);have s:=un (q);obtain⟨_,_,_,_,_,_,_,_,_,_,_,_,_,_,Y,_⟩:=bc8 x.o;clear q l))
 clear e
 go_loopw [12] (fun i wr=>∃k:Nat,i=.int .i64 k∧k≤N∧BoolsS wr W.heap.size (.slice (some ⟨W.heap.size,0,none⟩) a a) (zsn a k)∧Below W.heap.size W wr)
  (fun i _=>N-(intOf i).toNat)
 case atStart=>exact⟨0,rfl,Zb _,by rw[zhU];exact s.o,r.o⟩
 case round =>
  obtain⟨k,rfl,hk,d,c⟩:=hrel;have v:=un (zad c f.o);have o:=un (d);have t:=un (Bel.mk c);have y:=un (n.o.trans ((c).mono n.o.size));by_cases C:k<N
  ·have y0:=d.at_ (zrF (show k<a by omega));have E:=d.fro k;have A:(0:Int)≤(k:Int):=Zf _;have B:(k:Int)<(a:Int):=by omega
   clear d c;go_wp2;go_roundw
   case rel=>exact⟨k+1,by go_num,by omega,by rw[←zoQ (show k<a by omega)];exact o.o.store k true,t.o.b.setCell (p:=⟨W.heap.size,k,none⟩) (Za _) _⟩
   case measure=>simp[intOf];omega
  ·obtain rfl:N=k:=by omega
   clear d c;go_wp2;go_ret
   exact⟨_,_,rfl,o.o.base (by have:=u.o;omega),y.o⟩
theorem pback(rA:OA)(rc:Nat)(bA:OA)(bc_:Nat)(kA:OA)(kc:Nat)(eA:OA)(ec:Nat)(p:OA)(n m f own N:Nat)(zs:List Int)(V:Nat)(Y:OA)(x H:Nat)(ys:List Rat)(S:Nat)(w:World)(P:IntsZ w V (p,m,n) zs)(X:∀z∈zs,z = -1∨z=1)(O:VecS w H (Y,m,x) ys)(hS:8*S+8≤LIM)(h1:1≤S)(zy:∀q∈ys,mw q≤S)(c:m≤64) :
  Calls prog 77 #[.agg #[(rA,m,rc),(f:Int),(bA,m,bc_),(kA,f,kc),(own:Int),(eA,m,ec),(p,m,n),(N:Int)],(Y,m,x)] w (zq5 w (bkL zs ys m)):=by
 have ak:=un P.len;have F:=un O.len;have au:=un X;have ao:=un hS;have H1:=un h1;have ZY:=un zy
 clear X hS h1 zy;obtain⟨W,r⟩:∃W,(w.alloc (.cells #[(rA,m,rc),(f:Int),(bA,m,bc_),(kA,f,kc),(own:Int),(eA,m,ec),(p,m,n),(N:Int)] 117))=W:=⟨_,rfl⟩
 have J:=un (show W.heap[w.heap.size]? = some (.cells #[(rA,m,rc),(f:Int),(bA,m,bc_),(kA,f,kc),(own:Int),(eA,m,ec),(p,m,n),(N:Int)] 117 (0,0))by rw[←r];exact zam (by simp));have E:=un (show Below w w W by rw[←r];exact zae w _);have R:=un (show IntsZ W V (p,m,n) zs by rw[←r];exact(P).alloc _);have ap:=un (show VecS W H (Y,m,x) ys by rw[←r];exact(O).alloc _)
 obtain⟨_,_,_,_,_,_,_,_,_,_,_,_,bp,bl,_⟩:=bc8 J.o;clear P O;go_enter func77,ntmps77;go_wp2_with fail
 clear r;refine(Vc.copy Y m x ys H _ ap.o (by omega)).mono ?_
 rintro e w1 ⟨A7,c7,rfl,d,c⟩;have aC:=un (zad c J.o);have HO:=un (d);obtain⟨bE,bK,bF,bL,bP,bR,cn,ch,cp,ck,bc,a9,bx,bn,bz,bo⟩:=bc8 aC.o;have ah:=un c;clear d c;go_upto_region 2 with fail
 have aT:¬(m:Int)<(m:Int):=by omega
 go_cut[14,15] (fun a b wr=>a=(m:Int)∧b=.int .i64 0∧wr=w1)
 case first =>
  go_wp2
  all_goals
   go_meet
   case rel=>exact⟨by first | rfl | (simp;done),rfl,rfl⟩
 obtain⟨rfl,rfl,rfl⟩:=hcut;rename World=>w1
 go_wp2
 go_loopw [15] (fun i wr=>∃k:Nat,i=.int .i64 k∧k≤m∧VecS wr W.heap.size (A7,m,c7) (bkL zs ys k)∧Below W.heap.size W wr)
  (fun i _=>m-(intOf i).toNat)
 case atStart=>exact⟨0,rfl,Zb _,by rw[zVQ];exact HO.o,ah.o⟩
 case round =>
  obtain⟨k,rfl,hk,d,o⟩:=hrel;by_cases A:k<m
  ·obtain⟨l,rfl,_,_⟩:=d.has (by omega);obtain⟨L,rfl,_,_⟩:=R.o.has (by omega);have Q:zs[k]? = some (zs.getD k 0):=zaO (by rw[←ak.o];exact A);obtain⟨y,s,B,u,t,C,v,y0,y1,Z,M⟩:=d.at_ (zTv (zs:=zs) (k:=k) (by rw[←F.o];exact A));rw[if_neg (Xt k)]at M;have l0:=(R.o.below o).at_ Q;have U:=un (au.o _ (Zh Q));have ar:=un (ZY.o _ (Zh (zaH (xs:=ys) (j:=k) (by rw[←F.o];exact A))))
   have T:=un (zXf (zs:=zs) (ys:=ys) (k:=k) (by rw[←F.o];exact A));generalize zs.getD k 0=z at l0 U T;have aa:=un (zad o J.o);have am:=un (show RatS wr y (s,B,u) (t,C,v) (el ys k)from M);have G:=un (d);have HW:=un (Bel.mk o);obtain⟨bI,_,bJ,_,b0,_,ce,_,cf,_,bd,_,br,_,bu,_⟩:=bc8 aa.o;have aE:wr.cell? ⟨L,k,none⟩=some (.int .i64 z):=l0;have ay:=zaa aE
   have aG:wr.cell? ⟨l,k*3,none⟩=some (.bool y):=y0;have az:=zaa aG;have aH:wr.cell? ⟨l,k*3+1,none⟩=some (s,B,u):=y1;have aA:=zaa aH;have aJ:wr.cell? ⟨l,k*3+2,none⟩=some (t,C,v):=Z;have aB:=zaa aJ;have I:=un (show I64 z by rcases U.o with rfl | rfl<;>exact⟨by decide,by decide⟩);have L1:=un (show 4*(mw ((z:Int):Rat)+mw (el ys k))+8≤LIM by have:=zu9 z I.o;have:=ar.o;have:=ao.o;have:=H1.o;omega);have ax:=(d.lt rfl).1;have aQ:(0:Int)≤(k:Int):=Zf _
   have aR:(k:Int)<(m:Int):=by omega
   clear d o Q y0 y1 Z l0 M;go_wp2_with fail
   refine za2 (S:=fun w'=>w'.cell? ⟨w,0,none⟩=some (rA,m,rc)∧w'.cell? ⟨w,1,none⟩=some (.int .i64 (f:Int))∧w'.cell? ⟨w,2,none⟩=some (bA,m,bc_)∧w'.cell? ⟨w,3,none⟩=some (kA,f,kc)∧w'.cell? ⟨w,4,none⟩=some (.int .i64 (own:Int))∧w'.cell? ⟨w,5,none⟩=some (eA,m,ec)∧w'.cell? ⟨w,6,none⟩=some (L,m,n)∧w'.cell? ⟨w,7,none⟩=some (.int .i64 (N:Int))∧w'.cell? ⟨L,k,none⟩=some (.int .i64 z)∧w'.cell? ⟨l,k*3,none⟩=some (.bool y)∧w'.cell? ⟨l,k*3+1,none⟩=some (s,B,u)∧w'.cell? ⟨l,k*3+2,none⟩=some (t,C,v)) 14 (h:=fun hHeld=>?_)
   refine zaw [0,1,2,3,4,5,6,8,9,10,11] ?_;repeat refine tkE (hS:=hHeld) (h:=?_)
   refine zao ?_;refine zaN 7 (h:=fun K g=>?_);go_simp
   (go_at_call 13;(refine(Rt.int z I.o.1 I.o.2 _).mono ?_);rintro e u1 ⟨g1,A1,m1,c1,D1,md1,cd1,rfl,hn,c⟩;have ab:=un (zad c aa.o);have aP:=un (am.o.drew.below c);have aO:=un (G.o.drew.below c);have aN:=un (HW.o.drew.below c);have HM:=un (hn);obtain⟨bY,_,bZ,_,b6,_,a7,cs,a4,_,a5,_,bs,_,bv,_⟩:=bc8 ab.o;have ac:=zab c ay;have ad:=zab c az;have af:=zab c aA;have ae:=zab c aB;clear hn c)
   (try go_wp2_with fail)
   refine shutOn g fun hHeld=>?_
   clear g K
   refine zaN 12 (h:=fun K g=>?_);go_simp
   (go_at_call 15;(refine(Rt.mul g1 A1 m1 c1 D1 md1 cd1 ((z:Int):Rat) y s B u t C v (el ys k) _ HM.o aP.o L1.o).mono ?_);rintro e u2 ⟨g2,A2,m2,c2,D2,md2,cd2,rfl,hn,c⟩;have aD:=un (zad c ab.o);have D:=un (aO.o.below c);have aM:=un (aN.o.below c);have HS:=un (hn);obtain⟨bV,_,bW,_,cb,_,ci,_,cl,cd,a6,_,bt,_,bw,_⟩:=bc8 aD.o;have aF:=zab c ac;have aI:=zab c ad;have aK:=zab c af;have aL:=zab c ae;have aU:=D.o.fro (k*3);have of1:=D.o.fro (k*3+1);have aV:=D.o.fro (k*3+2);clear hn c)
   (try go_wp2_with fail)
   refine shutOn g fun hHeld=>?_
   clear g K
   refine zaw [13] ?_;repeat refine tkE (hS:=hHeld) (h:=?_)
   refine zao ?_;refine zba (h:=fun K g=>?_);go_simp;refine shutOff g ?_;clear g K
   refine za1 (h:=?_);go_wp2;go_roundw
   case rel=>exact⟨k+1,by go_num,by omega,by rw[←T.o];exact VecS.store D.o k HS.o,(Bel.set3 aM.o ax _ _ _).b⟩
   case measure=>simp[intOf];omega
  ·obtain rfl:m=k:=by omega
   have G:=un d;have HF:=un o;clear d o;go_wp2;go_ret
   exact⟨_,_,_,rfl,G.o.base E.o.size,E.o.trans (HF.o.mono E.o.size)⟩
theorem pfirst(rA:OA)(rc:Nat)(bA:OA)(bc_:Nat)(kA:OA)(kc:Nat)(eA:OA)(ec:Nat)(r:OA)(s m a own N:Nat)(lA:List Value)(S:Nat)(A:List (List Rat))(b c:List Rat)(left:List Int)(w:World)(hS:StdP w rA rc lA bA bc_ kA kc eA ec m a S A b c left)(P:N+m=a)(d:Basis m a A (zKa N m))(R:zor m S≤LIM) :
  Calls prog 109 #[.agg #[(rA,m,rc),(a:Int),(bA,m,bc_),(kA,a,kc),(own:Int),(eA,m,ec),(r,m,s),(N:Int)]] w fun e w'=>∃(D:World) (q:Nat) (C:OA) (O:Nat) (x:OA) (y:Nat),e=.returned (.tuple #[.pointer (some ⟨q,0,none⟩),(C,a,O)])∧zhi D w' D.heap.size q rA rc lA bA bc_ kA kc eA ec m a S own A b c left x y (zKa N m)∧VecS w' w (C,a,O) (zJG N m)∧Below w w D∧Below w w w':=by
 have o:=un P;have ae:=un d;have af:=un R;have aT:=hS.hm;have aW:=hS.hN
 clear P d R;obtain⟨W,j⟩:∃W,(w.alloc (.cells #[(rA,m,rc),(a:Int),(bA,m,bc_),(kA,a,kc),(own:Int),(eA,m,ec),(r,m,s),(N:Int)] 117))=W:=⟨_,rfl⟩
 have p:=un (show W.heap[w.heap.size]? = some (.cells #[(rA,m,rc),(a:Int),(bA,m,bc_),(kA,a,kc),(own:Int),(eA,m,ec),(r,m,s),(N:Int)] 117 (0,0))by rw[←j];exact zam (by simp));have G:=un (show Below w w W by rw[←j];exact zae w _);have HZ:=un (show w.heap.size+1≤W.heap.size by rw[←j];simp);have HS:=un (show StdP W rA rc lA bA bc_ kA kc eA ec m a S A b c left by rw[←j];exact(hS).alloc _)
 obtain⟨_,_,_,_,_,_,cw,_⟩:=bc8 p.o;clear hS;go_enter func109,ntmps109;go_wp2_with (at_make;go_must (refine zdv rfl _ _ rfl a _ rfl rfl rfl (by omega) W.heap.size rfl ?_;intro w1 X t;have ac:=un t;have aF:=un (zad t p.o);have HO:=un (show VecS w1 W.heap.size (.slice (some ⟨W.heap.size,0,none⟩) a a) (List.replicate a 0)from X);obtain⟨_,_,_,_,_,_,_,_,_,cs,_,_,bz,_⟩:=bc8 aF.o;clear X t))
 clear j
 go_loopw [4,17] (fun cv i wr=>∃(k:Nat) (T:OA) (tc:Nat),i=.int .i64 k∧cv=(T,k,tc)∧k≤m∧VecS wr W.heap.size (.slice (some ⟨W.heap.size,0,none⟩) a a) (zUG N m k)∧IntsS wr W.heap.size (T,k,tc) (zKa N k)∧Below W.heap.size W wr)
  (fun _ i _=>m-(intOf i).toNat)
 case atStart=>exact⟨0,none,0,rfl,rfl,Zb _,by rw[zVD,o.o];exact HO.o,IntsS.nil _ _,ac.o⟩
 case round =>
  obtain⟨k,T,tc,rfl,rfl,hk,v,hi,d⟩:=hrel;have Y:=un (zad d p.o);have aE:=un (HS.o.below d);have I:=un (show VecS wr W.heap.size (.slice (some ⟨W.heap.size,0,none⟩) a a) (zUG N m k)from v);have H:=un (show IntsS wr W.heap.size (T,k,tc) (zKa N k)from hi);have L:=un (show Bel W wr from Bel.mk d);have E:=un (G.o.trans ((d).mono G.o.size));obtain⟨bL,_,bM,_,b7,_,cl,_,cm,_,bd,_,_,_,bu,_⟩:=bc8 Y.o;by_cases V:k<m
  ·have ag:=un (zWH (N:=N) V);have am:=un (zWI (N:=N) V);have aM:(k:Int)<(m:Int):=by omega
   have aN:(0:Int)≤(N:Int):=Zf _;have aO:(N:Int)+(k:Int)<(a:Int):=by have:=o.o;omega
   have aP:N+k<a:=by have:=o.o;omega
   have aV:N≤64:=by have:=o.o;omega
   clear v hi d;go_wp2_with (at_builtin;go_loud (refine ziP rfl _ _ rfl rfl (H.o.alloc _) rfl (z:=N+k) (zal _ _ _) (n:=k) (by simp[zKa]) (by omega) (by simp;have:=L.o.b.size;omega) ?_;intro F M B Q U f;have ak:=un Q;have ap:=un ((I.o.alloc _).tk U (by decide) (by decide));have ad:=un ((L.o.alloc _).b.trans f);clear Q U f))
   have ar:=un (show IntKind.i64.wrap ((N:Int)+(k:Int))=((N+k:Nat):Int)by rw[Yy];omega);have aQ:(0:Int)≤((N+k:Nat):Int):=Zf _
   have aS:(0:Int)≤(N:Int)+(k:Int):=by omega
   have ao:=un (show((N:Int)+(k:Int)).toNat=N+k by omega);have f:=ad.o;have Z:=un (zad f p.o);have J:=un (show VecS B W.heap.size (.slice (some ⟨W.heap.size,0,none⟩) a a) (zUG N m k)from ap.o);have ah:=un (show IntsS B W.heap.size (F,k+1,M) (zKa N k++[N+k])from ak.o);have aq:=un (show Bel W B from Bel.mk f);obtain⟨b0,_,b1,_,cf,_,cp,_,ct,_,a5,_,bt,_,bw,_⟩:=bc8 Z.o;obtain⟨ga,Aa,ma,ca,Da,aA,aw,y0,y1,y2,_⟩:=J.o.at_ ag.o;clear f;go_wp2_with fail
   refine za2 (S:=fun w'=>w'.cell? ⟨w,0,none⟩=some (rA,m,rc)∧w'.cell? ⟨w,1,none⟩=some (.int .i64 (a:Int))∧w'.cell? ⟨w,2,none⟩=some (bA,m,bc_)∧w'.cell? ⟨w,3,none⟩=some (kA,a,kc)∧w'.cell? ⟨w,4,none⟩=some (.int .i64 (own:Int))∧w'.cell? ⟨w,5,none⟩=some (eA,m,ec)∧w'.cell? ⟨w,6,none⟩=some (r,m,s)∧w'.cell? ⟨w,7,none⟩=some (.int .i64 (N:Int))∧w'.cell? ⟨W.heap.size,(N+k)*3,none⟩=some (.bool ga)∧w'.cell? ⟨W.heap.size,(N+k)*3+1,none⟩=some (Aa,ma,ca)∧w'.cell? ⟨W.heap.size,(N+k)*3+2,none⟩=some (Da,aA,aw)) 7 (h:=fun hHeld=>?_)
   refine zaw [0,1,2,3,4] ?_;repeat refine tkE (hS:=hHeld) (h:=?_)
   refine zao ?_;refine zaN 5 (h:=fun K g=>?_);go_simp
   (go_at_call 13;(refine(Rt.int 1 (by decide) (by decide) _).mono ?_);rintro e u1 ⟨g1,A1,m1,c1,D1,md1,cd1,rfl,hn,hb⟩;have aI:=un (zad hb Z.o);have l:=un (J.o.drew.below hb);have aC:=un (ah.o.drew.below hb);have aD:=un (aq.o.drew.below hb);have HM:=un (hn);obtain⟨b3,_,b4,_,cg,cd,cq,_,cu,_,a6,_,bC,_,bD,_⟩:=bc8 aI.o;have z0:=zab hb y0;have z1:=zab hb y1;have z2:=zab hb y2;have aX:=l.o.fro ((N+k)*3);have of1:=l.o.fro ((N+k)*3+1);have aY:=l.o.fro ((N+k)*3+2);clear hn hb)
   (try go_wp2_with fail)
   refine shutOn g fun hHeld=>?_
   clear g K
   rw[ar.o];refine zaw [6] ?_;repeat refine tkE (hS:=hHeld) (h:=?_)
   refine zao ?_;simp only[ao.o];refine zba (h:=fun K g=>?_);go_simp;refine shutOff g ?_;clear g K
   refine za1 (h:=?_);go_wp2;obtain⟨aK,u⟩:=l.o.ratBlk;go_roundw
   case rel=>exact⟨k+1,F,M,by go_num,rfl,by omega,by rw[←am.o];exact VecS.store l.o (N+k) HM.o,by rw[zUR];exact((aC.o.tk (TKeep.set u _) (by decide)).tk (TKeep.set (zar _ u) _) (by decide)).tk (TKeep.set (zar _ (zar _ u)) _) (by decide),(Bel.set3 aD.o (Za _) _ _ _).b⟩
   case measure=>simp[intOf];omega
  ·obtain rfl:m=k:=by omega
   clear v hi d;go_wp2_with fail
   refine(Tb.new rA rc lA bA bc_ kA kc eA ec m a S own A b c left T tc (zKa N m) W.heap.size _ aE.o H.o ae.o af.o).mono ?_
   rintro e wt ⟨q,x,y,rfl,hT,hb⟩;have aG:=un (zad hb Y.o);have aJ:=un (I.o.below hb);have aH:=un (E.o.trans ((hb).mono E.o.size));obtain⟨_,_,_,_,_,_,_,_,a3,_,a4,_⟩:=bc8 aG.o;have HT:=un hT;clear hT hb;go_wp2;go_ret2
   exact⟨wr,q,_,_,x,y,rfl,HT.o,by rw[←zWG];exact aJ.o.base (by have:=HZ.o;omega),E.o,aH.o⟩
