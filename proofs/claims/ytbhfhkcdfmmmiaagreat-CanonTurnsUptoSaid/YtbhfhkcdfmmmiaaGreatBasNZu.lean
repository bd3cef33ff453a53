/- Contracts and lemmas: BasN Tb3 PrM. Conditions: as each says. -/
import Derived.Test.YtbhfhkcdfmmmiaaGreatLuFacZu
import Derived.Test.YtbhfhkcdfmmmiaaGreatBasTZu
import Derived.Test.YtbhfhkcdfmmmiaaGreatBoolsZu
set_option linter.all false
set_option maxHeartbeats 4000000
set_option maxRecDepth 100000
namespace Go.Proofs.YtbhfhkcdfmmmiaaGreat
open Go.RowKit Am
open Lib (hid)
attribute [local go_sem ↓] Go.wp_at_zero Go.wp_at_succ
variable {A:List (List Rat)}{zs:List Int}{cols:List Nat}{ys:List Rat}{N j k m:Nat}
def zCq (w:World) (n S:Nat) (C:List (List Rat)) (e:Ending) (w':World):Prop :=
  (∃q,CReg n C∧e=.returned (.tuple #[.pointer (some ⟨q,0,none⟩),.nilIface])∧zjE w' w.heap.size q n S C∧Below w.heap.size w w') ∨
  (¬CReg n C∧e=.returned (.tuple #[.pointer none,.iface 73 (.int .i64 140)])∧Below w.heap.size w w')
namespace Bs
theorem new(n F:Nat)(A:OA)(l0:List Value)(C:List (List Rat))(s S:Nat)(w:World)(h:VecsL w s (A,n,F) l0 C)(G:CSq n C)(N:n≤64)(P:zhg mw n S C)(J:24*uB n S+8≤LIM) :
  Calls Tryz.prog 124 #[(A,n,F)] w (zCq w n S C):=by
 have u:=hid N;have B:=hid G;have ad:=hid P;have X:=hid J;have D:=hid h;have m:=hid h.nlen;have aq:n≤9223372036854775807:=by omega
 have al:decide ((64:Int)<(n:Int))=false:=by simp;omega
 have am:¬((64:Int)<(n:Int)):=by omega
 have an:((n:Int) != (n:Int))=false:=by simp
 clear N G P J h;go_enter Tryz.func124,Tryz.ntmps124;go_wp2
 go_loopw [11] (fun i wr=>∃(k:Nat) (bA:OA) (bc_:Nat) (j:List Value),i=.int .i64 k∧k≤n∧wr.heap[w.heap.size]? = some (.cells #[(bA,k,bc_),.pointer none,()] 231 (0,0))∧VecsL wr w.heap.size (bA,k,bc_) j (C.take k)∧Below w.heap.size w wr)
  (fun i _=>n-(intOf i).toNat)
 case atStart=>exact⟨0,none,0,[],rfl,Nat.zero_le _,zal _ _ _,by rw[List.take_zero];exact VecsL.nil _ _,zae _ _⟩
 case round =>
  obtain⟨k,bA,bc_,j,rfl,hk,l,c,d⟩:=hrel;by_cases M:k<n
  ·obtain⟨r,hr⟩:∃r,C[k]? = some r:=⟨C[k]'(by rw[←m.out];exact M),List.getElem?_eq_getElem _⟩
   have O:=zuy B.out r (List.mem_of_getElem? hr);obtain⟨b0,rfl,_,_⟩:=D.out.has (by omega);obtain⟨q,y,_,y0,z⟩:=(D.out.below d).at_ hr;rw[O]at y0 z;have f:=hid (z);have R:=hid (c);have HW:=hid (Bel.mk d);have aw:=y0;have ak:wr.cell? ⟨w.heap.size,0,none⟩=some (bA,k,bc_):=zac l 0;have ai:=zaa ak;have x:=hid l;have Z:=hid hr
   have V:=hid (d.size);clear hr O z c d l y0;have ao:(0:Int)≤(k:Int):=Int.natCast_nonneg _;have ap:(k:Int)<(n:Int):=by omega
   go_wp2_with fail
   refine zaS (S:=fun w'=>w'.cell? ⟨w.heap.size,0,none⟩=some (bA,k,bc_)) [11] (h:=fun hHeld=>?_);refine zaw [0,1,2,3,4,5] ?_;repeat refine tkL (hS:=hHeld) (h:=?_)
   refine zao ?_;refine zaB 6 (h:=fun K a=>?_);go_simp
   (go_at_call 45;(with_reducible refine(Vc.copy q n y r s _ (f.out.drew) (by have:=u.out;omega)).mono ?_);rintro e u1 ⟨A2,c2,rfl,hv2,c⟩;have ab:=hid (show VecS u1 wr.heap.size (A2,n,c2) r from hv2);have T:=hid (R.out.below (show Below wr.heap.size wr u1 from It.bdrew0' c));have E:=hid (HW.out.below (show Below wr.heap.size wr u1 from It.bdrew0' c));have ae:=hid (zad (show Below wr.heap.size wr u1 from It.bdrew0' c) x.out);have s0:=zab c ai;clear hv2 c)
   (try go_wp2_with fail)
   refine a.out _ _ kp fun hHeld=>?_
   clear a K;try simp only[Act.put,pu1,pu2,pu3,pu4,pu5,pu6]
   refine zaB 7 (h:=fun K a=>?_);go_simp;refine a.out _ _ kp fun hHeld=>?_
   clear a K;try simp only[Act.put,pu1,pu2,pu3,pu4,pu5,pu6]
   refine zaB 8 (h:=fun K a=>?_)
   (refine zet rfl _ _ rfl rfl (T.out.alloc (.cells #[(A2,n,c2)] 28)) rfl (zal _ _ _) ((ab.out.base V.out).alloc _) (n:=k) (by rw[List.length_take];have:=m.out;omega) (by have:=u.out;omega) (by simp;have:=E.out.b.size;omega) ?_;intro Q c5 w5 H L I ah;have Y:=hid H;have U:=hid I;have o:=hid (L.blk (zak ae.out) (by decide));have z0:=zac o.out 0;have zf:=zag o.out 0;simp only[List.getElem?_toArray,List.getElem?_cons_zero,List.getElem?_cons_succ]at z0;clear H L I ah)
   refine a.out _ _ kp fun hHeld=>?_
   clear a K;try simp only[Act.put,pu1,pu2,pu3,pu4,pu5,pu6]
   refine zaw [9] ?_;repeat refine tkX (h:=?_)
   refine zao ?_;refine zaw [10] ?_;repeat refine tkL (hS:=hHeld) (h:=?_)
   refine zao ?_;refine zay 11 (h:=fun K a=>?_);go_simp;refine a.out _ _ ?_;clear a K;try simp only[Act.put,pu1,pu2,pu3,pu4,pu5,pu6]
   refine zaM (h:=?_);go_wp2;go_roundw
   case rel=>exact⟨k+1,Q,c5,_,by go_num,by omega,zar _ o.out,by rw[show C.take (k+1)=C.take k++[r]by rw[List.take_add_one,Z.out];rfl];exact Y.out.tk (TKeep.set o.out _) (by decide) (by decide) (by decide),((E.out.alloc _).b.trans U.out).setCell (p:=⟨w.heap.size,0,none⟩) (Nat.le_refl _) _⟩
   case measure=>simp[intOf];omega
  ·obtain rfl:k=n:=by omega
   have W:=hid (show VecsL wr w.heap.size (bA,k,bc_) j C by have h:=c;rw[m.out,List.take_length]at h;rw[m.out];exact h);have v:=hid d;have x:=hid l;clear hk l c d M;go_wp2_with fail
   refine(factor w.heap.size w.heap.size k S bc_ bA j C _ _ _ x.out W.out (Nat.le_refl _) B.out u.out ad.out X.out).mono ?_;rintro e w2 (⟨hr,rfl,hs,hb2,_⟩ | ⟨hr,rfl,hb2⟩)
   ·have f:=hid hr;have HS:=hid (hs none (fun g h=>by cases h)).toS;have t:=hid (v.out.trans hb2);clear hr hs hb2;go_wp2;go_ret2
    exact .inl ⟨_,f.out,rfl,HS.out,t.out⟩
   ·have f:=hid hr;have t:=hid (v.out.trans (hb2.mono v.out.size));clear hr hb2;go_wp2;go_ret2
    exact .inr ⟨f.out,rfl,t.out⟩
end Bs
theorem EtasL.base{w:World}{H c:Nat}{v:Value}{l:List (Nat × Value)}{es:List (Nat × List Rat)}(h:EtasL w H v l es)(d:c≤H):EtasL w c v l es :=
 ⟨h.len,fun k s e a b=>⟨(h.each k s e a b).1,(h.each k s e a b).2.base d⟩,zbu h.own d⟩
theorem zjE.base{w:World}{H b q n S:Nat}{C:List (List Rat)}(h:zjE w H q n S C)(a:b≤H):zjE w b q n S C:=by
 obtain⟨cA,cc,lc,K,ql,F,D,eA,ec,le,es,h⟩:=h;exact⟨cA,cc,lc,K,ql,F,D,eA,ec,le,es,h.blk,h.cols.base a,h.low,h.lu,h.fac,h.etas.base a,h.right,h.few,Nat.le_trans a h.own,Nat.le_trans a h.ownK⟩
theorem zhf.base{w:World}{H b q n S:Nat}{C:List (List Rat)}{tb:Option Nat}(h:zhf w H q n S C tb)(a:b≤H):zhf w b q n S C tb:=by
 obtain⟨cA,cc,lc,K,ql,F,D,eA,ec,le,es,h,c⟩:=h;exact⟨cA,cc,lc,K,ql,F,D,eA,ec,le,es,⟨h.blk,h.cols.base a,h.low,h.lu,h.fac,h.etas.base a,h.right,h.few,Nat.le_trans a h.own,Nat.le_trans a h.ownK⟩,c⟩
theorem zzi(h:cols[k]? = some j):bc A (cols.take (k+1))=bc A (cols.take k)++[zb4 A j]:=by
 unfold bc;rw[List.take_add_one,h,List.map_append];rfl
theorem zqp(b:Basis m N A cols)(hk:cols[k]? = some j):(j:Int) ∉ (cols.map fun(x:Nat)=>(x:Int)).take k:=fun h=>by
 obtain⟨i,a⟩:=List.mem_iff_getElem?.1 h;rw[List.getElem?_take]at a;split at a
 ·rename_i hik
  rw[List.getElem?_map]at a;cases e:cols[i]? with
  | none=>rw[e]at a;cases a
  | some x =>
   rw[e]at a;injection a with a;have c:x=j:=by have l:((x:Nat):Int)=(j:Int):=a;omega
   have f:=(List.getElem?_eq_some_iff.1 e).1;have g:=(List.getElem?_eq_some_iff.1 hk).1;have:=b.inj i k (by rw[←b.len];exact f) (by rw[←b.len];exact g) (by rw[getD_some (d:=0) e,getD_some (d:=0) hk,c]);omega
 ·cases a
namespace Tb
theorem new(rA:OA)(rc:Nat)(lA:List Value)(bA:OA)(bc_:Nat)(kA:OA)(kc:Nat)(eA:OA)(ec m N S own:Nat)(A:List (List Rat))(b c:List Rat)(left:List Int)(tA:OA)(tc:Nat)(cols:List Nat)(L:Nat)(w:World)
  (hS:StdP w rA rc lA bA bc_ kA kc eA ec m N S A b c left) (hc:IntsS w L (tA,m,tc) cols) (a:Basis m N A cols) (ar:zor m S≤LIM) :
  Calls Tryz.prog 83 #[.agg #[(rA,m,rc),(N:Int),(bA,m,bc_),(kA,N,kc),(own:Int),(eA,m,ec)],(tA,m,tc)] w fun e w'=>∃(q:Nat) (a4:OA) (a5:Nat),e=.returned (.tuple #[.pointer (some ⟨q,0,none⟩),.nilIface])∧zhi w w' w.heap.size q rA rc lA bA bc_ kA kc eA ec m N S own A b c left a4 a5 cols∧Below w.heap.size w w':=by
 have f:=hid a;have ai:=hid ar;have I:=hid hS;have bw:=hS.hm;have bp:=hS.hN;have U:=hc.form;have bq:tc≤9223372036854775807:=by have:=U.2.2.1;unfold maxLen at this;omega
 have br:=U.2.1;have aL:=hid (show zhg mw m S (bc A cols)from fun j hj i hi=>by rw[ztZ (by rw[a.len];exact hj) (by rw[a.rect.len];exact hi)];exact hS.zen hi (a.lt j hj));clear ar a U;obtain⟨W,u⟩:∃W,(w.alloc (.cells #[(rA,m,rc),(N:Int),(bA,m,bc_),(kA,N,kc),(own:Int),(eA,m,ec)] 113))=W:=⟨_,rfl⟩
 have am:=hid (show W.heap[w.heap.size]? = some (.cells #[(rA,m,rc),(N:Int),(bA,m,bc_),(kA,N,kc),(own:Int),(eA,m,ec)] 113 (0,0))by rw[←u];exact zam (by simp));have BB:=hid (show Below w.heap.size w W by rw[←u];exact zae w _);have HS:=hid (show StdP W rA rc lA bA bc_ kA kc eA ec m N S A b c left by rw[←u];exact(hS).alloc _);have HI:=hid (show IntsS W L (tA,m,tc) cols by rw[←u];exact(hc).alloc _);obtain⟨bK,_,bL,_,bP,_,bU,_,bW,_,bF,_⟩:=bc6 am.out
 clear hS hc;go_enter Tryz.func83,Tryz.ntmps83;go_wp2_with fail
 clear u;refine zaS (S:=fun w'=>w'.cell? ⟨w.heap.size,0,none⟩=some (rA,m,rc)∧w'.cell? ⟨w.heap.size,1,none⟩=some (.int .i64 (N:Int))∧w'.cell? ⟨w.heap.size,2,none⟩=some (bA,m,bc_)∧w'.cell? ⟨w.heap.size,3,none⟩=some (kA,N,kc)∧w'.cell? ⟨w.heap.size,4,none⟩=some (.int .i64 (own:Int))∧w'.cell? ⟨w.heap.size,5,none⟩=some (eA,m,ec)) [] (h:=fun hHeld=>?_);refine zaw [0,1,2,3] ?_;repeat refine tkL (hS:=hHeld) (h:=?_)
 refine zao ?_;refine zaB 4 (h:=fun K l=>?_);go_simp
 (go_at_call 103;(with_reducible refine(Mt.rows N m rc rA _).mono ?_);rintro e u1 ⟨rfl,hb⟩;have aA:=hid (zad hb am.out);have ba:=hid (HS.out.drew.below hb);have a6:=hid (HI.out.drew.below hb);have az:=hid (BB.out.trans ((It.bdrew0' hb).mono BB.out.size));obtain⟨bI,_,bJ,_,bO,_,bV,_,bX,_,bG,_⟩:=bc6 aA.out;clear hb)
 (try go_wp2_with fail)
 refine l.out _ _ kp fun hHeld=>?_
 clear l K;try simp only[Act.put,pu1,pu2,pu3,pu4,pu5,pu6]
 refine zaw [5,6,7,8,9,10,11] ?_;repeat refine tkL (hS:=hHeld) (h:=?_)
 refine zao ?_;refine zaB 12 (h:=fun K l=>?_);go_simp
 (go_at_call 103;(with_reducible refine(Mt.rows N m rc rA _).mono ?_);rintro e u2 ⟨rfl,hb⟩;have ac:=hid (zad hb aA.out);have ax:=hid (ba.out.below hb);have Q:=hid (a6.out.below hb);have C:=hid (az.out.trans ((hb).mono az.out.size));obtain⟨bM,_,bN,_,bR,_,bS,_,bT,_,bH,_⟩:=bc6 ac.out;clear hb)
 (try go_wp2_with fail)
 refine l.out _ _ kp fun hHeld=>?_
 clear l K;try simp only[Act.put,pu1,pu2,pu3,pu4,pu5,pu6]
 refine zaw [13,14] ?_;repeat refine tkL (hS:=hHeld) (h:=?_)
 refine zao ?_;refine zaM (h:=?_);go_wp2
 go_loopw [6,32] (fun vs i wr=>∃(k:Nat) (s:OA) (t:Nat) (z:List Value),vs=(s,k,t)∧i=.int .i64 k∧k≤m∧VecsL wr u2.heap.size (s,k,t) z (bc A (cols.take k))∧Below u2.heap.size u2 wr)
  (fun _ i _=>m-(intOf i).toNat)
 case atStart=>exact⟨0,none,0,[],rfl,rfl,Nat.zero_le _,VecsL.nil _ _,Below.refl _ _⟩
 case round =>
  obtain⟨k,s,t,z,rfl,rfl,hk,y,a⟩:=hrel;have aV:=hid (C.out.size);by_cases V:k<m
  ·obtain⟨j,hj⟩:∃j,cols[k]? = some j:=⟨cols[k]'(by rw[f.out.len];exact V),List.getElem?_eq_getElem _⟩
   have a0:j<N:=by have:=f.out.lt k V;rw[getD_some (d:=0) hj]at this;exact this
   obtain⟨bt,rfl,_,_⟩:=Q.out.has (by omega);have p0:=(Q.out.below a).at_ hj;have D:=hid (zad a ac.out);have P:=hid (ax.out.below a);have aa:=hid (Q.out.below a);have J:=hid (y);have HW:=hid (Bel.mk a);have F:=hid (C.out.trans ((a).mono C.out.size));obtain⟨bh,_,bi,_⟩:=bc6 D.out;have bQ:=p0;have R:=hid (And.intro hj a0);clear y a hj p0
   have bs:(0:Int)≤(k:Int):=Int.natCast_nonneg _;have bu:(k:Int)<(m:Int):=by omega
   have bv:(k:Int)≤(tc:Int):=by omega
   go_wp2_with fail
   with_reducible refine(Mt.col N m rc rA lA A 0 j _ P.out.rows I.out.rl R.out.2 (by omega) (by omega)).mono ?_
   rintro e w1 ⟨B,n1,c1,rfl,hv1,hb⟩;have E:=hid (zad hb D.out);have ab:=hid (P.out.below hb);have Z:=hid (aa.out.below hb);have ae:=hid (J.out.below hb);have bj:=hid (HW.out.below hb);have HU:=hid (hv1);have G:=hid (F.out.trans ((hb).mono F.out.size));obtain⟨bd,_,be,_,bk,_,bl,_,bn,_,a7,_⟩:=bc6 E.out;clear hv1 hb;have T:=hid (HW.out.b.size);go_wp2_with fail
   with_reducible refine(Sl.has (some ⟨bt,0,none⟩) k tc ((cols.map fun(x:Nat)=>(x:Int)).take k) (j:Int) L _ (Z.out.toZ.cut (by omega))).mono ?_
   rintro e w2 ⟨rfl,hb⟩;have ad:=hid (zad hb E.out);have ay:=hid (ab.out.below hb);have aC:=hid (ae.out.below hb);have aE:=hid (bj.out.below hb);have bb:=hid (HU.out.below hb);have aB:=hid (G.out.trans ((hb).mono G.out.size));obtain⟨bf,_,bg,_,aD,_,bm,_,bo,_,a8,_⟩:=bc6 ad.out;clear hb;have hd:=decide_eq_false (zqp f.out R.out.1);rw[hd];clear hd
   go_wp2_with (at_builtin;refine zbW rfl _ _ rfl rfl (aC.out.alloc (.cells #[(B,n1,c1)] 28)) rfl (zal _ _ _) ((bb.out.base T.out).alloc _) (n:=k) (by rw[zx7,List.length_take,f.out.len];omega) (by omega) (by simp;have:=aE.out.b.size;omega) ?_;intro A5 c5 w5 ao a1 ap aZ;have aN:=hid ao;have aG:=hid ((aE.out.alloc (.cells #[(B,n1,c1)] 28)).b.trans ap);clear ao a1 ap aZ)
   go_roundw
   case rel=>exact⟨k+1,A5,c5,_,rfl,by go_num,by omega,by rw[zzi R.out.1];exact aN.out,aG.out⟩
   case measure=>simp[intOf];omega
  ·obtain rfl:m=k:=by omega
   have aT:=hid (show cols.take m=cols by rw[←f.out.len,List.take_length]);rw[aT.out]at y;have D:=hid (zad a ac.out);have P:=hid (ax.out.below a);have aa:=hid (Q.out.below a);have J:=hid (y);have F:=hid (C.out.trans ((a).mono C.out.size));obtain⟨bh,_,bi,_⟩:=bc6 D.out;have T:=hid (a.size);clear y a hk V;go_wp2_with fail
   refine(Bs.new m t s z (bc A cols) u2.heap.size S _ J.out f.out.sq (by omega) aL.out (zC3 (ziY ai.out))).mono ?_;rintro e O (⟨qb,hr,rfl,hs,hb⟩ | ⟨hr,rfl,hb⟩)
   ·have ah:=hid hs;have E:=hid (zad hb D.out);have ab:=hid (P.out.below hb);have Z:=hid (aa.out.below hb);have ae:=hid (J.out.below hb);have aJ:=hid (hs);have G:=hid (F.out.trans ((hb).mono F.out.size));obtain⟨bd,_,be,_,bk,_,bl,_,bn,_,a7,_⟩:=bc6 E.out;clear hr hs hb;go_wp2_with fail
    refine zaS (S:=fun w'=>w'.cell? ⟨w.heap.size,0,none⟩=some (rA,m,rc)∧w'.cell? ⟨w.heap.size,1,none⟩=some (.int .i64 (N:Int))∧w'.cell? ⟨w.heap.size,2,none⟩=some (bA,m,bc_)∧w'.cell? ⟨w.heap.size,3,none⟩=some (kA,N,kc)∧w'.cell? ⟨w.heap.size,4,none⟩=some (.int .i64 (own:Int))∧w'.cell? ⟨w.heap.size,5,none⟩=some (eA,m,ec)) [] (h:=fun hHeld=>?_);refine zaw [0,1,3] ?_;repeat refine tkL (hS:=hHeld) (h:=?_)
    refine zao ?_;refine zaB 2 (h:=fun K l=>?_);go_simp
    (go_at_call 108;(with_reducible refine(Sl.clone tA m tc (cols.map fun(x:Nat)=>(x:Int)) L _ (Z.out.drew.toZ) (by omega)).mono ?_);rintro e r ⟨T4,c4,rfl,hz,hb⟩;have ad:=hid (zad hb E.out);have ay:=hid (ab.out.drew.below hb);have aC:=hid (ae.out.drew.below hb);have a9:=hid (aJ.out.drew.below hb);have aR:=hid (show IntsS r O.heap.size (.slice T4 (cols.map fun(x:Nat)=>(x:Int)).length c4) cols from hz.toS);have aB:=hid (G.out.trans ((It.bdrew0' hb).mono G.out.size));obtain⟨bf,_,bg,_,aD,_,bm,_,bo,_,a8,_⟩:=bc6 ad.out;have aH:=hid hb;clear hb;clear hz)
    (try go_wp2_with fail)
    refine l.out _ _ kp fun hHeld=>?_
    clear l K;try simp only[Act.put,pu1,pu2,pu3,pu4,pu5,pu6]
    refine zaw [4] ?_;repeat refine tkL (hS:=hHeld) (h:=?_)
    refine zao ?_;refine zaB 5 (h:=fun K l=>?_);go_simp;refine l.out _ _ kp fun hHeld=>?_
    clear l K;try simp only[Act.put,pu1,pu2,pu3,pu4,pu5,pu6]
    refine zaw [6] ?_;repeat refine tkL (hS:=hHeld) (h:=?_)
    refine zao ?_;refine zaM (h:=?_);have aO:=hid (show(cols.map fun(x:Nat)=>(x:Int)).length=m by rw[List.length_map,f.out.len]);rw[f.out.len];have aj:=hid (show IntsS r O.heap.size (T4,m,c4) cols by have h:=aR.out;rw[aO.out]at h;exact h);have aW:=hid (ah.out.hle);have H:=hid (aB.out)
    have s2:(r.alloc (.cells #[(rA,m,rc),(N:Int),(bA,m,bc_),(kA,N,kc),(own:Int),(eA,m,ec),(T4,m,c4),.pointer (some ⟨qb,0,none⟩),()] 200)).cell? ⟨w.heap.size,2,none⟩=some (bA,m,bc_):=cell_al aD;have KT:=hid (zal r #[(rA,m,rc),(N:Int),(bA,m,bc_),(kA,N,kc),(own:Int),(eA,m,ec),(T4,m,c4),.pointer (some ⟨qb,0,none⟩),()] 200)
    have aK:=hid (a9.out.alloc (.cells #[(rA,m,rc),(N:Int),(bA,m,bc_),(kA,N,kc),(own:Int),(eA,m,ec),(T4,m,c4),.pointer (some ⟨qb,0,none⟩),()] 200))
    have aI:=hid ((((ah.out.drew.later (tb:=(Value.slice T4 m c4).ownBlock) (fun g hg=>(aj.out.own.lt g hg).1)).below aH.out).alloc (.cells #[(rA,m,rc),(N:Int),(bA,m,bc_),(kA,N,kc),(own:Int),(eA,m,ec),(T4,m,c4),.pointer (some ⟨qb,0,none⟩),()] 200)))
    have aQ:=hid (ay.out.alloc (.cells #[(rA,m,rc),(N:Int),(bA,m,bc_),(kA,N,kc),(own:Int),(eA,m,ec),(T4,m,c4),.pointer (some ⟨qb,0,none⟩),()] 200));go_wp2_with fail
    refine(Bs.solve wr.heap.size qb m S S (bc A cols) bA bc_ b 0 _ aK.out aQ.out.B (by omega) I.out.zb I.out.hS (ziY ai.out)).mono ?_;rintro e Y ⟨X6,n6,c6,rfl,hv6,hb⟩;have ak:=hid hv6;have ag:=hid hb;obtain rfl:m=n6:=by rw[ak.out.len,(zci f.out.sq f.out.reg b).2]
    have M:=hid (zad hb KT.out);have aS:=hid ((aj.out.alloc (.cells #[(rA,m,rc),(N:Int),(bA,m,bc_),(kA,N,kc),(own:Int),(eA,m,ec),(T4,m,c4),.pointer (some ⟨qb,0,none⟩),()] 200)).below hb);have t8:=zac M.out 8;have bC:=zag M.out 8;simp only[List.getElem?_toArray,List.getElem?_cons_zero,List.getElem?_cons_succ]at t8;clear hv6 hb;go_wp2;have X:TKeep 200 Y (Y.setCell ⟨r.heap.size,8,none⟩ (X6,m,c6)):=TKeep.set M.out _
    have aq:Below w.heap.size w (Y.setCell ⟨r.heap.size,8,none⟩ (X6,m,c6)):=(H.out.trans (((zae r _).trans (ag.out.mono (by simp))).mono H.out.size)).setCell (p:=⟨r.heap.size,8,none⟩) H.out.size _;have a2:=H.out.size;have bx:=aV.out;have bz:=T.out;have bB:=aW.out;refine bodyPost_ret (v:=.tuple #[.pointer (some ⟨r.heap.size,0,none⟩),.nilIface]) (by simp[results,Tryz.results83,go_sem]) rfl ?_
    refine⟨r.heap.size,T4,c4,rfl,⟨qb,X6,c6,?_,I.out,aq,Nat.le_refl _,(aS.out.base (by omega)).tk X (by decide),((aI.out.below ag.out).base (by omega)).tk X (by decide) (by decide) (by decide) (by decide) (by decide) (by decide) (by decide),?_,f.out,a2⟩,aq⟩
    ·have:=zar (o:=8) (X6,m,c6) M.out;simpa using this
    ·unfold za5;rw[f.out.len];exact(ak.out.base (by simp;omega)).tk X (by decide) (by decide)
   ·exact absurd f.out.reg hr
end Tb
def sgI (q:Rat):Int:=if q<0 then -1 else 1
theorem zUb(q:Rat):((sgI q:Int):Rat)=sgn q:=by unfold sgI sgn;split<;>rfl
theorem zTW(q:Rat):sgI q = -1∨sgI q=1:=by unfold sgI;split<;>simp
def bkL (zs:List Int) (ys:List Rat) (k:Nat):List Rat:=(List.range ys.length).map fun i=>if i<k then ((zs.getD i 0:Int):Rat)*el ys i else el ys i
theorem zSJ(zs:List Int)(ys:List Rat)(k:Nat):(bkL zs ys k).length=ys.length:=by simp[bkL]
theorem zVQ(zs:List Int)(ys:List Rat):bkL zs ys 0=ys:=by
 apply List.ext_getElem?;intro i;unfold bkL;rw[List.getElem?_map];by_cases h:i<ys.length
 ·rw[List.getElem?_range h,zaH h];simp
 ·rw[List.getElem?_eq_none (by simpa using h),List.getElem?_eq_none (by omega)];rfl
theorem zTv{i:Nat}(h:i<ys.length):(bkL zs ys k)[i]? = some (if i<k then ((zs.getD i 0:Int):Rat)*el ys i else el ys i):=by
 unfold bkL;rw[List.getElem?_map,List.getElem?_range h];rfl
theorem zXf(h:k<ys.length):(bkL zs ys k).set k (((zs.getD k 0:Int):Rat)*el ys k)=bkL zs ys (k+1):=by
 apply List.ext_getElem?;intro i;rw[List.getElem?_set];by_cases b:i<ys.length
 ·rw[zTv b,zTv b,zSJ];by_cases e:k=i
  ·subst e;rw[if_pos rfl,if_pos h,if_pos (by omega)]
  ·rw[if_neg e];by_cases a:i<k
   ·rw[if_pos a,if_pos (by omega)]
   ·rw[if_neg a,if_neg (by omega)]
 ·rw[List.getElem?_eq_none (by rw[zSJ];omega),List.getElem?_eq_none (by rw[zSJ];omega),if_neg (by omega)]
def zUG (N m k:Nat):List Rat:=List.replicate N 0++(List.replicate k 1++List.replicate (m-k) 0)
theorem zVD(N m:Nat):zUG N m 0=List.replicate (N+m) 0:=by unfold zUG;simp[List.replicate_append_replicate]
theorem zWG(N m:Nat):zUG N m m=zJG N m:=by unfold zUG zJG;simp
theorem zWI(h:k<m):(zUG N m k).set (N+k) 1=zUG N m (k+1):=by
 unfold zUG;rw[List.set_append,if_neg (by rw[List.length_replicate];omega),List.length_replicate,Nat.add_sub_cancel_left,List.set_append,if_neg (by rw[List.length_replicate];omega),List.length_replicate,Nat.sub_self,show m-k=(m-(k+1))+1 by omega,List.replicate_succ,List.set_cons_zero,List.replicate_succ' (n:=k),List.append_assoc];rfl
theorem zWH(h:k<m):(zUG N m k)[N+k]? = some 0:=by
 unfold zUG;rw[List.getElem?_append_right (by rw[List.length_replicate];omega),List.length_replicate,Nat.add_sub_cancel_left,List.getElem?_append_right (by rw[List.length_replicate];omega),List.length_replicate,Nat.sub_self,List.getElem?_replicate,if_pos (by omega)]
theorem zUR(N k:Nat):zKa N (k+1)=zKa N k++[N+k]:=by unfold zKa;rw[List.range_succ,List.map_append];rfl
theorem zUB(N m:Nat):zsn (N+m) N=zKc N m:=by unfold zsn zKc;rw[Nat.add_sub_cancel_left]
def zVK (w:World) (n:Nat) (xs:List Bool) (e:Ending) (w':World):Prop:=∃(A:OA) (c:Nat),e=.returned (A,n,c)∧BoolsS w' w.heap.size (A,n,c) xs∧Below w.heap.size w w'
namespace Pr
theorem pmay(rA:OA)(rc:Nat)(bA:OA)(bc_:Nat)(kA:OA)(kc:Nat)(eA:OA)(ec:Nat)(g:OA)(j m a own N:Nat)(w:World)(D:N≤a)(z:a≤64) :
  Calls Tryz.prog 55 #[.agg #[(rA,m,rc),(a:Int),(bA,m,bc_),(kA,a,kc),(own:Int),(eA,m,ec),(g,m,j),(N:Int)]] w (zVK w a (zsn a N)):=by
 obtain⟨W,e⟩:∃W,(w.alloc (.cells #[(rA,m,rc),(a:Int),(bA,m,bc_),(kA,a,kc),(own:Int),(eA,m,ec),(g,m,j),(N:Int)] 117))=W:=⟨_,rfl⟩
 have f:=hid (show W.heap[w.heap.size]? = some (.cells #[(rA,m,rc),(a:Int),(bA,m,bc_),(kA,a,kc),(own:Int),(eA,m,ec),(g,m,j),(N:Int)] 117 (0,0))by rw[←e];exact zam (by simp));have n:=hid (show Below w.heap.size w W by rw[←e];exact zae w _);have u:=hid (show w.heap.size+1≤W.heap.size by rw[←e];simp);obtain⟨_,_,_,_,_,_,aB,_⟩:=bc8 f.out;go_enter Tryz.func55,Tryz.ntmps55
 go_wp2_with (at_make;go_must (refine zf8 rfl _ _ rfl a _ rfl rfl rfl (by omega) W.heap.size rfl ?_;intro w1 q l;have r:=hid l;have x:=hid (zad l f.out);have s:=hid (q);obtain⟨_,_,_,_,_,_,_,_,_,_,_,_,_,_,Y,_⟩:=bc8 x.out;clear q l))
 clear e
 go_loopw [12] (fun i wr=>∃k:Nat,i=.int .i64 k∧k≤N∧BoolsS wr W.heap.size (.slice (some ⟨W.heap.size,0,none⟩) a a) (zsn a k)∧Below W.heap.size W wr)
  (fun i _=>N-(intOf i).toNat)
 case atStart=>exact⟨0,rfl,Nat.zero_le _,by rw[zhU];exact s.out,r.out⟩
 case round =>
  obtain⟨k,rfl,hk,d,c⟩:=hrel;have v:=hid (zad c f.out);have o:=hid (d);have t:=hid (Bel.mk c);have y:=hid (n.out.trans ((c).mono n.out.size));by_cases C:k<N
  ·have y0:=d.at_ (zrF (show k<a by omega));have E:=d.fro k;have A:(0:Int)≤(k:Int):=Int.natCast_nonneg _;have B:(k:Int)<(a:Int):=by omega
   clear d c;go_wp2;go_roundw
   case rel=>exact⟨k+1,by go_num,by omega,by rw[←zoQ (show k<a by omega)];exact o.out.store k true,t.out.b.setCell (p:=⟨W.heap.size,k,none⟩) (Nat.le_refl _) _⟩
   case measure=>simp[intOf];omega
  ·obtain rfl:N=k:=by omega
   clear d c;go_wp2;go_ret
   exact⟨_,_,rfl,o.out.base (by have:=u.out;omega),y.out⟩
theorem pback(rA:OA)(rc:Nat)(bA:OA)(bc_:Nat)(kA:OA)(kc:Nat)(eA:OA)(ec:Nat)(p:OA)(n m f own N:Nat)(zs:List Int)(V:Nat)(Y:OA)(x H:Nat)(ys:List Rat)(S:Nat)(w:World)(P:IntsZ w V (p,m,n) zs)(X:∀z∈zs,z = -1∨z=1)(O:VecS w H (Y,m,x) ys)(hS:8*S+8≤LIM)(h1:1≤S)(zy:∀q∈ys,mw q≤S)(c:m≤64) :
  Calls Tryz.prog 77 #[.agg #[(rA,m,rc),(f:Int),(bA,m,bc_),(kA,f,kc),(own:Int),(eA,m,ec),(p,m,n),(N:Int)],(Y,m,x)] w (zq5 w (bkL zs ys m)):=by
 have ak:=hid P.len;have F:=hid O.len;have au:=hid X;have ao:=hid hS;have H1:=hid h1;have ZY:=hid zy;have aS:m≤9223372036854775807:=by omega
 clear X hS h1 zy;obtain⟨W,r⟩:∃W,(w.alloc (.cells #[(rA,m,rc),(f:Int),(bA,m,bc_),(kA,f,kc),(own:Int),(eA,m,ec),(p,m,n),(N:Int)] 117))=W:=⟨_,rfl⟩
 have J:=hid (show W.heap[w.heap.size]? = some (.cells #[(rA,m,rc),(f:Int),(bA,m,bc_),(kA,f,kc),(own:Int),(eA,m,ec),(p,m,n),(N:Int)] 117 (0,0))by rw[←r];exact zam (by simp));have E:=hid (show Below w.heap.size w W by rw[←r];exact zae w _);have R:=hid (show IntsZ W V (p,m,n) zs by rw[←r];exact(P).alloc _);have ap:=hid (show VecS W H (Y,m,x) ys by rw[←r];exact(O).alloc _)
 obtain⟨bG,bM,bH,bB,bQ,bU,cm,cg,co,cj,bb,a8,bp,bl,bh,bm⟩:=bc8 J.out;clear P O;go_enter Tryz.func77,Tryz.ntmps77;go_wp2_with fail
 clear r;with_reducible refine(Vc.copy Y m x ys H _ ap.out (by omega)).mono ?_
 rintro e w1 ⟨A7,c7,rfl,d,c⟩;have aC:=hid (zad c J.out);have HO:=hid (d);obtain⟨bE,bK,bF,bL,bP,bR,cn,ch,cp,ck,bc,a9,bx,bn,bz,bo⟩:=bc8 aC.out;have ah:=hid c;clear d c;go_upto_region 2 with fail
 have aT:¬(m:Int)<(m:Int):=by omega
 go_cut[14,15] (fun a b wr=>a=(m:Int)∧b=.int .i64 0∧wr=w1)
 case first =>
  go_wp2
  all_goals
   go_meet
   case rel=>exact⟨by first | rfl | (simp;done),rfl,rfl⟩
 obtain⟨rfl,rfl,rfl⟩:=hcut;rename World=>w1
 go_wp2
 go_loopw [15] (fun i wr=>∃k:Nat,i=.int .i64 k∧k≤m∧VecS wr W.heap.size (A7,m,c7) (bkL zs ys k)∧Below W.heap.size W wr)
  (fun i _=>m-(intOf i).toNat)
 case atStart=>exact⟨0,rfl,Nat.zero_le _,by rw[zVQ];exact HO.out,ah.out⟩
 case round =>
  obtain⟨k,rfl,hk,d,o⟩:=hrel;by_cases A:k<m
  ·obtain⟨l,rfl,_,_⟩:=d.has (by omega);obtain⟨L,rfl,_,_⟩:=R.out.has (by omega);have Q:zs[k]? = some (zs.getD k 0):=zaO (by rw[←ak.out];exact A);obtain⟨y,s,B,u,t,C,v,y0,y1,Z,M⟩:=d.at_ (zTv (zs:=zs) (k:=k) (by rw[←F.out];exact A));rw[if_neg (Nat.lt_irrefl k)]at M;have l0:=(R.out.below o).at_ Q;have b1:=d.fro (k*3);have b2:=d.fro (k*3+1);have b3:=d.fro (k*3+2);have U:=hid (au.out _ (List.mem_of_getElem? Q));have ar:=hid (ZY.out _ (List.mem_of_getElem? (zaH (xs:=ys) (j:=k) (by rw[←F.out];exact A))))
   have T:=hid (zXf (zs:=zs) (ys:=ys) (k:=k) (by rw[←F.out];exact A));generalize zs.getD k 0=z at l0 U T;have aa:=hid (zad o J.out);have am:=hid (show RatS wr y (s,B,u) (t,C,v) (el ys k)from M);have G:=hid (d);have HW:=hid (Bel.mk o);obtain⟨bI,bC,bJ,bD,b0,bX,ce,b9,cf,b8,bd,ba,br,bq,bu,bi⟩:=bc8 aa.out;have aE:wr.cell? ⟨L,k,none⟩=some (.int .i64 z):=l0;have ay:=zaa aE
   have aG:wr.cell? ⟨l,k*3,none⟩=some (.bool y):=y0;have az:=zaa aG;have aH:wr.cell? ⟨l,k*3+1,none⟩=some (s,B,u):=y1;have aA:=zaa aH;have aJ:wr.cell? ⟨l,k*3+2,none⟩=some (t,C,v):=Z;have aB:=zaa aJ;have I:=hid (show I64 z by rcases U.out with rfl | rfl<;>exact⟨by decide,by decide⟩);have L1:=hid (show 4*(mw ((z:Int):Rat)+mw (el ys k))+8≤LIM by have:=zu9 z I.out;have:=ar.out;have:=ao.out;have:=H1.out;omega);have ax:=(d.lt rfl).1;have aQ:(0:Int)≤(k:Int):=Int.natCast_nonneg _
   have aR:(k:Int)<(m:Int):=by omega
   clear d o Q y0 y1 Z l0 M;go_wp2_with fail
   refine za2 (S:=fun w'=>w'.cell? ⟨w.heap.size,0,none⟩=some (rA,m,rc)∧w'.cell? ⟨w.heap.size,1,none⟩=some (.int .i64 (f:Int))∧w'.cell? ⟨w.heap.size,2,none⟩=some (bA,m,bc_)∧w'.cell? ⟨w.heap.size,3,none⟩=some (kA,f,kc)∧w'.cell? ⟨w.heap.size,4,none⟩=some (.int .i64 (own:Int))∧w'.cell? ⟨w.heap.size,5,none⟩=some (eA,m,ec)∧w'.cell? ⟨w.heap.size,6,none⟩=some (L,m,n)∧w'.cell? ⟨w.heap.size,7,none⟩=some (.int .i64 (N:Int))∧w'.cell? ⟨L,k,none⟩=some (.int .i64 z)∧w'.cell? ⟨l,k*3,none⟩=some (.bool y)∧w'.cell? ⟨l,k*3+1,none⟩=some (s,B,u)∧w'.cell? ⟨l,k*3+2,none⟩=some (t,C,v)) 14 (h:=fun hHeld=>?_)
   refine zaw [0,1,2,3,4,5,6,8,9,10,11] ?_;repeat refine tkE (hS:=hHeld) (h:=?_)
   refine zao ?_;refine zaN 7 (h:=fun K g=>?_);go_simp
   (go_at_call 13;(with_reducible refine(Rt.int z I.out.1 I.out.2 _).mono ?_);rintro e u1 ⟨g1,A1,m1,c1,D1,md1,cd1,rfl,hn,c⟩;have ab:=hid (zad c aa.out);have aP:=hid (am.out.drew.below c);have aO:=hid (G.out.drew.below c);have aN:=hid (HW.out.drew.below c);have HM:=hid (hn);obtain⟨bY,bN,bZ,bO,b6,b4,a7,cs,a4,ct,a5,cq,bs,be,bv,bj⟩:=bc8 ab.out;have ac:=zab c ay;have aW:=zaa ac;have ad:=zab c az;have aY:=zaa ad;have af:=zab c aA;have a0:=zaa af;have ae:=zab c aB;have a2:=zaa ae;clear hn c)
   (try go_wp2_with fail)
   refine g.out _ _ kp fun hHeld=>?_
   clear g K;try simp only[Act.put,pu1,pu2,pu3,pu4,pu5,pu6]
   refine zaN 12 (h:=fun K g=>?_);go_simp
   (go_at_call 15;(with_reducible refine(Rt.mul g1 A1 m1 c1 D1 md1 cd1 ((z:Int):Rat) y s B u t C v (el ys k) _ HM.out aP.out L1.out).mono ?_);rintro e u2 ⟨g2,A2,m2,c2,D2,md2,cd2,rfl,hn,c⟩;have aD:=hid (zad c ab.out);have D:=hid (aO.out.below c);have aM:=hid (aN.out.below c);have HS:=hid (hn);obtain⟨bV,bS,bW,bT,cb,b5,ci,cc,cl,cd,a6,cr,bt,bf,bw,bk⟩:=bc8 aD.out;have aF:=zab c ac;have aX:=zaa aF;have aI:=zab c ad;have aZ:=zaa aI;have aK:=zab c af;have a1:=zaa aK;have aL:=zab c ae;have a3:=zaa aL;have aU:=D.out.fro (k*3);have of1:=D.out.fro (k*3+1);have aV:=D.out.fro (k*3+2);clear hn c)
   (try go_wp2_with fail)
   refine g.out _ _ kp fun hHeld=>?_
   clear g K;try simp only[Act.put,pu1,pu2,pu3,pu4,pu5,pu6]
   refine zaw [13] ?_;repeat refine tkE (hS:=hHeld) (h:=?_)
   refine zao ?_;refine zba (h:=fun K g=>?_);go_simp;refine g.out _ _ ?_;clear g K;try simp only[Act.put,pu1,pu2,pu3,pu4,pu5,pu6]
   refine za1 (h:=?_);go_wp2;go_roundw
   case rel=>exact⟨k+1,by go_num,by omega,by rw[←T.out];exact VecS.store D.out k HS.out,(Bel.set3 aM.out ax _ _ _).b⟩
   case measure=>simp[intOf];omega
  ·obtain rfl:m=k:=by omega
   have G:=hid d;have HF:=hid o;clear d o;go_wp2;go_ret
   exact⟨_,_,_,rfl,G.out.base E.out.size,E.out.trans (HF.out.mono E.out.size)⟩
theorem pfirst(rA:OA)(rc:Nat)(bA:OA)(bc_:Nat)(kA:OA)(kc:Nat)(eA:OA)(ec:Nat)(r:OA)(s m a own N:Nat)(lA:List Value)(S:Nat)(A:List (List Rat))(b c:List Rat)(left:List Int)(w:World)(hS:StdP w rA rc lA bA bc_ kA kc eA ec m a S A b c left)(Q:N+m=a)(d:Basis m a A (zKa N m))(U:zor m S≤LIM) :
  Calls Tryz.prog 109 #[.agg #[(rA,m,rc),(a:Int),(bA,m,bc_),(kA,a,kc),(own:Int),(eA,m,ec),(r,m,s),(N:Int)]] w fun e w'=>∃(E:World) (q:Nat) (C:OA) (P:Nat) (y:OA) (B:Nat),e=.returned (.tuple #[.pointer (some ⟨q,0,none⟩),(C,a,P)])∧zhi E w' E.heap.size q rA rc lA bA bc_ kA kc eA ec m a S own A b c left y B (zKa N m)∧VecS w' w.heap.size (C,a,P) (zJG N m)∧Below w.heap.size w E∧Below w.heap.size w w':=by
 have o:=hid Q;have af:=hid d;have ag:=hid U;have aU:=hS.hm;have aX:=hS.hN
 clear Q d U;obtain⟨W,j⟩:∃W,(w.alloc (.cells #[(rA,m,rc),(a:Int),(bA,m,bc_),(kA,a,kc),(own:Int),(eA,m,ec),(r,m,s),(N:Int)] 117))=W:=⟨_,rfl⟩
 have p:=hid (show W.heap[w.heap.size]? = some (.cells #[(rA,m,rc),(a:Int),(bA,m,bc_),(kA,a,kc),(own:Int),(eA,m,ec),(r,m,s),(N:Int)] 117 (0,0))by rw[←j];exact zam (by simp));have H:=hid (show Below w.heap.size w W by rw[←j];exact zae w _);have HZ:=hid (show w.heap.size+1≤W.heap.size by rw[←j];simp);have HS:=hid (show StdP W rA rc lA bA bc_ kA kc eA ec m a S A b c left by rw[←j];exact(hS).alloc _)
 obtain⟨_,_,_,_,_,_,cx,_,_,cs,_⟩:=bc8 p.out;clear hS;go_enter Tryz.func109,Tryz.ntmps109;go_wp2_with (at_make;go_must (refine zdv rfl _ _ rfl a _ rfl rfl rfl (by omega) W.heap.size rfl ?_;intro w1 Y t;have ad:=hid t;have aG:=hid (zad t p.out);have HO:=hid (Y);obtain⟨_,_,_,_,_,_,_,_,_,_,_,_,bB,_⟩:=bc8 aG.out;clear Y t))
 clear j
 go_loopw [4,17] (fun cv i wr=>∃(k:Nat) (T:OA) (tc:Nat),i=.int .i64 k∧cv=(T,k,tc)∧k≤m∧VecS wr W.heap.size (.slice (some ⟨W.heap.size,0,none⟩) a a) (zUG N m k)∧IntsS wr W.heap.size (T,k,tc) (zKa N k)∧Below W.heap.size W wr)
  (fun _ i _=>m-(intOf i).toNat)
 case atStart=>exact⟨0,none,0,rfl,rfl,Nat.zero_le _,by rw[zVD,o.out];exact HO.out,IntsS.nil _ _,ad.out⟩
 case round =>
  obtain⟨k,T,tc,rfl,rfl,hk,x,v,d⟩:=hrel;have Z:=hid (zad d p.out);have aF:=hid (HS.out.below d);have J:=hid (x);have I:=hid (v);have M:=hid (Bel.mk d);have F:=hid (H.out.trans ((d).mono H.out.size));obtain⟨bM,_,bN,_,b8,_,cm,_,cn,cd,be,_,_,_,bv,_⟩:=bc8 Z.out;by_cases X:k<m
  ·have ah:=hid (zWH (N:=N) X);have an:=hid (zWI (N:=N) X);have aN:(k:Int)<(m:Int):=by omega
   have aO:(0:Int)≤(N:Int):=Int.natCast_nonneg _;have aP:(N:Int)+(k:Int)<(a:Int):=by have:=o.out;omega
   have aQ:N+k<a:=by have:=o.out;omega
   have aW:N≤64:=by have:=o.out;omega
   clear x v d;go_wp2_with (at_builtin;go_loud (refine ziP rfl _ _ rfl rfl (I.out.alloc _) rfl (z:=N+k) (zal _ _ _) (n:=k) (by simp[zKa]) (by omega) (by simp;have:=M.out.b.size;omega) ?_;intro G O D R V f;have al:=hid R;have aq:=hid ((J.out.alloc _).tk V (by decide) (by decide));have ae:=hid ((M.out.alloc _).b.trans f);clear R V f))
   have au:=hid (show IntKind.i64.wrap ((N:Int)+(k:Int))=((N+k:Nat):Int)by rw[IntKind.wrap_i64];omega);have aR:(0:Int)≤((N+k:Nat):Int):=Int.natCast_nonneg _
   have aT:(0:Int)≤(N:Int)+(k:Int):=by omega
   have ap:=hid (show((N:Int)+(k:Int)).toNat=N+k by omega);have f:=ae.out;have aa:=hid (zad f p.out);have L:=hid (aq.out);have ai:=hid (al.out);have ar:=hid (Bel.mk f);obtain⟨b1,_,b2,_,cg,_,cq,_,cu,_,a6,_,bu,_,bx,_⟩:=bc8 aa.out;obtain⟨ga,Aa,ma,ca,Da,aB,ax,y0,y1,y2,_⟩:=L.out.at_ ah.out;clear f;go_wp2_with fail
   refine za2 (S:=fun w'=>w'.cell? ⟨w.heap.size,0,none⟩=some (rA,m,rc)∧w'.cell? ⟨w.heap.size,1,none⟩=some (.int .i64 (a:Int))∧w'.cell? ⟨w.heap.size,2,none⟩=some (bA,m,bc_)∧w'.cell? ⟨w.heap.size,3,none⟩=some (kA,a,kc)∧w'.cell? ⟨w.heap.size,4,none⟩=some (.int .i64 (own:Int))∧w'.cell? ⟨w.heap.size,5,none⟩=some (eA,m,ec)∧w'.cell? ⟨w.heap.size,6,none⟩=some (r,m,s)∧w'.cell? ⟨w.heap.size,7,none⟩=some (.int .i64 (N:Int))∧w'.cell? ⟨W.heap.size,(N+k)*3,none⟩=some (.bool ga)∧w'.cell? ⟨W.heap.size,(N+k)*3+1,none⟩=some (Aa,ma,ca)∧w'.cell? ⟨W.heap.size,(N+k)*3+2,none⟩=some (Da,aB,ax)) 7 (h:=fun hHeld=>?_)
   refine zaw [0,1,2,3,4] ?_;repeat refine tkE (hS:=hHeld) (h:=?_)
   refine zao ?_;refine zaN 5 (h:=fun K g=>?_);go_simp
   (go_at_call 13;(with_reducible refine(Rt.int 1 (by decide) (by decide) _).mono ?_);rintro e u1 ⟨g1,A1,m1,c1,D1,md1,cd1,rfl,hn,hb⟩;have aJ:=hid (zad hb aa.out);have l:=hid (L.out.drew.below hb);have aD:=hid (ai.out.drew.below hb);have aE:=hid (ar.out.drew.below hb);have HM:=hid (hn);obtain⟨b4,_,b5,_,ch,_,cr,_,cw,_,a7,_,bD,_,bE,_⟩:=bc8 aJ.out;have z0:=zab hb y0;have z1:=zab hb y1;have z2:=zab hb y2;have aY:=l.out.fro ((N+k)*3);have of1:=l.out.fro ((N+k)*3+1);have aZ:=l.out.fro ((N+k)*3+2);clear hn hb)
   (try go_wp2_with fail)
   refine g.out _ _ kp fun hHeld=>?_
   clear g K;try simp only[Act.put,pu1,pu2,pu3,pu4,pu5,pu6]
   rw[au.out];refine zaw [6] ?_;repeat refine tkE (hS:=hHeld) (h:=?_)
   refine zao ?_;simp only[ap.out];refine zba (h:=fun K g=>?_);go_simp;refine g.out _ _ ?_;clear g K;try simp only[Act.put,pu1,pu2,pu3,pu4,pu5,pu6]
   refine za1 (h:=?_);go_wp2;obtain⟨aL,u⟩:=l.out.ratBlk;go_roundw
   case rel=>exact⟨k+1,G,O,by go_num,rfl,by omega,by rw[←an.out];exact VecS.store l.out (N+k) HM.out,by rw[zUR];exact((aD.out.tk (TKeep.set u _) (by decide)).tk (TKeep.set (zar _ u) _) (by decide)).tk (TKeep.set (zar _ (zar _ u)) _) (by decide),(Bel.set3 aE.out (Nat.le_refl _) _ _ _).b⟩
   case measure=>simp[intOf];omega
  ·obtain rfl:m=k:=by omega
   clear x v d;go_wp2_with fail
   with_reducible refine(Tb.new rA rc lA bA bc_ kA kc eA ec m a S own A b c left T tc (zKa N m) W.heap.size _ aF.out I.out af.out ag.out).mono ?_
   rintro e wt ⟨q,y,B,rfl,hT,hb⟩;have aH:=hid (zad hb Z.out);have aK:=hid (J.out.below hb);have aI:=hid (F.out.trans ((hb).mono F.out.size));obtain⟨_,_,_,_,_,_,_,_,a4,_,a5,_⟩:=bc8 aH.out;have HT:=hid hT;clear hT hb;go_wp2;go_ret2
   exact⟨wr,q,_,_,y,B,rfl,HT.out,by rw[←zWG];exact aK.out.base (by have:=HZ.out;omega),F.out,aI.out⟩
