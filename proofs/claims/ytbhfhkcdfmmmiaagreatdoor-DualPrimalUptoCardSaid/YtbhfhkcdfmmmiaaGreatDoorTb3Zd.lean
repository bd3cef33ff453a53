/- Contracts and lemmas: Tb3. Conditions: as each says. -/
import Derived.Test.YtbhfhkcdfmmmiaaGreatDoorBasTZd
import Derived.Test.YtbhfhkcdfmmmiaaGreatDoorBasNZd
set_option linter.all false
set_option maxHeartbeats 4000000
set_option maxRecDepth 100000
namespace Go.Proofs.YtbhfhkcdfmmmiaaGreatDoor
open Go.RowKit Am
open Lib (hid)
attribute [local go_sem ↓] Go.wp_at_zero Go.wp_at_succ
variable {A:List (List Rat)}{cols:List Nat}{j k:Nat}
theorem EtasL.base{w:World}{H c:Nat}{v:Value}{l:List (Nat × Value)}{es:List (Nat × List Rat)}(h:EtasL w H v l es)(d:c≤H):EtasL w c v l es :=
 ⟨h.len,fun k s e a b=>⟨(h.each k s e a b).1,(h.each k s e a b).2.base d⟩,zbu h.own d⟩
theorem zjE.base{w:World}{H b q n S:Nat}{C:List (List Rat)}(h:zjE w H q n S C)(a:b≤H):zjE w b q n S C:=by
 obtain⟨cA,cc,lc,K,ql,F,D,eA,ec,le,es,h⟩:=h;exact⟨cA,cc,lc,K,ql,F,D,eA,ec,le,es,h.blk,h.cols.base a,h.low,h.lu,h.fac,h.etas.base a,h.right,h.few,Nat.le_trans a h.own,Nat.le_trans a h.ownK⟩
theorem zhf.base{w:World}{H b q n S:Nat}{C:List (List Rat)}{tb:Option Nat}(h:zhf w H q n S C tb)(a:b≤H):zhf w b q n S C tb:=by
 obtain⟨cA,cc,lc,K,ql,F,D,eA,ec,le,es,h,c⟩:=h;exact⟨cA,cc,lc,K,ql,F,D,eA,ec,le,es,⟨h.blk,h.cols.base a,h.low,h.lu,h.fac,h.etas.base a,h.right,h.few,Nat.le_trans a h.own,Nat.le_trans a h.ownK⟩,c⟩
theorem zzi(h:cols[k]? = some j):bc A (cols.take (k+1))=bc A (cols.take k)++[zb4 A j]:=by
 unfold bc;rw[List.take_add_one,h,List.map_append];rfl
theorem zqp{m N:Nat}(b:Basis m N A cols)(hk:cols[k]? = some j):(j:Int) ∉ (cols.map fun(x:Nat)=>(x:Int)).take k:=fun h=>by
 obtain⟨i,a⟩:=List.mem_iff_getElem?.1 h;rw[List.getElem?_take]at a;split at a
 ·rename_i hik
  rw[List.getElem?_map]at a;cases e:cols[i]? with
  | none=>rw[e]at a;cases a
  | some x =>
   rw[e]at a;injection a with a;have c:x=j:=by have l:((x:Nat):Int)=(j:Int):=a;omega
   have f:=(List.getElem?_eq_some_iff.1 e).1;have g:=(List.getElem?_eq_some_iff.1 hk).1;have:=b.inj i k (by rw[←b.len];exact f) (by rw[←b.len];exact g) (by rw[getD_some (d:=0) e,getD_some (d:=0) hk,c]);omega
 ·cases a
namespace Tb
theorem new(rA:OA)(rc:Nat)(lA:List Value)(bA:OA)(bc_:Nat)(kA:OA)(kc:Nat)(eA:OA)(ec m N S own:Nat)(A:List (List Rat))(b c:List Rat)(left:List Int)(tA:OA)(tc:Nat)(cols:List Nat)(L:Nat)(w:World)
  (hS:StdP w rA rc lA bA bc_ kA kc eA ec m N S A b c left) (hc:IntsS w L (tA,m,tc) cols) (a:Basis m N A cols) (ar:zor m S≤LIM) :
  Calls Tryz.prog 26 #[.agg #[(rA,m,rc),(N:Int),(bA,m,bc_),(kA,N,kc),(own:Int),(eA,m,ec)],(tA,m,tc)] w fun e w'=>∃(q:Nat) (a4:OA) (a5:Nat),e=.returned (.tuple #[.pointer (some ⟨q,0,none⟩),.nilIface])∧zhi w w' w.heap.size q rA rc lA bA bc_ kA kc eA ec m N S own A b c left a4 a5 cols∧Below w.heap.size w w':=by
 have f:=hid a;have ai:=hid ar;have I:=hid hS;have bw:=hS.hm;have bp:=hS.hN;have U:=hc.form;have bq:tc≤9223372036854775807:=by have:=U.2.2.1;unfold maxLen at this;omega
 have br:=U.2.1;have aL:=hid (show zhg mw m S (bc A cols)from fun j hj i hi=>by rw[ztZ (by rw[a.len];exact hj) (by rw[a.rect.len];exact hi)];exact hS.zen hi (a.lt j hj));clear ar a U;obtain⟨W,u⟩:∃W,(w.alloc (.cells #[(rA,m,rc),(N:Int),(bA,m,bc_),(kA,N,kc),(own:Int),(eA,m,ec)] 80))=W:=⟨_,rfl⟩
 have am:=hid (show W.heap[w.heap.size]? = some (.cells #[(rA,m,rc),(N:Int),(bA,m,bc_),(kA,N,kc),(own:Int),(eA,m,ec)] 80 (0,0))by rw[←u];exact zam (by simp));have BB:=hid (show Below w.heap.size w W by rw[←u];exact zae w _);have HS:=hid (show StdP W rA rc lA bA bc_ kA kc eA ec m N S A b c left by rw[←u];exact(hS).alloc _);have HI:=hid (show IntsS W L (tA,m,tc) cols by rw[←u];exact(hc).alloc _);obtain⟨bK,_,bL,_,bP,_,bU,_,bW,_,bF,_⟩:=bc6 am.out
 clear hS hc;go_enter Tryz.func26,Tryz.ntmps26;go_wp2_with fail
 clear u;refine zaS (S:=fun w'=>w'.cell? ⟨w.heap.size,0,none⟩=some (rA,m,rc)∧w'.cell? ⟨w.heap.size,1,none⟩=some (.int .i64 (N:Int))∧w'.cell? ⟨w.heap.size,2,none⟩=some (bA,m,bc_)∧w'.cell? ⟨w.heap.size,3,none⟩=some (kA,N,kc)∧w'.cell? ⟨w.heap.size,4,none⟩=some (.int .i64 (own:Int))∧w'.cell? ⟨w.heap.size,5,none⟩=some (eA,m,ec)) [] (h:=fun hHeld=>?_);refine zaw [0,1,2,3] ?_;repeat refine tkL (hS:=hHeld) (h:=?_)
 refine zao ?_;refine zaB 4 (h:=fun K l=>?_);go_simp
 (go_at_call 57;(with_reducible refine(Mt.rows N m rc rA _).mono ?_);rintro e u1 ⟨rfl,hb⟩;have aA:=hid (zad hb am.out);have ba:=hid (HS.out.drew.below hb);have a6:=hid (HI.out.drew.below hb);have az:=hid (BB.out.trans ((It.bdrew0' hb).mono BB.out.size));obtain⟨bI,_,bJ,_,bO,_,bV,_,bX,_,bG,_⟩:=bc6 aA.out;clear hb)
 (try go_wp2_with fail)
 refine l.out _ _ kp fun hHeld=>?_
 clear l K;try simp only[Act.put,pu1,pu2,pu3,pu4,pu5,pu6]
 refine zaw [5,6,7,8,9,10,11] ?_;repeat refine tkL (hS:=hHeld) (h:=?_)
 refine zao ?_;refine zaB 12 (h:=fun K l=>?_);go_simp
 (go_at_call 57;(with_reducible refine(Mt.rows N m rc rA _).mono ?_);rintro e u2 ⟨rfl,hb⟩;have ac:=hid (zad hb aA.out);have ax:=hid (ba.out.below hb);have Q:=hid (a6.out.below hb);have C:=hid (az.out.trans ((hb).mono az.out.size));obtain⟨bM,_,bN,_,bR,_,bS,_,bT,_,bH,_⟩:=bc6 ac.out;clear hb)
 (try go_wp2_with fail)
 refine l.out _ _ kp fun hHeld=>?_
 clear l K;try simp only[Act.put,pu1,pu2,pu3,pu4,pu5,pu6]
 refine zaw [13,14] ?_;repeat refine tkL (hS:=hHeld) (h:=?_)
 refine zao ?_;refine zaM (h:=?_);go_wp2
 go_loopw [6,32] (fun vs i wr=>∃(k:Nat) (s:OA) (t:Nat) (z:List Value),vs=(s,k,t)∧i=.int .i64 k∧k≤m∧VecsL wr u2.heap.size (s,k,t) z (bc A (cols.take k))∧Below u2.heap.size u2 wr)
  (fun _ i _=>m-(intOf i).toNat)
 case atStart=>exact⟨0,none,0,[],rfl,rfl,Nat.zero_le _,VecsL.nil _ _,Below.refl _ _⟩
 case round =>
  obtain⟨k,s,t,z,rfl,rfl,hk,y,a⟩:=hrel;have aV:=hid (C.out.size);by_cases V:k<m
  ·obtain⟨j,hj⟩:∃j,cols[k]? = some j:=⟨cols[k]'(by rw[f.out.len];exact V),List.getElem?_eq_getElem _⟩
   have a0:j<N:=by have:=f.out.lt k V;rw[getD_some (d:=0) hj]at this;exact this
   obtain⟨bt,rfl,_,_⟩:=Q.out.has (by omega);have p0:=(Q.out.below a).at_ hj;have D:=hid (zad a ac.out);have P:=hid (ax.out.below a);have aa:=hid (Q.out.below a);have J:=hid (y);have HW:=hid (Bel.mk a);have F:=hid (C.out.trans ((a).mono C.out.size));obtain⟨bh,_,bi,_⟩:=bc6 D.out;have bQ:=p0;have R:=hid (And.intro hj a0);clear y a hj p0
   have bs:(0:Int)≤(k:Int):=Int.natCast_nonneg _;have bu:(k:Int)<(m:Int):=by omega
   have bv:(k:Int)≤(tc:Int):=by omega
   go_wp2_with fail
   with_reducible refine(Mt.col N m rc rA lA A 0 j _ P.out.rows I.out.rl R.out.2 (by omega) (by omega)).mono ?_
   rintro e w1 ⟨B,n1,c1,rfl,hv1,hb⟩;have E:=hid (zad hb D.out);have ab:=hid (P.out.below hb);have Z:=hid (aa.out.below hb);have ae:=hid (J.out.below hb);have bj:=hid (HW.out.below hb);have HU:=hid (hv1);have G:=hid (F.out.trans ((hb).mono F.out.size));obtain⟨bd,_,be,_,bk,_,bl,_,bn,_,a7,_⟩:=bc6 E.out;clear hv1 hb;have T:=hid (HW.out.b.size);go_wp2_with fail
   with_reducible refine(Sl.has (some ⟨bt,0,none⟩) k tc ((cols.map fun(x:Nat)=>(x:Int)).take k) (j:Int) L _ (Z.out.toZ.cut (by omega))).mono ?_
   rintro e w2 ⟨rfl,hb⟩;have ad:=hid (zad hb E.out);have ay:=hid (ab.out.below hb);have aC:=hid (ae.out.below hb);have aE:=hid (bj.out.below hb);have bb:=hid (HU.out.below hb);have aB:=hid (G.out.trans ((hb).mono G.out.size));obtain⟨bf,_,bg,_,aD,_,bm,_,bo,_,a8,_⟩:=bc6 ad.out;clear hb;have hd:=decide_eq_false (zqp f.out R.out.1);rw[hd];clear hd
   go_wp2_with (at_builtin;refine zbW rfl _ _ rfl rfl (aC.out.alloc (.cells #[(B,n1,c1)] 28)) rfl (zal _ _ _) ((bb.out.base T.out).alloc _) (n:=k) (by rw[zx7,List.length_take,f.out.len];omega) (by omega) (by simp;have:=aE.out.b.size;omega) ?_;intro A5 c5 w5 ao a1 ap aZ;have aN:=hid ao;have aG:=hid ((aE.out.alloc (.cells #[(B,n1,c1)] 28)).b.trans ap);clear ao a1 ap aZ)
   go_roundw
   case rel=>exact⟨k+1,A5,c5,_,rfl,by go_num,by omega,by rw[zzi R.out.1];exact aN.out,aG.out⟩
   case measure=>simp[intOf];omega
  ·obtain rfl:m=k:=by omega
   have aT:=hid (show cols.take m=cols by rw[←f.out.len,List.take_length]);rw[aT.out]at y;have D:=hid (zad a ac.out);have P:=hid (ax.out.below a);have aa:=hid (Q.out.below a);have J:=hid (y);have F:=hid (C.out.trans ((a).mono C.out.size));obtain⟨bh,_,bi,_⟩:=bc6 D.out;have T:=hid (a.size);clear y a hk V;go_wp2_with fail
   refine(Bs.new m t s z (bc A cols) u2.heap.size S _ J.out f.out.sq (by omega) aL.out (zC3 (ziY ai.out))).mono ?_;rintro e O (⟨qb,hr,rfl,hs,hb⟩ | ⟨hr,rfl,hb⟩)
   ·have ah:=hid hs;have E:=hid (zad hb D.out);have ab:=hid (P.out.below hb);have Z:=hid (aa.out.below hb);have ae:=hid (J.out.below hb);have aJ:=hid (hs);have G:=hid (F.out.trans ((hb).mono F.out.size));obtain⟨bd,_,be,_,bk,_,bl,_,bn,_,a7,_⟩:=bc6 E.out;clear hr hs hb;go_wp2_with fail
    refine zaS (S:=fun w'=>w'.cell? ⟨w.heap.size,0,none⟩=some (rA,m,rc)∧w'.cell? ⟨w.heap.size,1,none⟩=some (.int .i64 (N:Int))∧w'.cell? ⟨w.heap.size,2,none⟩=some (bA,m,bc_)∧w'.cell? ⟨w.heap.size,3,none⟩=some (kA,N,kc)∧w'.cell? ⟨w.heap.size,4,none⟩=some (.int .i64 (own:Int))∧w'.cell? ⟨w.heap.size,5,none⟩=some (eA,m,ec)) [] (h:=fun hHeld=>?_);refine zaw [0,1,3] ?_;repeat refine tkL (hS:=hHeld) (h:=?_)
    refine zao ?_;refine zaB 2 (h:=fun K l=>?_);go_simp
    (go_at_call 61;(with_reducible refine(Sl.clone tA m tc (cols.map fun(x:Nat)=>(x:Int)) L _ (Z.out.drew.toZ) (by omega)).mono ?_);rintro e r ⟨T4,c4,rfl,hz,hb⟩;have ad:=hid (zad hb E.out);have ay:=hid (ab.out.drew.below hb);have aC:=hid (ae.out.drew.below hb);have a9:=hid (aJ.out.drew.below hb);have aR:=hid (show IntsS r O.heap.size (.slice T4 (cols.map fun(x:Nat)=>(x:Int)).length c4) cols from hz.toS);have aB:=hid (G.out.trans ((It.bdrew0' hb).mono G.out.size));obtain⟨bf,_,bg,_,aD,_,bm,_,bo,_,a8,_⟩:=bc6 ad.out;have aH:=hid hb;clear hb;clear hz)
    (try go_wp2_with fail)
    refine l.out _ _ kp fun hHeld=>?_
    clear l K;try simp only[Act.put,pu1,pu2,pu3,pu4,pu5,pu6]
    refine zaw [4] ?_;repeat refine tkL (hS:=hHeld) (h:=?_)
    refine zao ?_;refine zaB 5 (h:=fun K l=>?_);go_simp;refine l.out _ _ kp fun hHeld=>?_
    clear l K;try simp only[Act.put,pu1,pu2,pu3,pu4,pu5,pu6]
    refine zaw [6] ?_;repeat refine tkL (hS:=hHeld) (h:=?_)
    refine zao ?_;refine zaM (h:=?_);have aO:=hid (show(cols.map fun(x:Nat)=>(x:Int)).length=m by rw[List.length_map,f.out.len]);rw[f.out.len];have aj:=hid (show IntsS r O.heap.size (T4,m,c4) cols by have h:=aR.out;rw[aO.out]at h;exact h);have aW:=hid (ah.out.hle);have H:=hid (aB.out)
    have s2:(r.alloc (.cells #[(rA,m,rc),(N:Int),(bA,m,bc_),(kA,N,kc),(own:Int),(eA,m,ec),(T4,m,c4),.pointer (some ⟨qb,0,none⟩),()] 138)).cell? ⟨w.heap.size,2,none⟩=some (bA,m,bc_):=cell_al aD;have KT:=hid (zal r #[(rA,m,rc),(N:Int),(bA,m,bc_),(kA,N,kc),(own:Int),(eA,m,ec),(T4,m,c4),.pointer (some ⟨qb,0,none⟩),()] 138)
    have aK:=hid (a9.out.alloc (.cells #[(rA,m,rc),(N:Int),(bA,m,bc_),(kA,N,kc),(own:Int),(eA,m,ec),(T4,m,c4),.pointer (some ⟨qb,0,none⟩),()] 138))
    have aI:=hid ((((ah.out.drew.later (tb:=(Value.slice T4 m c4).ownBlock) (fun g hg=>(aj.out.own.lt g hg).1)).below aH.out).alloc (.cells #[(rA,m,rc),(N:Int),(bA,m,bc_),(kA,N,kc),(own:Int),(eA,m,ec),(T4,m,c4),.pointer (some ⟨qb,0,none⟩),()] 138)))
    have aQ:=hid (ay.out.alloc (.cells #[(rA,m,rc),(N:Int),(bA,m,bc_),(kA,N,kc),(own:Int),(eA,m,ec),(T4,m,c4),.pointer (some ⟨qb,0,none⟩),()] 138));go_wp2_with fail
    refine(Bs.solve wr.heap.size qb m S S (bc A cols) bA bc_ b 0 _ aK.out aQ.out.B (by omega) I.out.zb I.out.hS (ziY ai.out)).mono ?_;rintro e Y ⟨X6,n6,c6,rfl,hv6,hb⟩;have ak:=hid hv6;have ag:=hid hb;obtain rfl:m=n6:=by rw[ak.out.len,(zci f.out.sq f.out.reg b).2]
    have M:=hid (zad hb KT.out);have aS:=hid ((aj.out.alloc (.cells #[(rA,m,rc),(N:Int),(bA,m,bc_),(kA,N,kc),(own:Int),(eA,m,ec),(T4,m,c4),.pointer (some ⟨qb,0,none⟩),()] 138)).below hb);have t8:=zac M.out 8;have bC:=zag M.out 8;simp only[List.getElem?_toArray,List.getElem?_cons_zero,List.getElem?_cons_succ]at t8;clear hv6 hb;go_wp2;have X:TKeep 138 Y (Y.setCell ⟨r.heap.size,8,none⟩ (X6,m,c6)):=TKeep.set M.out _
    have aq:Below w.heap.size w (Y.setCell ⟨r.heap.size,8,none⟩ (X6,m,c6)):=(H.out.trans (((zae r _).trans (ag.out.mono (by simp))).mono H.out.size)).setCell (p:=⟨r.heap.size,8,none⟩) H.out.size _;have a2:=H.out.size;have bx:=aV.out;have bz:=T.out;have bB:=aW.out;refine bodyPost_ret (v:=.tuple #[.pointer (some ⟨r.heap.size,0,none⟩),.nilIface]) (by simp[results,Tryz.results26,go_sem]) rfl ?_
    refine⟨r.heap.size,T4,c4,rfl,⟨qb,X6,c6,?_,I.out,aq,Nat.le_refl _,(aS.out.base (by omega)).tk X (by decide),((aI.out.below ag.out).base (by omega)).tk X (by decide) (by decide) (by decide) (by decide) (by decide) (by decide) (by decide),?_,f.out,a2⟩,aq⟩
    ·have:=zar (o:=8) (X6,m,c6) M.out;simpa using this
    ·unfold za5;rw[f.out.len];exact(ak.out.base (by simp;omega)).tk X (by decide) (by decide)
   ·exact absurd f.out.reg hr
