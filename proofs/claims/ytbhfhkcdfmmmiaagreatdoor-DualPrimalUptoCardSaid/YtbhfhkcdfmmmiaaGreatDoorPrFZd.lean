/- Contracts and lemmas: PrF. Conditions: as each says. -/
import Derived.Test.YtbhfhkcdfmmmiaaGreatDoorPrRZd
set_option linter.all false
set_option maxHeartbeats 2000000
set_option maxRecDepth 100000
namespace Go.Proofs.YtbhfhkcdfmmmiaaGreatDoor
open Go.RowKit Am
open Lib (hid)
attribute [local go_sem ↓] Go.wp_at_zero Go.wp_at_succ
variable {A:List (List Rat)}{cols:List Nat}{N m:Nat}
theorem zVd{b:List Rat}(a:cols.length=m):dot (zJG N m) (zh1 (N+m) cols (za5 (zt0 A b) (zwh b) cols))=zSB N m A b cols:=by
 unfold dot ziw zSB;rw[zSD];exact zaj fun j hj=>by rw[zvg hj,a]
theorem zTR(N m:Nat):∀q∈zJG N m,mw q≤1:=fun q a=>by
 unfold zJG at a;rcases List.mem_append.1 a with h | h
 ·rw[List.eq_of_mem_replicate h];exact mw0
 ·rw[List.eq_of_mem_replicate h];exact mw1
theorem zVI(b:List Rat):∀z∈b.map sgI,z = -1∨z=1:=fun z a=>by
 obtain⟨q,_,rfl⟩:=List.mem_map.1 a;exact zTW q
theorem z0l{S:Nat}{xs:List Rat}(a:Basis m N A cols)(e:xs.length=m)(zx:∀x∈xs,mw x≤S)(hS:1≤S):∀q∈zh1 N cols xs,mw q≤S:=fun q d=>by
 obtain⟨j,hj⟩:=List.mem_iff_getElem?.1 d;have c:=(List.getElem?_eq_some_iff.1 hj).1;rw[zl8]at c;rw[←znd hj,zvg c,a.len];by_cases b:Bas m (fun k=>cols.getD k 0) j
 ·obtain⟨k,hk,rfl⟩:=b;rw[zA7 a.inj _ hk];exact zrz zx (by rw[e];exact hk)
 ·rw[zyz _ b];exact Nat.le_trans mw0 hS
theorem zSH{own N:Nat}{A:List (List Rat)}{B:Nat}:∀(f k:Nat) (a:List Nat × Nat),(zSz own N A B f k a).1.2≤a.2+f∧(a.2≤B→(zSz own N A B f k a).1.2≤B)
 | 0,_,a=>⟨Nat.le_refl _,fun h=>h⟩
 | f+1,k,(cs,n)=>by
  by_cases h:own≤cs.getD k 0
  ·cases e:zkZ (zk8 N A cs k) own 0 with
   | none =>
    rw[zS6 h e];obtain⟨h1,b⟩:=zSH f (k+1) (cs,n) (own:=own) (N:=N) (A:=A) (B:=B);exact⟨Nat.le_trans h1 (by simp only;omega),b⟩
   | some j =>
    by_cases c:B≤n
    ·rw[zS7 h e c];exact⟨Nat.le_add_right _ _,fun h=>h⟩
    ·rw[zTo h e c];obtain⟨h1,b⟩:=zSH f (k+1) (cs.set k j,n+1) (own:=own) (N:=N) (A:=A) (B:=B);exact⟨Nat.le_trans h1 (by simp only;omega),fun _=>b (by simp only;omega)⟩
  ·rw[zTn h];obtain⟨h1,b⟩:=zSH f (k+1) (cs,n) (own:=own) (N:=N) (A:=A) (B:=B);exact⟨Nat.le_trans h1 (by simp only;omega),b⟩
def Spent (w':World) (B:Nat) (ev:Value):Prop:=∃(fb num:Nat),ev=.iface 119 (.pointer (some ⟨fb,0,none⟩))∧num≤B∧w'.heap[fb]? = some (.cells #[.string zve,(num:Int),.iface 64 (.int .i64 180)] 123 (0,0))
def zXb (w:World) (rA:OA) (rc:Nat) (lA:List Value) (bA:OA) (bc_:Nat) (kA:OA) (kc:Nat) (eA:OA) (ec m N NN S own:Nat) (A0:List (List Rat)) (b0 c:List Rat) (left:List Int) (B:Nat) (r:RunOut) (d:(List Nat × Nat) × Bool) (e:Ending) (w':World):Prop :=
  Below w.heap.size w w' ∧
  ((r.err=true∧∃ev,e=.returned (.tuple #[.pointer none,(),(r.n:Int),ev])∧Spent w' B ev) ∨
   (r.err=false∧0<zSB N m A0 b0 r.cols∧∃(Y:OA) (cY:Nat),e=.returned (.tuple #[.pointer none,(Y,m,cY),(r.n:Int),.nilIface])∧VecS w' w.heap.size (Y,m,cY) (bkL (b0.map sgI) (zcl (zt0 A0 b0) r.cols (zJG N m)) m)) ∨
   (r.err=false∧¬0<zSB N m A0 b0 r.cols∧d.2=true∧∃ev,e=.returned (.tuple #[.pointer none,(),((r.n+d.1.2:Nat):Int),ev])∧Spent w' B ev) ∨
   (r.err=false∧¬0<zSB N m A0 b0 r.cols∧d.2=false∧∃(wn:World) (q:Nat) (tA:OA) (tc:Nat),e=.returned (.tuple #[.pointer (some ⟨q,0,none⟩),(),((r.n+d.1.2:Nat):Int),.nilIface]) ∧
     zhi wn w' wn.heap.size q rA rc lA bA bc_ kA kc eA ec m NN S own (zt0 A0 b0) (zwh b0) c left tA tc d.1.1∧w.heap.size≤wn.heap.size∧Below w.heap.size w wn))
namespace Pr
open Du (zCr)
theorem pfeasible(rA:OA)(rc:Nat)(bA:OA)(bc_:Nat)(kA:OA)(kc:Nat)(eA:OA)(ec:Nat)(i:OA)(j m b own N:Nat)(lA:List Value)(S:Nat)(f:List (List Rat))(a c:List Rat)(left:List Int)(R:Nat)(w:World)(hS:StdP w rA rc lA bA bc_ kA kc eA ec m b S (zt0 f a) (zwh a) c left)(hz:IntsZ w R (i,m,j) (a.map sgI))(u:N+m=b)(hA:Rect m N f)(a4:a.length=m)(an:zor m S≤LIM)(ao:sB m S S≤4000000)(B:Nat)(hB:B≤1000000) :
  Calls Tryz.prog 34 #[.agg #[(rA,m,rc),(b:Int),(bA,m,bc_),(kA,b,kc),(own:Int),(eA,m,ec),(i,m,j),(N:Int)],(B:Int)] w (zXb w rA rc lA bA bc_ kA kc eA ec m N b S own f a c left B (pivs (zBX b (zt0 f a) (zwh a) (zJG N m) (zKc N m)) B (zKa N m)) (zSz N b (zt0 f a) (B-(pivs (zBX b (zt0 f a) (zwh a) (zJG N m) (zKc N m)) B (zKa N m)).n) m 0 ((pivs (zBX b (zt0 f a) (zwh a) (zJG N m) (zKc N m)) B (zKa N m)).cols,0))):=by
 have H:=hid u;have aI:=hid (show Basis m b (zt0 f a) (zKa N m)by rw[←u];exact zSU hA);have G:=hid an;have aY:=hid ao;have af:=hid hB;have aX:=hid (show 8*sB m S S+8≤LIM by rw[zaP];omega);have a5:=hS.hm;have a6:=hS.hN;have aS:=hid (show zsn b N=zKc N m by rw[←u,zUB]);have ah:=hid (show(zJG N m).length=b by rw[zSD,u]);have Q:=hid (fun q D=>Nat.le_trans (zTR N m q D) hS.hS);obtain⟨r,hr⟩:∃r,pivs (zBX b (zt0 f a) (zwh a) (zJG N m) (zKc N m)) B (zKa N m)=r:=⟨_,rfl⟩
 have HR:=hid hr;have ai:=hid (show r.n≤B by rw[←hr];exact zLj _ _ _);rw[hr];obtain⟨d,J⟩:∃d,zSz N b (zt0 f a) (B-r.n) m 0 (r.cols,0)=d:=⟨_,rfl⟩
 have HD:=hid J;have ag:=hid (show d.1.2≤m∧d.1.2≤B by
  have h:=zSH m 0 (r.cols,0) (own:=N) (N:=b) (A:=zt0 f a) (B:=B-r.n);rw[J]at h;have h2:=h.2 (Nat.zero_le _);exact⟨by have:=h.1;simp only at this;omega,by omega⟩)
 rw[J];clear u hA a4 an ao hB hr J;obtain⟨W,y⟩:∃W,(w.alloc (.cells #[(rA,m,rc),(b:Int),(bA,m,bc_),(kA,b,kc),(own:Int),(eA,m,ec),(i,m,j),(N:Int)] 95))=W:=⟨_,rfl⟩
 have T:=hid (show W.heap[w.heap.size]? = some (.cells #[(rA,m,rc),(b:Int),(bA,m,bc_),(kA,b,kc),(own:Int),(eA,m,ec),(i,m,j),(N:Int)] 95 (0,0))by rw[←y];exact zam (by simp));have F:=hid (show Below w.heap.size w W by rw[←y];exact zae w _);have HS:=hid (show StdP W rA rc lA bA bc_ kA kc eA ec m b S (zt0 f a) (zwh a) c left by rw[←y];exact(hS).alloc _);have HG:=hid (show IntsZ W R (i,m,j) (a.map sgI)by rw[←y];exact(hz).alloc _)
 obtain⟨cj,_,ck,cd,ct,_,dk,_,dm,_,bE,_,bS,_,bJ,_⟩:=bc8 T.out;clear hS hz;go_enter Tryz.func34,Tryz.ntmps34;go_wp2_with fail
 clear y;with_reducible refine(pfirst rA rc bA bc_ kA kc eA ec i j m b own N lA S (zt0 f a) (zwh a) c left _ HS.out H.out aI.out G.out).mono ?_
 rintro e w1 ⟨wn,q,C,cC,tA,tc,rfl,hT,hC,hbn,hb⟩;have aw:=hid (zad hb T.out);have HT:=hid (show zhi wn w1 wn.heap.size q rA rc lA bA bc_ kA kc eA ec m b S own (zt0 f a) (zwh a) c left tA tc (zKa N m)from hT);have HC:=hid (show VecS w1 W.heap.size (C,b,cC) (zJG N m)from hC);obtain⟨ch,_,ci,_,cs,_,dl,_,dn,_,bF,_,b6,_,b7,_⟩:=bc8 aw.out;have K:=hid (F.out.trans (hbn.mono F.out.size));have aJ:=hid hbn;have ad:=hid hb;clear hT hC hbn hb;go_wp2_with fail
 with_reducible refine(pmay rA rc bA bc_ kA kc eA ec i j m b own N _ (by have:=H.out;omega) a6).mono ?_
 rintro e w2 ⟨M,cM,rfl,hm,hb⟩;have bo:=hid (HT.out.below hb);have ar:=hid (HC.out.below hb);have HM:=hid (show BoolsS w2 w1.heap.size (M,b,cM) (zKc N m)from(by have h:=hm;rw[aS.out]at h;exact h));have aH:=hid (ad.out.trans (hb.mono ad.out.size));clear hm hb;go_wp2_with fail
 with_reducible refine(prun bo.out C cC W.heap.size (zJG N m) ar.out Q.out M b cM w1.heap.size (zKc N m) HM.out G.out (B:Int) (by have:=af.out;omega)).mono ?_
 rintro e U ⟨ev,rfl,hev,hT3,hb3,hk3⟩;rw[show((B:Int)).toNat=B from Int.toNat_natCast B,HR.out]at hev hT3 ⊢;have aO:=hid hev;have aj:=hid hT3;have t:Below W.heap.size W U:=aH.out.trans (hb3.mono aJ.out.size);have aL:=hid (hk3.vec (by decide) (by decide) ar.out);clear hev hT3 hb3 hk3;clear cj ck cd ct dk dm bE bS bJ ch ci cs dl dn bF b6 b7;have ax:=hid (zad t T.out);have bj:=hid (HG.out.below t)
 have ab:=hid (F.out.trans ((t).mono F.out.size));clear t;rcases aO.out with ⟨g,rfl⟩ | ⟨g,s,rfl,z⟩
 ·have p:=hid g;clear g;go_wp2_with fail
  with_reducible refine(Tb.point aj.out).mono ?_
  rintro e w4 ⟨P,cP,rfl,hv,hb⟩;have ay:=hid (zad hb ax.out);have bx:=hid (bj.out.below hb);have Z:=hid (aj.out.below hb);have av:=hid (aL.out.below hb);have aU:=hid (show VecS w4 U.heap.size (P,b,cP) (zh1 b r.cols (za5 (zt0 f a) (zwh a) r.cols))from hv);have aB:=hid (ab.out.trans ((hb).mono ab.out.size));clear hv hb;have l:=hid Z.out.basis;have aT:=hid (show ∀q∈zh1 b r.cols (za5 (zt0 f a) (zwh a) r.cols),mw q≤sB m S S by
   obtain⟨_,_,_,x⟩:=Z.out;exact z0l l.out (l.out.vals_ok _).2 (z0n l.out x.bas.good.2.2 x.std.blen x.std.zb) (zma _ _ _))
  have aG:=hid (show dot (zJG N m) (zh1 b r.cols (za5 (zt0 f a) (zwh a) r.cols))=zSB N m f a r.cols by rw[←H.out];exact zVd l.out.len);go_wp2_with fail
  with_reducible refine(Vc.dot_ok C b cC (zJG N m) P b cP (zh1 b r.cols (za5 (zt0 f a) (zwh a) r.cols)) W.heap.size U.heap.size _ av.out aU.out (by rw[ah.out,zl8]) (by omega) (fun q D=>Nat.le_trans (zTR N m q D) (by decide)) (fun q D=>Nat.le_trans (aT.out q D) aY.out)).mono ?_
  rintro e V ⟨g5,A5,m5,c5,D5,md5,cd5,rfl,hn,hb⟩;have az:=hid (zad hb ay.out);have bk:=hid (bx.out.below hb);have bg:=hid (Z.out.below hb);have cc:=hid (av.out.below hb);have aN:=hid (show RatS V g5 (A5,m5,c5) (D5,md5,cd5) (zSB N m f a r.cols)from(by have h:=hn;rw[aG.out]at h;exact h));have aC:=hid (aB.out.trans ((hb).mono aB.out.size));clear hn hb
  have o:=zae V (.cells #[g5,(A5,m5,c5),(D5,md5,cd5)] 49);have aA:=hid (zad o az.out);have bl:=hid (bk.out.below o);have bh:=hid (bg.out.below o);have bd:=hid (cc.out.below o);have bf:=hid (aN.out.below o);have aE:=hid (aC.out.trans ((o).mono aC.out.size));have KV:=hid (zal V #[g5,(A5,m5,c5),(D5,md5,cd5)] 49);obtain⟨cV,_,cW,_,c3,_⟩:=bc3 KV.out;go_wp2_with fail
  with_reducible refine(Rt.sign g5 A5 m5 c5 D5 md5 cd5 (zSB N m f a r.cols) _ bf.out).mono ?_
  rintro e w6 ⟨rfl,hb⟩;have aD:=hid (zad hb aA.out);have bm:=hid (bl.out.below hb);have aa:=hid (bh.out.below hb);have be:=hid (bd.out.below hb);have ac:=hid (aE.out.trans ((hb).mono aE.out.size));obtain⟨ef,_,eg,_,dY,_,dT,_,dU,_,d5,_,ea,_,eb,_⟩:=bc8 aD.out;clear hb
  clear cV cW c3;by_cases k:0<zSB N m f a r.cols
  ·have a7:decide (0<(zSB N m f a r.cols).num.sign)=true:=decide_eq_true (Int.sign_eq_one_of_pos (zYp.2 k)▸by decide);have a8:decide (0<(zSB N m f a r.cols).num)=true:=decide_eq_true (zYp.2 k);have I:=hid k;clear k;go_wp2_with fail
   with_reducible refine(Tb.duals aa.out C cC (zJG N m) W.heap.size be.out Q.out G.out).mono ?_
   rintro e E ⟨Y,nY,cY,rfl,hv,hb⟩;have aF:=hid (zad hb aD.out);have bn:=hid (bm.out.below hb);have bi:=hid (aa.out.below hb);have HY:=hid (show VecS E w6.heap.size (Y,nY,cY) (zcl (zt0 f a) r.cols (zJG N m))from hv);have X:=hid (ac.out.trans ((hb).mono ac.out.size));obtain⟨eh,_,ej,_,el,_,em,_,en,_,d7,_,dP,_,dR,_⟩:=bc8 aF.out;obtain rfl:m=nY:=by rw[hv.len,(l.out.duals_ok _).2]
   clear hv hb;have a3:=hid (show ∀q∈zcl (zt0 f a) r.cols (zJG N m),mw q≤sB m S S by
    obtain⟨_,_,_,x⟩:=bi.out;exact znb l.out x.bas.good.2.2 ah.out Q.out)
   go_wp2_with fail
   with_reducible refine(pback rA rc bA bc_ kA kc eA ec i j m b own N (a.map sgI) R Y cY w6.heap.size (zcl (zt0 f a) r.cols (zJG N m)) (sB m S S) _ bn.out (zVI a) HY.out aX.out (zma _ _ _) a3.out a5).mono ?_
   rintro e w8 ⟨Y2,nY2,cY2,rfl,hv,hb⟩;have a2:=hid (show VecS w8 E.heap.size (Y2,nY2,cY2) (bkL (a.map sgI) (zcl (zt0 f a) r.cols (zJG N m)) m)from hv);have au:=hid (X.out.trans ((hb).mono X.out.size));obtain rfl:m=nY2:=by rw[hv.len,zSJ,(l.out.duals_ok _).2]
   have a9:w.heap.size≤E.heap.size:=(X).out.size;clear hv hb;go_wp2;refine bodyPost_ret (v:=.tuple #[.pointer none,(Y2,m,cY2),.int .i64 (r.n:Int),.nilIface]) (by simp[results,Tryz.results34,go_sem]) rfl ?_;exact⟨au.out,.inr (.inl ⟨p.out,I.out,Y2,cY2,rfl,a2.out.base a9⟩)⟩
  ·have a7:decide (0<(zSB N m f a r.cols).num.sign)=false:=decide_eq_false fun h=>k (zYp.1 (Int.sign_pos_iff.1 h))
   have a8:decide (0<(zSB N m f a r.cols).num)=false:=decide_eq_false fun h=>k (zYp.1 h)
   have I:=hid k;have dD:=ai.out;have dA:=af.out;clear k;have dC:=ag.out.1;go_wp2_with fail
   rw[show(B:Int)-(r.n:Int)=((B-r.n:Nat):Int)by omega];with_reducible refine(pdrive aa.out i j N (by have:=H.out;omega) G.out ((B-r.n:Nat):Int) (by omega)).mono ?_
   rintro e E ⟨ev,rfl,hev,hT7,hb7,hk7⟩;rw[show(((B-r.n:Nat):Int)).toNat=B-r.n from Int.toNat_natCast _,HD.out]at hev hT7 ⊢;have aP:=hid hev;have a0:=hid hT7;have ae:=hid (show Below w.heap.size w E from ac.out.trans (hb7.mono K.out.size));clear hev hT7 hb7 hk7;rcases aP.out with ⟨g,rfl⟩ | ⟨g,s,rfl,z⟩
   ·have L:=hid g;clear g;go_wp2;refine bodyPost_ret (v:=.tuple #[.pointer (some ⟨q,0,none⟩),(),.int .i64 ((r.n+d.1.2:Nat):Int),.nilIface]) (by simp[results,Tryz.results34,go_sem]) rfl ?_;exact⟨ae.out,.inr (.inr (.inr ⟨p.out,I.out,L.out,wn,q,tA,tc,rfl,a0.out,K.out.size,K.out⟩))⟩
   ·have L:=hid g;have O:=hid z;clear g z;go_wp2;refine bodyPost_ret (v:=.tuple #[.pointer none,(),.int .i64 ((r.n+d.1.2:Nat):Int),.iface 119 (.pointer (some ⟨s,0,none⟩))]) (by simp[results,Tryz.results34,go_sem]) rfl ?_;exact⟨ae.out,.inr (.inr (.inl ⟨p.out,I.out,L.out,_,rfl,s,d.1.2,rfl,ag.out.2,O.out⟩))⟩
 ·have p:=hid g;have O:=hid z;clear g z;go_wp2;refine bodyPost_ret (v:=.tuple #[.pointer none,(),.int .i64 (r.n:Int),.iface 119 (.pointer (some ⟨s,0,none⟩))]) (by simp[results,Tryz.results34,go_sem]) rfl ?_;exact⟨ab.out,.inl ⟨p.out,_,rfl,s,r.n,rfl,ai.out,O.out⟩⟩
