/- Contracts and lemmas: LuFac BasF. Conditions: as each says. -/
import Derived.Test.YtbhfhkcdfmmmiaaGreatDoorLuStepZd
import Derived.Test.YtbhfhkcdfmmmiaaGreatDoorVec7Zd
import Derived.Test.YtbhfhkcdfmmmiaaGreatDoorMat5Zd
set_option linter.all false
set_option maxHeartbeats 8000000
set_option maxRecDepth 100000
namespace Go.Proofs.YtbhfhkcdfmmmiaaGreatDoor
open Go.RowKit Am
open Lib (hid)
attribute [local go_sem ↓] Go.wp_at_zero Go.wp_at_succ
variable {F:LUv}{C L:List (List Rat)}{c n s:Nat}
def zsQ (w:World) (n:Nat) (L:List (List Rat)) (e:Ending) (w':World):Prop :=
  (∃(F:LUv) (q:Nat),zoN n L=some F∧e=.returned (.tuple #[.pointer (some ⟨q,0,none⟩),true])∧LuS w' w.heap.size q n F∧Below w.heap.size w w') ∨
  (zoN n L=none∧e=.returned (.tuple #[.pointer none,false])∧Below w.heap.size w w')
structure Going (n s:Nat) (L:List (List Rat)) (c:Nat) (F:LUv):Prop where
  sq:Sq n F
  inv:LUinv n (en L) c F
  small:∀i,i<n→∀j,j<n→mw (en L i j)≤s
  eq:zsD n (n-c) c F=zoN n L
theorem Going.start{n s:Nat}{L:List (List Rat)}(a:L.length=n)(hr:∀r∈L,r.length=n)(c:∀i,i<n→∀j,j<n→mw (en L i j)≤s):Going n s L 0 (zg4 n L) :=
 ⟨zl6 a fun i b=>hr _ (List.mem_of_getElem? (zaO (by omega))),LUinv.start a fun i b=>hr _ (List.mem_of_getElem? (zaO (by omega))),c,rfl⟩
theorem Going.next(h:Going n s L c F)(hc:c<n)(hk:zeg F.up c (n-c) c<n):Going n s L (c+1) (F.step c (zeg F.up c (n-c) c)):=by
 obtain⟨a,_,_,d⟩:=ziG F.up c (n-c) c;refine⟨zqB h.sq hc hk,h.inv.step hc a hk (d (by omega)),h.small,?_⟩;obtain⟨f,b⟩:∃f,n-c=f+1:=⟨n-(c+1),by omega⟩
 have e:zsD n (n-c) c F=zsD n f (c+1) (F.step c (zeg F.up c (n-c) c)):=by
  conv=>lhs;rw[b];unfold zsD
  rw[if_neg (by omega)]
 rw[←h.eq,e,show n-(c+1)=f by omega]
theorem Going.stuck(h:Going n s L c F)(hc:c<n)(hk:zeg F.up c (n-c) c=n):zoN n L=none:=by
 rw[←h.eq,show n-c=(n-(c+1))+1 by omega];unfold zsD;rw[if_pos hk]
theorem Going.done(h:Going n s L n F):zoN n L=some F:=by
 rw[←h.eq,Nat.sub_self];rfl
theorem LuS.base{w:World}{H b q n:Nat}{F:LUv}(h:LuS w H q n F)(a:b≤H):LuS w b q n F:=by
 obtain⟨⟨lA,lc,ll,uA,uc,ul,pA,pc,c,d,e,f,g,i,j⟩,k,l⟩:=h;exact⟨⟨lA,lc,ll,uA,uc,ul,pA,pc,c,d.base a,e,f.base a,g,i,j.base a⟩,Nat.le_trans a k,l⟩
namespace Lu
theorem factor(n t:Nat)(R:OA)(l0:List Value)(L:List (List Rat))(E s:Nat)(w:World)(h:VecsL w E (R,n,t) l0 L)(Q:∀r∈L,r.length=n)(hn:n≤64)(zL:∀i,i<n→∀j,j<n→mw (en L i j)≤s)(ar:24*uB n s+8≤LIM) :
  Calls Tryz.prog 121 #[.agg #[(R,n,t),(n:Int)]] w (zsQ w n L):=by
 have x:=hid hn;have aY:=hid Q;have B:=hid h.nlen;have aO:=hid ar;have ad:=hid (Going.start h.nlen.symm Q zL);have bo:n≤9223372036854775807:=by omega
 clear hn Q zL ar;obtain⟨W,C⟩:∃W,(w.alloc (.cells #[(R,n,t),(n:Int)] 78))=W:=⟨_,rfl⟩
 have al:=hid (show W.heap[w.heap.size]? = some (.cells #[(R,n,t),(n:Int)] 78 (0,0))by rw[←C];exact zam (by simp));have BB:=hid (show Below w.heap.size w W by rw[←C];exact zae w _);have HR:=hid (show VecsL W E (R,n,t) l0 L by rw[←C];exact(h).alloc _);obtain⟨bA,bG,bB,bu⟩:=bc2 al.out;clear h;go_enter Tryz.func121,Tryz.ntmps121;go_wp2_with fail
 clear C;with_reducible refine(Mt.rows n n t R _).mono ?_
 rintro e wa ⟨rfl,f⟩;have aG:=hid (zad f al.out);have bg:=hid (HR.out.below f);have aF:=hid (BB.out.trans ((f).mono BB.out.size));obtain⟨bx,bE,bz,bF⟩:=bc2 aG.out;clear f;go_wp2_with fail
 with_reducible refine(Mt.cols n n t R _).mono ?_
 rintro e d ⟨rfl,f⟩;have aE:=hid (zad f aG.out);have bh:=hid (bg.out.below f);have ab:=hid (aF.out.trans ((f).mono aF.out.size));obtain⟨bC,bv,bD,bw⟩:=bc2 aE.out;clear f;go_wp2;have N:=hid (ab.out.size)
 go_loopw [19] (fun i wr=>∃(k:Nat) (lA:OA) (lc:Nat) (ll:List Value) (uA:OA) (uc:Nat) (ul:List Value) (pA:OA) (pc:Nat),i=.int .i64 k∧k≤n∧LuG wr d.heap.size d.heap.size n k k k lA lc ll uA uc ul pA pc (laid n L k)∧Below d.heap.size d wr)
  (fun i _=>n-(intOf i).toNat)
 case atStart=>exact⟨0,none,0,[],none,0,[],none,0,rfl,Nat.zero_le _,LuG.start _ _ _,zae _ _⟩
 case round =>
  obtain⟨k,lA,lc,ll,uA,uc,ul,pA,pc,rfl,hk,l,o⟩:=hrel;by_cases A:k<n
  ·obtain⟨r,hr⟩:∃r,L[k]? = some r:=⟨L[k]'(by rw[←B.out];exact A),List.getElem?_eq_getElem _⟩
   have ay:=aY.out r (List.mem_of_getElem? hr);obtain⟨_,_,_,_,q1,_⟩:=bf4 l.blk;have be:=hid (zad o aE.out);have bd:=hid (bh.out.below o);have I:=hid (l);have HW:=hid (Bel.mk o);obtain⟨bH,_,bI,_⟩:=bc2 be.out;have bf:=q1;have af:=hid hr;have ag:=hid ay;have aM:=hid (o.size);clear l o hr ay
   have a7:(k:Int)<(n:Int):=by omega
   go_wp2_with fail
   with_reducible refine(Mt.row n n t R l0 L E k r _ bd.out af.out ag.out x.out x.out).mono ?_
   rintro e w1 ⟨A2,c2,rfl,hv2,f⟩;have aa:=hid (I.out.below f);have aI:=hid (HW.out.below f);have O:=hid (hv2);have bJ:=zab f bf;clear hv2 f;have aR:=hid (show ∀g,(Value.slice A2 n c2).ownBlock=some g→(∀a∈ll,a.ownBlock≠some g)∧∀a∈ul,a.ownBlock≠some g from fun g hg=>⟨fun a y e=>by have h1:=(O.out.lt hg).1;have P:=(I.out.lo.lt y e).2;omega,fun a y e=>by have h1:=(O.out.lt hg).1;have P:=(I.out.up.lt y e).2;omega⟩);go_upto_region 9 with fail
   go_cut[] (fun wy=>∃(X:OA) (Y:Nat) (D:List Value),LuG wy d.heap.size d.heap.size n k (k+1) k lA lc ll X Y D pA pc { laid n L k with up:=(laid n L k).up++[r] }∧Bel d wy)
   case first=>as_aux_lemma =>
    go_wp2_with (at_builtin;refine zbW rfl _ _ rfl rfl (aa.out.alloc (.cells #[(A2,n,c2)] 28)).up rfl (zal _ _ _) ((O.out.base aM.out).alloc _) (n:=k) (by simp[laid];have:=B.out;omega) (by have:=x.out;omega) (by simp;have:=aI.out.b.size;omega) ?_;intro A3 c3 Z am T z au;have aW:=hid am;have aT:=hid T;have aP:=hid au;have aJ:=hid z;have q:=hid (T.blk (aa.out.alloc (.cells #[(A2,n,c2)] 28)).blk (by decide));have z1:=zac q.out 1;have zf:=zag q.out 1;simp only[List.getElem?_toArray,List.getElem?_cons_zero,List.getElem?_cons_succ]at z1;clear am T z au)
    go_meet
    case rel=>exact⟨_,_,_,(aa.out.alloc (.cells #[(A2,n,c2)] 28)).pushU (by omega) aW.out aT.out aP.out ag.out aR.out,⟨((aI.out.alloc (.cells #[(A2,n,c2)] 28)).b.trans aJ.out).setCell (p:=⟨d.heap.size,1,none⟩) (Nat.le_refl _) _⟩⟩
   case rest =>
    rename World=>wy
    obtain⟨X,Y,D,l,f⟩:=hcut;have J:=hid l;have ai:=hid f;obtain⟨r0,a9,_⟩:=bf4 l.blk;clear l f;go_wp2_with fail
    go_cut[] (fun wy=>∃(aA:OA) (lc':Nat) (aB:List Value),LuG wy d.heap.size d.heap.size n (k+1) (k+1) k aA lc' aB X Y D pA pc { laid n L k with up:=(laid n L k).up++[r],lo:=(laid n L k).lo++[List.replicate n 0] }∧Bel d wy)
    case first=>as_aux_lemma =>
     refine zaS (S:=fun w'=>w'.cell? ⟨d.heap.size,0,none⟩=some (lA,k,lc)) [11] (h:=fun hHeld=>?_);refine zaw [0,1,2,3,4,5] ?_;repeat refine tkL (hS:=hHeld) (h:=?_)
     refine zao ?_;refine zaB 6 (h:=fun K m=>?_)
     (refine zh5 rfl _ _ rfl n _ rfl rfl rfl (by have:=x.out;omega) ?_;intro Z az z;have a3:=hid az;have M:=hid (J.out.below (show Below wy.heap.size wy Z from It.bdrew0' z));have ak:=hid (ai.out.below (show Below wy.heap.size wy Z from It.bdrew0' z));have s0:=zab z a9;have a5:=hid (ai.out.b.size);clear az z)
     refine m.out _ _ kp fun hHeld=>?_
     clear m K;try simp only[Act.put,pu1,pu2,pu3,pu4,pu5,pu6]
     refine zaB 7 (h:=fun K m=>?_);go_simp;refine m.out _ _ kp fun hHeld=>?_
     clear m K;try simp only[Act.put,pu1,pu2,pu3,pu4,pu5,pu6]
     refine zaB 8 (h:=fun K m=>?_)
     (refine zet rfl _ _ rfl rfl (M.out.alloc _).lo rfl (zal _ _ _) ((a3.out.base (show d.heap.size≤wy.drew.heap.size from a5.out)).alloc _) (n:=k) (by simp[laid]) (by have:=x.out;omega) (by simp;have:=ak.out.b.size;omega) ?_;intro A5 c5 w5 an U ap av;have aX:=hid an;have aU:=hid U;have aQ:=hid av;have aK:=hid ap;have q:=hid (U.blk (M.out.alloc _).blk (by decide));have z0:=zac q.out 0;have zf:=zag q.out 0;simp only[List.getElem?_toArray,List.getElem?_cons_zero,List.getElem?_cons_succ]at z0;clear an U ap av)
     refine m.out _ _ kp fun hHeld=>?_
     clear m K;try simp only[Act.put,pu1,pu2,pu3,pu4,pu5,pu6]
     refine zaw [9] ?_;repeat refine tkX (h:=?_)
     refine zao ?_;refine zaw [10] ?_;repeat refine tkL (hS:=hHeld) (h:=?_)
     refine zao ?_;refine zay 11 (h:=fun K m=>?_);go_simp;refine m.out _ _ ?_;clear m K;try simp only[Act.put,pu1,pu2,pu3,pu4,pu5,pu6]
     refine zaM (h:=?_);go_wp2;go_meet;have aS:=hid (show ∀g,(Value.slice (some ⟨wy.heap.size,0,none⟩) n n).ownBlock=some g→(∀a∈ll,a.ownBlock≠some g)∧∀a∈D,a.ownBlock≠some g from fun g hg=>⟨fun a y e=>by have h0:wy.heap.size=g:=(by injection hg);have P:=(J.out.lo.lt y e).2;omega,fun a y e=>by have h0:wy.heap.size=g:=(by injection hg);have P:=(J.out.up.lt y e).2;omega⟩)
     case rel=>exact⟨_,_,_,(M.out.alloc (.cells #[.slice (some ⟨wy.heap.size,0,none⟩) n n] 28)).pushL (by omega) (by omega) aX.out aU.out aQ.out (by simp) aS.out,⟨((ak.out.alloc (.cells #[.slice (some ⟨wy.heap.size,0,none⟩) n n] 28)).b.trans aK.out).setCell (p:=⟨d.heap.size,0,none⟩) (Nat.le_refl _) _⟩⟩
    case rest =>
     rename World=>wx
     obtain⟨aA,lc',aB,l,f⟩:=hcut;have u:=hid l;have aj:=hid f;obtain⟨s0,_,_,_,_,_,_,_,s2,_⟩:=bf4 l.blk;clear l f s0
     go_wp2_with (at_builtin;refine ziP rfl _ _ rfl rfl (u.out.alloc (.cells #[(k:Int)] 3)).perm rfl (zal _ _ _) (n:=k) (by simp[laid]) (by have:=x.out;omega) (by simp;have:=aj.out.b.size;omega) ?_;intro A6 c6 w6 ao V aq;have aZ:=hid ao;have aV:=hid V;have aL:=hid aq;have q:=hid (V.blk (u.out.alloc (.cells #[(k:Int)] 3)).blk (by decide));have z2:=zac q.out 2;have zf:=zag q.out 2;simp only[List.getElem?_toArray,List.getElem?_cons_zero,List.getElem?_cons_succ]at z2;clear ao V aq)
     go_roundw
     case rel=>exact⟨k+1,_,_,_,_,_,_,_,_,by go_num,by omega,by have hh:=(u.out.alloc (.cells #[(k:Int)] 3)).pushP aZ.out aV.out;rw[←zuY af.out];exact hh,((aj.out.alloc (.cells #[(k:Int)] 3)).b.trans aL.out).setCell (p:=⟨d.heap.size,2,none⟩) (Nat.le_refl _) _⟩
     case measure=>simp[intOf];omega
  ·obtain rfl:k=n:=by omega
   have HQ:=hid (show LuW wr d.heap.size d.heap.size k (zg4 k L)from by rw[←zrB B.out.symm];exact l.toW (by rw[zrB B.out.symm];exact ad.out.sq));have aN:=hid o;clear l o hk A;go_wp2
   go_loopw [61] (fun i wr=>∃(c:Nat) (F:LUv),i=.int .i64 c∧c≤k∧LuW wr d.heap.size d.heap.size k F∧Going k s L c F∧Below d.heap.size d wr)
    (fun i _=>k-(intOf i).toNat)
   case atStart=>exact⟨0,_,rfl,Nat.zero_le _,HQ.out,ad.out,aN.out⟩
   case round =>
    rename World=>wz
    obtain⟨c,F,rfl,hc,hq,hg,o⟩:=hrel;have ae:=hid hq;have v:=hid hg;have H:=hid o;clear hq hg o;by_cases A:c<k
    ·have HU:=hid (And.intro (show 1≤uB k s by unfold uB;omega) (v.out.inv.size zo5 hc v.out.small));have a7:(c:Int)<(k:Int):=by omega
     go_wp2_with fail
     refine(Lu.step d.heap.size d.heap.size k (uB k s) c F _ (ae.out.1 (by omega)) v.out.sq x.out A HU.out.2 HU.out.1 aO.out).mono ?_;rintro e w2 (⟨hk2,rfl,hq2,hb2⟩ | ⟨hk2,rfl,hb2⟩)
     ·have u:=hid (v.out.next A hk2);have a1:=hid hq2;have G:=hid (H.out.trans hb2);clear hk2 hq2 hb2;go_wp2;go_roundw
      case rel=>exact⟨c+1,_,by go_num,by omega,⟨fun _=>a1.out,fun h=>absurd h (by omega)⟩,u.out,G.out⟩
      case measure=>simp[intOf];omega
     ·have u:=hid (v.out.stuck A hk2);have G:=hid (H.out.trans hb2);clear hk2 hb2;go_wp2;go_ret2
      exact .inr ⟨u.out,rfl,ab.out.trans (G.out.mono N.out)⟩
    ·obtain rfl:c=k:=by omega
     go_wp2;go_ret2
     exact .inl ⟨F,_,v.out.done,rfl,(ae.out.toS v.out.sq).base N.out,ab.out.trans (H.out.mono N.out)⟩
end Lu
def zCp (w:World) (H q n S:Nat) (C:List (List Rat)) (e:Ending) (w':World):Prop :=
  (CReg n C∧e=.returned true∧(∀tb:Option Nat,(∀g,tb=some g→g<w.heap.size)→zhf w' H q n S C tb)∧Below H w w'∧Kept TB none w w')∨(¬CReg n C∧e=.returned false∧Below w.heap.size w w')
theorem zuy(h:CSq n C):∀r∈C,r.length=n:=fun r hr=>by
 obtain⟨i,a⟩:=List.mem_iff_getElem?.1 hr;rw[←getD_some (d:=[]) a];exact h.col i (by rw[←h.len];exact(List.getElem?_eq_some_iff.1 a).1)
theorem zxM(h:CSq n C):∀r∈zcZ n C,r.length=n:=fun r hr=>by
 obtain⟨i,_,rfl⟩:=List.mem_map.1 hr;rw[List.length_map];exact h.len
theorem BasP.mk'{w:World}{H q S:Nat}{cA:OA}{cc:Nat}{lc:List Value}{v1 m:Value}{K ql:Nat}(hk:w.heap[q]? = some (.cells #[(cA,n,cc),v1,m] 175 (0,0)))(h:VecsL w H (cA,n,cc) lc C)(low:∀g,(Value.slice cA n cc).ownBlock=some g→g<K)
  (i:LuS w K ql n F) (f:zoN n (zcZ n C)=some F) (d:CSq n C) (hr:CReg n C) (l:zhg mw n S C) (j:H≤q) (e:H≤K) :
  ∀tb:Option Nat,(∀g,tb=some g→g<K)→zhf ((w.setCell ⟨q,1,none⟩ (.pointer (some ⟨ql,0,none⟩))).setCell ⟨q,2,none⟩ ()) H q n S C tb:=by
 intro tb k;have c:TKeep 175 w (w.setCell ⟨q,1,none⟩ (.pointer (some ⟨ql,0,none⟩))):=TKeep.set hk _;have b:=zar (o:=1) (.pointer (some ⟨ql,0,none⟩)) hk;have k2:TKeep 175 (w.setCell ⟨q,1,none⟩ (.pointer (some ⟨ql,0,none⟩))) ((w.setCell ⟨q,1,none⟩ (.pointer (some ⟨ql,0,none⟩))).setCell ⟨q,2,none⟩ ()):=TKeep.set b _;have a:BasP ((w.setCell ⟨q,1,none⟩ (.pointer (some ⟨ql,0,none⟩))).setCell ⟨q,2,none⟩ ()) H q n S cA cc lc C K ql F C none 0 [] []:=by
  refine⟨?_,(h.tk c (by decide) (by decide) (by decide)).tk k2 (by decide) (by decide) (by decide),low,(i.tk c (by decide) (by decide) (by decide) (by decide) (by decide)).tk k2 (by decide) (by decide) (by decide) (by decide) (by decide),f,EtasL.nil _ _,.nil d hr l,Nat.zero_le _,j,e⟩;have:=zar (o:=2) () b;simpa using this
 exact⟨cA,cc,lc,K,ql,F,C,none,0,[],[],a,a.ahead k⟩
namespace Bs
theorem factor(H q n S cc:Nat)(cA:OA)(lc:List Value)(C:List (List Rat))(v1 O:Value)(w:World)(hk:w.heap[q]? = some (.cells #[(cA,n,cc),v1,O] 175 (0,0)))(h:VecsL w H (cA,n,cc) lc C)(J:H≤q)(t:CSq n C)(y:n≤64)(z:zhg mw n S C)(v:24*uB n S+8≤LIM) :
  Calls Tryz.prog 100 #[.pointer (some ⟨q,0,none⟩)] w (zCp w H q n S C):=by
 have r:=hid y;have b:=hid t;have s:=hid z;have A:=hid v;have l:=hid J;have I:=hid hk;have m:=hid h;have P:=(Array.getElem?_eq_some_iff.1 hk).1;have o:=hid (show H≤w.heap.size by omega);obtain⟨N,_⟩:=bc3 hk;clear y t z v hk h;go_enter Tryz.func100,Tryz.ntmps100;go_wp2_with fail
 refine(matrix q n cc cA lc C H _ N m.out (zuy b.out) r.out).mono ?_;rintro e w1 ⟨A1,c1,l1,rfl,hv1,ha1,hb1⟩;have E:=hid hv1;have c:=hid hb1;clear hv1 ha1 hb1;go_wp2_with fail
 refine(Lu.factor n c1 A1 l1 (zcZ n C) w.heap.size S _ E.out (zxM b.out) r.out (fun i x j hj=>by rw[zeI x (by rw[b.out.len];exact hj)];exact s.out j hj i x) A.out).mono ?_;rintro e k (⟨F,ql,hF,rfl,hl,hb2⟩ | ⟨hF,rfl,hb2⟩)
 ·have hr:CReg n C:=by
   by_cases e:CReg n C
   ·exact e
   ·rw[zAZ b.out e]at hF;cases hF
  have d:=hid hr;have B:=hid hF;have D:=hid hl;have a:=hid (c.out.trans (hb2.mono c.out.size));have f:=hid (zad a.out I.out);have G:=hid (m.out.below a.out);have Q:=c.out.size;obtain⟨_,_,_,_,R,_,U,_,T,_,V,_⟩:=bf3 f.out;clear hF hl hb2 hr;go_wp2;go_ret
  have K:Kept TB none k (k.setCell ⟨q,1,none⟩ (.pointer (some ⟨ql,0,none⟩))):=Kept.set f.out (by decide) _;have L:Kept TB none (k.setCell ⟨q,1,none⟩ (.pointer (some ⟨ql,0,none⟩))) ((k.setCell ⟨q,1,none⟩ (.pointer (some ⟨ql,0,none⟩))).setCell ⟨q,2,none⟩ ()):=Kept.set (zar _ f.out) (by decide) _
  exact .inl ⟨d.out,rfl,fun tb M=>BasP.mk' f.out G.out (fun g hg=>by have:=(m.out.own.lt g hg).2;omega) D.out B.out b.out d.out s.out l.out (by have:=o.out;omega) tb (fun g hg=>by have:=M g hg;omega),((a.out.mono o.out).setCell (p:=⟨q,1,none⟩) l.out _).setCell (p:=⟨q,2,none⟩) l.out _,((Kept.of_below a.out).trans K).trans L⟩
 ·have hr:¬CReg n C:=fun e=>by
   obtain⟨F,u,_⟩:=ziH b.out e;rw[hF]at u;cases u
  have d:=hid hr;have a:=hid (c.out.trans (hb2.mono c.out.size));clear hF hb2 hr;go_wp2;go_ret
  exact .inr ⟨d.out,rfl,a.out⟩
