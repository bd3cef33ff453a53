/- Contracts and lemmas: LuFac BasF. Conditions: as each says. -/
import Derived.Test.YtdnippohkfdncaaGreatLuStepZk
import Derived.Test.YtdnippohkfdncaaGreatIntsZk
import Derived.Test.YtdnippohkfdncaaGreatMat6Zk
set_option linter.all false
set_option maxHeartbeats 8000000
set_option maxRecDepth 100000
namespace Go.Proofs.YtdnippohkfdncaaGreat
open Go.RowKit Am
open Lib (hid)
attribute [local go_sem ↓] Go.wp_at_zero Go.wp_at_succ
def zsQ (w:World) (n:Nat) (L:List (List Rat)) (e:Ending) (w':World):Prop :=
  (∃(F:LUv) (q:Nat),zoN n L=some F∧e=.returned (.tuple #[.pointer (some ⟨q,0,none⟩),.bool true])∧LuS w' w.heap.size q n F∧Below w.heap.size w w') ∨
  (zoN n L=none∧e=.returned (.tuple #[.pointer none,.bool false])∧Below w.heap.size w w')
structure Going (n s:Nat) (L:List (List Rat)) (c:Nat) (F:LUv):Prop where
  sq:Sq n F
  sz:∃u,1≤u∧u+1≤4^c*(s+2)∧LUsz mw n u F
  eq:zsD n (n-c) c F=zoN n L
theorem Going.start{n s:Nat}{L:List (List Rat)}(a:L.length=n)(hr:∀r∈L,r.length=n)(b:∀i,i<n→∀j,j<n→mw (en L i j)≤s):Going n s L 0 (zg4 n L) :=
 ⟨zl6 a fun i c=>hr _ (List.mem_of_getElem? (zaO (by omega))),⟨s+1,by omega,by omega,zi6 zo5 b⟩,rfl⟩
theorem zIf{n c s u:Nat}(hc:c≤n)(h:u+1≤4^c*(s+2)):u≤uB n s:=by
 unfold uB;have:4^c≤4^n:=Nat.pow_le_pow_right (by omega) hc;have:=Nat.mul_le_mul_right (s+2) this;omega
theorem Going.next{n s c:Nat}{L:List (List Rat)}{F:LUv}(h:Going n s L c F)(hc:c<n)(hk:zeg F.up c (n-c) c<n):Going n s L (c+1) (F.step c (zeg F.up c (n-c) c)):=by
 obtain⟨u,h1,d,a⟩:=h.sz;refine⟨zqB h.sq hc hk,⟨4*u+1,by omega,(by rw[Nat.pow_succ,Nat.mul_comm (4^c) 4,Nat.mul_assoc];omega),a.step zo5 h.sq h1 hc hk⟩,?_⟩;obtain⟨f,b⟩:∃f,n-c=f+1:=⟨n-(c+1),by omega⟩
 have e:zsD n (n-c) c F=zsD n f (c+1) (F.step c (zeg F.up c (n-c) c)):=by
  conv=>lhs;rw[b];unfold zsD
  rw[if_neg (by omega)]
 rw[←h.eq,e,show n-(c+1)=f by omega]
theorem Going.stuck{n s c:Nat}{L:List (List Rat)}{F:LUv}(h:Going n s L c F)(hc:c<n)(hk:zeg F.up c (n-c) c=n):zoN n L=none:=by
 rw[←h.eq,show n-c=(n-(c+1))+1 by omega];unfold zsD;rw[if_pos hk]
theorem Going.done{n s:Nat}{L:List (List Rat)}{F:LUv}(h:Going n s L n F):zoN n L=some F:=by
 rw[←h.eq,Nat.sub_self];rfl
theorem LuS.base{w:World}{H b q n:Nat}{F:LUv}(h:LuS w H q n F)(a:b≤H):LuS w b q n F:=by
 obtain⟨⟨lA,lc,ll,uA,uc,ul,pA,pc,c,d,e,f,g,i,j⟩,k,l⟩:=h;exact⟨⟨lA,lc,ll,uA,uc,ul,pA,pc,c,d.base a,e,f.base a,g,i,j.base a⟩,Nat.le_trans a k,l⟩
namespace Lu
theorem factor(n t:Nat)(R:OA)(l0:List Value)(L:List (List Rat))(H s:Nat)(w:World)(h:VecsL w H (.slice R n t) l0 L)(T:∀r∈L,r.length=n)(hn:n≤64)(zL:∀i,i<n→∀j,j<n→mw (en L i j)≤s)(au:24*uB n s+8≤LIM) :
  Calls Tryz.prog 176 #[.agg #[.slice R n t,.int .i64 (n:Int)]] w (zsQ w n L):=by
 have x:=hid hn;have a3:=hid T;have C:=hid h.nlen;have aS:=hid au;have ae:=hid (Going.start h.nlen.symm T zL);have bt:n≤9223372036854775807:=by omega
 clear hn T zL au;obtain⟨W,E⟩:∃W,(w.alloc (.cells #[.slice R n t,.int .i64 (n:Int)] 107))=W:=⟨_,rfl⟩
 have am:=hid (show W.heap[w.heap.size]? = some (.cells #[.slice R n t,.int .i64 (n:Int)] 107 (0,0))by rw[←E];exact zam (by simp));have BB:=hid (show Below w.heap.size w W by rw[←E];exact zae w _);have HR:=hid (show VecsL W H (.slice R n t) l0 L by rw[←E];exact(h).alloc _);obtain⟨bF,bL,bG,bA⟩:=bc2 am.out;clear h;go_enter Tryz.func176,Tryz.ntmps176;go_wp2_with fail
 clear E;with_reducible refine(Mt.rows n n t R _).mono ?_
 rintro e wa ⟨rfl,f⟩;have aK:=hid (zad f am.out);have bl:=hid (HR.out.below f);have aJ:=hid (BB.out.trans ((f).mono BB.out.size));obtain⟨bD,bJ,bE,bK⟩:=bc2 aK.out;clear f;go_wp2_with fail
 with_reducible refine(Mt.cols n n t R _).mono ?_
 rintro e d ⟨rfl,f⟩;have aI:=hid (zad f aK.out);have bm:=hid (bl.out.below f);have ac:=hid (aJ.out.trans ((f).mono aJ.out.size));obtain⟨bH,bB,bI,bC⟩:=bc2 aI.out;clear f;go_wp2;have P:=hid (show w.heap.size≤d.heap.size from ac.out.size)
 go_loopw [19] (fun i wr=>∃(k:Nat) (lA:OA) (lc:Nat) (ll:List Value) (uA:OA) (uc:Nat) (ul:List Value) (pA:OA) (pc:Nat),i=.int .i64 k∧k≤n∧LuG wr d.heap.size d.heap.size n k k k lA lc ll uA uc ul pA pc (laid n L k)∧Below d.heap.size d wr)
  (fun i _=>n-(intOf i).toNat)
 case atStart=>exact⟨0,none,0,[],none,0,[],none,0,rfl,Nat.zero_le _,LuG.start _ _ _,zae _ _⟩
 case round =>
  obtain⟨k,lA,lc,ll,uA,uc,ul,pA,pc,rfl,hk,l,o⟩:=hrel;by_cases B:k<n
  ·obtain⟨r,hr⟩:∃r,L[k]? = some r:=⟨L[k]'(by rw[←C.out];exact B),List.getElem?_eq_getElem _⟩
   have az:r.length=n:=a3.out r (List.mem_of_getElem? hr);obtain⟨_,_,_,_,q1,_⟩:=bf4 l.blk;have bj:=hid (zad o aI.out);have bi:=hid (bm.out.below o);have M:=hid (show LuG wr d.heap.size d.heap.size n k k k lA lc ll uA uc ul pA pc (laid n L k)from l);have HW:=hid (show Bel d wr from Bel.mk o);obtain⟨bM,_,bN,_⟩:=bc2 bj.out;have bk:wr.cell? ⟨d.heap.size,1,none⟩=some (.slice uA k uc):=q1;have ag:=hid hr;have ah:=hid az;have aQ:=hid (show d.heap.size≤wr.heap.size from o.size);clear l o hr az
   have bc:(k:Int)<(n:Int):=by omega
   go_wp2_with fail
   with_reducible refine(Mt.row n n t R l0 L H k r _ bi.out ag.out ah.out x.out x.out).mono ?_
   rintro e w1 ⟨A2,c2,rfl,hv2,f⟩;have ab:=hid (M.out.below f);have aM:=hid (HW.out.below f);have Q:=hid (show VecS w1 wr.heap.size (.slice A2 n c2) r from hv2);have bO:=zab f bk;clear hv2 f;have aV:=hid (show ∀g,(Value.slice A2 n c2).ownBlock=some g→(∀a∈ll,a.ownBlock≠some g)∧∀a∈ul,a.ownBlock≠some g from fun g hg=>⟨fun a y e=>by have h1:=(Q.out.lt hg).1;have D:=(M.out.lo.lt y e).2;omega,fun a y e=>by have h1:=(Q.out.lt hg).1;have D:=(M.out.up.lt y e).2;omega⟩);go_upto_region 9 with fail
   go_cut[] (fun wy=>∃(Y:OA) (Z:Nat) (G:List Value),LuG wy d.heap.size d.heap.size n k (k+1) k lA lc ll Y Z G pA pc { laid n L k with up:=(laid n L k).up++[r] }∧Bel d wy)
   case first=>as_aux_lemma =>
    go_wp2_with (at_builtin;refine zbW rfl _ _ rfl rfl (ab.out.alloc (.cells #[.slice A2 n c2] 37)).up rfl (zal _ _ _) ((Q.out.base aQ.out).alloc _) (n:=k) (by simp[laid];have:=C.out;omega) (by have:=x.out;omega) (by simp;have:=aM.out.b.size;omega) ?_;intro A3 c3 w3 an U z av;have a1:=hid an;have aX:=hid U;have aT:=hid av;have aN:=hid z;have q:=hid (U.blk (ab.out.alloc (.cells #[.slice A2 n c2] 37)).blk (by decide));have z1:=zac q.out 1;have zf:=zag q.out 1;simp only[List.getElem?_toArray,List.getElem?_cons_zero,List.getElem?_cons_succ]at z1;clear an U z av)
    go_meet
    case rel=>exact⟨_,_,_,(ab.out.alloc (.cells #[.slice A2 n c2] 37)).pushU (by omega) a1.out aX.out aT.out ah.out aV.out,⟨((aM.out.alloc (.cells #[.slice A2 n c2] 37)).b.trans aN.out).setCell (p:=⟨d.heap.size,1,none⟩) (Nat.le_refl _) _⟩⟩
   case rest =>
    rename World=>wy
    obtain⟨Y,Z,G,l,f⟩:=hcut;have N:=hid l;have aj:=hid f;obtain⟨r0,be,_⟩:=bf4 l.blk;clear l f;go_wp2_with fail
    go_cut[] (fun wy=>∃(aE:OA) (lc':Nat) (aF:List Value),LuG wy d.heap.size d.heap.size n (k+1) (k+1) k aE lc' aF Y Z G pA pc { laid n L k with up:=(laid n L k).up++[r],lo:=(laid n L k).lo++[List.replicate n 0] }∧Bel d wy)
    case first=>as_aux_lemma =>
     refine zaS (S:=fun w'=>w'.cell? ⟨d.heap.size,0,none⟩=some (.slice lA k lc)) [11] (h:=fun hHeld=>?_);refine zaw [0,1,2,3,4,5] ?_;repeat refine tkL (hS:=hHeld) (h:=?_)
     refine zao ?_;refine zaB 6 (h:=fun K m=>?_)
     (refine zh5 rfl _ _ rfl n _ rfl rfl rfl (by have:=x.out;omega) ?_;intro w3 aD z;have a8:=hid aD;have O:=hid (N.out.below (show Below wy.heap.size wy w3 from It.bdrew0' z));have al:=hid (aj.out.below (show Below wy.heap.size wy w3 from It.bdrew0' z));have s0:=zab z be;have ba:=hid (show d.heap.size≤wy.heap.size from aj.out.b.size);clear aD z)
     refine m.out _ _ kp fun hHeld=>?_
     clear m K;try simp only[Act.put,pu1,pu2,pu3,pu4,pu5,pu6]
     refine zaB 7 (h:=fun K m=>?_);go_simp;refine m.out _ _ kp fun hHeld=>?_
     clear m K;try simp only[Act.put,pu1,pu2,pu3,pu4,pu5,pu6]
     refine zaB 8 (h:=fun K m=>?_)
     (refine zet rfl _ _ rfl rfl (O.out.alloc _).lo rfl (zal _ _ _) ((a8.out.base (show d.heap.size≤wy.drew.heap.size from ba.out)).alloc _) (n:=k) (by simp[laid]) (by have:=x.out;omega) (by simp;have:=al.out.b.size;omega) ?_;intro A5 c5 w5 ao V aq aw;have a2:=hid ao;have aY:=hid V;have aU:=hid aw;have aO:=hid aq;have q:=hid (V.blk (O.out.alloc _).blk (by decide));have z0:=zac q.out 0;have zf:=zag q.out 0;simp only[List.getElem?_toArray,List.getElem?_cons_zero,List.getElem?_cons_succ]at z0;clear ao V aq aw)
     refine m.out _ _ kp fun hHeld=>?_
     clear m K;try simp only[Act.put,pu1,pu2,pu3,pu4,pu5,pu6]
     refine zaw [9] ?_;repeat refine tkX (h:=?_)
     refine zao ?_;refine zaw [10] ?_;repeat refine tkL (hS:=hHeld) (h:=?_)
     refine zao ?_;refine zay 11 (h:=fun K m=>?_);go_simp;refine m.out _ _ ?_;clear m K;try simp only[Act.put,pu1,pu2,pu3,pu4,pu5,pu6]
     refine zaM (h:=?_);go_wp2;go_meet;have aW:=hid (show ∀g,(Value.slice (some ⟨wy.heap.size,0,none⟩) n n).ownBlock=some g→(∀a∈ll,a.ownBlock≠some g)∧∀a∈G,a.ownBlock≠some g from fun g hg=>⟨fun a y e=>by have h0:wy.heap.size=g:=(by injection hg);have D:=(N.out.lo.lt y e).2;omega,fun a y e=>by have h0:wy.heap.size=g:=(by injection hg);have D:=(N.out.up.lt y e).2;omega⟩)
     case rel=>exact⟨_,_,_,(O.out.alloc (.cells #[.slice (some ⟨wy.heap.size,0,none⟩) n n] 37)).pushL (by omega) (by omega) a2.out aY.out aU.out (by simp) aW.out,⟨((al.out.alloc (.cells #[.slice (some ⟨wy.heap.size,0,none⟩) n n] 37)).b.trans aO.out).setCell (p:=⟨d.heap.size,0,none⟩) (Nat.le_refl _) _⟩⟩
    case rest =>
     rename World=>wx
     obtain⟨aE,lc',aF,l,f⟩:=hcut;have v:=hid l;have ak:=hid f;obtain⟨s0,_,_,_,_,_,_,_,s2,_⟩:=bf4 l.blk;clear l f s0
     go_wp2_with (at_builtin;refine ziP rfl _ _ rfl rfl (v.out.alloc (.cells #[.int .i64 (k:Int)] 3)).perm rfl (zal _ _ _) (n:=k) (by simp[laid]) (by have:=x.out;omega) (by simp;have:=ak.out.b.size;omega) ?_;intro A6 c6 w6 ap X ar;have a4:=hid ap;have aZ:=hid X;have aP:=hid ar;have q:=hid (X.blk (v.out.alloc (.cells #[.int .i64 (k:Int)] 3)).blk (by decide));have z2:=zac q.out 2;have zf:=zag q.out 2;simp only[List.getElem?_toArray,List.getElem?_cons_zero,List.getElem?_cons_succ]at z2;clear ap X ar)
     go_roundw
     case rel=>exact⟨k+1,_,_,_,_,_,_,_,_,by go_num,by omega,by have hh:=(v.out.alloc (.cells #[.int .i64 (k:Int)] 3)).pushP a4.out aZ.out;rw[←zuY ag.out];exact hh,((ak.out.alloc (.cells #[.int .i64 (k:Int)] 3)).b.trans aP.out).setCell (p:=⟨d.heap.size,2,none⟩) (Nat.le_refl _) _⟩
     case measure=>simp[intOf];omega
  ·obtain rfl:k=n:=by omega
   have HQ:=hid (show LuW wr d.heap.size d.heap.size k (zg4 k L)from by rw[←zrB C.out.symm];exact l.toW (by rw[zrB C.out.symm];exact ae.out.sq));have aR:=hid o;clear l o hk B;go_wp2
   go_loopw [61] (fun i wr=>∃(c:Nat) (F:LUv),i=.int .i64 c∧c≤k∧LuW wr d.heap.size d.heap.size k F∧Going k s L c F∧Below d.heap.size d wr)
    (fun i _=>k-(intOf i).toNat)
   case atStart=>exact⟨0,_,rfl,Nat.zero_le _,HQ.out,ae.out,aR.out⟩
   case round =>
    rename World=>wz
    obtain⟨c,F,rfl,hc,hq,hg,o⟩:=hrel;have af:=hid hq;have A:=hid hg;have J:=hid o;clear hq hg o;by_cases B:c<k
    ·obtain⟨u,aA,aB,aC⟩:=A.out.sz;have HU:=hid (And.intro aA aC);have HL:=hid (show 24*u+8≤LIM by have h1:=zIf hc aB;have D:=aS.out;omega);clear aA aB aC;have bc:(c:Int)<(k:Int):=by omega
     go_wp2_with fail
     refine(Lu.step d.heap.size d.heap.size k u c F _ (af.out.1 (by omega)) A.out.sq x.out B HU.out.2 HU.out.1 HL.out).mono ?_;rintro e w2 (⟨hk2,rfl,hq2,hb2⟩ | ⟨hk2,rfl,hb2⟩)
     ·have v:=hid (A.out.next B hk2);have a6:=hid hq2;have I:=hid (J.out.trans hb2);clear hk2 hq2 hb2;go_wp2;go_roundw
      case rel=>exact⟨c+1,_,by go_num,by omega,⟨fun _=>a6.out,fun h=>absurd h (by omega)⟩,v.out,I.out⟩
      case measure=>simp[intOf];omega
     ·have v:=hid (A.out.stuck B hk2);have I:=hid (J.out.trans hb2);clear hk2 hb2;go_wp2;go_ret2
      exact .inr ⟨v.out,rfl,ac.out.trans (I.out.mono P.out)⟩
    ·obtain rfl:c=k:=by omega
     go_wp2;go_ret2
     exact .inl ⟨F,_,A.out.done,rfl,(af.out.toS A.out.sq).base P.out,ac.out.trans (J.out.mono P.out)⟩
end Lu
def zCp (w:World) (H q n S:Nat) (C:List (List Rat)) (e:Ending) (w':World):Prop :=
  (CReg n C∧e=.returned (.bool true)∧(∀tb:Option Nat,(∀g,tb=some g→g<w.heap.size)→zhf w' H q n S C tb)∧Below H w w'∧Kept TB none w w')∨(¬CReg n C∧e=.returned (.bool false)∧Below w.heap.size w w')
theorem zuy{n:Nat}{C:List (List Rat)}(h:CSq n C):∀r∈C,r.length=n:=fun r hr=>by
 obtain⟨i,a⟩:=List.mem_iff_getElem?.1 hr;rw[←getD_some (d:=[]) a];exact h.col i (by rw[←h.len];exact(List.getElem?_eq_some_iff.1 a).1)
theorem zxM{n:Nat}{C:List (List Rat)}(h:CSq n C):∀r∈zcZ n C,r.length=n:=fun r hr=>by
 obtain⟨i,_,rfl⟩:=List.mem_map.1 hr;rw[List.length_map];exact h.len
theorem BasP.mk'{w:World}{H q n S:Nat}{cA:OA}{cc:Nat}{lc:List Value}{C:List (List Rat)}{v1 m:Value}{K ql:Nat}{F:LUv}(hk:w.heap[q]? = some (.cells #[.slice cA n cc,v1,m] 252 (0,0)))(h:VecsL w H (.slice cA n cc) lc C)(low:∀g,(Value.slice cA n cc).ownBlock=some g→g<K)
  (i:LuS w K ql n F) (f:zoN n (zcZ n C)=some F) (d:CSq n C) (hr:CReg n C) (l:zhg mw n S C) (j:H≤q) (e:H≤K) :
  ∀tb:Option Nat,(∀g,tb=some g→g<K)→zhf ((w.setCell ⟨q,1,none⟩ (.pointer (some ⟨ql,0,none⟩))).setCell ⟨q,2,none⟩ (.slice none 0 0)) H q n S C tb:=by
 intro tb k;have c:TKeep 252 w (w.setCell ⟨q,1,none⟩ (.pointer (some ⟨ql,0,none⟩))):=TKeep.set hk _;have b:=zar (o:=1) (.pointer (some ⟨ql,0,none⟩)) hk;have k2:TKeep 252 (w.setCell ⟨q,1,none⟩ (.pointer (some ⟨ql,0,none⟩))) ((w.setCell ⟨q,1,none⟩ (.pointer (some ⟨ql,0,none⟩))).setCell ⟨q,2,none⟩ (.slice none 0 0)):=TKeep.set b _;have a:BasP ((w.setCell ⟨q,1,none⟩ (.pointer (some ⟨ql,0,none⟩))).setCell ⟨q,2,none⟩ (.slice none 0 0)) H q n S cA cc lc C K ql F C none 0 [] []:=by
  refine⟨?_,(h.tk c (by decide) (by decide) (by decide)).tk k2 (by decide) (by decide) (by decide),low,(i.tk c (by decide) (by decide) (by decide) (by decide) (by decide)).tk k2 (by decide) (by decide) (by decide) (by decide) (by decide),f,EtasL.nil _ _,.nil d hr l,Nat.zero_le _,j,e⟩;have:=zar (o:=2) (.slice none 0 0) b;simpa using this
 exact⟨cA,cc,lc,K,ql,F,C,none,0,[],[],a,a.ahead k⟩
namespace Bs
theorem factor(H q n S cc:Nat)(cA:OA)(lc:List Value)(C:List (List Rat))(v1 O:Value)(w:World)(hk:w.heap[q]? = some (.cells #[.slice cA n cc,v1,O] 252 (0,0)))(h:VecsL w H (.slice cA n cc) lc C)(J:H≤q)(t:CSq n C)(y:n≤64)(z:zhg mw n S C)(v:24*uB n S+8≤LIM) :
  Calls Tryz.prog 161 #[.pointer (some ⟨q,0,none⟩)] w (zCp w H q n S C):=by
 have r:=hid y;have b:=hid t;have s:=hid z;have A:=hid v;have l:=hid J;have I:=hid hk;have m:=hid h;have P:=(Array.getElem?_eq_some_iff.1 hk).1;have o:=hid (show H≤w.heap.size by omega);obtain⟨N,_⟩:=bc3 hk;clear y t z v hk h;go_enter Tryz.func161,Tryz.ntmps161;go_wp2_with fail
 refine(matrix q n cc cA lc C H _ N m.out (zuy b.out) r.out).mono ?_;rintro e w1 ⟨A1,c1,l1,rfl,hv1,ha1,hb1⟩;have E:=hid hv1;have c:=hid hb1;clear hv1 ha1 hb1;go_wp2_with fail
 refine(Lu.factor n c1 A1 l1 (zcZ n C) w.heap.size S _ E.out (zxM b.out) r.out (fun i x j hj=>by rw[zeI x (by rw[b.out.len];exact hj)];exact s.out j hj i x) A.out).mono ?_;rintro e k (⟨F,ql,hF,rfl,hl,hb2⟩ | ⟨hF,rfl,hb2⟩)
 ·have hr:CReg n C:=by
   by_cases e:CReg n C
   ·exact e
   ·rw[zAZ b.out e]at hF;cases hF
  have d:=hid hr;have B:=hid hF;have D:=hid hl;have a:=hid (c.out.trans (hb2.mono c.out.size));have f:=hid (zad a.out I.out);have G:=hid (m.out.below a.out);have Q:=c.out.size;obtain⟨_,_,_,_,R,_,U,_,T,_,V,_⟩:=bf3 f.out;clear hF hl hb2 hr;go_wp2;go_ret
  have K:Kept TB none k (k.setCell ⟨q,1,none⟩ (.pointer (some ⟨ql,0,none⟩))):=Kept.set f.out (by decide) _;have L:Kept TB none (k.setCell ⟨q,1,none⟩ (.pointer (some ⟨ql,0,none⟩))) ((k.setCell ⟨q,1,none⟩ (.pointer (some ⟨ql,0,none⟩))).setCell ⟨q,2,none⟩ (.slice none 0 0)):=Kept.set (zar _ f.out) (by decide) _
  exact .inl ⟨d.out,rfl,fun tb M=>BasP.mk' f.out G.out (fun g hg=>by have:=(m.out.own.lt g hg).2;omega) D.out B.out b.out d.out s.out l.out (by have:=o.out;omega) tb (fun g hg=>by have:=M g hg;omega),((a.out.mono o.out).setCell (p:=⟨q,1,none⟩) l.out _).setCell (p:=⟨q,2,none⟩) l.out _,((Kept.of_below a.out).trans K).trans L⟩
 ·have hr:¬CReg n C:=fun e=>by
   obtain⟨F,u,_⟩:=ziH b.out e;rw[hF]at u;cases u
  have d:=hid hr;have a:=hid (c.out.trans (hb2.mono c.out.size));clear hF hb2 hr;go_wp2;go_ret
  exact .inr ⟨d.out,rfl,a.out⟩
