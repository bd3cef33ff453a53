/- Contracts and lemmas: LuStep. Conditions: as each says. -/
import Derived.Test.YtbhfhkcdfmmmiaaGreatDoorLuMem2Zd
import Derived.Test.YtbhfhkcdfmmmiaaGreatDoorRat6Zd
import Derived.Test.YtbhfhkcdfmmmiaaGreatDoorEtaZd
import Derived.BigRegion
set_option linter.all false
set_option maxHeartbeats 8000000
set_option maxRecDepth 100000
namespace Go.Proofs.YtbhfhkcdfmmmiaaGreatDoor
open Go.RowKit Am
open Lib (hid)
attribute [local go_sem ↓] Go.wp_at_zero Go.wp_at_succ
variable {F:LUv}{b c i j k n:Nat}{w:World}
def zzc (w:World) (H q n c k:Nat) (F:LUv) (e:Ending) (w':World):Prop :=
  (k<n∧e=.returned true∧LuQ w' H q n (F.step c k)∧Below H w w')∨(k=n∧e=.returned false∧Below H w w')
def swF (F:LUv) (c k:Nat):LUv:=⟨sw F.lo c k [],sw F.up c k [],sw F.perm c k 0,if c=k then F.odd else !F.odd⟩
theorem zqD{α:Type}{L:List α}{d:α}:sw L i i d=L:=by
 unfold sw;apply List.ext_getElem?;intro j;rw[List.getElem?_set,List.length_set,List.getElem?_set];by_cases e:i=j
 ·subst e;by_cases h:i<L.length
  ·rw[if_pos rfl,if_pos h,←zaO h]
  ·rw[if_pos rfl,if_neg h,List.getElem?_eq_none (by omega)]
 ·rw[if_neg e,if_neg e]
theorem zxJ(F:LUv)(c:Nat):swF F c c=F:=by unfold swF;rw[zqD,zqD,zqD,if_pos rfl]
theorem zDP(s:Sq n F)(hc:c<n)(hk:k<n):Sq n (swF F c k):=by
 refine⟨by show(sw F.lo c k []).length=n;rw[zja,s.ll],fun i a=>?_,by show(sw F.up c k []).length=n;rw[zja,s.ul],fun i a=>?_,by show(sw F.perm c k 0).length=n;rw[zja,s.pl]⟩
 ·show((sw F.lo c k []).getD i []).length=n
  rw[zgp (by rw[s.ll];exact hc) (by rw[s.ll];exact hk)];exact s.lr _ (zlp hc hk a)
 ·show((sw F.up c k []).getD i []).length=n
  rw[zgp (by rw[s.ul];exact hc) (by rw[s.ul];exact hk)];exact s.ur _ (zlp hc hk a)
theorem zru{up:List (List Rat)}{c k:Nat}(hk:en up k c≠0):∀(f s:Nat),s≤k→k<s+f→(∀j,s≤j→j<k→en up j c=0)→zeg up c f s=k
 | 0,s,h1,h2,_=>by omega
 | f+1,s,h1,h2,hz=>by
  unfold zeg;by_cases e:s=k
  ·subst e;rw[if_neg hk]
  ·rw[if_pos (hz s (Nat.le_refl _) (by omega))];exact zru hk f (s+1) (by omega) (by omega) fun j a b=>hz j (by omega) b
theorem zl3{up:List (List Rat)}{c:Nat}:∀(f s:Nat),(∀j,s≤j→j<s+f→en up j c=0)→zeg up c f s=s+f
 | 0,_,_=>rfl
 | f+1,s,hz=>by
  unfold zeg;rw[if_pos (hz s (Nat.le_refl _) (by omega)),zl3 f (s+1) fun j a b=>hz j (by omega) (by omega)];omega
theorem bsw{c:World}{H:Nat}(h:Below H w c)(a:H≤b)(i j:Nat)(x y:Value):Below H w (((c.setCell ⟨b,i,none⟩ x).setCell ⟨b,j,none⟩ y).drew) :=
 zhk ((h.setCell (p:=⟨b,i,none⟩) a x).setCell (p:=⟨b,j,none⟩) a y) 1
theorem zu0{T:Nat}{v:List Rat}(b:v.length=n)(h:∀i,i<n→mw (el v i)≤T):∀x∈v,mw x≤T:=fun x c=>by
 obtain⟨i,a⟩:=List.mem_iff_getElem?.1 c;rw[←znd a];exact h i (by rw[←b];exact(List.getElem?_eq_some_iff.1 a).1)
theorem zwi{a:Nat}{o:Obj}(h:w.heap[a]? = some o)(c:a≠b)(u v x:Value):(((w.setCell ⟨b,i,none⟩ u).setCell ⟨b,j,none⟩ v).setCell ⟨b,k,none⟩ x).drew.heap[a]? = some o:=by
 show(((w.setCell ⟨b,i,none⟩ u).setCell ⟨b,j,none⟩ v).setCell ⟨b,k,none⟩ x).heap[a]? = some o
 rw[Below.heap_setCell _ _ _ _ c,Below.heap_setCell _ _ _ _ c,Below.heap_setCell _ _ _ _ c];exact h
theorem zxz{cs:Array Value}{g:Bool}{s d:Value}{q:Rat}(h:RatS w g s d q)(a:w.heap[b]? = some (.cells cs 49 (0,0)))(u v x:Value) :
  RatS (((w.setCell ⟨b,i,none⟩ u).setCell ⟨b,j,none⟩ v).setCell ⟨b,k,none⟩ x) g s d q :=
 ((h.tk (TKeep.set (o:=i) a u) (by decide)).tk (TKeep.set (o:=j) (zar u a) v) (by decide)).tk (TKeep.set (o:=k) (zar v (zar u a)) x) (by decide)
theorem zIe(w:World)(b i j k:Nat)(u v x:Value):w.heap.size≤(((w.setCell ⟨b,i,none⟩ u).setCell ⟨b,j,none⟩ v).setCell ⟨b,k,none⟩ x).drew.heap.size:=by
 show w.heap.size≤(((w.setCell ⟨b,i,none⟩ u).setCell ⟨b,j,none⟩ v).setCell ⟨b,k,none⟩ x).heap.size
 simp
theorem zxN(F:LUv)(c k:Nat):({ swF F c k with lo:=(swF F c k).lo.set c (((swF F c k).lo.getD c []).set c ((1:Int):Rat)) }:LUv)=clr (F.turn c k) c 0:=rfl
theorem zus{u t:Nat}{G:LUv}{r:Nat}(g:Sq n F)(hc:c<n)(hk:k<n)(v:LUsz mw n u F)(m:en F.up k c≠0)(B:G=clr (F.turn c k) c t)(hr:r=c+1+t)(b:r<n) :
  ∃(d rc rl:List Rat) (i f:Rat),(G.up[r]? = some d∧G.up[c]? = some rc∧G.lo[r]? = some rl)∧(d.length=n∧rc.length=n∧rl.length=n)∧(d[c]? = some i∧rc[c]? = some f)∧((∀q∈d,mw q≤u)∧(∀q∈rc,mw q≤u)∧mw i≤u∧mw f≤u)∧f≠0∧G.up.length=n ∧
   ({ G with lo:=G.lo.set r (rl.set c (i/f)),up:=G.up.set r (zly d (-(i/f)) rc) }:LUv)=clr (F.turn c k) c (t+1):=by
 subst B hr;have s:=znV g hc hk;have a:=zC8 s hc t (by omega);have l:=zz5 s hc t b;have x:∀j,j<n→mw (en (clr (F.turn c k) c t).up (c+1+t) j)≤u:=fun j hj=>by rw[l.1 j hj,zlo g hc hk];exact v.up _ (zlp hc hk b) j hj
 have y:∀j,j<n→mw (en (clr (F.turn c k) c t).up c j)≤u:=fun j hj=>by rw[l.2 j hj,zlo g hc hk];exact v.up _ (zlp hc hk hc) j hj
 have C:en (clr (F.turn c k) c t).up c c≠0:=by
  rw[l.2 c hc,zlo g hc hk];unfold tw;by_cases e:c=k
  ·rw[if_pos e];rw[e];rw[e]at m;exact m
  ·rw[if_neg e,if_pos rfl];exact m
 have o:=a.ur _ b;have p:=a.ur _ hc;have z:((clr (F.turn c k) c t).up.getD (c+1+t) [])[c]? = some (en (clr (F.turn c k) c t).up (c+1+t) c):=zaH (by rw[o];exact hc);have A:((clr (F.turn c k) c t).up.getD c [])[c]? = some (en (clr (F.turn c k) c t).up c c):=zaH (by rw[p];exact hc);exact⟨_,_,_,_,_,⟨zaO (by rw[a.ul];exact b),zaO (by rw[a.ul];exact hc),zaO (by rw[a.ll];exact b)⟩,⟨o,p,a.lr _ b⟩,⟨z,A⟩,⟨zu0 o x,zu0 p y,x c hc,y c hc⟩,C,a.ul,(zwC _ _ _).symm⟩
structure Bel0 (H:Nat) (w w':World):Prop where
  le:H≤w.heap.size
  b:Below H w w'
namespace Bel0
variable {w w' w1:World} {H:Nat}
theorem below(h:Bel0 H w w1)(a:Below w1.heap.size w1 w'):Bel0 H w w':=⟨h.le,h.b.trans (a.mono (Nat.le_trans h.le h.b.size))⟩
theorem alloc(h:Bel0 H w w1)(o:Obj):Bel0 H w (w1.alloc o):=h.below (zae _ o)
theorem drew(h:Bel0 H w w1):Bel0 H w w1.drew:=h.below (zap _ 1)
theorem set(h:Bel0 H w w1){o:Nat}(a:H≤b)(u:Value):Bel0 H w (w1.setCell ⟨b,o,none⟩ u):=⟨h.le,h.b.setCell (p:=⟨b,o,none⟩) a u⟩
theorem set3(h:Bel0 H w w1)(a:H≤b)(u v x:Value):Bel0 H w (((w1.setCell ⟨b,i,none⟩ u).setCell ⟨b,j,none⟩ v).setCell ⟨b,k,none⟩ x):=((h.set a u).set a v).set a x
end Bel0
namespace Lu
theorem step(H q n u c:Nat)(F:LUv)(w:World)(hF:LuQ w H q n F)(hs:Sq n F)(x:n≤64)(hc:c<n)(hz:LUsz mw n u F)(hu:1≤u)(hL:24*u+8≤LIM) :
  Calls Tryz.prog 139 #[.pointer (some ⟨q,0,none⟩),(c:Int)] w (zzc w H q n c (zeg F.up c (n-c) c) F):=by
 obtain⟨lb,lc,ll,ub,uc,ul,pb,pc,Z⟩:=hF;have D:=hid hs;have HN:=hid x;have a9:=hid hc;have cu:=hid hL;have dP:=hid hz;have HH:=hid (show H≤w.heap.size from Nat.le_trans Z.own (Nat.le_of_lt Z.qlt));have gt:n≤9223372036854775807:=by omega
 have gj:(0:Int)≤(c:Int):=Int.natCast_nonneg _;have gm:(c:Int)<(n:Int):=by omega
 have HP:=hid Z;obtain⟨k0,gu,_,_,k1,gv,_,_,k2,gw,_⟩:=bf4 Z.blk;clear Z hs x hc hz hu hL;go_enter Tryz.func139,Tryz.ntmps139;go_wp2;have BB:=hid (Below.refl w.heap.size w)
 go_loopw [5] (fun i wr=>∃k:Nat,i=.int .i64 k∧c≤k∧k≤n∧Below w.heap.size w wr∧∀j,c≤j→j<k→en F.up j c=0)
  (fun i _=>n-(intOf i).toNat)
 case atStart=>exact⟨c,rfl,Nat.le_refl _,Nat.le_of_lt a9.out,Below.refl _ _,fun j h1 h2=>absurd h1 (by omega)⟩
 case round =>
  obtain⟨k,rfl,ev,hk,y,hT⟩:=hrel;have HT:=hid hT;clear hT;by_cases aO:k<n
  ·have aP:F.up[k]? = some (F.up.getD k []):=zaO (by rw[D.out.ul];exact aO);have ab:=D.out.ur k aO;have bJ:en F.up k c=el (F.up.getD k []) c:=rfl;generalize F.up.getD k []=rw_ at aP ab bJ;have ah:=zaH (xs:=rw_) (j:=c) (by omega);rw[←bJ]at ah;obtain⟨Ak,ck,bP,r0,aN⟩:=(HP.out.up.below y).at_ aP;rw[ab]at r0 aN bP;obtain⟨br,rfl,_,_⟩:=aN.has (by omega);obtain⟨gl,Al,ml,cl,Dl,bR,bt,y0,y1,y2,cO⟩:=aN.at_ ah;have dk:=hid (HP.out.below y)
   have HQ:=hid (show RatS wr gl (Al,ml,cl) (Dl,bR,bt) (en F.up k c)from cO);have a2:=hid (BB.out.trans ((y).mono BB.out.size));have a3:=zab y k0;have fg:=zaa a3;have a4:=zab y k1;have fh:=zaa a4;have a5:=zab y k2;have fi:=zaa a5;have dj:wr.cell? ⟨ub,k,none⟩=some (br,n,ck):=r0;have g0:=zaa dj;have hC:wr.cell? ⟨br,c*3,none⟩=some (.bool gl):=y0;have hD:wr.cell? ⟨br,c*3+1,none⟩=some (Al,ml,cl):=y1
   have hE:wr.cell? ⟨br,c*3+2,none⟩=some (Dl,bR,bt):=y2;have fS:=hid bP;have cx:=hid aP;clear y aP ab bJ ah aN cO bP r0 y0 y1 y2;have gn:(0:Int)≤(k:Int):=Int.natCast_nonneg _;have gp:(k:Int)<(n:Int):=by omega
   go_wp2_with fail
   with_reducible refine(Rt.zero gl Al ml cl Dl bR bt (en F.up k c) _ HQ.out).mono ?_
   rintro e w1 ⟨rfl,d⟩;have Q:=hid (dk.out.below d);have cf:=hid (a2.out.trans ((d).mono a2.out.size));have fL:=zab d a3;have gK:=zaa fL;have fM:=zab d a4;have gQ:=zaa fM;have fN:=zab d a5;have gV:=zaa fN;have fO:=zab d dj;have g2:=zaa fO;clear d;by_cases aa:en F.up k c=0
   ·have hz:zr (en F.up k c)=true:=decide_eq_true aa;have HF:=hid (show ∀j,c≤j→j<k+1→en F.up j c=0 from fun j h1 h2=>by
     by_cases e:j=k
     ·rw[e];exact aa
     ·exact HT.out j h1 (by omega))
    clear aa;go_wp2;go_roundw
    case rel=>exact⟨k+1,by go_num,by omega,by omega,cf.out,HF.out⟩
    case measure=>simp[intOf];omega
   ·have hz:zr (en F.up k c)=false:=decide_eq_false aa;have HF:=hid (zru aa (n-c) c ev (by omega) fun j h1 h2=>HT.out j h1 h2);have dM:=hid aa;clear aa;go_upto_if 41 with fail
    go_cut[] (fun wy=>∃W P,LuP wy H q n lb lc W ub uc P pb pc (swF F c k)∧Below H w wy)
    case first=>as_aux_lemma =>
     by_cases bK:k=c
     ·obtain rfl:c=k:=bK.symm;go_wp2;go_meet
      case rel=>exact⟨ll,ul,by rw[zxJ];exact Q.out,cf.out.mono HH.out⟩
     ·have gs:(c:Int)<(k:Int):=by omega
      have dE:=hid bK;clear bK;have bH:F.up[c]? = some (F.up.getD c []):=zaO (by rw[D.out.ul];omega);have U:F.lo[c]? = some (F.lo.getD c []):=zaO (by rw[D.out.ll];omega);have bD:F.lo[k]? = some (F.lo.getD k []):=zaO (by rw[D.out.ll];omega);have bF:F.perm[c]? = some (F.perm.getD c 0):=zaO (by rw[D.out.pl];omega);have bG:F.perm[k]? = some (F.perm.getD k 0):=zaO (by rw[D.out.pl];omega);generalize F.up.getD c []=rUc at bH;generalize F.lo.getD c []=rLc at U;generalize F.lo.getD k []=rLk at bD
      generalize F.perm.getD c 0=fj at bF;generalize F.perm.getD k 0=fk at bG;have cq:=hid bH;have az:=hid U;have cn:=hid bD;have co:=hid bF;have cp:=hid bG;clear bH U bD bF bG;have dQ:=hid (Q.out.ubge (by omega));have dF:=hid (Q.out.lbge (by omega));have dJ:=hid (Q.out.pbge (by omega));obtain⟨aA,ac,al,a0,_⟩:=Q.out.up.at_ cq.out;have fZ:=zaa a0;have af:=Q.out.up.fro c;obtain⟨bA,bc,bl,b0,_⟩:=Q.out.up.at_ cx.out;have bf:=Q.out.up.fro k;have HA:=hid (And.intro al bl);clear al bl;go_wp2
      go_cut[] (fun wy=>∃P,LuP wy H q n lb lc ll ub uc P pb pc { F with up:=sw F.up c k [] }∧Below H w wy)
      case first=>as_aux_lemma =>
       refine zaS (S:=fun w'=>w'.cell? ⟨q,1,none⟩=some (ub,n,uc)∧w'.cell? ⟨ub,c,none⟩=some (aA,rUc.length,ac)∧w'.cell? ⟨ub,k,none⟩=some (bA,rw_.length,bc)) [25,26,27] (h:=fun hHeld=>?_);refine zaw [0,1,2,3,4] ?_;repeat refine tkL (hS:=hHeld) (h:=?_)
       refine zao ?_;refine zaw [5,6,7] ?_;repeat refine tkX (h:=?_)
       refine zao ?_;refine zaw [8] ?_;repeat refine tkL (hS:=hHeld) (h:=?_)
       refine zao ?_;refine zaw [9] ?_;repeat refine tkX (h:=?_)
       refine zao ?_;refine zaw [10,11,12,13,14,15,16] ?_;repeat refine tkL (hS:=hHeld) (h:=?_)
       refine zao ?_;refine zaw [17,18,19] ?_;repeat refine tkX (h:=?_)
       refine zao ?_;refine zaw [20] ?_;repeat refine tkL (hS:=hHeld) (h:=?_)
       refine zao ?_;refine zaw [21,22] ?_;repeat refine tkX (h:=?_)
       refine zao ?_;refine zaw [23,24] ?_;repeat refine tkL (hS:=hHeld) (h:=?_)
       refine zao ?_;refine zay 25 (h:=fun K f=>?_);go_simp;refine f.out _ _ ?_;clear f K;try simp only[Act.put,pu1,pu2,pu3,pu4,pu5,pu6]
       refine zay 26 (h:=fun K f=>?_);go_simp;refine f.out _ _ ?_;clear f K;try simp only[Act.put,pu1,pu2,pu3,pu4,pu5,pu6]
       refine zay 27 (h:=fun K f=>?_);go_simp;refine f.out _ _ ?_;clear f K;try simp only[Act.put,pu1,pu2,pu3,pu4,pu5,pu6]
       refine zaM (h:=?_);go_wp2;go_meet
       case rel=>exact⟨_,(Q.out.swU HA.out.1 HA.out.2 cq.out cx.out).drew,bsw (cf.out.mono HH.out) dQ.out.1 _ _ _ _⟩
      case rest =>
       rename World=>wa
       obtain⟨P,l,d⟩:=hcut;have ae:=hid l;have dn:=hid d;obtain⟨gx,_⟩:=bf4 ae.out.blk;obtain⟨dA,dc,dl,d0,Y⟩:=ae.out.lo.at_ az.out;have cE:=zaa d0;have df:=ae.out.lo.fro c;obtain⟨eA,ec,el,e0,_⟩:=ae.out.lo.at_ cn.out;have cG:=zaa e0;have ef:=ae.out.lo.fro k;have HD:=hid (And.intro dl el);clear dl el Y l d;go_wp2;go_cut[] (fun wy=>∃W,LuP wy H q n lb lc W ub uc P pb pc { F with up:=sw F.up c k [],lo:=sw F.lo c k [] }∧Below H w wy)
       case first=>as_aux_lemma =>
        refine zaS (S:=fun w'=>w'.cell? ⟨q,0,none⟩=some (lb,n,lc)∧w'.cell? ⟨lb,c,none⟩=some (dA,rLc.length,dc)∧w'.cell? ⟨lb,k,none⟩=some (eA,rLk.length,ec)) [25,26,27] (h:=fun hHeld=>?_);refine zaw [0,1,2,3,4] ?_;repeat refine tkL (hS:=hHeld) (h:=?_)
        refine zao ?_;refine zaw [5,6,7] ?_;repeat refine tkX (h:=?_)
        refine zao ?_;refine zaw [8] ?_;repeat refine tkL (hS:=hHeld) (h:=?_)
        refine zao ?_;refine zaw [9] ?_;repeat refine tkX (h:=?_)
        refine zao ?_;refine zaw [10,11,12,13,14,15,16] ?_;repeat refine tkL (hS:=hHeld) (h:=?_)
        refine zao ?_;refine zaw [17,18,19] ?_;repeat refine tkX (h:=?_)
        refine zao ?_;refine zaw [20] ?_;repeat refine tkL (hS:=hHeld) (h:=?_)
        refine zao ?_;refine zaw [21,22] ?_;repeat refine tkX (h:=?_)
        refine zao ?_;refine zaw [23,24] ?_;repeat refine tkL (hS:=hHeld) (h:=?_)
        refine zao ?_;refine zay 25 (h:=fun K f=>?_);go_simp;refine f.out _ _ ?_;clear f K;try simp only[Act.put,pu1,pu2,pu3,pu4,pu5,pu6]
        refine zay 26 (h:=fun K f=>?_);go_simp;refine f.out _ _ ?_;clear f K;try simp only[Act.put,pu1,pu2,pu3,pu4,pu5,pu6]
        refine zay 27 (h:=fun K f=>?_);go_simp;refine f.out _ _ ?_;clear f K;try simp only[Act.put,pu1,pu2,pu3,pu4,pu5,pu6]
        refine zaM (h:=?_);go_wp2;go_meet
        case rel=>exact⟨_,(ae.out.swL HD.out.1 HD.out.2 az.out cn.out).drew,bsw dn.out dF.out.1 _ _ _ _⟩
       case rest =>
        rename World=>wb
        obtain⟨W,l,d⟩:=hcut;have ag:=hid l;have dp:=hid d;clear l d;obtain⟨_,_,_,_,_,_,_,_,gy,_⟩:=bf4 ag.out.blk;have p0:=ag.out.perm.at_ co.out;have gB:=zaa p0;have gC:=ag.out.perm.fro c;have p1:=ag.out.perm.at_ cp.out;have gE:=ag.out.perm.fro k;go_wp2;go_cut[] (fun wy=>LuP wy H q n lb lc W ub uc P pb pc { F with up:=sw F.up c k [],lo:=sw F.lo c k [],perm:=sw F.perm c k 0 }∧Below H w wy)
        case first=>as_aux_lemma =>
         refine zaS (S:=fun w'=>w'.cell? ⟨q,2,none⟩=some (pb,n,pc)∧w'.cell? ⟨pb,c,none⟩=some (.int .i64 (fj:Int))∧w'.cell? ⟨pb,k,none⟩=some (.int .i64 (fk:Int))) [25,26,27] (h:=fun hHeld=>?_);refine zaw [0,1,2,3,4] ?_;repeat refine tkL (hS:=hHeld) (h:=?_)
         refine zao ?_;refine zaw [5,6,7] ?_;repeat refine tkX (h:=?_)
         refine zao ?_;refine zaw [8] ?_;repeat refine tkL (hS:=hHeld) (h:=?_)
         refine zao ?_;refine zaw [9] ?_;repeat refine tkX (h:=?_)
         refine zao ?_;refine zaw [10,11,12,13,14,15,16] ?_;repeat refine tkL (hS:=hHeld) (h:=?_)
         refine zao ?_;refine zaw [17,18,19] ?_;repeat refine tkX (h:=?_)
         refine zao ?_;refine zaw [20] ?_;repeat refine tkL (hS:=hHeld) (h:=?_)
         refine zao ?_;refine zaw [21,22] ?_;repeat refine tkX (h:=?_)
         refine zao ?_;refine zaw [23,24] ?_;repeat refine tkL (hS:=hHeld) (h:=?_)
         refine zao ?_;refine zay 25 (h:=fun K f=>?_);go_simp;refine f.out _ _ ?_;clear f K;try simp only[Act.put,pu1,pu2,pu3,pu4,pu5,pu6]
         refine zay 26 (h:=fun K f=>?_);go_simp;refine f.out _ _ ?_;clear f K;try simp only[Act.put,pu1,pu2,pu3,pu4,pu5,pu6]
         refine zay 27 (h:=fun K f=>?_);go_simp;refine f.out _ _ ?_;clear f K;try simp only[Act.put,pu1,pu2,pu3,pu4,pu5,pu6]
         refine zaM (h:=?_);go_wp2;go_meet
         case rel=>exact⟨(ag.out.swP co.out cp.out).drew,bsw dp.out dJ.out.1 _ _ _ _⟩
        case rest =>
         rename World=>wd_
         obtain⟨l,d⟩:=hcut;have bh:=hid l;have dq:=hid d;clear l d;obtain⟨_,_,_,_,_,_,_,_,_,_,_,_,gz,_,gA,_⟩:=bf4 bh.out.blk;go_wp2;go_meet
         case rel=>exact⟨W,P,by unfold swF;rw[if_neg (fun e=>dE.out e.symm)];exact bh.out.setO _,dq.out.setCell (p:=⟨q,3,none⟩) bh.out.own _⟩
    case rest =>
     rename World=>wa
     obtain⟨W,P,l,d⟩:=hcut;have bi:=hid l;have dr:=hid (Bel0.mk (HH.out) d);clear l d;have cA:=hid (zDP D.out a9.out aO);have U:(swF F c k).lo[c]? = some ((swF F c k).lo.getD c []):=zaO (by rw[cA.out.ll];omega);have bE:=cA.out.lr c (by omega);generalize hge:(swF F c k).lo.getD c []=rLc at U bE;have dx:=hid hge;have az:=hid U;obtain⟨dA,dc,dl,d0,Y⟩:=bi.out.lo.at_ U;rw[bE]at dl d0 Y;obtain⟨bd,rfl,es,f8⟩:=Y.has (by omega);have ah:=zaH (xs:=rLc) (j:=c) (by omega)
     obtain⟨gd,Ad,md,d6,Dd,eV,d7,e0,e1,e2,_⟩:=Y.at_ ah;have dt:=hid dl;have du:=hid Y;obtain⟨eD,_,_,_,eG,_⟩:=bf4 bi.out.blk;clear U bE hge dl Y ah;have eF:=zaa eD;have eI:=zaa eG;have cE:=zaa d0;have cG:=zaa e0;have ea:=zaa e1;have ed:=zaa e2;go_wp2_with fail
     refine za2 (S:=fun w'=>w'.cell? ⟨q,0,none⟩=some (lb,n,lc)∧w'.cell? ⟨q,1,none⟩=some (ub,n,uc)∧w'.cell? ⟨lb,c,none⟩=some (bd,n,dc)∧w'.cell? ⟨bd,c*3,none⟩=some (.bool gd)∧w'.cell? ⟨bd,c*3+1,none⟩=some (Ad,md,d6)∧w'.cell? ⟨bd,c*3+2,none⟩=some (Dd,eV,d7)) 10 (h:=fun hHeld=>?_);refine zaw [0,1,2,3,4,5,6,7] ?_;repeat refine tkE (hS:=hHeld) (h:=?_)
     refine zao ?_;refine zaN 8 (h:=fun K f=>?_);go_simp
     (go_at_call 30;(with_reducible refine(Rt.int 1 (by decide) (by decide) _).mono ?_);rintro e u1 ⟨g1,A1,m1,c1,D1,md1,cd1,rfl,x,d⟩;have fv:=hid (bi.out.drew.below d);have cg:=hid (du.out.drew.below d);have fy:=hid (dr.out.drew.below d);have HI:=hid (show RatS u1 g1 (A1,m1,c1) (D1,md1,cd1) ((1:Int):Rat)from x);have fC:=zab d eF;have gJ:=zaa fC;have fF:=zab d eI;have gP:=zaa fF;have fI:=zab d cE;have gU:=zaa fI;have hA:=zab d cG;have hi:=zab d ea;have hl:=zab d ed;have eY:=cg.out.fro (c*3);have of1:=cg.out.fro (c*3+1);have eZ:=cg.out.fro (c*3+2);clear x d)
     (try go_wp2_with fail)
     refine f.out _ _ kp fun hHeld=>?_
     clear f K;try simp only[Act.put,pu1,pu2,pu3,pu4,pu5,pu6]
     refine zaw [9] ?_;repeat refine tkE (hS:=hHeld) (h:=?_)
     refine zao ?_;refine zba (h:=fun K f=>?_);go_simp;refine f.out _ _ ?_;clear f K;try simp only[Act.put,pu1,pu2,pu3,pu4,pu5,pu6]
     refine za1 (h:=?_);go_wp2
     go_loopw [6] (fun rv wr=>∃(r t:Nat) (G:LUv) (aT b5:List Value),rv=(r:Int)∧r=c+1+t∧G=clr (F.turn c k) c t∧r≤n∧LuP wr H q n lb lc aT ub uc b5 pb pc G∧Bel0 H w wr)
      (fun rv _=>n-(intOf rv).toNat)
     case atStart=>exact⟨c+1,0,_,W,P,by go_num,rfl,rfl,by omega,by have hh:=fv.out.putL dt.out az.out c HI.out;rw[←dx.out,zxN]at hh;exact hh,fy.out.set3 es _ _ _⟩
     case round =>
      rename World=>wz
      obtain⟨r,t,G,aT,b5,rfl,hr,hG,ht,l,d⟩:=hrel;by_cases ex:r<n
      ·obtain⟨ru,rc,rl,z,A,⟨bN,bM,ab⟩,⟨bO,cX,cY⟩,⟨cU,cV⟩,⟨c0,c2,eB,eC⟩,cT,cQ,cS⟩:=zus D.out a9.out aO dP.out dM.out hG hr ex;have HR:=hid hr;have dI:=hid cS;have cv:=hid cT;have dy:=hid cQ;have dX:=hid c0;have dY:=hid c2;have bb:=hid (show ru.length=rc.length by omega);have be:=hid bO;have gi:c<r:=by omega
       have dz:=hid ab;have dB:=hid bN;have dw:=hid bM;obtain⟨uA,da,b6,u0,uV⟩:=l.up.at_ bN;obtain⟨vA,db,fe,v0,vV⟩:=l.up.at_ bM;obtain⟨wA,dd,b8,w0,wV⟩:=l.lo.at_ ab;rw[bO]at u0 uV b6;rw[cX]at v0 vV;rw[cY]at w0 wV b8;obtain⟨R,rfl,f9,ge⟩:=uV.has (by omega);obtain⟨T,rfl,gf,gg⟩:=vV.has (by omega);obtain⟨J,rfl,eu,gh⟩:=wV.has (by omega);obtain⟨ga,Aa,ma,ca,Da,aX,aG,y0,y1,y2,cM⟩:=uV.at_ cU;obtain⟨gb,Ab,mb,cb,Db,aY,aH,z0,z1,z2,cN⟩:=vV.at_ cV;have cW:=zaH (xs:=rl) (j:=c) (by omega)
       obtain⟨gc,Ac,mc,cc,Dc,c9,cD,t0,t1,t2,_⟩:=wV.at_ cW;have dS:=hid b8;have fT:=hid b6;obtain⟨aR,_,_,_,aS,_⟩:=bf4 l.blk;have bj:=hid l;have bp:=hid d;have cy:=hid cM;have cz:=hid cN;have fU:=hid uV;have fV:=hid vV;have dT:=hid wV;have L1:=hid (show 4*(mw z+mw A)+8≤LIM by have:=cu.out;omega);have HX:=hid (show mw (z/A)≤2*u by have:=zo5.div z A;omega);clear c0 c2 eB eC bN bM ab bO cX cY cU cV cW b6 fe b8 cM cN uV vV wV l d hr hG cQ cS cT ht;have eE:=zaa aR;have eH:=zaa aS;have fc:=zaa u0
       have fd:=zaa v0;have ff:=zaa w0;have fl:=zaa y0;have fm:=zaa y1;have fn:=zaa y2;have fo:=zaa z0;have fp:=zaa z1;have fq:=zaa z2;have e9:=zaa t0;have fa:=zaa t1;have fb:=zaa t2;have gq:(0:Int)≤(r:Int):=Int.natCast_nonneg _;have gr:(r:Int)<(n:Int):=by omega
       go_wp2_with fail
       go_cut[7] (fun s7 wx=>zcD wz s7 wx (z/A))
       case first=>as_aux_lemma =>
        refine zaS (S:=fun w'=>w'.cell? ⟨q,0,none⟩=some (lb,n,lc)∧w'.cell? ⟨q,1,none⟩=some (ub,n,uc)∧w'.cell? ⟨ub,r,none⟩=some (R,n,da)∧w'.cell? ⟨ub,c,none⟩=some (T,n,db)∧w'.cell? ⟨lb,r,none⟩=some (J,n,dd)∧w'.cell? ⟨R,c*3,none⟩=some (.bool ga)∧w'.cell? ⟨R,c*3+1,none⟩=some (Aa,ma,ca)∧w'.cell? ⟨R,c*3+2,none⟩=some (Da,aX,aG)∧w'.cell? ⟨T,c*3,none⟩=some (.bool gb)∧w'.cell? ⟨T,c*3+1,none⟩=some (Ab,mb,cb)∧w'.cell? ⟨T,c*3+2,none⟩=some (Db,aY,aH)∧w'.cell? ⟨J,c*3,none⟩=some (.bool gc)∧w'.cell? ⟨J,c*3+1,none⟩=some (Ac,mc,cc)∧w'.cell? ⟨J,c*3+2,none⟩=some (Dc,c9,cD)) [25,26] (h:=fun hHeld=>?_)
        refine zaw [0,1,2,3,4,5,6,7,8,9,10,11,12,13,14,15,16,17,18,19] ?_;repeat refine tkL (hS:=hHeld) (h:=?_)
        refine zao ?_;refine zme (i:=20) (j:=24) rfl rfl (by kernel_rfl) (fun K f=>?_) (fun K f=>?_)
        ·skip
         go_simp
         (go_at_call 102;(with_reducible refine(Rt.div ga Aa ma ca Da aX aG z gb Ab mb cb Db aY aH A _ (cy.out.drew) (cz.out.drew) cv.out L1.out).mono ?_);rintro e u1 ⟨N,E,C,L,I,O,M,rfl,x,d⟩;have HS:=hid x;have ak:=hid (show Below wz.heap.size wz u1 from It.bdrew0' d);have m0:=zab d eE;have m1:=zab d eH;have m2:=zab d fc;have C:=zab d fd;have m4:=zab d ff;have m5:=zab d fl;have m6:=zab d fm;have m7:=zab d fn;have m8:=zab d fo;have m9:=zab d fp;have eK:=zab d fq;have eL:=zab d e9;have eM:=zab d fa;have eN:=zab d fb;clear d x)
         (try go_wp2_with fail)
         refine f.out _ _ kp fun hHeld=>?_
         clear f K;try simp only[Act.put,pu1,pu2,pu3,pu4,pu5,pu6]
         refine zaw [21,22,23] ?_;repeat refine tkX (h:=?_)
         refine zao ?_;refine zaB 24 (h:=fun K f=>?_);go_simp;refine f.out _ _ kp fun hHeld=>?_
         clear f K;try simp only[Act.put,pu1,pu2,pu3,pu4,pu5,pu6]
         refine zay 25 (h:=fun K f=>?_);go_simp;refine f.out _ _ ?_;clear f K;try simp only[Act.put,pu1,pu2,pu3,pu4,pu5,pu6]
         refine zay 26 (h:=fun K f=>?_);go_simp;refine f.out _ _ ?_;clear f K;try simp only[Act.put,pu1,pu2,pu3,pu4,pu5,pu6]
         refine zaM (h:=?_);go_wp2;go_meet
         case rel=>exact zcD.al (ak.out.alloc ak.out.size _) ak.out.size HS.out
        ·skip
         go_simp;refine f.out _ _ kp fun hHeld=>?_
         clear f K;try simp only[Act.put,pu1,pu2,pu3,pu4,pu5,pu6]
         refine zaB 20 (h:=fun K f=>?_);go_simp
         (go_at_call 102;(with_reducible refine(Rt.div ga Aa ma ca Da aX aG z gb Ab mb cb Db aY aH A _ (cy.out.alloc _ |>.drew) (cz.out.alloc _ |>.drew) cv.out L1.out).mono ?_);rintro e u1 ⟨N,E,C,L,I,O,M,rfl,x,d⟩;have HS:=hid x;have ak:=hid (show Below wz.heap.size wz u1 from(zae wz _).trans ((It.bdrew0' d).mono (by simp)));have X:=hid (zad d (show(wz.alloc (.cells #[false,(),()] 49)).drew.heap[wz.heap.size]? = _ from zal _ _ _));have m0:=zab d (show(wz.alloc (.cells #[false,(),()] 49)).drew.cell? _=_ from cell_al aR);have m1:=zab d (show(wz.alloc (.cells #[false,(),()] 49)).drew.cell? _=_ from cell_al aS);have m2:=zab d (show(wz.alloc (.cells #[false,(),()] 49)).drew.cell? _=_ from cell_al u0);have C:=zab d (show(wz.alloc (.cells #[false,(),()] 49)).drew.cell? _=_ from cell_al v0);have m4:=zab d (show(wz.alloc (.cells #[false,(),()] 49)).drew.cell? _=_ from cell_al w0);have m5:=zab d (show(wz.alloc (.cells #[false,(),()] 49)).drew.cell? _=_ from cell_al y0);have m6:=zab d (show(wz.alloc (.cells #[false,(),()] 49)).drew.cell? _=_ from cell_al y1);have m7:=zab d (show(wz.alloc (.cells #[false,(),()] 49)).drew.cell? _=_ from cell_al y2);have m8:=zab d (show(wz.alloc (.cells #[false,(),()] 49)).drew.cell? _=_ from cell_al z0);have m9:=zab d (show(wz.alloc (.cells #[false,(),()] 49)).drew.cell? _=_ from cell_al z1);have eK:=zab d (show(wz.alloc (.cells #[false,(),()] 49)).drew.cell? _=_ from cell_al z2);have eL:=zab d (show(wz.alloc (.cells #[false,(),()] 49)).drew.cell? _=_ from cell_al t0);have eM:=zab d (show(wz.alloc (.cells #[false,(),()] 49)).drew.cell? _=_ from cell_al t1);have eN:=zab d (show(wz.alloc (.cells #[false,(),()] 49)).drew.cell? _=_ from cell_al t2);have dZ:=zac X.out 0;have d1:=zac X.out 1;have d2:=zac X.out 2;have fW:=zag X.out 0;have fX:=zag X.out 1;have fY:=zag X.out 2;simp only[List.getElem?_toArray,List.getElem?_cons_zero,List.getElem?_cons_succ]at dZ d1 d2;clear d x)
         (try go_wp2_with fail)
         refine f.out _ _ kp fun hHeld=>?_
         clear f K;try simp only[Act.put,pu1,pu2,pu3,pu4,pu5,pu6]
         refine zaw [21,22,23] ?_;repeat refine tkX (h:=?_)
         refine zao ?_;refine zay 25 (h:=fun K f=>?_);go_simp;refine f.out _ _ ?_;clear f K;try simp only[Act.put,pu1,pu2,pu3,pu4,pu5,pu6]
         refine zay 26 (h:=fun K f=>?_);go_simp;refine f.out _ _ ?_;clear f K;try simp only[Act.put,pu1,pu2,pu3,pu4,pu5,pu6]
         refine zaM (h:=?_);go_wp2;go_meet
         case rel=>exact zcD.of (((ak.out.setCell (p:=⟨wz.heap.size,0,none⟩) (Nat.le_refl _) _).setCell (p:=⟨wz.heap.size,1,none⟩) (Nat.le_refl _) _).setCell (p:=⟨wz.heap.size,2,none⟩) (Nat.le_refl _) _) (Nat.le_refl _) X.out HS.out
       case rest =>
        rename World=>wx
        obtain⟨s,N,E,C,L,I,O,M,rfl,m,er,V,an⟩:=hcut;have dD:=hid V;have cw:=hid an;have fx:=hid (bj.out.below m);have fz:=hid (bp.out.below m);have a6:=hid (dT.out.below m);have fD:=zab m aR;have gL:=zaa fD;have fG:=zab m aS;have gR:=zaa fG;have fJ:=zab m u0;have gW:=zaa fJ;have fA:=zab m v0;have gZ:=zaa fA;have fB:=zab m w0;have g5:=zaa fB;have hm:=zab m y0;have hv:=zab m y1;have hw:=zab m y2;have hx:=zab m z0;have hy:=zab m z1;have he:=zab m z2;have fr:=zab m t0;have gO:=zaa fr
        have g6:=zab m t1;have g7:=zab m t2;have g8:wx.cell? ⟨s,0,none⟩=some (.bool N):=zac V 0;have g9:wx.cell? ⟨s,1,none⟩=some (E,C,L):=zac V 1;have hd:wx.cell? ⟨s,2,none⟩=some (I,O,M):=zac V 2;have eY:=a6.out.fro (c*3);have of1:=a6.out.fro (c*3+1);have eZ:=a6.out.fro (c*3+2);have et:J≠s:=by omega
        clear m V an er;go_wp2_with fail
        go_cut[] (fun wy=>LuP wy H q n lb lc aT ub uc b5 pb pc { G with lo:=G.lo.set r (rl.set c (z/A)) }∧Bel0 H w wy∧wy.heap[s]? = some (.cells #[N,(E,C,L),(I,O,M)] 49 (0,0))∧RatS wy N (E,C,L) (I,O,M) (z/A)∧wx.heap.size≤wy.heap.size)
        case first=>as_aux_lemma =>
         refine za2 (S:=fun w'=>w'.cell? ⟨q,0,none⟩=some (lb,n,lc)∧w'.cell? ⟨q,1,none⟩=some (ub,n,uc)∧w'.cell? ⟨ub,r,none⟩=some (R,n,da)∧w'.cell? ⟨ub,c,none⟩=some (T,n,db)∧w'.cell? ⟨lb,r,none⟩=some (J,n,dd)∧w'.cell? ⟨R,c*3,none⟩=some (.bool ga)∧w'.cell? ⟨R,c*3+1,none⟩=some (Aa,ma,ca)∧w'.cell? ⟨R,c*3+2,none⟩=some (Da,aX,aG)∧w'.cell? ⟨T,c*3,none⟩=some (.bool gb)∧w'.cell? ⟨T,c*3+1,none⟩=some (Ab,mb,cb)∧w'.cell? ⟨T,c*3+2,none⟩=some (Db,aY,aH)∧w'.cell? ⟨J,c*3,none⟩=some (.bool gc)∧w'.cell? ⟨J,c*3+1,none⟩=some (Ac,mc,cc)∧w'.cell? ⟨J,c*3+2,none⟩=some (Dc,c9,cD)∧w'.cell? ⟨s,0,none⟩=some (.bool N)∧w'.cell? ⟨s,1,none⟩=some (E,C,L)∧w'.cell? ⟨s,2,none⟩=some (I,O,M)) 10 (h:=fun hHeld=>?_)
         refine zaw [0,1,2,3,4,5,6,7,8,9] ?_;repeat refine tkE (hS:=hHeld) (h:=?_)
         refine zao ?_;refine zba (h:=fun K f=>?_);go_simp;refine f.out _ _ ?_;clear f K;try simp only[Act.put,pu1,pu2,pu3,pu4,pu5,pu6]
         refine za1 (h:=?_);go_wp2;go_meet
         case rel =>
          obtain⟨cs,ew⟩:=a6.out.ratBlk;exact⟨(fx.out.putL dS.out dz.out c cw.out).drew,(fz.out.set3 eu _ _ _).drew,zwi dD.out (Ne.symm et) _ _ _,(zxz cw.out ew _ _ _).drew,zIe _ _ _ _ _ _ _ _⟩
        case rest =>
         rename World=>wy
         obtain⟨l,d,V,an,_⟩:=hcut;have am:=hid l;have dU:=hid d;have ba:=hid V;have dN:=hid an;obtain⟨pA,bT,pl,p0,pV⟩:=am.out.up.at_ dB.out;obtain⟨sA,bY,e8,s0,sV⟩:=am.out.up.at_ (show G.up[c]? = some rc from dw.out);rw[be.out]at p0 pV;rw[←bb.out,be.out]at s0 sV;obtain⟨b1,rfl,_,_⟩:=pV.has (by omega);obtain⟨b2,rfl,_,_⟩:=sV.has (by omega);obtain⟨_,_,_,_,n1,_⟩:=bf4 am.out.blk;have dK:=hid pV;have dO:=hid sV;have dR:=hid (am.out.ubge (by omega)).1;have f0:=zac ba.out 0;have f1:=zac ba.out 1
         have f2:=zac ba.out 2;have eW:wy.cell? ⟨q,1,none⟩=some (ub,n,uc):=n1;have eX:=zaa eW;have e3:wy.cell? ⟨ub,r,none⟩=some (b1,n,bT):=p0;have e4:=zaa e3;have e5:wy.cell? ⟨ub,c,none⟩=some (b2,n,bY):=s0;have e6:=zaa e5;have ee:wy.cell? ⟨s,0,none⟩=some (.bool N):=f0;have eg:=zaa ee;have eh:wy.cell? ⟨s,1,none⟩=some (E,C,L):=f1;have ei:=zaa eh;have ej:wy.cell? ⟨s,2,none⟩=some (I,O,M):=f2;have ek:=zaa ej
         clear l d V an pV sV n1 p0 s0 f0 f1 f2 pl e8
         as_aux_lemma =>
          go_wp2_with fail
          refine za2 (S:=fun w'=>w'.cell? ⟨q,1,none⟩=some (ub,n,uc)∧w'.cell? ⟨ub,r,none⟩=some (b1,n,bT)∧w'.cell? ⟨ub,c,none⟩=some (b2,n,bY)∧w'.cell? ⟨s,0,none⟩=some (.bool N)∧w'.cell? ⟨s,1,none⟩=some (E,C,L)∧w'.cell? ⟨s,2,none⟩=some (I,O,M)) 26 (h:=fun hHeld=>?_);refine zaw [0,1,2,3,4,5,6,7,8,9,10,11,12,14,15,16,17,18,19,20] ?_;repeat refine tkE (hS:=hHeld) (h:=?_)
          refine zao ?_;refine zaN 13 (h:=fun K f=>?_);go_simp
          (go_at_call 106;(with_reducible refine(Rt.neg N E C L I O M (z/A) _ dN.out.drew).mono ?_);rintro e u1 ⟨g4,A4,m4,c4,D4,md4,cd4,rfl,x,d⟩;have ci:=hid (am.out.drew.below d);have ch:=hid (dU.out.drew.below d);have fP:=hid (dK.out.drew.below d);have fQ:=hid (dO.out.drew.below d);have dH:=hid (show RatS u1 g4 (A4,m4,c4) (D4,md4,cd4) (-(z/A))from x);have dh:=zab d eX;have gM:=zaa dh;have dg:=zab d e4;have gS:=zaa dg;have di:=zab d e6;have gX:=zaa di;have fs:=zab d eg;have ft:=zab d ei;have fu:=zab d ek;clear x d)
          (try go_wp2_with fail)
          refine f.out _ _ kp fun hHeld=>?_
          clear f K;try simp only[Act.put,pu1,pu2,pu3,pu4,pu5,pu6]
          refine zaN 21 (h:=fun K f=>?_);go_simp
          (go_at_call 124;(with_reducible refine(Vc.addTimesS (2*u) (by have:=cu.out;omega) (some ⟨b1,0,none⟩) n bT ru g4 A4 m4 c4 D4 md4 cd4 (-(z/A)) (some ⟨b2,0,none⟩) n bY rc H H _ fP.out dH.out fQ.out bb.out (by have:=HN.out;omega) (fun q hq=>Nat.le_trans (dX.out q hq) (by omega)) (by rw[zhY];exact HX.out) (fun q hq=>Nat.le_trans (dY.out q hq) (by omega))).mono ?_);rintro e u2 ⟨B5,n5,c5,rfl,hv5,d⟩;have de:=hid (ci.out.below d);have fw:=hid (ch.out.below d);have bo:=hid (show VecS u2 u1.heap.size (B5,n5,c5) (zly ru (-(z/A)) rc)from hv5);have fE:=zab d dh;have gN:=zaa fE;have fH:=zab d dg;have gT:=zaa fH;have fK:=zab d di;have gY:=zaa fK;have hf:=zab d fs;have hj:=zab d ft;have ho:=zab d fu;have uf:=de.out.up.fro r;clear d hv5)
          (try go_wp2_with fail)
          refine f.out _ _ kp fun hHeld=>?_
          clear f K;try simp only[Act.put,pu1,pu2,pu3,pu4,pu5,pu6]
          refine zaw [22,23] ?_;repeat refine tkE (hS:=hHeld) (h:=?_)
          refine zao ?_;refine zfQ (i:=24) (v:=?_) rfl (by kernel_rfl) (fun _ _ _ h=>h) (Or.inl ⟨by rfl,?_⟩) ?_
          rotate_left
          ·((intro w eo;(try dsimp only at eo);go_simp);(try with_reducible rfl))
          try simp only[Act.put,pu1,pu2,pu3,pu4,pu5,pu6]
          refine zaw [25] ?_;repeat refine tkE (hS:=hHeld) (h:=?_)
          refine zao ?_;refine zba (h:=fun K f=>?_);go_simp;refine f.out _ _ ?_;clear f K;try simp only[Act.put,pu1,pu2,pu3,pu4,pu5,pu6]
          refine za1 (h:=?_);go_wp2;go_roundw
          case rel =>
           obtain rfl:n5=n:=by rw[bo.out.len,zdt bb.out,be.out]
           have hV:=bo.out.base (Nat.le_trans ch.out.le ch.out.b.size);have hk:r<({ G with lo:=G.lo.set r (rl.set c (z/A)) }:LUv).up.length:=by show r<G.up.length;rw[dy.out];omega
           have Z:=LuP.putU de.out hk hV (B:=u1.heap.size) (fun g hg=>(bo.out.lt hg).1) (fun a ha g hg=>LuP.ltL ci.out a ha g hg) (fun a ha g hg=>LuP.ltU ci.out a ha g hg);have hW:=fw.out.set (o:=r) dR.out (B5,n5,c5);exact⟨r+1,t+1,_,aT,_,by go_num,by have:=HR.out;omega,rfl,by omega,by rw[←dI.out];exact Z,hW⟩
          case measure=>simp[intOf];omega
      ·obtain rfl:n=r:=by omega
       have HR:=hid hr;have HG:=hid hG;clear hr hG;have bj:=hid l;have bp:=hid d;obtain⟨aR,_,_,_,aS,_⟩:=bf4 l.blk;clear l d;go_wp2;go_ret
       exact .inl ⟨by rw[HF.out];omega,rfl,by rw[HF.out,zxH D.out,show n-(c+1)=t by have:=HR.out;omega,←HG.out];exact⟨_,_,_,_,_,_,_,_,bj.out⟩,bp.out.b⟩
  ·obtain rfl:k=n:=by omega
   have HF:=hid (zl3 (up:=F.up) (c:=c) (k-c) c fun j h1 h2=>HT.out j h1 (by omega));have dk:=hid (HP.out.below y);have a2:=hid (BB.out.trans ((y).mono BB.out.size));have a3:=zab y k0;have fg:=zaa a3;have a4:=zab y k1;have fh:=zaa a4;have a5:=zab y k2;have fi:=zaa a5;clear y;go_wp2;go_ret
   exact .inr ⟨by rw[HF.out];omega,rfl,a2.out.mono HH.out⟩
