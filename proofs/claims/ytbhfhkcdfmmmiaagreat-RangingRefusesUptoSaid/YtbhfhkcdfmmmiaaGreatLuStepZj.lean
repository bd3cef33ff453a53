/- Contracts and lemmas: LuStep. Conditions: as each says. -/
import Derived.Test.YtbhfhkcdfmmmiaaGreatMat2Zj
import Derived.Test.YtbhfhkcdfmmmiaaGreatRat6Zj
import Derived.BigRegion
set_option linter.all false
set_option maxHeartbeats 8000000
set_option maxRecDepth 100000
namespace Go.Proofs.YtbhfhkcdfmmmiaaGreat
open Go.RowKit Am
attribute [local go_sem ↓] Go.wp_at_zero Go.wp_at_succ
variable {F:LUv}{b c i j k n:Nat}{w:World}
def zzc (w:World) (H q n c k:Nat) (F:LUv) (e:Ending) (w':World):Prop :=
  (k<n∧e=.returned true∧LuQ w' H q n (F.step c k)∧Below H w w')∨(k=n∧e=.returned false∧Below H w w')
def swF (F:LUv) (c k:Nat):LUv:=⟨sw F.lo c k [],sw F.up c k [],sw F.perm c k 0,if c=k then F.odd else !F.odd⟩
theorem zqD{α:Type}{L:List α}{d:α}:sw L i i d=L:=by
 unfold sw;apply ZT;grind
theorem zxJ(F:LUv)(c:Nat):swF F c c=F:=by unfold swF;rw[zqD,zqD,zqD,if_pos rfl]
theorem zDP(s:Sq n F)(hc:c<n)(hk:k<n):Sq n (swF F c k):=by
 refine⟨by show(sw F.lo c k []).length=n;rw[zja,s.ll],fun i hi=>?_,by show(sw F.up c k []).length=n;rw[zja,s.ul],fun i hi=>?_,by show(sw F.perm c k 0).length=n;rw[zja,s.pl]⟩
 ·show((sw F.lo c k []).getD i []).length=n
  rw[zgp (by rw[s.ll];exact hc) (by rw[s.ll];exact hk)];exact s.lr _ (zlp hc hk hi)
 ·show((sw F.up c k []).getD i []).length=n
  rw[zgp (by rw[s.ul];exact hc) (by rw[s.ul];exact hk)];exact s.ur _ (zlp hc hk hi)
theorem zru{up:List (List Rat)}{c k:Nat}(hk:en up k c≠0):∀(f s:Nat),s≤k→k<s+f→(∀j,s≤j→j<k→en up j c=0)→zeg up c f s=k
 | 0,s,h1,h2,_=>by omega
 | f+1,s,h1,h2,hz=>by
  unfold zeg;by_cases e:s=k
  ·subst e;rw[if_neg hk]
  ·rw[if_pos (hz s (Za _) (by omega))];exact zru hk f (s+1) (by omega) (by omega) fun j a b=>hz j (by omega) b
theorem zl3{up:List (List Rat)}{c:Nat}:∀(f s:Nat),(∀j,s≤j→j<s+f→en up j c=0)→zeg up c f s=s+f
 | 0,_,_=>rfl
 | f+1,s,hz=>by
  unfold zeg;rw[if_pos (hz s (Za _) (by omega)),zl3 f (s+1) fun j a b=>hz j (by omega) (by omega)];omega
theorem bsw{c:World}{H:Nat}(h:Below H w c)(a:H≤b)(i j:Nat)(x y:Value):Below H w (((c.setCell ⟨b,i,none⟩ x).setCell ⟨b,j,none⟩ y).drew) :=
 zhk ((h.setCell (p:=⟨b,i,none⟩) a x).setCell (p:=⟨b,j,none⟩) a y) 1
theorem zu0{T:Nat}{v:List Rat}(a:v.length=n)(h:∀i,i<n→mw (el v i)≤T):∀x∈v,mw x≤T:=by grind[List.mem_iff_getElem?,znd,List.getElem?_eq_some_iff]
theorem zwi{a:Nat}{o:Obj}(h:w.heap[a]? = some o)(c:a≠b)(u v x:Value):(((w.setCell ⟨b,i,none⟩ u).setCell ⟨b,j,none⟩ v).setCell ⟨b,k,none⟩ x).drew.heap[a]? = some o:=by
 show(((w.setCell ⟨b,i,none⟩ u).setCell ⟨b,j,none⟩ v).setCell ⟨b,k,none⟩ x).heap[a]? = some o
 rw[Zk _ _ _ _ c,Zk _ _ _ _ c,Zk _ _ _ _ c];exact h
theorem zxz{cs:Array Value}{g:Bool}{s d:Value}{q:Rat}(h:RatS w g s d q)(a:w.heap[b]? = some (.cells cs 41 (0,0)))(u v x:Value) :
  RatS (((w.setCell ⟨b,i,none⟩ u).setCell ⟨b,j,none⟩ v).setCell ⟨b,k,none⟩ x) g s d q :=
 ((h.tk (TKeep.set (o:=i) a u) (by decide)).tk (TKeep.set (o:=j) (zar u a) v) (by decide)).tk (TKeep.set (o:=k) (zar v (zar u a)) x) (by decide)
theorem zIe(w:World)(b i j k:Nat)(u v x:Value):w.heap.size≤(((w.setCell ⟨b,i,none⟩ u).setCell ⟨b,j,none⟩ v).setCell ⟨b,k,none⟩ x).drew.heap.size:=by simp_all
theorem zxN(F:LUv)(c k:Nat):({ swF F c k with lo:=(swF F c k).lo.set c (((swF F c k).lo.getD c []).set c ((1:Int):Rat)) }:LUv)=clr (F.turn c k) c 0:=rfl
theorem zus{u t:Nat}{G:LUv}{r:Nat}(g:Sq n F)(hc:c<n)(hk:k<n)(v:LUsz mw n u F)(m:en F.up k c≠0)(B:G=clr (F.turn c k) c t)(hr:r=c+1+t)(b:r<n) :
  ∃(d rc rl:List Rat) (i f:Rat),(G.up[r]? = some d∧G.up[c]? = some rc∧G.lo[r]? = some rl)∧(d.length=n∧rc.length=n∧rl.length=n)∧(d[c]? = some i∧rc[c]? = some f)∧((∀q∈d,mw q≤u)∧(∀q∈rc,mw q≤u)∧mw i≤u∧mw f≤u)∧f≠0∧G.up.length=n ∧
   ({ G with lo:=G.lo.set r (rl.set c (i/f)),up:=G.up.set r (zly d (-(i/f)) rc) }:LUv)=clr (F.turn c k) c (t+1):=by
 subst B hr;have s:=znV g hc hk;have a:=zC8 s hc t (by omega);have l:=zz5 s hc t b;have x:∀j,j<n→mw (en (clr (F.turn c k) c t).up (c+1+t) j)≤u:=fun j hj=>by rw[l.1 j hj,zlo g hc hk];exact v.up _ (zlp hc hk b) j hj
 have y:∀j,j<n→mw (en (clr (F.turn c k) c t).up c j)≤u:=fun j hj=>by rw[l.2 j hj,zlo g hc hk];exact v.up _ (zlp hc hk hc) j hj
 have C:en (clr (F.turn c k) c t).up c c≠0:=by
  rw[l.2 c hc,zlo g hc hk];unfold tw;grind
 have o:=a.ur _ b;have p:=a.ur _ hc;have z:((clr (F.turn c k) c t).up.getD (c+1+t) [])[c]? = some (en (clr (F.turn c k) c t).up (c+1+t) c):=zaH (by rw[o];exact hc);have A:((clr (F.turn c k) c t).up.getD c [])[c]? = some (en (clr (F.turn c k) c t).up c c):=zaH (by rw[p];exact hc);exact⟨_,_,_,_,_,⟨zaO (by rw[a.ul];exact b),zaO (by rw[a.ul];exact hc),zaO (by rw[a.ll];exact b)⟩,⟨o,p,a.lr _ b⟩,⟨z,A⟩,⟨zu0 o x,zu0 p y,x c hc,y c hc⟩,C,a.ul,(zwC _ _ _).symm⟩
structure Bel0 (H:Nat) (w w':World):Prop where
  le:H≤w.heap.size
  b:Below H w w'
namespace Bel0
variable {w w' w1:World} {H:Nat}
theorem below(h:Bel0 H w w1)(a:Below w1 w1 w'):Bel0 H w w':=⟨h.le,h.b.trans (a.mono (Zc h.le h.b.size))⟩
theorem alloc(h:Bel0 H w w1)(o:Obj):Bel0 H w (w1.alloc o):=h.below (zae _ o)
theorem drew(h:Bel0 H w w1):Bel0 H w w1.drew:=h.below (zap _ 1)
theorem set(h:Bel0 H w w1){o:Nat}(a:H≤b)(u:Value):Bel0 H w (w1.setCell ⟨b,o,none⟩ u):=⟨h.le,h.b.setCell (p:=⟨b,o,none⟩) a u⟩
theorem set3(h:Bel0 H w w1)(a:H≤b)(u v x:Value):Bel0 H w (((w1.setCell ⟨b,i,none⟩ u).setCell ⟨b,j,none⟩ v).setCell ⟨b,k,none⟩ x):=by grind[set]
end Bel0
namespace Lu
theorem step(H q n u c:Nat)(F:LUv)(w:World)(hF:LuQ w H q n F)(hs:Sq n F)(x:n≤64)(hc:c<n)(hz:LUsz mw n u F)(hu:1≤u)(hL:24*u+8≤LIM) :
  Calls Tryz.prog 169 #[.pointer (some ⟨q,0,none⟩),(c:Int)] w (zzc w H q n c (zeg F.up c (n-c) c) F):=by
 obtain⟨lb,lc,ll,ub,uc,ul,pb,pc,Z⟩:=hF;have D:=un hs;have HN:=un x;have a9:=un hc;have cu:=un hL;have dQ:=un hz;have HH:=un (show H≤w.heap.size from Zc Z.own (ZW Z.qlt));have gu:n≤9223372036854775807:=by omega
 have gm:(0:Int)≤(c:Int):=Zf _;have gn:(c:Int)<(n:Int):=by omega
 have HP:=un Z;obtain⟨k0,gv,_,_,k1,gw,_,_,k2,gx,_⟩:=bf4 Z.blk;clear Z hs x hc hz hu hL;go_enter Tryz.func169,Tryz.ntmps169;go_wp2;have BB:=un (Zg w.heap.size w)
 go_loopw [5] (fun i wr=>∃k:Nat,i=.int .i64 k∧c≤k∧k≤n∧Below w w wr∧∀j,c≤j→j<k→en F.up j c=0)
  (fun i _=>n-(intOf i).toNat)
 case atStart=>exact⟨c,rfl,Za _,ZW a9.o,Zg _ _,fun j h1 h2=>absurd h1 (by omega)⟩
 case round =>
  obtain⟨k,rfl,ew,hk,y,hT⟩:=hrel;have HT:=un hT;clear hT;by_cases aO:k<n
  ·have aP:F.up[k]? = some (F.up.getD k []):=zaO (by rw[D.o.ul];exact aO);have ab:=D.o.ur k aO;have bJ:en F.up k c=el (F.up.getD k []) c:=rfl;generalize F.up.getD k []=rw_ at aP ab bJ;have ah:=zaH (xs:=rw_) (j:=c) (by omega);rw[←bJ]at ah;obtain⟨Ak,ck,bP,r0,aN⟩:=(HP.o.up.below y).at_ aP;rw[ab]at r0 aN bP;obtain⟨br,rfl,_,_⟩:=aN.has (by omega);obtain⟨gl,Al,ml,cl,Dl,bR,bt,y0,y1,y2,cO⟩:=aN.at_ ah;have dm:=un (HP.o.below y)
   have HQ:=un (show RatS wr gl (Al,ml,cl) (Dl,bR,bt) (en F.up k c)from cO);have a2:=un (BB.o.trans ((y).mono BB.o.size));have a3:=zab y k0;have fh:=zaa a3;have a4:=zab y k1;have fi:=zaa a4;have a5:=zab y k2;have fj:=zaa a5;have dk:wr.cell? ⟨ub,k,none⟩=some (br,n,ck):=r0;have g2:=zaa dk;have hD:wr.cell? ⟨br,c*3,none⟩=some (.bool gl):=y0;have hE:wr.cell? ⟨br,c*3+1,none⟩=some (Al,ml,cl):=y1
   have hH:wr.cell? ⟨br,c*3+2,none⟩=some (Dl,bR,bt):=y2;have fT:=un bP;have cx:=un aP;clear y aP ab bJ ah aN cO bP r0 y0 y1 y2;have gp:(0:Int)≤(k:Int):=Zf _;have gq:(k:Int)<(n:Int):=by omega
   go_wp2_with fail
   with_reducible refine(Rt.zero gl Al ml cl Dl bR bt (en F.up k c) _ HQ.o).mono ?_
   rintro e w1 ⟨rfl,d⟩;have Q:=un (dm.o.below d);have cf:=un (a2.o.trans ((d).mono a2.o.size));have fM:=zab d a3;have gL:=zaa fM;have fN:=zab d a4;have gR:=zaa fN;have fO:=zab d a5;have gW:=zaa fO;have fP:=zab d dk;have g5:=zaa fP;clear d;by_cases aa:en F.up k c=0
   ·have hz:zr (en F.up k c)=true:=Zs aa;have HF:=un (show ∀j,c≤j→j<k+1→en F.up j c=0 from fun j h1 h2=>by
     by_cases e:j=k
     ·rw[e];exact aa
     ·exact HT.o j h1 (by omega))
    clear aa;go_wp2;go_roundw
    case rel=>exact⟨k+1,by go_num,by omega,by omega,cf.o,HF.o⟩
    case measure=>simp[intOf];omega
   ·have hz:zr (en F.up k c)=false:=Zu aa;have HF:=un (zru aa (n-c) c ew (by omega) fun j h1 h2=>HT.o j h1 h2);have dN:=un aa;clear aa;go_upto_if 41 with fail
    go_cut[] (fun wy=>∃W P,LuP wy H q n lb lc W ub uc P pb pc (swF F c k)∧Below H w wy)
    case first=>as_aux_lemma =>
     by_cases bK:k=c
     ·obtain rfl:c=k:=bK.symm;go_wp2;go_meet
      case rel=>exact⟨ll,ul,by rw[zxJ];exact Q.o,cf.o.mono HH.o⟩
     ·have gt:(c:Int)<(k:Int):=by omega
      have dF:=un bK;clear bK;have bH:F.up[c]? = some (F.up.getD c []):=zaO (by rw[D.o.ul];omega);have U:F.lo[c]? = some (F.lo.getD c []):=zaO (by rw[D.o.ll];omega);have bD:F.lo[k]? = some (F.lo.getD k []):=zaO (by rw[D.o.ll];omega);have bF:F.perm[c]? = some (F.perm.getD c 0):=zaO (by rw[D.o.pl];omega);have bG:F.perm[k]? = some (F.perm.getD k 0):=zaO (by rw[D.o.pl];omega);generalize F.up.getD c []=rUc at bH;generalize F.lo.getD c []=rLc at U;generalize F.lo.getD k []=rLk at bD
      generalize F.perm.getD c 0=fk at bF;generalize F.perm.getD k 0=fl at bG;have cq:=un bH;have az:=un U;have cn:=un bD;have co:=un bF;have cp:=un bG;clear bH U bD bF bG;have dR:=un (Q.o.ubge (by omega));have dG:=un (Q.o.lbge (by omega));have dK:=un (Q.o.pbge (by omega));obtain⟨aA,ac,al,a0,_⟩:=Q.o.up.at_ cq.o;have f3:=zaa a0;have af:=Q.o.up.fro c;obtain⟨bA,bc,bl,b0,_⟩:=Q.o.up.at_ cx.o;have bf:=Q.o.up.fro k;have HA:=un (And.intro al bl);clear al bl;go_wp2
      go_cut[] (fun wy=>∃P,LuP wy H q n lb lc ll ub uc P pb pc { F with up:=sw F.up c k [] }∧Below H w wy)
      case first=>as_aux_lemma =>
       refine zaS (S:=fun w'=>w'.cell? ⟨q,1,none⟩=some (ub,n,uc)∧w'.cell? ⟨ub,c,none⟩=some (aA,rUc.length,ac)∧w'.cell? ⟨ub,k,none⟩=some (bA,rw_.length,bc)) [25,26,27] (h:=fun hHeld=>?_);refine zaw [0,1,2,3,4] ?_;repeat refine tkL (hS:=hHeld) (h:=?_)
       refine zao ?_;refine zaw [5,6,7] ?_;repeat refine tkX (h:=?_)
       refine zao ?_;refine zaw [8] ?_;repeat refine tkL (hS:=hHeld) (h:=?_)
       refine zao ?_;refine zaw [9] ?_;repeat refine tkX (h:=?_)
       refine zao ?_;refine zaw [10,11,12,13,14,15,16] ?_;repeat refine tkL (hS:=hHeld) (h:=?_)
       refine zao ?_;refine zaw [17,18,19] ?_;repeat refine tkX (h:=?_)
       refine zao ?_;refine zaw [20] ?_;repeat refine tkL (hS:=hHeld) (h:=?_)
       refine zao ?_;refine zaw [21,22] ?_;repeat refine tkX (h:=?_)
       refine zao ?_;refine zaw [23,24] ?_;repeat refine tkL (hS:=hHeld) (h:=?_)
       refine zao ?_;refine zay 25 (h:=fun K f=>?_);go_simp;refine shutOff f ?_;clear f K
       refine zay 26 (h:=fun K f=>?_);go_simp;refine shutOff f ?_;clear f K
       refine zay 27 (h:=fun K f=>?_);go_simp;refine shutOff f ?_;clear f K
       refine zaM (h:=?_);go_wp2;go_meet
       case rel=>exact⟨_,(Q.o.swU HA.o.1 HA.o.2 cq.o cx.o).drew,bsw (cf.o.mono HH.o) dR.o.1 _ _ _ _⟩
      case rest =>
       rename World=>wa
       obtain⟨P,l,d⟩:=hcut;have ae:=un l;have dp:=un d;obtain⟨gy,_⟩:=bf4 ae.o.blk;obtain⟨dA,dc,dl,d0,Y⟩:=ae.o.lo.at_ az.o;have cE:=zaa d0;have df:=ae.o.lo.fro c;obtain⟨eA,ec,el,e0,_⟩:=ae.o.lo.at_ cn.o;have cG:=zaa e0;have ef:=ae.o.lo.fro k;have HD:=un (And.intro dl el);clear dl el Y l d;go_wp2;go_cut[] (fun wy=>∃W,LuP wy H q n lb lc W ub uc P pb pc { F with up:=sw F.up c k [],lo:=sw F.lo c k [] }∧Below H w wy)
       case first=>as_aux_lemma =>
        refine zaS (S:=fun w'=>w'.cell? ⟨q,0,none⟩=some (lb,n,lc)∧w'.cell? ⟨lb,c,none⟩=some (dA,rLc.length,dc)∧w'.cell? ⟨lb,k,none⟩=some (eA,rLk.length,ec)) [25,26,27] (h:=fun hHeld=>?_);refine zaw [0,1,2,3,4] ?_;repeat refine tkL (hS:=hHeld) (h:=?_)
        refine zao ?_;refine zaw [5,6,7] ?_;repeat refine tkX (h:=?_)
        refine zao ?_;refine zaw [8] ?_;repeat refine tkL (hS:=hHeld) (h:=?_)
        refine zao ?_;refine zaw [9] ?_;repeat refine tkX (h:=?_)
        refine zao ?_;refine zaw [10,11,12,13,14,15,16] ?_;repeat refine tkL (hS:=hHeld) (h:=?_)
        refine zao ?_;refine zaw [17,18,19] ?_;repeat refine tkX (h:=?_)
        refine zao ?_;refine zaw [20] ?_;repeat refine tkL (hS:=hHeld) (h:=?_)
        refine zao ?_;refine zaw [21,22] ?_;repeat refine tkX (h:=?_)
        refine zao ?_;refine zaw [23,24] ?_;repeat refine tkL (hS:=hHeld) (h:=?_)
        refine zao ?_;refine zay 25 (h:=fun K f=>?_);go_simp;refine shutOff f ?_;clear f K
        refine zay 26 (h:=fun K f=>?_);go_simp;refine shutOff f ?_;clear f K
        refine zay 27 (h:=fun K f=>?_);go_simp;refine shutOff f ?_;clear f K
        refine zaM (h:=?_);go_wp2;go_meet
        case rel=>exact⟨_,(ae.o.swL HD.o.1 HD.o.2 az.o cn.o).drew,bsw dp.o dG.o.1 _ _ _ _⟩
       case rest =>
        rename World=>wb
        obtain⟨W,l,d⟩:=hcut;have ag:=un l;have dq:=un d;clear l d;obtain⟨_,_,_,_,_,_,_,_,gz,_⟩:=bf4 ag.o.blk;have p0:=ag.o.perm.at_ co.o;have gC:=zaa p0;have gD:=ag.o.perm.fro c;have p1:=ag.o.perm.at_ cp.o;have gF:=ag.o.perm.fro k;go_wp2;go_cut[] (fun wy=>LuP wy H q n lb lc W ub uc P pb pc { F with up:=sw F.up c k [],lo:=sw F.lo c k [],perm:=sw F.perm c k 0 }∧Below H w wy)
        case first=>as_aux_lemma =>
         refine zaS (S:=fun w'=>w'.cell? ⟨q,2,none⟩=some (pb,n,pc)∧w'.cell? ⟨pb,c,none⟩=some (.int .i64 (fk:Int))∧w'.cell? ⟨pb,k,none⟩=some (.int .i64 (fl:Int))) [25,26,27] (h:=fun hHeld=>?_);refine zaw [0,1,2,3,4] ?_;repeat refine tkL (hS:=hHeld) (h:=?_)
         refine zao ?_;refine zaw [5,6,7] ?_;repeat refine tkX (h:=?_)
         refine zao ?_;refine zaw [8] ?_;repeat refine tkL (hS:=hHeld) (h:=?_)
         refine zao ?_;refine zaw [9] ?_;repeat refine tkX (h:=?_)
         refine zao ?_;refine zaw [10,11,12,13,14,15,16] ?_;repeat refine tkL (hS:=hHeld) (h:=?_)
         refine zao ?_;refine zaw [17,18,19] ?_;repeat refine tkX (h:=?_)
         refine zao ?_;refine zaw [20] ?_;repeat refine tkL (hS:=hHeld) (h:=?_)
         refine zao ?_;refine zaw [21,22] ?_;repeat refine tkX (h:=?_)
         refine zao ?_;refine zaw [23,24] ?_;repeat refine tkL (hS:=hHeld) (h:=?_)
         refine zao ?_;refine zay 25 (h:=fun K f=>?_);go_simp;refine shutOff f ?_;clear f K
         refine zay 26 (h:=fun K f=>?_);go_simp;refine shutOff f ?_;clear f K
         refine zay 27 (h:=fun K f=>?_);go_simp;refine shutOff f ?_;clear f K
         refine zaM (h:=?_);go_wp2;go_meet
         case rel=>exact⟨(ag.o.swP co.o cp.o).drew,bsw dq.o dK.o.1 _ _ _ _⟩
        case rest =>
         rename World=>wd_
         obtain⟨l,d⟩:=hcut;have bh:=un l;have dr:=un d;clear l d;obtain⟨_,_,_,_,_,_,_,_,_,_,_,_,gA,_,gB,_⟩:=bf4 bh.o.blk;go_wp2;go_meet
         case rel=>exact⟨W,P,by unfold swF;rw[if_neg (fun e=>dF.o e.symm)];exact bh.o.setO _,dr.o.setCell (p:=⟨q,3,none⟩) bh.o.own _⟩
    case rest =>
     rename World=>wa
     obtain⟨W,P,l,d⟩:=hcut;have bi:=un l;have ds:=un (Bel0.mk (HH.o) d);clear l d;have cA:=un (zDP D.o a9.o aO);have U:(swF F c k).lo[c]? = some ((swF F c k).lo.getD c []):=zaO (by rw[cA.o.ll];omega);have bE:=cA.o.lr c (by omega);generalize hge:(swF F c k).lo.getD c []=rLc at U bE;have dy:=un hge;have az:=un U;obtain⟨dA,dc,dl,d0,Y⟩:=bi.o.lo.at_ U;rw[bE]at dl d0 Y;obtain⟨bd,rfl,et,f9⟩:=Y.has (by omega);have ah:=zaH (xs:=rLc) (j:=c) (by omega)
     obtain⟨gd,Ad,md,d7,Dd,eW,d8,e0,e1,e2,_⟩:=Y.at_ ah;have du:=un dl;have dv:=un Y;obtain⟨eE,_,_,_,eH,_⟩:=bf4 bi.o.blk;clear U bE hge dl Y ah;have eG:=zaa eE;have eJ:=zaa eH;have cE:=zaa d0;have cG:=zaa e0;have eb:=zaa e1;have ee:=zaa e2;go_wp2_with fail
     refine za2 (S:=fun w'=>w'.cell? ⟨q,0,none⟩=some (lb,n,lc)∧w'.cell? ⟨q,1,none⟩=some (ub,n,uc)∧w'.cell? ⟨lb,c,none⟩=some (bd,n,dc)∧w'.cell? ⟨bd,c*3,none⟩=some (.bool gd)∧w'.cell? ⟨bd,c*3+1,none⟩=some (Ad,md,d7)∧w'.cell? ⟨bd,c*3+2,none⟩=some (Dd,eW,d8)) 10 (h:=fun hHeld=>?_);refine zaw [0,1,2,3,4,5,6,7] ?_;repeat refine tkE (hS:=hHeld) (h:=?_)
     refine zao ?_;refine zaN 8 (h:=fun K f=>?_);go_simp
     (go_at_call 13;(with_reducible refine(Rt.int 1 (by decide) (by decide) _).mono ?_);rintro e u1 ⟨g1,A1,m1,c1,D1,md1,cd1,rfl,x,d⟩;have fw:=un (bi.o.drew.below d);have cg:=un (dv.o.drew.below d);have fz:=un (ds.o.drew.below d);have HI:=un (show RatS u1 g1 (A1,m1,c1) (D1,md1,cd1) ((1:Int):Rat)from x);have fD:=zab d eG;have gK:=zaa fD;have fG:=zab d eJ;have gQ:=zaa fG;have fJ:=zab d cE;have gV:=zaa fJ;have hC:=zab d cG;have hj:=zab d eb;have hm:=zab d ee;have eZ:=cg.o.fro (c*3);have of1:=cg.o.fro (c*3+1);have e3:=cg.o.fro (c*3+2);clear x d)
     (try go_wp2_with fail)
     refine shutOn f fun hHeld=>?_
     clear f K
     refine zaw [9] ?_;repeat refine tkE (hS:=hHeld) (h:=?_)
     refine zao ?_;refine zba (h:=fun K f=>?_);go_simp;refine shutOff f ?_;clear f K
     refine za1 (h:=?_);go_wp2
     go_loopw [6] (fun rv wr=>∃(r t:Nat) (G:LUv) (aT b5:List Value),rv=(r:Int)∧r=c+1+t∧G=clr (F.turn c k) c t∧r≤n∧LuP wr H q n lb lc aT ub uc b5 pb pc G∧Bel0 H w wr)
      (fun rv _=>n-(intOf rv).toNat)
     case atStart=>exact⟨c+1,0,_,W,P,by go_num,rfl,rfl,by omega,by have hh:=fw.o.putL du.o az.o c HI.o;rw[←dy.o,zxN]at hh;exact hh,fz.o.set3 et _ _ _⟩
     case round =>
      rename World=>wz
      obtain⟨r,t,G,aT,b5,rfl,hr,hG,ht,l,d⟩:=hrel;by_cases ey:r<n
      ·obtain⟨ru,rc,rl,z,A,⟨bN,bM,ab⟩,⟨bO,cX,cY⟩,⟨cU,cV⟩,⟨c0,c2,eC,eD⟩,cT,cQ,cS⟩:=zus D.o a9.o aO dQ.o dN.o hG hr ey;have HR:=un hr;have dJ:=un cS;have cv:=un cT;have dz:=un cQ;have dY:=un c0;have dZ:=un c2;have bb:=un (show ru.length=rc.length by omega);have be:=un bO;have gj:c<r:=by omega
       have dB:=un ab;have dC:=un bN;have dx:=un bM;obtain⟨uA,db,b6,u0,uV⟩:=l.up.at_ bN;obtain⟨vA,dd,ff,v0,vV⟩:=l.up.at_ bM;obtain⟨wA,de,b8,w0,wV⟩:=l.lo.at_ ab;rw[bO]at u0 uV b6;rw[cX]at v0 vV;rw[cY]at w0 wV b8;obtain⟨R,rfl,ge,gf⟩:=uV.has (by omega);obtain⟨T,rfl,gg,gh⟩:=vV.has (by omega);obtain⟨J,rfl,ev,gi⟩:=wV.has (by omega);obtain⟨ga,Aa,ma,ca,Da,aX,aG,y0,y1,y2,cM⟩:=uV.at_ cU;obtain⟨gb,Ab,mb,cb,Db,aY,aH,z0,z1,z2,cN⟩:=vV.at_ cV;have cW:=zaH (xs:=rl) (j:=c) (by omega)
       obtain⟨gc,Ac,mc,cc,Dc,c9,cD,t0,t1,t2,_⟩:=wV.at_ cW;have dT:=un b8;have fU:=un b6;obtain⟨aR,_,_,_,aS,_⟩:=bf4 l.blk;have bj:=un l;have bp:=un d;have cy:=un cM;have cz:=un cN;have fV:=un uV;have fW:=un vV;have dU:=un wV;have L1:=un (show 4*(mw z+mw A)+8≤LIM by have:=cu.o;omega);have HX:=un (show mw (z/A)≤2*u by have:=zo5.div z A;omega);clear c0 c2 eC eD bN bM ab bO cX cY cU cV cW b6 ff b8 cM cN uV vV wV l d hr hG cQ cS cT ht;have eF:=zaa aR;have eI:=zaa aS;have fd:=zaa u0
       have fe:=zaa v0;have fg:=zaa w0;have fm:=zaa y0;have fn:=zaa y1;have fo:=zaa y2;have fp:=zaa z0;have fq:=zaa z1;have fr:=zaa z2;have fa:=zaa t0;have fb:=zaa t1;have fc:=zaa t2;have gr:(0:Int)≤(r:Int):=Zf _;have gs:(r:Int)<(n:Int):=by omega
       go_wp2_with fail
       go_cut[7] (fun s7 wx=>zcD wz s7 wx (z/A))
       case first=>as_aux_lemma =>
        refine zaS (S:=fun w'=>w'.cell? ⟨q,0,none⟩=some (lb,n,lc)∧w'.cell? ⟨q,1,none⟩=some (ub,n,uc)∧w'.cell? ⟨ub,r,none⟩=some (R,n,db)∧w'.cell? ⟨ub,c,none⟩=some (T,n,dd)∧w'.cell? ⟨lb,r,none⟩=some (J,n,de)∧w'.cell? ⟨R,c*3,none⟩=some (.bool ga)∧w'.cell? ⟨R,c*3+1,none⟩=some (Aa,ma,ca)∧w'.cell? ⟨R,c*3+2,none⟩=some (Da,aX,aG)∧w'.cell? ⟨T,c*3,none⟩=some (.bool gb)∧w'.cell? ⟨T,c*3+1,none⟩=some (Ab,mb,cb)∧w'.cell? ⟨T,c*3+2,none⟩=some (Db,aY,aH)∧w'.cell? ⟨J,c*3,none⟩=some (.bool gc)∧w'.cell? ⟨J,c*3+1,none⟩=some (Ac,mc,cc)∧w'.cell? ⟨J,c*3+2,none⟩=some (Dc,c9,cD)) [25,26] (h:=fun hHeld=>?_)
        refine zaw [0,1,2,3,4,5,6,7,8,9,10,11,12,13,14,15,16,17,18,19] ?_;repeat refine tkL (hS:=hHeld) (h:=?_)
        refine zao ?_;refine zme (i:=20) (j:=24) rfl rfl (by kernel_rfl) (fun K f=>?_) (fun K f=>?_)
        ·skip
         go_simp
         (go_at_call 146;(with_reducible refine(Rt.div ga Aa ma ca Da aX aG z gb Ab mb cb Db aY aH A _ (cy.o.drew) (cz.o.drew) cv.o L1.o).mono ?_);rintro e u1 ⟨N,E,C,L,I,O,M,rfl,x,d⟩;have HS:=un x;have ak:=un (show Below wz wz u1 from It.bdrew0' d);have m0:=zab d eF;have m1:=zab d eI;have m2:=zab d fd;have C:=zab d fe;have m4:=zab d fg;have m5:=zab d fm;have m6:=zab d fn;have m7:=zab d fo;have m8:=zab d fp;have m9:=zab d fq;have eL:=zab d fr;have eM:=zab d fa;have eN:=zab d fb;have eO:=zab d fc;clear d x)
         (try go_wp2_with fail)
         refine shutOn f fun hHeld=>?_
         clear f K
         refine zaw [21,22,23] ?_;repeat refine tkX (h:=?_)
         refine zao ?_;refine zaB 24 (h:=fun K f=>?_);go_simp;refine shutOn f fun hHeld=>?_
         clear f K
         refine zay 25 (h:=fun K f=>?_);go_simp;refine shutOff f ?_;clear f K
         refine zay 26 (h:=fun K f=>?_);go_simp;refine shutOff f ?_;clear f K
         refine zaM (h:=?_);go_wp2;go_meet
         case rel=>exact zcD.al (ak.o.alloc ak.o.size _) ak.o.size HS.o
        ·skip
         go_simp;refine shutOn f fun hHeld=>?_
         clear f K
         refine zaB 20 (h:=fun K f=>?_);go_simp
         (go_at_call 146;(with_reducible refine(Rt.div ga Aa ma ca Da aX aG z gb Ab mb cb Db aY aH A _ (cy.o.alloc _ |>.drew) (cz.o.alloc _ |>.drew) cv.o L1.o).mono ?_);rintro e u1 ⟨N,E,C,L,I,O,M,rfl,x,d⟩;have HS:=un x;have ak:=un (show Below wz wz u1 from(zae wz _).trans ((It.bdrew0' d).mono (by simp)));have X:=un (zad d (show(wz.alloc (.cells #[false,(),()] 41)).drew.heap[wz.heap.size]? = _ from zal _ _ _));have m0:=zab d (show(wz.alloc (.cells #[false,(),()] 41)).drew.cell? _=_ from cell_al aR);have m1:=zab d (show(wz.alloc (.cells #[false,(),()] 41)).drew.cell? _=_ from cell_al aS);have m2:=zab d (show(wz.alloc (.cells #[false,(),()] 41)).drew.cell? _=_ from cell_al u0);have C:=zab d (show(wz.alloc (.cells #[false,(),()] 41)).drew.cell? _=_ from cell_al v0);have m4:=zab d (show(wz.alloc (.cells #[false,(),()] 41)).drew.cell? _=_ from cell_al w0);have m5:=zab d (show(wz.alloc (.cells #[false,(),()] 41)).drew.cell? _=_ from cell_al y0);have m6:=zab d (show(wz.alloc (.cells #[false,(),()] 41)).drew.cell? _=_ from cell_al y1);have m7:=zab d (show(wz.alloc (.cells #[false,(),()] 41)).drew.cell? _=_ from cell_al y2);have m8:=zab d (show(wz.alloc (.cells #[false,(),()] 41)).drew.cell? _=_ from cell_al z0);have m9:=zab d (show(wz.alloc (.cells #[false,(),()] 41)).drew.cell? _=_ from cell_al z1);have eL:=zab d (show(wz.alloc (.cells #[false,(),()] 41)).drew.cell? _=_ from cell_al z2);have eM:=zab d (show(wz.alloc (.cells #[false,(),()] 41)).drew.cell? _=_ from cell_al t0);have eN:=zab d (show(wz.alloc (.cells #[false,(),()] 41)).drew.cell? _=_ from cell_al t1);have eO:=zab d (show(wz.alloc (.cells #[false,(),()] 41)).drew.cell? _=_ from cell_al t2);have d1:=zac X.o 0;have d2:=zac X.o 1;have d3:=zac X.o 2;have fX:=zag X.o 0;have fY:=zag X.o 1;have fZ:=zag X.o 2;simp only[ZF,Zz,ZU]at d1 d2 d3;clear d x)
         (try go_wp2_with fail)
         refine shutOn f fun hHeld=>?_
         clear f K
         refine zaw [21,22,23] ?_;repeat refine tkX (h:=?_)
         refine zao ?_;refine zay 25 (h:=fun K f=>?_);go_simp;refine shutOff f ?_;clear f K
         refine zay 26 (h:=fun K f=>?_);go_simp;refine shutOff f ?_;clear f K
         refine zaM (h:=?_);go_wp2;go_meet
         case rel=>exact zcD.of (((ak.o.setCell (p:=⟨wz,0,none⟩) (Za _) _).setCell (p:=⟨wz,1,none⟩) (Za _) _).setCell (p:=⟨wz,2,none⟩) (Za _) _) (Za _) X.o HS.o
       case rest =>
        rename World=>wx
        obtain⟨s,N,E,C,L,I,O,M,rfl,m,es,V,an⟩:=hcut;have dE:=un V;have cw:=un an;have fy:=un (bj.o.below m);have fA:=un (bp.o.below m);have a6:=un (dU.o.below m);have fE:=zab m aR;have gM:=zaa fE;have fH:=zab m aS;have gS:=zaa fH;have fK:=zab m u0;have gX:=zaa fK;have fB:=zab m v0;have g0:=zaa fB;have fC:=zab m w0;have g6:=zaa fC;have ho:=zab m y0;have hw:=zab m y1;have hx:=zab m y2;have hy:=zab m z0;have hA:=zab m z1;have hf:=zab m z2;have fs:=zab m t0;have gP:=zaa fs
        have g7:=zab m t1;have g8:=zab m t2;have g9:wx.cell? ⟨s,0,none⟩=some (.bool N):=zac V 0;have hd:wx.cell? ⟨s,1,none⟩=some (E,C,L):=zac V 1;have he:wx.cell? ⟨s,2,none⟩=some (I,O,M):=zac V 2;have eZ:=a6.o.fro (c*3);have of1:=a6.o.fro (c*3+1);have e3:=a6.o.fro (c*3+2);have eu:J≠s:=by omega
        clear m V an es;go_wp2_with fail
        go_cut[] (fun wy=>LuP wy H q n lb lc aT ub uc b5 pb pc { G with lo:=G.lo.set r (rl.set c (z/A)) }∧Bel0 H w wy∧wy.heap[s]? = some (.cells #[N,(E,C,L),(I,O,M)] 41 (0,0))∧RatS wy N (E,C,L) (I,O,M) (z/A)∧wx.heap.size≤wy.heap.size)
        case first=>as_aux_lemma =>
         refine za2 (S:=fun w'=>w'.cell? ⟨q,0,none⟩=some (lb,n,lc)∧w'.cell? ⟨q,1,none⟩=some (ub,n,uc)∧w'.cell? ⟨ub,r,none⟩=some (R,n,db)∧w'.cell? ⟨ub,c,none⟩=some (T,n,dd)∧w'.cell? ⟨lb,r,none⟩=some (J,n,de)∧w'.cell? ⟨R,c*3,none⟩=some (.bool ga)∧w'.cell? ⟨R,c*3+1,none⟩=some (Aa,ma,ca)∧w'.cell? ⟨R,c*3+2,none⟩=some (Da,aX,aG)∧w'.cell? ⟨T,c*3,none⟩=some (.bool gb)∧w'.cell? ⟨T,c*3+1,none⟩=some (Ab,mb,cb)∧w'.cell? ⟨T,c*3+2,none⟩=some (Db,aY,aH)∧w'.cell? ⟨J,c*3,none⟩=some (.bool gc)∧w'.cell? ⟨J,c*3+1,none⟩=some (Ac,mc,cc)∧w'.cell? ⟨J,c*3+2,none⟩=some (Dc,c9,cD)∧w'.cell? ⟨s,0,none⟩=some (.bool N)∧w'.cell? ⟨s,1,none⟩=some (E,C,L)∧w'.cell? ⟨s,2,none⟩=some (I,O,M)) 10 (h:=fun hHeld=>?_)
         refine zaw [0,1,2,3,4,5,6,7,8,9] ?_;repeat refine tkE (hS:=hHeld) (h:=?_)
         refine zao ?_;refine zba (h:=fun K f=>?_);go_simp;refine shutOff f ?_;clear f K
         refine za1 (h:=?_);go_wp2;go_meet
         case rel =>
          obtain⟨cs,ex⟩:=a6.o.ratBlk;exact⟨(fy.o.putL dT.o dB.o c cw.o).drew,(fA.o.set3 ev _ _ _).drew,zwi dE.o (ZM eu) _ _ _,(zxz cw.o ex _ _ _).drew,zIe _ _ _ _ _ _ _ _⟩
        case rest =>
         rename World=>wy
         obtain⟨l,d,V,an,_⟩:=hcut;have am:=un l;have dW:=un d;have ba:=un V;have dO:=un an;obtain⟨pA,bT,pl,p0,pV⟩:=am.o.up.at_ dC.o;obtain⟨sA,bY,e9,s0,sV⟩:=am.o.up.at_ (show G.up[c]? = some rc from dx.o);rw[be.o]at p0 pV;rw[←bb.o,be.o]at s0 sV;obtain⟨b1,rfl,_,_⟩:=pV.has (by omega);obtain⟨b2,rfl,_,_⟩:=sV.has (by omega);obtain⟨_,_,_,_,n1,_⟩:=bf4 am.o.blk;have dL:=un pV;have dP:=un sV;have dS:=un (am.o.ubge (by omega)).1;have f0:=zac ba.o 0;have f1:=zac ba.o 1
         have f2:=zac ba.o 2;have eX:wy.cell? ⟨q,1,none⟩=some (ub,n,uc):=n1;have eY:=zaa eX;have e4:wy.cell? ⟨ub,r,none⟩=some (b1,n,bT):=p0;have e5:=zaa e4;have e6:wy.cell? ⟨ub,c,none⟩=some (b2,n,bY):=s0;have e7:=zaa e6;have eg:wy.cell? ⟨s,0,none⟩=some (.bool N):=f0;have eh:=zaa eg;have ei:wy.cell? ⟨s,1,none⟩=some (E,C,L):=f1;have ej:=zaa ei;have ek:wy.cell? ⟨s,2,none⟩=some (I,O,M):=f2;have em:=zaa ek
         clear l d V an pV sV n1 p0 s0 f0 f1 f2 pl e9
         as_aux_lemma =>
          go_wp2_with fail
          refine za2 (S:=fun w'=>w'.cell? ⟨q,1,none⟩=some (ub,n,uc)∧w'.cell? ⟨ub,r,none⟩=some (b1,n,bT)∧w'.cell? ⟨ub,c,none⟩=some (b2,n,bY)∧w'.cell? ⟨s,0,none⟩=some (.bool N)∧w'.cell? ⟨s,1,none⟩=some (E,C,L)∧w'.cell? ⟨s,2,none⟩=some (I,O,M)) 26 (h:=fun hHeld=>?_);refine zaw [0,1,2,3,4,5,6,7,8,9,10,11,12,14,15,16,17,18,19,20] ?_;repeat refine tkE (hS:=hHeld) (h:=?_)
          refine zao ?_;refine zaN 13 (h:=fun K f=>?_);go_simp
          (go_at_call 35;(with_reducible refine(Rt.neg N E C L I O M (z/A) _ dO.o.drew).mono ?_);rintro e u1 ⟨g4,A4,m4,c4,D4,md4,cd4,rfl,x,d⟩;have ci:=un (am.o.drew.below d);have ch:=un (dW.o.drew.below d);have fQ:=un (dL.o.drew.below d);have fR:=un (dP.o.drew.below d);have dI:=un (show RatS u1 g4 (A4,m4,c4) (D4,md4,cd4) (-(z/A))from x);have di:=zab d eY;have gN:=zaa di;have dh:=zab d e5;have gT:=zaa dh;have dj:=zab d e7;have gY:=zaa dj;have ft:=zab d eh;have fu:=zab d ej;have fv:=zab d em;clear x d)
          (try go_wp2_with fail)
          refine shutOn f fun hHeld=>?_
          clear f K
          refine zaN 21 (h:=fun K f=>?_);go_simp
          (go_at_call 149;(with_reducible refine(Vc.addTimesS (2*u) (by have:=cu.o;omega) (some ⟨b1,0,none⟩) n bT ru g4 A4 m4 c4 D4 md4 cd4 (-(z/A)) (some ⟨b2,0,none⟩) n bY rc H H _ fQ.o dI.o fR.o bb.o (by have:=HN.o;omega) (fun q hq=>Zc (dY.o q hq) (by omega)) (by rw[zhY];exact HX.o) (fun q hq=>Zc (dZ.o q hq) (by omega))).mono ?_);rintro e u2 ⟨B5,n5,c5,rfl,hv5,d⟩;have dg:=un (ci.o.below d);have fx:=un (ch.o.below d);have bo:=un (show VecS u2 u1 (B5,n5,c5) (zly ru (-(z/A)) rc)from hv5);have fF:=zab d di;have gO:=zaa fF;have fI:=zab d dh;have gU:=zaa fI;have fL:=zab d dj;have gZ:=zaa fL;have hi:=zab d ft;have hl:=zab d fu;have hv:=zab d fv;have uf:=dg.o.up.fro r;clear d hv5)
          (try go_wp2_with fail)
          refine shutOn f fun hHeld=>?_
          clear f K
          refine zaw [22,23] ?_;repeat refine tkE (hS:=hHeld) (h:=?_)
          refine zao ?_;refine zfQ (i:=24) (v:=?_) rfl (by kernel_rfl) (fun _ _ _ h=>h) (Or.inl ⟨by rfl,?_⟩) ?_
          rotate_left
          ·((intro w ep;(try dsimp only at ep);go_simp);(try with_reducible rfl))
          try simp only[Act.put,pu1,pu2,pu3,pu4,pu5,pu6]
          refine zaw [25] ?_;repeat refine tkE (hS:=hHeld) (h:=?_)
          refine zao ?_;refine zba (h:=fun K f=>?_);go_simp;refine shutOff f ?_;clear f K
          refine za1 (h:=?_);go_wp2;go_roundw
          case rel =>
           obtain rfl:n5=n:=by rw[bo.o.len,zdt bb.o,be.o]
           have hV:=bo.o.base (Zc ch.o.le ch.o.b.size);have hk:r<({ G with lo:=G.lo.set r (rl.set c (z/A)) }:LUv).up.length:=by show r<G.up.length;rw[dz.o];omega
           have Z:=LuP.putU dg.o hk hV (B:=u1.heap.size) (fun g hg=>(bo.o.lt hg).1) (fun a ha g hg=>LuP.ltL ci.o a ha g hg) (fun a ha g hg=>LuP.ltU ci.o a ha g hg);have hW:=fx.o.set (o:=r) dS.o (B5,n5,c5);exact⟨r+1,t+1,_,aT,_,by go_num,by have:=HR.o;omega,rfl,by omega,by rw[←dJ.o];exact Z,hW⟩
          case measure=>simp[intOf];omega
      ·obtain rfl:n=r:=by omega
       have HR:=un hr;have HG:=un hG;clear hr hG;have bj:=un l;have bp:=un d;obtain⟨aR,_,_,_,aS,_⟩:=bf4 l.blk;clear l d;go_wp2;go_ret
       exact .inl ⟨by rw[HF.o];omega,rfl,by rw[HF.o,zxH D.o,show n-(c+1)=t by have:=HR.o;omega,←HG.o];exact⟨_,_,_,_,_,_,_,_,bj.o⟩,bp.o.b⟩
  ·obtain rfl:k=n:=by omega
   have HF:=un (zl3 (up:=F.up) (c:=c) (k-c) c fun j h1 h2=>HT.o j h1 (by omega));have dm:=un (HP.o.below y);have a2:=un (BB.o.trans ((y).mono BB.o.size));have a3:=zab y k0;have fh:=zaa a3;have a4:=zab y k1;have fi:=zaa a4;have a5:=zab y k2;have fj:=zaa a5;clear y;go_wp2;go_ret
   exact .inr ⟨by rw[HF.o];omega,rfl,a2.o.mono HH.o⟩
