/- Contracts and lemmas: LuStep. Conditions: as each says. -/
import Derived.Test.YtbpjabgfcbjjmaaGreatVec4Yn
import Derived.Test.YtbpjabgfcbjjmaaGreatSiegYn
import Derived.BigRegion
set_option linter.all false
set_option maxHeartbeats 8000000
set_option maxRecDepth 100000
namespace Go.Proofs.YtbpjabgfcbjjmaaGreat
open Go.RowKit Am
attribute [local go_sem ↓] Go.wp_at_zero Go.wp_at_succ
variable {F:LUv}{b c i j k n:Nat}{w:World}
def zzc (w:World) (H q n c k:Nat) (F:LUv) (e:Ending) (w':World):Prop :=
  (k<n/\e=.returned true/\LuQ w' H q n (F.step c k)/\Below H w w')\/(k=n/\e=.returned false/\Below H w w')
def swF (F:LUv) (c k:Nat):LUv:=⟨sw F.lo c k [],sw F.up c k [],sw F.perm c k 0,if c=k then F.odd else !F.odd⟩
def zqD{α:Type}{L:List α}{d:α}:sw L i i d=L:=by unfold sw;apply Xf;grind
def zxJ(F:LUv)(c:Nat):swF F c c=F:=by unfold swF;rw[zqD,zqD,zqD,if_pos rfl]
def zDP(s:Sq n F)(hc:c<n)(hk:k<n):Sq n (swF F c k):=by
 refine⟨by show(sw F.lo c k []).length=n;rw[zja,s.ll],λi hi=>?_,by show(sw F.up c k []).length=n;rw[zja,s.ul],λi hi=>?_,by show(sw F.perm c k 0).length=n;rw[zja,s.pl]⟩;show((sw F.lo c k []).getD i []).length=n
 rw[zgp (by rw[s.ll];exact hc) (by rw[s.ll];exact hk)];exact s.lr _ (zlp hc hk hi);show((sw F.up c k []).getD i []).length=n
 rw[zgp (by rw[s.ul];exact hc) (by rw[s.ul];exact hk)];exact s.ur _ (zlp hc hk hi)
def zru{up:List (List Rat)}{c k:Nat}(hk:en up k c≠0):∀(f s:Nat),s<=k->k<s+f->(∀j,s<=j->j<k->en up j c=0)->zeg up c f s=k
 | 0,s,h1,h2,_=>ω
 | f+1,s,h1,h2,hz=>by unfold zeg;by_cases e:s=k;subst e;rw[if_neg hk];rw[if_pos (hz s (Za _) ω)];exact zru hk f (s+1) ω ω λj a b=>hz j ω b
def zl3{up:List (List Rat)}{c:Nat}:∀(f s:Nat),(∀j,s<=j->j<s+f->en up j c=0)->zeg up c f s=s+f
 | 0,_,_=>rfl
 | f+1,s,hz=>by unfold zeg;rw[if_pos (hz s (Za _) ω),zl3 f (s+1) λj a b=>hz j ω ω];omega
def bsw{c:World}{H:Nat}(h:Below H w c)(a:H<=b)(i j:Nat)(x y:Value):Below H w (((c.setCell ⟨b,i,none⟩ x).setCell ⟨b,j,none⟩ y).drew) :=
 zhk ((h.setCell (p:=⟨b,i,none⟩) a x).setCell (p:=⟨b,j,none⟩) a y) 1
def zu0{T:Nat}{v:List Rat}(a:v.length=n)(h:∀i,i<n->mw (el v i)<=T):∀x∈v,mw x<=T:=by grind[List.mem_iff_getElem?,znd,List.getElem?_eq_some_iff]
def zwi{a:Nat}{o:Obj}(h:w.heap[a]? = some o)(c:a≠b)(u v x:Value):(((w.setCell ⟨b,i,none⟩ u).setCell ⟨b,j,none⟩ v).setCell ⟨b,k,none⟩ x).drew.heap[a]? = some o:=by
 show(((w.setCell ⟨b,i,none⟩ u).setCell ⟨b,j,none⟩ v).setCell ⟨b,k,none⟩ x).heap[a]? = some o
 rw[ZE _ _ _ _ c,ZE _ _ _ _ c,ZE _ _ _ _ c];exact h
def zxz{cs:Array Value}{g:Bool}{s d:Value}{q:Rat}(h:RatS w g s d q)(a:θ w b cs 62)(u v x:Value) :
  RatS (((w.setCell ⟨b,i,none⟩ u).setCell ⟨b,j,none⟩ v).setCell ⟨b,k,none⟩ x) g s d q :=
 ((h.tk (TKeep.set (o:=i) a u) δ).tk (TKeep.set (o:=j) (zar u a) v) δ).tk (TKeep.set (o:=k) (zar v (zar u a)) x) δ
def zIe(w:World)(b i j k:Nat)(u v x:Value):w.heap.size<=(((w.setCell ⟨b,i,none⟩ u).setCell ⟨b,j,none⟩ v).setCell ⟨b,k,none⟩ x).drew.heap.size:=by simp_all
def zxN(F:LUv)(c k:Nat):({ swF F c k with lo:=(swF F c k).lo.set c (((swF F c k).lo.getD c []).set c ((1:Int):Rat)) }:LUv)=clr (F.turn c k) c 0:=rfl
def zus{u t:Nat}{G:LUv}{r:Nat}(g:Sq n F)(hc:c<n)(hk:k<n)(v:LUsz mw n u F)(m:en F.up k c≠0)(B:G=clr (F.turn c k) c t)(hr:r=c+1+t)(b:r<n) :
  ∃(d rc rl:List Rat) (i f:Rat),(G.up[r]? = some d/\G.up[c]? = some rc/\G.lo[r]? = some rl)/\(d.length=n/\rc.length=n/\rl.length=n)/\(d[c]? = some i/\rc[c]? = some f)/\((∀q∈d,mw q<=u)/\(∀q∈rc,mw q<=u)/\mw i<=u/\mw f<=u)/\f≠0/\G.up.length=n /\
   ({ G with lo:=G.lo.set r (rl.set c (i/f)),up:=G.up.set r (zly d (-(i/f)) rc) }:LUv)=clr (F.turn c k) c (t+1):=by
 subst B hr;have s:=znV g hc hk;have a:=zC8 s hc t ω;have l:=zz5 s hc t b;have x:∀j,j<n->mw (en (clr (F.turn c k) c t).up (c+1+t) j)<=u:=λj hj=>by rw[l.1 j hj,zlo g hc hk];exact v.up _ (zlp hc hk b) j hj
 have y:∀j,j<n->mw (en (clr (F.turn c k) c t).up c j)<=u:=λj hj=>by rw[l.2 j hj,zlo g hc hk];exact v.up _ (zlp hc hk hc) j hj
 have C:en (clr (F.turn c k) c t).up c c≠0:=by rw[l.2 c hc,zlo g hc hk];unfold tw;grind
 have o:=a.ur _ b;have p:=a.ur _ hc;have z:((clr (F.turn c k) c t).up.getD (c+1+t) [])[c]? = some (en (clr (F.turn c k) c t).up (c+1+t) c):=zaH (by rw[o];exact hc);have A:((clr (F.turn c k) c t).up.getD c [])[c]? = some (en (clr (F.turn c k) c t).up c c):=zaH (by rw[p];exact hc);exact⟨_,_,_,_,_,⟨zaO (by rw[a.ul];exact b),zaO (by rw[a.ul];exact hc),zaO (by rw[a.ll];exact b)⟩,⟨o,p,a.lr _ b⟩,⟨z,A⟩,⟨zu0 o x,zu0 p y,x c hc,y c hc⟩,C,a.ul,(zwC _ _ _).symm⟩
structure Bel0 (H:Nat) (w w':World):Prop where
  le:H<=w.heap.size
  b:Below H w w'
namespace Bel0
variable {w w' w1:World} {H:Nat}
def below(h:Bel0 H w w1)(a:Below w1 w1 w'):Bel0 H w w':=⟨h.le,h.b.trans (a.mono (Zf h.le h.b.size))⟩
def alloc(h:Bel0 H w w1)(o:Obj):Bel0 H w (w1.alloc o):=h.below (zae _ o)
def drew(h:Bel0 H w w1):Bel0 H w w1.drew:=h.below (zap _ 1)
theorem set(h:Bel0 H w w1){o:Nat}(a:H<=b)(u:Value):Bel0 H w (w1.setCell ⟨b,o,none⟩ u):=⟨h.le,h.b.setCell (p:=⟨b,o,none⟩) a u⟩
def set3(h:Bel0 H w w1)(a:H<=b)(u v x:Value):Bel0 H w (((w1.setCell ⟨b,i,none⟩ u).setCell ⟨b,j,none⟩ v).setCell ⟨b,k,none⟩ x):=by grind[set]
end Bel0
namespace Lu
def step(H q n u c:Nat)(F:LUv)(w:World)(hF:LuQ w H q n F)(hs:Sq n F)(x:n<=64)(hc:c<n)(hz:LUsz mw n u F)(hu:1<=u)(hL:24*u+8<=LIM) :
  Calls Tryz.prog 193 #[.pointer (some ⟨q,0,none⟩),(c:Int)] w (zzc w H q n c (zeg F.up c (n-c) c) F):=by
 obtain⟨lb,lc,ll,ub,uc,ul,pb,pc,Z⟩:=hF;refine μ6 hs x hc hL hz (show H<=w.heap.size from Zf Z.own (Xm Z.qlt)) λD HN a8 ct dP HH=>?_;have gs:n<=9223372036854775807:=ω;have gi:(0:Int)<=(c:Int):=Zg _;have gj:(c:Int)<(n:Int):=ω;have HP:=un Z;obtain⟨k0,gt,_,_,k1,gu,_,_,k2,gv,_⟩:=bf4 Z.blk;clear Z hs x hc hz hu hL;go_enter Tryz.func193,Tryz.ntmps193;go_wp2;have BB:=un (Zl w.heap.size w)
 go_loopw [5] (λi wr=>∃k:Nat,i=.int .i64 k/\c<=k/\k<=n/\Below w w wr/\∀j,c<=j->j<k->en F.up j c=0)
  (λi _=>n-(intOf i).toNat)
 case atStart=>exact⟨c,rfl,Za _,Xm a8.o,Zl _ _,λj h1 h2=>absurd h1 ω⟩
 obtain⟨k,rfl,eu,hk,y,hT⟩:=hrel;have HT:=un hT;clear hT;by_cases aO:k<n
 ·have aP:F.up[k]? = some (F.up.getD k []):=zaO (by rw[D.o.ul];exact aO);have ab:=D.o.ur k aO;have bI:en F.up k c=el (F.up.getD k []) c:=rfl;generalize F.up.getD k []=rw_ at aP ab bI;have ah:=zaH (xs:=rw_) (j:=c) ω;rw[<-bI]at ah;obtain⟨Ak,ck,bO,r0,aN⟩:=(HP.o.up.below y).at_ aP;rw[ab]at r0 aN bO;obtain⟨br,rfl,_,_⟩:=aN.has ω;obtain⟨gl,Al,ml,cl,Dl,bQ,bs,y0,y1,y2,cN⟩:=aN.at_ ah;have dk:=un (HP.o.below y)
  have HQ:=un (show RatS wr gl (Al,ml,cl) (Dl,bQ,bs) (en F.up k c)from cN);have a1:=un (BB.o.trans ((y).mono BB.o.size));have a2:=zab y k0;have ff:=zaa a2;have a3:=zab y k1;have fg:=zaa a3;have a4:=zab y k2;have fh:=zaa a4;have dj:χ wr ub k (br,n,ck):=r0;have gZ:=zaa dj;have hA:χ wr br (c*3) (.bool gl):=y0;have hC:χ wr br (c*3+1) (Al,ml,cl):=y1;have hD:χ wr br (c*3+2) (Dl,bQ,bs):=y2;have fR:=un bO;have cw:=un aP;clear y aP ab bI ah aN cN bO r0 y0 y1 y2;have gm:(0:Int)<=(k:Int):=Zg _;have gn:(k:Int)<(n:Int):=ω;go_wp2_with fail
  with_reducible refine(Rt.zero gl Al ml cl Dl bQ bs (en F.up k c) _ HQ.o).mono ?_
  rintro e w1 ⟨rfl,d⟩;have Q:=un (dk.o.below d);have ce:=un (a1.o.trans ((d).mono a1.o.size));have fK:=zab d a2;have gJ:=zaa fK;have fL:=zab d a3;have gP:=zaa fL;have fM:=zab d a4;have gU:=zaa fM;have fN:=zab d dj;have g0:=zaa fN;clear d;by_cases aa:en F.up k c=0
  ·have hz:zr (en F.up k c)=true:=ZG aa;have HF:=un (show ∀j,c<=j->j<k+1->en F.up j c=0 from λj h1 h2=>by by_cases e:j=k;rw[e];exact aa;exact HT.o j h1 ω)
   clear aa;go_wp2;go_roundw
   case rel=>exact⟨k+1,by go_num,ω,ω,ce.o,HF.o⟩
   case measure=>simp[intOf];omega
  have hz:zr (en F.up k c)=false:=ZJ aa;have HF:=un (zru aa (n-c) c eu ω λj h1 h2=>HT.o j h1 h2);have dM:=un aa;clear aa;go_upto_if 41 with fail
  go_cut[] (λwy=>∃W P,LuP wy H q n lb lc W ub uc P pb pc (swF F c k)/\Below H w wy)
  case first=>as_aux_lemma =>
   by_cases bJ:k=c
   ·obtain rfl:c=k:=bJ.symm;go_wp2;go_meet
    case rel=>exact⟨ll,ul,by rw[zxJ];exact Q.o,ce.o.mono HH.o⟩
   have gr:(c:Int)<(k:Int):=ω;have dE:=un bJ;clear bJ;have bG:F.up[c]? = some (F.up.getD c []):=zaO (by rw[D.o.ul];omega);have U:F.lo[c]? = some (F.lo.getD c []):=zaO (by rw[D.o.ll];omega);have bC:F.lo[k]? = some (F.lo.getD k []):=zaO (by rw[D.o.ll];omega);have bE:F.perm[c]? = some (F.perm.getD c 0):=zaO (by rw[D.o.pl];omega);have bF:F.perm[k]? = some (F.perm.getD k 0):=zaO (by rw[D.o.pl];omega);generalize F.up.getD c []=rUc at bG;generalize F.lo.getD c []=rLc at U;generalize F.lo.getD k []=rLk at bC;generalize F.perm.getD c 0=fi at bE;generalize F.perm.getD k 0=fj at bF;refine μ5 bG U bC bE bF λcp az cm cn co=>?_;clear bG U bC bE bF;refine μ3 (Q.o.ubge ω) (Q.o.lbge ω) (Q.o.pbge ω) λdQ dF dJ=>?_;obtain⟨aA,ac,al,a0,_⟩:=Q.o.up.at_ cp.o;have fY:=zaa a0;have af:=Q.o.up.fro c;obtain⟨bA,bc,bl,b0,_⟩:=Q.o.up.at_ cw.o;have bf:=Q.o.up.fro k;have HA:=un (And.intro al bl);clear al bl;go_wp2;go_cut[] (λwy=>∃P,LuP wy H q n lb lc ll ub uc P pb pc { F with up:=sw F.up c k [] }/\Below H w wy)
   case first=>as_aux_lemma =>
    refine zaS (S:=λw'=>χ w' q 1 (ub,n,uc)/\χ w' ub c (aA,rUc.length,ac)/\χ w' ub k (bA,rw_.length,bc)) [25,26,27] (h:=λhHeld=>?_);refine zaw [0,1,2,3,4] ?_;repeat refine tkL hHeld ?_
    refine zao ?_;refine zaw [5,6,7] ?_;repeat refine tkX (h:=?_)
    refine zao ?_;refine zaw [8] ?_;repeat refine tkL hHeld ?_
    refine zao ?_;refine zaw [9] ?_;repeat refine tkX (h:=?_)
    refine zao ?_;refine zaw [10,11,12,13,14,15,16] ?_;repeat refine tkL hHeld ?_
    refine zao ?_;refine zaw [17,18,19] ?_;repeat refine tkX (h:=?_)
    refine zao ?_;refine zaw [20] ?_;repeat refine tkL hHeld ?_
    refine zao ?_;refine zaw [21,22] ?_;repeat refine tkX (h:=?_)
    refine zao ?_;refine zaw [23,24] ?_;repeat refine tkL hHeld ?_
    refine zao ?_;refine zay 25 (h:=λK f=>?_);go_simp;refine shutOff f ?_;clear f K;refine zay 26 (h:=λK f=>?_);go_simp;refine shutOff f ?_;clear f K;refine zay 27 (h:=λK f=>?_);go_simp;refine shutOff f ?_;clear f K;refine zaM (h:=?_);go_wp2;go_meet
    case rel=>exact⟨_,(Q.o.swU HA.o.1 HA.o.2 cp.o cw.o).drew,bsw (ce.o.mono HH.o) dQ.o.1 _ _ _ _⟩
   rename World=>wa
   obtain⟨P,l,d⟩:=hcut;have ae:=un l;have dn:=un d;obtain⟨gw,_⟩:=bf4 ae.o.blk;obtain⟨dA,dc,dl,d0,Y⟩:=ae.o.lo.at_ az.o;have cD:=zaa d0;have df:=ae.o.lo.fro c;obtain⟨eA,ec,el,e0,_⟩:=ae.o.lo.at_ cm.o;have cF:=zaa e0;have ef:=ae.o.lo.fro k;have HD:=un (And.intro dl el);clear dl el Y l d;go_wp2;go_cut[] (λwy=>∃W,LuP wy H q n lb lc W ub uc P pb pc { F with up:=sw F.up c k [],lo:=sw F.lo c k [] }/\Below H w wy)
   case first=>as_aux_lemma =>
    refine zaS (S:=λw'=>χ w' q 0 (lb,n,lc)/\χ w' lb c (dA,rLc.length,dc)/\χ w' lb k (eA,rLk.length,ec)) [25,26,27] (h:=λhHeld=>?_);refine zaw [0,1,2,3,4] ?_;repeat refine tkL hHeld ?_
    refine zao ?_;refine zaw [5,6,7] ?_;repeat refine tkX (h:=?_)
    refine zao ?_;refine zaw [8] ?_;repeat refine tkL hHeld ?_
    refine zao ?_;refine zaw [9] ?_;repeat refine tkX (h:=?_)
    refine zao ?_;refine zaw [10,11,12,13,14,15,16] ?_;repeat refine tkL hHeld ?_
    refine zao ?_;refine zaw [17,18,19] ?_;repeat refine tkX (h:=?_)
    refine zao ?_;refine zaw [20] ?_;repeat refine tkL hHeld ?_
    refine zao ?_;refine zaw [21,22] ?_;repeat refine tkX (h:=?_)
    refine zao ?_;refine zaw [23,24] ?_;repeat refine tkL hHeld ?_
    refine zao ?_;refine zay 25 (h:=λK f=>?_);go_simp;refine shutOff f ?_;clear f K;refine zay 26 (h:=λK f=>?_);go_simp;refine shutOff f ?_;clear f K;refine zay 27 (h:=λK f=>?_);go_simp;refine shutOff f ?_;clear f K;refine zaM (h:=?_);go_wp2;go_meet
    case rel=>exact⟨_,(ae.o.swL HD.o.1 HD.o.2 az.o cm.o).drew,bsw dn.o dF.o.1 _ _ _ _⟩
   rename World=>wb
   obtain⟨W,l,d⟩:=hcut;have ag:=un l;have dp:=un d;clear l d;obtain⟨_,_,_,_,_,_,_,_,gx,_⟩:=bf4 ag.o.blk;have p0:=ag.o.perm.at_ cn.o;have gA:=zaa p0;have gB:=ag.o.perm.fro c;have p1:=ag.o.perm.at_ co.o;have gD:=ag.o.perm.fro k;go_wp2;go_cut[] (λwy=>LuP wy H q n lb lc W ub uc P pb pc { F with up:=sw F.up c k [],lo:=sw F.lo c k [],perm:=sw F.perm c k 0 }/\Below H w wy)
   case first=>as_aux_lemma =>
    refine zaS (S:=λw'=>χ w' q 2 (pb,n,pc)/\χ w' pb c (.int .i64 (fi:Int))/\χ w' pb k (.int .i64 (fj:Int))) [25,26,27] (h:=λhHeld=>?_);refine zaw [0,1,2,3,4] ?_;repeat refine tkL hHeld ?_
    refine zao ?_;refine zaw [5,6,7] ?_;repeat refine tkX (h:=?_)
    refine zao ?_;refine zaw [8] ?_;repeat refine tkL hHeld ?_
    refine zao ?_;refine zaw [9] ?_;repeat refine tkX (h:=?_)
    refine zao ?_;refine zaw [10,11,12,13,14,15,16] ?_;repeat refine tkL hHeld ?_
    refine zao ?_;refine zaw [17,18,19] ?_;repeat refine tkX (h:=?_)
    refine zao ?_;refine zaw [20] ?_;repeat refine tkL hHeld ?_
    refine zao ?_;refine zaw [21,22] ?_;repeat refine tkX (h:=?_)
    refine zao ?_;refine zaw [23,24] ?_;repeat refine tkL hHeld ?_
    refine zao ?_;refine zay 25 (h:=λK f=>?_);go_simp;refine shutOff f ?_;clear f K;refine zay 26 (h:=λK f=>?_);go_simp;refine shutOff f ?_;clear f K;refine zay 27 (h:=λK f=>?_);go_simp;refine shutOff f ?_;clear f K;refine zaM (h:=?_);go_wp2;go_meet
    case rel=>exact⟨(ag.o.swP cn.o co.o).drew,bsw dp.o dJ.o.1 _ _ _ _⟩
   rename World=>wd_
   obtain⟨l,d⟩:=hcut;have bg:=un l;have dq:=un d;clear l d;obtain⟨_,_,_,_,_,_,_,_,_,_,_,_,gy,_,gz,_⟩:=bf4 bg.o.blk;go_wp2;go_meet
   case rel=>exact⟨W,P,by unfold swF;rw[if_neg (λe=>dE.o e.symm)];exact bg.o.setO _,dq.o.setCell (p:=⟨q,3,none⟩) bg.o.own _⟩
  rename World=>wa
  obtain⟨W,P,l,d⟩:=hcut;have bh:=un l;have dr:=un (Bel0.mk (HH.o) d);clear l d;have cz:=un (zDP D.o a8.o aO);have U:(swF F c k).lo[c]? = some ((swF F c k).lo.getD c []):=zaO (by rw[cz.o.ll];omega);have bD:=cz.o.lr c ω;generalize hge:(swF F c k).lo.getD c []=rLc at U bD;have dx:=un hge;have az:=un U;obtain⟨dA,dc,dl,d0,Y⟩:=bh.o.lo.at_ U;rw[bD]at dl d0 Y;obtain⟨bd,rfl,er,f7⟩:=Y.has ω;have ah:=zaH (xs:=rLc) (j:=c) ω;obtain⟨gd,Ad,md,d5,Dd,eU,d6,e0,e1,e2,_⟩:=Y.at_ ah;have dt:=un dl;have du:=un Y;obtain⟨eC,_,_,_,eF,_⟩:=bf4 bh.o.blk;clear U bD hge dl Y ah;have eE:=zaa eC;have eH:=zaa eF;have cD:=zaa d0;have cF:=zaa e0;have d9:=zaa e1;have eb:=zaa e2;go_wp2_with fail
  refine za2 (S:=λw'=>χ w' q 0 (lb,n,lc)/\χ w' q 1 (ub,n,uc)/\χ w' lb c (bd,n,dc)/\χ w' bd (c*3) (.bool gd)/\χ w' bd (c*3+1) (Ad,md,d5)/\χ w' bd (c*3+2) (Dd,eU,d6)) 10 (h:=λhHeld=>?_);refine zaw [0,1,2,3,4,5,6,7] ?_;repeat refine tkE hHeld ?_
  refine zao ?_;refine zaN 8 (h:=λK f=>?_);go_simp;(go_at_call 30;(with_reducible refine(Rt.int 1 δ δ _).mono ?_);rintro e u1 ⟨g1,A1,m1,c1,D1,md1,cd1,rfl,x,d⟩;refine μ4 (bh.o.drew.below d) (du.o.drew.below d) (dr.o.drew.below d) (show RatS u1 g1 (A1,m1,c1) (D1,md1,cd1) ((1:Int):Rat)from x) λfu cf fx HI=>?_;have fB:=zab d eE;have gI:=zaa fB;have fE:=zab d eH;have gO:=zaa fE;have fH:=zab d cD;have gT:=zaa fH;have hy:=zab d cF;have hf:=zab d d9;have hj:=zab d eb;have eX:=cf.o.fro (c*3);have of1:=cf.o.fro (c*3+1);have eY:=cf.o.fro (c*3+2);clear x d);(try go_wp2_with fail);refine shutOn f λhHeld=>?_;clear f K;refine zaw [9] ?_;repeat refine tkE hHeld ?_
  refine zao ?_;refine zba (h:=λK f=>?_);go_simp;refine shutOff f ?_;clear f K;refine za1 (h:=?_);go_wp2
  go_loopw [6] (λrv wr=>∃(r t:Nat) (G:LUv) (aT b4:List Value),rv=(r:Int)/\r=c+1+t/\G=clr (F.turn c k) c t/\r<=n/\LuP wr H q n lb lc aT ub uc b4 pb pc G/\Bel0 H w wr)
   (λrv _=>n-(intOf rv).toNat)
  case atStart=>exact⟨c+1,0,_,W,P,by go_num,rfl,rfl,ω,by have hh:=fu.o.putL dt.o az.o c HI.o;rw[<-dx.o,zxN]at hh;exact hh,fx.o.set3 er _ _ _⟩
  rename World=>wz
  obtain⟨r,t,G,aT,b4,rfl,hr,hG,ht,l,d⟩:=hrel;by_cases ew:r<n
  ·obtain⟨ru,rc,rl,z,A,⟨bM,bL,ab⟩,⟨bN,cW,cX⟩,⟨cT,cU⟩,⟨cZ,c0,ez,eB⟩,cS,cP,cR⟩:=zus D.o a8.o aO dP.o dM.o hG hr ew;refine μ8 hr cR cS cP cZ c0 (show ru.length=rc.length by omega) bN λHR dI cu dy dX dY ba bb=>?_;have gh:c<r:=ω
   refine μ3 ab bM bL λdz dB dw=>?_;obtain⟨uA,da,b5,u0,uV⟩:=l.up.at_ bM;obtain⟨vA,db,fd,v0,vV⟩:=l.up.at_ bL;obtain⟨wA,dd,b6,w0,wV⟩:=l.lo.at_ ab;rw[bN]at u0 uV b5;rw[cW]at v0 vV;rw[cX]at w0 wV b6;obtain⟨R,rfl,f8,f9⟩:=uV.has ω;obtain⟨T,rfl,ge,gf⟩:=vV.has ω;obtain⟨J,rfl,et,gg⟩:=wV.has ω;obtain⟨ga,Aa,ma,ca,Da,aW,aG,y0,y1,y2,cL⟩:=uV.at_ cT;obtain⟨gb,Ab,mb,cb,Db,aX,aH,z0,z1,z2,cM⟩:=vV.at_ cU;have cV:=zaH (xs:=rl) (j:=c) ω;obtain⟨gc,Ac,mc,cc,Dc,c8,cC,t0,t1,t2,_⟩:=wV.at_ cV;have dS:=un b6;have fS:=un b5;obtain⟨aR,_,_,_,aS,_⟩:=bf4 l.blk;refine μ9 l d cL cM uV vV wV (show 4*(mw z+mw A)+8<=LIM by have:=ct.o;omega) (show mw (z/A)<=2*u by have:=zo5.div z A;omega) λbi bo cx cy fT fU dT L1 HX=>?_;clear cZ c0 ez eB bM bL ab bN cW cX cT cU cV b5 fd b6 cL cM uV vV wV l d hr hG cP cR cS ht;have eD:=zaa aR;have eG:=zaa aS;have fb:=zaa u0;have fc:=zaa v0;have fe:=zaa w0;have fk:=zaa y0;have fl:=zaa y1;have fm:=zaa y2;have fn:=zaa z0;have fo:=zaa z1;have fp:=zaa z2;have e8:=zaa t0;have e9:=zaa t1;have fa:=zaa t2;have gp:(0:Int)<=(r:Int):=Zg _;have gq:(r:Int)<(n:Int):=ω;go_wp2_with fail
   go_cut[7] (λs7 wx=>zcD wz s7 wx (z/A))
   case first=>as_aux_lemma =>
    refine zaS (S:=λw'=>χ w' q 0 (lb,n,lc)/\χ w' q 1 (ub,n,uc)/\χ w' ub r (R,n,da)/\χ w' ub c (T,n,db)/\χ w' lb r (J,n,dd)/\χ w' R (c*3) (.bool ga)/\χ w' R (c*3+1) (Aa,ma,ca)/\χ w' R (c*3+2) (Da,aW,aG)/\χ w' T (c*3) (.bool gb)/\χ w' T (c*3+1) (Ab,mb,cb)/\χ w' T (c*3+2) (Db,aX,aH)/\χ w' J (c*3) (.bool gc)/\χ w' J (c*3+1) (Ac,mc,cc)/\χ w' J (c*3+2) (Dc,c8,cC)) [25,26] (h:=λhHeld=>?_);refine zaw [0,1,2,3,4,5,6,7,8,9,10,11,12,13,14,15,16,17,18,19] ?_;repeat refine tkL hHeld ?_
    refine zao ?_;refine zme (i:=20) (j:=24) rfl rfl ξ (λK f=>?_) (λK f=>?_)
    ·skip
     go_simp;(go_at_call 159;(with_reducible refine(Rt.div ga Aa ma ca Da aW aG z gb Ab mb cb Db aX aH A _ (cx.o.drew) (cy.o.drew) cu.o L1.o).mono ?_);rintro e u1 ⟨N,E,C,L,I,O,M,rfl,x,d⟩;have HS:=un x;have ak:=un (show Below wz wz u1 from It.bdrew0' d);have m0:=zab d eD;have m1:=zab d eG;have m2:=zab d fb;have C:=zab d fc;have m4:=zab d fe;have m5:=zab d fk;have m6:=zab d fl;have m7:=zab d fm;have m8:=zab d fn;have m9:=zab d fo;have eJ:=zab d fp;have eK:=zab d e8;have eL:=zab d e9;have eM:=zab d fa;clear d x);(try go_wp2_with fail);refine shutOn f λhHeld=>?_;clear f K;refine zaw [21,22,23] ?_;repeat refine tkX (h:=?_)
     refine zao ?_;refine zaB 24 (h:=λK f=>?_);go_simp;refine shutOn f λhHeld=>?_;clear f K;refine zay 25 (h:=λK f=>?_);go_simp;refine shutOff f ?_;clear f K;refine zay 26 (h:=λK f=>?_);go_simp;refine shutOff f ?_;clear f K;refine zaM (h:=?_);go_wp2;go_meet
     case rel=>exact zcD.al (ak.o.alloc ak.o.size _) ak.o.size HS.o
    skip
    go_simp;refine shutOn f λhHeld=>?_;clear f K;refine zaB 20 (h:=λK f=>?_);go_simp;(go_at_call 159;(with_reducible refine(Rt.div ga Aa ma ca Da aW aG z gb Ab mb cb Db aX aH A _ (cx.o.alloc _ |>.drew) (cy.o.alloc _ |>.drew) cu.o L1.o).mono ?_);rintro e u1 ⟨N,E,C,L,I,O,M,rfl,x,d⟩;refine μ3 x (show Below wz wz u1 from(zae wz _).trans ((It.bdrew0' d).mono σ)) (zad d (show(wz.alloc (.cells #[false,(),()] 62)).drew.heap[wz.heap.size]? = _ from zal _ _ _)) λHS ak X=>?_;have m0:=zab d (show(wz.alloc (.cells #[false,(),()] 62)).drew.cell? _=_ from cell_al aR);have m1:=zab d (show(wz.alloc (.cells #[false,(),()] 62)).drew.cell? _=_ from cell_al aS);have m2:=zab d (show(wz.alloc (.cells #[false,(),()] 62)).drew.cell? _=_ from cell_al u0);have C:=zab d (show(wz.alloc (.cells #[false,(),()] 62)).drew.cell? _=_ from cell_al v0);have m4:=zab d (show(wz.alloc (.cells #[false,(),()] 62)).drew.cell? _=_ from cell_al w0);have m5:=zab d (show(wz.alloc (.cells #[false,(),()] 62)).drew.cell? _=_ from cell_al y0);have m6:=zab d (show(wz.alloc (.cells #[false,(),()] 62)).drew.cell? _=_ from cell_al y1);have m7:=zab d (show(wz.alloc (.cells #[false,(),()] 62)).drew.cell? _=_ from cell_al y2);have m8:=zab d (show(wz.alloc (.cells #[false,(),()] 62)).drew.cell? _=_ from cell_al z0);have m9:=zab d (show(wz.alloc (.cells #[false,(),()] 62)).drew.cell? _=_ from cell_al z1);have eJ:=zab d (show(wz.alloc (.cells #[false,(),()] 62)).drew.cell? _=_ from cell_al z2);have eK:=zab d (show(wz.alloc (.cells #[false,(),()] 62)).drew.cell? _=_ from cell_al t0);have eL:=zab d (show(wz.alloc (.cells #[false,(),()] 62)).drew.cell? _=_ from cell_al t1);have eM:=zab d (show(wz.alloc (.cells #[false,(),()] 62)).drew.cell? _=_ from cell_al t2);have dZ:=zac X.o 0;have d1:=zac X.o 1;have d2:=zac X.o 2;have fV:=zag X.o 0;have fW:=zag X.o 1;have fX:=zag X.o 2;simp only[Xd,Z8,XJ]at dZ d1 d2;clear d x);(try go_wp2_with fail);refine shutOn f λhHeld=>?_;clear f K;refine zaw [21,22,23] ?_;repeat refine tkX (h:=?_)
    refine zao ?_;refine zay 25 (h:=λK f=>?_);go_simp;refine shutOff f ?_;clear f K;refine zay 26 (h:=λK f=>?_);go_simp;refine shutOff f ?_;clear f K;refine zaM (h:=?_);go_wp2;go_meet
    case rel=>exact zcD.of (((ak.o.setCell (p:=⟨wz,0,none⟩) (Za _) _).setCell (p:=⟨wz,1,none⟩) (Za _) _).setCell (p:=⟨wz,2,none⟩) (Za _) _) (Za _) X.o HS.o
   rename World=>wx
   obtain⟨s,N,E,C,L,I,O,M,rfl,m,eq,V,an⟩:=hcut;refine μ5 V an (bi.o.below m) (bo.o.below m) (dT.o.below m) λdD cv fw fy a5=>?_;have fC:=zab m aR;have gK:=zaa fC;have fF:=zab m aS;have gQ:=zaa fF;have fI:=zab m u0;have gV:=zaa fI;have fz:=zab m v0;have gY:=zaa fz;have fA:=zab m w0;have g2:=zaa fA;have hl:=zab m y0;have ho:=zab m y1;have hv:=zab m y2;have hw:=zab m z0;have hx:=zab m z1;have hd:=zab m z2;have fq:=zab m t0;have gN:=zaa fq;have g5:=zab m t1;have g6:=zab m t2;have g7:χ wx s 0 (.bool N):=zac V 0;have g8:χ wx s 1 (E,C,L):=zac V 1;have g9:χ wx s 2 (I,O,M):=zac V 2;have eX:=a5.o.fro (c*3);have of1:=a5.o.fro (c*3+1);have eY:=a5.o.fro (c*3+2);have es:J≠s:=ω;clear m V an eq;go_wp2_with fail
   go_cut[] (λwy=>LuP wy H q n lb lc aT ub uc b4 pb pc { G with lo:=G.lo.set r (rl.set c (z/A)) }/\Bel0 H w wy/\θ wy s #[N,(E,C,L),(I,O,M)] 62/\RatS wy N (E,C,L) (I,O,M) (z/A)/\wx.heap.size<=wy.heap.size)
   case first=>as_aux_lemma =>
    refine za2 (S:=λw'=>χ w' q 0 (lb,n,lc)/\χ w' q 1 (ub,n,uc)/\χ w' ub r (R,n,da)/\χ w' ub c (T,n,db)/\χ w' lb r (J,n,dd)/\χ w' R (c*3) (.bool ga)/\χ w' R (c*3+1) (Aa,ma,ca)/\χ w' R (c*3+2) (Da,aW,aG)/\χ w' T (c*3) (.bool gb)/\χ w' T (c*3+1) (Ab,mb,cb)/\χ w' T (c*3+2) (Db,aX,aH)/\χ w' J (c*3) (.bool gc)/\χ w' J (c*3+1) (Ac,mc,cc)/\χ w' J (c*3+2) (Dc,c8,cC)/\χ w' s 0 (.bool N)/\χ w' s 1 (E,C,L)/\χ w' s 2 (I,O,M)) 10 (h:=λhHeld=>?_);refine zaw [0,1,2,3,4,5,6,7,8,9] ?_;repeat refine tkE hHeld ?_
    refine zao ?_;refine zba (h:=λK f=>?_);go_simp;refine shutOff f ?_;clear f K;refine za1 (h:=?_);go_wp2;go_meet;obtain⟨cs,ev⟩:=a5.o.ratBlk;exact⟨(fw.o.putL dS.o dz.o c cv.o).drew,(fy.o.set3 et _ _ _).drew,zwi dD.o (Z6 es) _ _ _,(zxz cv.o ev _ _ _).drew,zIe _ _ _ _ _ _ _ _⟩
   rename World=>wy
   obtain⟨l,d,V,an,_⟩:=hcut;refine μ4 l d V an λam dU a9 dN=>?_;obtain⟨pA,bS,pl,p0,pV⟩:=am.o.up.at_ dB.o;obtain⟨sA,bX,e7,s0,sV⟩:=am.o.up.at_ (show G.up[c]? = some rc from dw.o);rw[bb.o]at p0 pV;rw[<-ba.o,bb.o]at s0 sV;obtain⟨b1,rfl,_,_⟩:=pV.has ω;obtain⟨b2,rfl,_,_⟩:=sV.has ω;obtain⟨_,_,_,_,n1,_⟩:=bf4 am.o.blk;refine μ3 pV sV (am.o.ubge ω).1 λdK dO dR=>?_;have f0:=zac a9.o 0;have f1:=zac a9.o 1;have f2:=zac a9.o 2;have eV:χ wy q 1 (ub,n,uc):=n1;have eW:=zaa eV;have eZ:χ wy ub r (b1,n,bS):=p0;have e3:=zaa eZ;have e4:χ wy ub c (b2,n,bX):=s0;have e5:=zaa e4;have ed:χ wy s 0 (.bool N):=f0;have ee:=zaa ed;have eg:χ wy s 1 (E,C,L):=f1;have eh:=zaa eg;have ei:χ wy s 2 (I,O,M):=f2;have ej:=zaa ei;clear l d V an pV sV n1 p0 s0 f0 f1 f2 pl e7
   as_aux_lemma =>
    go_wp2_with fail
    refine za2 (S:=λw'=>χ w' q 1 (ub,n,uc)/\χ w' ub r (b1,n,bS)/\χ w' ub c (b2,n,bX)/\χ w' s 0 (.bool N)/\χ w' s 1 (E,C,L)/\χ w' s 2 (I,O,M)) 26 (h:=λhHeld=>?_);refine zaw [0,1,2,3,4,5,6,7,8,9,10,11,12,14,15,16,17,18,19,20] ?_;repeat refine tkE hHeld ?_
    refine zao ?_;refine zaN 13 (h:=λK f=>?_);go_simp;(go_at_call 91;(with_reducible refine(Rt.neg N E C L I O M (z/A) _ dN.o.drew).mono ?_);rintro e u1 ⟨g4,A4,m4,c4,D4,md4,cd4,rfl,x,d⟩;refine μ5 (am.o.drew.below d) (dU.o.drew.below d) (dK.o.drew.below d) (dO.o.drew.below d) (show RatS u1 g4 (A4,m4,c4) (D4,md4,cd4) (-(z/A))from x) λch cg fO fP dH=>?_;have dh:=zab d eW;have gL:=zaa dh;have dg:=zab d e3;have gR:=zaa dg;have di:=zab d e5;have gW:=zaa di;have fr:=zab d ee;have fs:=zab d eh;have ft:=zab d ej;clear x d);(try go_wp2_with fail);refine shutOn f λhHeld=>?_;clear f K;refine zaN 21 (h:=λK f=>?_);go_simp;(go_at_call 125;(with_reducible refine(Vc.addTimesS (2*u) (by have:=ct.o;omega) (some ⟨b1,0,none⟩) n bS ru g4 A4 m4 c4 D4 md4 cd4 (-(z/A)) (some ⟨b2,0,none⟩) n bX rc H H _ fO.o dH.o fP.o ba.o (by have:=HN.o;omega) (λq hq=>Zf (dX.o q hq) ω) (by rw[zhY];exact HX.o) (λq hq=>Zf (dY.o q hq) ω)).mono ?_);rintro e u2 ⟨B5,n5,c5,rfl,hv5,d⟩;refine μ3 (ch.o.below d) (cg.o.below d) (show VecS u2 u1 (B5,n5,c5) (zly ru (-(z/A)) rc)from hv5) λde fv bn=>?_;have fD:=zab d dh;have gM:=zaa fD;have fG:=zab d dg;have gS:=zaa fG;have fJ:=zab d di;have gX:=zaa fJ;have he:=zab d fr;have hi:=zab d fs;have hm:=zab d ft;have uf:=de.o.up.fro r;clear d hv5);(try go_wp2_with fail);refine shutOn f λhHeld=>?_;clear f K;refine zaw [22,23] ?_;repeat refine tkE hHeld ?_
    refine zao ?_;refine zfQ (i:=24) (v:=?_) rfl ξ (λ_ _ _ h=>h) (Or.inl ⟨by rfl,?_⟩) ?_
    rotate_left
    ·((intro w em;(try dsimp only at em);go_simp);(try with_reducible rfl))
    try simp only[Act.put,pu1,pu2,pu3,pu4,pu5,pu6]
    refine zaw [25] ?_;repeat refine tkE hHeld ?_
    refine zao ?_;refine zba (h:=λK f=>?_);go_simp;refine shutOff f ?_;clear f K;refine za1 (h:=?_);go_wp2;go_roundw
    case rel =>
     obtain rfl:n5=n:=by rw[bn.o.len,zdt ba.o,bb.o]
     have hV:=bn.o.base (Zf cg.o.le cg.o.b.size);have hk:r<({ G with lo:=G.lo.set r (rl.set c (z/A)) }:LUv).up.length:=by show r<G.up.length;rw[dy.o];omega
     have Z:=LuP.putU de.o hk hV (B:=u1.heap.size) (λg hg=>(bn.o.lt hg).1) (λa ha g hg=>LuP.ltL ch.o a ha g hg) (λa ha g hg=>LuP.ltU ch.o a ha g hg);have hW:=fv.o.set (o:=r) dR.o (B5,n5,c5);exact⟨r+1,t+1,_,aT,_,by go_num,by have:=HR.o;omega,rfl,ω,by rw[<-dI.o];exact Z,hW⟩
    case measure=>simp[intOf];omega
  obtain rfl:n=r:=ω;have HR:=un hr;have HG:=un hG;clear hr hG;have bi:=un l;have bo:=un d;obtain⟨aR,_,_,_,aS,_⟩:=bf4 l.blk;clear l d;go_wp2;go_ret;exact .inl ⟨by rw[HF.o];omega,rfl,by rw[HF.o,zxH D.o,show n-(c+1)=t by have:=HR.o;omega,<-HG.o];exact⟨_,_,_,_,_,_,_,_,bi.o⟩,bo.o.b⟩
 obtain rfl:k=n:=ω;refine μ3 (zl3 (up:=F.up) (c:=c) (k-c) c λj h1 h2=>HT.o j h1 ω) (HP.o.below y) (BB.o.trans ((y).mono BB.o.size)) λHF dk a1=>?_;have a2:=zab y k0;have ff:=zaa a2;have a3:=zab y k1;have fg:=zaa a3;have a4:=zab y k2;have fh:=zaa a4;clear y;go_wp2;go_ret;exact .inr ⟨by rw[HF.o];omega,rfl,a1.o.mono HH.o⟩
