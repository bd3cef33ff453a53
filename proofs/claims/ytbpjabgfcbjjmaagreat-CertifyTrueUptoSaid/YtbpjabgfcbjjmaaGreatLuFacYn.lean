/- Contracts and lemmas: LuFac BasF BasN Tb3 PrM. Conditions: as each says. -/
import Derived.Test.YtbpjabgfcbjjmaaGreatLuStepYn
import Derived.Test.YtbpjabgfcbjjmaaGreatMat4Yn
import Derived.Test.YtbpjabgfcbjjmaaGreatMat6Yn
import Derived.Test.YtbpjabgfcbjjmaaGreatBoolsYn
set_option linter.all false
set_option maxHeartbeats 8000000
set_option maxRecDepth 100000
namespace Go.Proofs.YtbpjabgfcbjjmaaGreat
open Go.RowKit Am Tryz
attribute [local go_sem ↓] Go.wp_at_zero Go.wp_at_succ
variable {F:LUv}{C L:List (List Rat)}{c n s:Nat}
def zsQ (w:World) (n:Nat) (L:List (List Rat)) (e:Ending) (w':World):Prop :=
  (∃(F:LUv) (q:Nat),zoN n L=some F/\e=.returned (.tuple #[.pointer (some ⟨q,0,none⟩),true])/\LuS w' w.heap.size q n F/\Below w w w') \/
  (zoN n L=none/\e=.returned (.tuple #[.pointer none,false])/\Below w w w')
structure Going (n s:Nat) (L:List (List Rat)) (c:Nat) (F:LUv):Prop where
  sq:Sq n F
  inv:LUinv n (en L) c F
  small:∀i,i<n->∀j,j<n->mw (en L i j)<=s
  eq:zsD n (n-c) c F=zoN n L
def Going.start{n s:Nat}{L:List (List Rat)}(a:L.length=n)(hr:∀r∈L,r.length=n)(b:∀i,i<n->∀j,j<n->mw (en L i j)<=s):Going n s L 0 (zg4 n L) :=
 ⟨zl6 a λi hi=>hr _ (Zj (zaO ω)),LUinv.start a λi hi=>hr _ (Zj (zaO ω)),b,rfl⟩
def Going.next(h:Going n s L c F)(hc:c<n)(hk:zeg F.up c (n-c) c<n):Going n s L (c+1) (F.step c (zeg F.up c (n-c) c)):=by
 obtain⟨a,_,_,b⟩:=ziG F.up c (n-c) c;refine⟨zqB h.sq hc hk,h.inv.step hc a hk (b ω),h.small,?_⟩;obtain⟨f,hf⟩:∃f,n-c=f+1:=⟨n-(c+1),ω⟩
 have e:zsD n (n-c) c F=zsD n f (c+1) (F.step c (zeg F.up c (n-c) c)):=by
  conv=>lhs;rw[hf];unfold zsD
  rw[if_neg ω]
 rw[<-h.eq,e,show n-(c+1)=f by omega]
def Going.stuck(h:Going n s L c F)(hc:c<n)(hk:zeg F.up c (n-c) c=n):zoN n L=none:=by rw[<-h.eq,show n-c=(n-(c+1))+1 by omega];unfold zsD;rw[if_pos hk]
def Going.done(h:Going n s L n F):zoN n L=some F:=by rw[<-h.eq,Xz];rfl
def LuS.base{w:World}{H b q n:Nat}{F:LUv}(h:LuS w H q n F)(a:b<=H):LuS w b q n F:=by obtain⟨⟨lA,lc,ll,uA,uc,ul,pA,pc,a1,a2,a3,a4,a5,a6,a7⟩,c,d⟩:=h;exact⟨⟨lA,lc,ll,uA,uc,ul,pA,pc,a1,a2.base a,a3,a4.base a,a5,a6,a7.base a⟩,Zf a c,d⟩
namespace Lu
def factor(n t:Nat)(R:OA)(l0:List Value)(L:List (List Rat))(E s:Nat)(w:World)(h:VecsL w E (R,n,t) l0 L)(Q:∀r∈L,r.length=n)(hn:n<=64)(zL:∀i,i<n->∀j,j<n->mw (en L i j)<=s)(ar:24*uB n s+8<=LIM) :
  Calls prog 184 #[.agg #[(R,n,t),(n:Int)]] w (zsQ w n L):=by
 refine μ5 hn Q h.nlen ar (Going.start h.nlen.symm Q zL) λx aY B aO ad=>?_;have bo:n<=9223372036854775807:=ω;obtain⟨W,C⟩:∃W,(w.alloc (.cells #[(R,n,t),(n:Int)] 112))=W:=⟨_,rfl⟩
 refine μ3 (show θ W w.heap.size #[(R,n,t),(n:Int)] 112by rw[<-C];exact zam σ) (show Below w w W by rw[<-C];exact zae w _) (show VecsL W E (R,n,t) l0 L by rw[<-C];exact(h).alloc _) λal BB HR=>?_;obtain⟨bA,bG,bB,bu⟩:=bc2 al.o;go_enter func184,ntmps184;go_wp2_with fail
 refine(Mt.rows n n t R _).mono ?_
 rintro e wa ⟨rfl,f⟩;refine μ3 (zad f al.o) (HR.o.below f) (BB.o.trans ((f).mono BB.o.size)) λaG bg aF=>?_;obtain⟨bx,bE,bz,bF⟩:=bc2 aG.o;go_wp2_with fail
 refine(Mt.cols n n t R _).mono ?_
 rintro e d ⟨rfl,f⟩;refine μ3 (zad f aG.o) (bg.o.below f) (aF.o.trans ((f).mono aF.o.size)) λaE bh ab=>?_;obtain⟨bC,bv,bD,bw⟩:=bc2 aE.o;go_wp2;have N:=un (ab.o.size)
 go_loopw [19] (λi wr=>∃(k:Nat) (lA:OA) (lc:Nat) (ll:List Value) (uA:OA) (uc:Nat) (ul:List Value) (pA:OA) (pc:Nat),i=.int .i64 k/\k<=n/\LuG wr d.heap.size d.heap.size n k k k lA lc ll uA uc ul pA pc (laid n L k)/\Below d d wr)
  (λi _=>n-(intOf i).toNat)
 case atStart=>exact⟨0,none,0,[],none,0,[],none,0,rfl,Zb _,LuG.start _ _ _,zae _ _⟩
 obtain⟨k,lA,lc,ll,uA,uc,ul,pA,pc,rfl,hk,l,o⟩:=hrel;by_cases A:k<n
 ·obtain⟨r,hr⟩:∃r,L[k]? = some r:=⟨L[k]'(by rw[<-B.o];exact A),Ze _⟩
  have ay:=aY.o r (Zj hr);obtain⟨_,_,_,_,q1,_⟩:=bf4 l.blk;refine μ4 (zad o aE.o) (bh.o.below o) (l) (Bel.mk o) λbe bd I HW=>?_;obtain⟨bH,_,bI,_⟩:=bc2 be.o;have bf:=q1;refine μ3 hr ay (o.size) λaf ag aM=>?_;have a7:(k:Int)<(n:Int):=ω;go_wp2_with fail
  refine(Mt.row n n t R l0 L E k r _ bd.o af.o ag.o x.o x.o).mono ?_
  rintro e w1 ⟨A2,c2,rfl,hv2,f⟩;refine μ3 (I.o.below f) (HW.o.below f) (hv2) λaa aI O=>?_;have bJ:=zab f bf;have aR:=un (show ∀g,(Value.slice A2 n c2).ownBlock=some g->(∀a∈ll,a.ownBlock≠some g)/\∀a∈ul,a.ownBlock≠some g from λg hg=>⟨λa y e=>by have h1:=(O.o.lt hg).1;have P:=(I.o.lo.lt y e).2;omega,λa y e=>by have h1:=(O.o.lt hg).1;have P:=(I.o.up.lt y e).2;omega⟩);go_upto_region 9 with fail
  go_cut[] (λwy=>∃(X:OA) (Y:Nat) (D:List Value),LuG wy d.heap.size d.heap.size n k (k+1) k lA lc ll X Y D pA pc { laid n L k with up:=(laid n L k).up++[r] }/\Bel d wy)
  case first=>as_aux_lemma =>
   go_wp2_with (at_builtin;refine zbW rfl _ _ rfl rfl (aa.o.alloc (.cells #[(A2,n,c2)] 30)).up rfl (zal _ _ _) ((O.o.base aM.o).alloc _) (n:=k) (by simp[laid];have:=B.o;omega) (by have:=x.o;omega) (by simp;have:=aI.o.b.size;omega) ?_;intro A3 c3 Z am T z au;refine μ5 am T au z (T.blk (aa.o.alloc (.cells #[(A2,n,c2)] 30)).blk δ) λaW aT aP aJ q=>?_;have z1:=zac q.o 1;have zf:=zag q.o 1;simp only[Xd,Z8,XJ]at z1)
   go_meet
   case rel=>exact⟨_,_,_,(aa.o.alloc (.cells #[(A2,n,c2)] 30)).pushU ω aW.o aT.o aP.o ag.o aR.o,⟨((aI.o.alloc (.cells #[(A2,n,c2)] 30)).b.trans aJ.o).setCell (p:=⟨d,1,none⟩) (Za _) _⟩⟩
  rename World=>wy
  obtain⟨X,Y,D,l,f⟩:=hcut;have J:=un l;have ai:=un f;obtain⟨r0,a9,_⟩:=bf4 l.blk;go_wp2_with fail
  go_cut[] (λwy=>∃(aA:OA) (lc':Nat) (aB:List Value),LuG wy d.heap.size d.heap.size n (k+1) (k+1) k aA lc' aB X Y D pA pc { laid n L k with up:=(laid n L k).up++[r],lo:=(laid n L k).lo++[List.replicate n 0] }/\Bel d wy)
  case first=>as_aux_lemma =>
   refine zaS (S:=λw'=>χ w' d 0 (lA,k,lc)) [11] (h:=λhHeld=>?_);refine zaw [0,1,2,3,4,5] ?_;repeat refine tkL hHeld ?_
   refine zao ?_;refine zaB 6 (h:=λK m=>?_);(refine zh5 rfl _ _ rfl n _ rfl rfl rfl (by have:=x.o;omega) ?_;intro Z az z;refine μ3 az (J.o.below (show Below wy.heap.size wy Z from It.bdrew0' z)) (ai.o.below (show Below wy.heap.size wy Z from It.bdrew0' z)) λa3 M ak=>?_;have s0:=zab z a9;have a5:=un (ai.o.b.size));refine shutOn m λhHeld=>?_;refine zaB 7 (h:=λK m=>?_);go_simp;refine shutOn m λhHeld=>?_;refine zaB 8 (h:=λK m=>?_);(refine zet rfl _ _ rfl rfl (M.o.alloc _).lo rfl (zal _ _ _) ((a3.o.base (show d.heap.size<=wy.drew.heap.size from a5.o)).alloc _) (n:=k) (by simp[laid]) (by have:=x.o;omega) (by simp;have:=ak.o.b.size;omega) ?_;intro A5 c5 w5 an U ap av;refine μ5 an U av ap (U.blk (M.o.alloc _).blk δ) λaX aU aQ aK q=>?_;have z0:=zac q.o 0;have zf:=zag q.o 0;simp only[Xd,Z8,XJ]at z0);refine shutOn m λhHeld=>?_;refine zaw [9] ?_;repeat refine tkX (h:=?_)
   refine zao ?_;refine zaw [10] ?_;repeat refine tkL hHeld ?_
   refine zao ?_;refine zay 11 (h:=λK m=>?_);go_simp;refine shutOff m ?_;refine zaM (h:=?_);go_wp2;go_meet;have aS:=un (show ∀g,(Value.slice (some ⟨wy.heap.size,0,none⟩) n n).ownBlock=some g->(∀a∈ll,a.ownBlock≠some g)/\∀a∈D,a.ownBlock≠some g from λg hg=>⟨λa y e=>by have h0:wy.heap.size=g:=(by injection hg);have P:=(J.o.lo.lt y e).2;omega,λa y e=>by have h0:wy.heap.size=g:=(by injection hg);have P:=(J.o.up.lt y e).2;omega⟩)
   case rel=>exact⟨_,_,_,(M.o.alloc (.cells #[.slice (some ⟨wy.heap.size,0,none⟩) n n] 30)).pushL ω ω aX.o aU.o aQ.o σ aS.o,⟨((ak.o.alloc (.cells #[.slice (some ⟨wy.heap.size,0,none⟩) n n] 30)).b.trans aK.o).setCell (p:=⟨d,0,none⟩) (Za _) _⟩⟩
  rename World=>wx
  obtain⟨aA,lc',aB,l,f⟩:=hcut;have u:=un l;have aj:=un f;obtain⟨s0,_,_,_,_,_,_,_,s2,_⟩:=bf4 l.blk;go_wp2_with (at_builtin;refine ziP rfl _ _ rfl rfl (u.o.alloc (.cells #[(k:Int)] 3)).perm rfl (zal _ _ _) (n:=k) (by simp[laid]) (by have:=x.o;omega) (by simp;have:=aj.o.b.size;omega) ?_;intro A6 c6 w6 ao V aq;refine μ4 ao V aq (V.blk (u.o.alloc (.cells #[(k:Int)] 3)).blk δ) λaZ aV aL q=>?_;have z2:=zac q.o 2;have zf:=zag q.o 2;simp only[Xd,Z8,XJ]at z2)
  go_roundw
  case rel=>exact⟨k+1,_,_,_,_,_,_,_,_,by go_num,ω,by have hh:=(u.o.alloc (.cells #[(k:Int)] 3)).pushP aZ.o aV.o;rw[<-zuY af.o];exact hh,((aj.o.alloc (.cells #[(k:Int)] 3)).b.trans aL.o).setCell (p:=⟨d,2,none⟩) (Za _) _⟩
  case measure=>simp[intOf];omega
 obtain rfl:k=n:=ω;have HQ:=un (show LuW wr d.heap.size d.heap.size k (zg4 k L)from by rw[<-zrB B.o.symm];exact l.toW (by rw[zrB B.o.symm];exact ad.o.sq));have aN:=un o;go_wp2
 go_loopw [61] (λi wr=>∃(c:Nat) (F:LUv),i=.int .i64 c/\c<=k/\LuW wr d.heap.size d.heap.size k F/\Going k s L c F/\Below d d wr)
  (λi _=>k-(intOf i).toNat)
 case atStart=>exact⟨0,_,rfl,Zb _,HQ.o,ad.o,aN.o⟩
 rename World=>wz
 obtain⟨c,F,rfl,hc,hq,hg,o⟩:=hrel;refine μ3 hq hg o λae v H=>?_;by_cases A:c<k
 ·have HU:=un (And.intro (show 1<=uB k s by unfold uB;omega) (v.o.inv.size zo5 hc v.o.small));have a7:(c:Int)<(k:Int):=ω
  go_wp2_with fail
  refine(Lu.step d.heap.size d.heap.size k (uB k s) c F _ (ae.o.1 ω) v.o.sq x.o A HU.o.2 HU.o.1 aO.o).mono ?_;rintro e w2 (⟨hk2,rfl,hq2,hb2⟩ | ⟨hk2,rfl,hb2⟩)
  ·refine μ3 (v.o.next A hk2) hq2 (H.o.trans hb2) λu a1 G=>?_;go_wp2;go_roundw
   case rel=>exact⟨c+1,_,by go_num,ω,⟨λ_=>a1.o,λh=>absurd h ω⟩,u.o,G.o⟩
   case measure=>simp[intOf];omega
  have u:=un (v.o.stuck A hk2);have G:=un (H.o.trans hb2);go_wp2;go_ret2
  exact .inr ⟨u.o,rfl,ab.o.trans (G.o.mono N.o)⟩
 obtain rfl:c=k:=ω;go_wp2;go_ret2
 exact .inl ⟨F,_,v.o.done,rfl,(ae.o.toS v.o.sq).base N.o,ab.o.trans (H.o.mono N.o)⟩
end Lu
def zCp (w:World) (H q n S:Nat) (C:List (List Rat)) (e:Ending) (w':World):Prop :=
  (CReg n C/\e=.returned true/\(∀tb:Option Nat,(∀g,tb=some g->g<w.heap.size)->zhf w' H q n S C tb)/\Below H w w'/\Kept TB none w w')\/(¬CReg n C/\e=.returned false/\Below w w w')
def zuy(h:CSq n C):∀r∈C,r.length=n:=λr hr=>by obtain⟨i,hi⟩:=Xh.1 hr;rw[<-getD_some (d:=[]) hi];exact h.col i (by rw[<-h.len];grind)
def zxM(h:CSq n C):∀r∈zcZ n C,r.length=n:=λr hr=>by obtain⟨i,_,rfl⟩:=ZH.1 hr;rw[ZK];exact h.len
def BasP.mk'{w:World}{H q S:Nat}{cA:OA}{cc:Nat}{lc:List Value}{v1 l:Value}{K ql:Nat}(hk:θ w q #[(cA,n,cc),v1,l] 246)(h:VecsL w H (cA,n,cc) lc C)(low:∀g,(Value.slice cA n cc).ownBlock=some g->g<K)
  (f:LuS w K ql n F) (hf:zoN n (zcZ n C)=some F) (d:CSq n C) (hr:CReg n C) (k:zhg mw n S C) (i:H<=q) (e:H<=K) :
  ∀tb:Option Nat,(∀g,tb=some g->g<K)->zhf ((w.setCell ⟨q,1,none⟩ (.pointer (some ⟨ql,0,none⟩))).setCell ⟨q,2,none⟩ ()) H q n S C tb:=by
 intro tb j;have c:TKeep 246 w (w.setCell ⟨q,1,none⟩ (.pointer (some ⟨ql,0,none⟩))):=TKeep.set hk _;have b:=zar (o:=1) (.pointer (some ⟨ql,0,none⟩)) hk;have k2:TKeep 246 (w.setCell ⟨q,1,none⟩ (.pointer (some ⟨ql,0,none⟩))) ((w.setCell ⟨q,1,none⟩ (.pointer (some ⟨ql,0,none⟩))).setCell ⟨q,2,none⟩ ()):=TKeep.set b _;have a:BasP ((w.setCell ⟨q,1,none⟩ (.pointer (some ⟨ql,0,none⟩))).setCell ⟨q,2,none⟩ ()) H q n S cA cc lc C K ql F C none 0 [] []:=by refine⟨?_,(h.tk c δ δ δ).tk k2 δ δ δ,low,(f.tk c δ δ δ δ δ).tk k2 δ δ δ δ δ,hf,EtasL.nil _ _,.nil d hr k,Zb _,i,e⟩;have:=zar (o:=2) () b;grind
 exact⟨cA,cc,lc,K,ql,F,C,none,0,[],[],a,a.ahead j⟩
namespace Bs
def factor(H q n S cc:Nat)(cA:OA)(lc:List Value)(C:List (List Rat))(v1 N:Value)(w:World)(hk:θ w q #[(cA,n,cc),v1,N] 246)(h:VecsL w H (cA,n,cc) lc C)(I:H<=q)(t:CSq n C)(x:n<=64)(y:zhg mw n S C)(v:24*uB n S+8<=LIM) :
  Calls prog 175 #[.pointer (some ⟨q,0,none⟩)] w (zCp w H q n S C):=by
 refine μ7 x t y v I hk h λr b s z l G m=>?_;have O:=(ZU.1 hk).1;have o:=un (show H<=w.heap.size by omega);obtain⟨M,_⟩:=bc3 hk;go_enter func175,ntmps175;go_wp2_with fail
 refine(matrix q n cc cA lc C H _ M m.o (zuy b.o) r.o).mono ?_;rintro e w1 ⟨A1,c1,l1,rfl,hv1,ha1,hb1⟩;have D:=un hv1;have c:=un hb1;go_wp2_with fail
 refine(Lu.factor n c1 A1 l1 (zcZ n C) w.heap.size S _ D.o (zxM b.o) r.o (λi hi j hj=>by rw[zeI hi (by rw[b.o.len];exact hj)];exact s.o j hj i hi) z.o).mono ?_;rintro e k (⟨F,ql,hF,rfl,hl,hb2⟩ | ⟨hF,rfl,hb2⟩)
 ·have hr:CReg n C:=by by_cases e:CReg n C;exact e;rw[zAZ b.o e]at hF;cases hF
  refine μ4 hr hF hl (c.o.trans (hb2.mono c.o.size)) λd A B a=>?_;have f:=un (zad a.o G.o);have E:=un (m.o.below a.o);have P:=c.o.size;obtain⟨_,_,_,_,Q,_,T,_,R,_,U,_⟩:=bf3 f.o;go_wp2;go_ret;have J:Kept TB none k (k.setCell ⟨q,1,none⟩ (.pointer (some ⟨ql,0,none⟩))):=Kept.set f.o δ _;have K:Kept TB none (k.setCell ⟨q,1,none⟩ (.pointer (some ⟨ql,0,none⟩))) ((k.setCell ⟨q,1,none⟩ (.pointer (some ⟨ql,0,none⟩))).setCell ⟨q,2,none⟩ ()):=Kept.set (zar _ f.o) δ _;exact .inl ⟨d.o,rfl,λtb L=>BasP.mk' f.o E.o (λg hg=>by have:=(m.o.own.lt g hg).2;omega) B.o A.o b.o d.o s.o l.o (by have:=o.o;omega) tb (λg hg=>by have:=L g hg;omega),((a.o.mono o.o).setCell (p:=⟨q,1,none⟩) l.o _).setCell (p:=⟨q,2,none⟩) l.o _,((Kept.of_below a.o).trans J).trans K⟩
 have hr:¬CReg n C:=λe=>by obtain⟨F,u,_⟩:=ziH b.o e;rw[hF]at u;cases u
 have d:=un hr;have a:=un (c.o.trans (hb2.mono c.o.size));go_wp2;go_ret;exact .inr ⟨d.o,rfl,a.o⟩
end Bs
end Go.Proofs.YtbpjabgfcbjjmaaGreat
namespace Go.Proofs.YtbpjabgfcbjjmaaGreat
open Go.RowKit Am Tryz
attribute [local go_sem ↓] Go.wp_at_zero Go.wp_at_succ
variable {A:List (List Rat)}{zs:List Int}{cols:List Nat}{ys:List Rat}{N j k m:Nat}
def zCq (w:World) (n S:Nat) (C:List (List Rat)) (e:Ending) (w':World):Prop :=
  (∃q,CReg n C/\e=.returned (.tuple #[.pointer (some ⟨q,0,none⟩),.nilIface])/\zjE w' w.heap.size q n S C/\Below w w w') \/
  (¬CReg n C/\e=.returned (.tuple #[.pointer none,.iface 93 (.int .i64 140)])/\Below w w w')
namespace Bs
def new(n F:Nat)(A:OA)(l0:List Value)(C:List (List Rat))(s S:Nat)(w:World)(h:VecsL w s (A,n,F) l0 C)(G:CSq n C)(N:n<=64)(P:zhg mw n S C)(J:24*uB n S+8<=LIM) :
  Calls prog 146 #[(A,n,F)] w (zCq w n S C):=by
 refine μ6 N G P J h h.nlen λu B ad X D m=>?_;have aq:n<=9223372036854775807:=ω;have al:decide ((64:Int)<(n:Int))=false:=by simp;omega
 have am:¬((64:Int)<(n:Int)):=ω;have an:((n:Int) != (n:Int))=false:=σ;go_enter func146,ntmps146;go_wp2
 go_loopw [11] (λi wr=>∃(k:Nat) (bA:OA) (bc_:Nat) (j:List Value),i=.int .i64 k/\k<=n/\θ wr w.heap.size #[(bA,k,bc_),.pointer none,()] 246/\VecsL wr w (bA,k,bc_) j (C.take k)/\Below w w wr)
  (λi _=>n-(intOf i).toNat)
 case atStart=>exact⟨0,none,0,[],rfl,Zb _,zal _ _ _,by rw[Vl];exact VecsL.nil _ _,zae _ _⟩
 obtain⟨k,bA,bc_,j,rfl,hk,l,c,d⟩:=hrel;by_cases M:k<n
 ·obtain⟨r,hr⟩:∃r,C[k]? = some r:=⟨C[k]'(by rw[<-m.o];exact M),Ze _⟩
  have O:=zuy B.o r (Zj hr);obtain⟨b0,rfl,_,_⟩:=D.o.has ω;obtain⟨q,y,_,y0,z⟩:=(D.o.below d).at_ hr;rw[O]at y0 z;refine μ3 (z) (c) (Bel.mk d) λf R HW=>?_;have aw:=y0;have ak:χ wr w 0 (bA,k,bc_):=zac l 0;have ai:=zaa ak;refine μ3 l hr (d.size) λx Z V=>?_;have ao:(0:Int)<=(k:Int):=Zg _;have ap:(k:Int)<(n:Int):=ω;go_wp2_with fail
  refine zaS (S:=λw'=>χ w' w 0 (bA,k,bc_)) [11] (h:=λhHeld=>?_);refine zaw [0,1,2,3,4,5] ?_;repeat refine tkL hHeld ?_
  refine zao ?_;refine zaB 6 (h:=λK a=>?_);go_simp;(go_at_call 108;(refine(Vc.copy q n y r s _ (f.o.drew) (by have:=u.o;omega)).mono ?_);rintro e u1 ⟨A2,c2,rfl,hv2,c⟩;refine μ4 (show VecS u1 wr.heap.size (A2,n,c2) r from hv2) (R.o.below (show Below wr.heap.size wr u1 from It.bdrew0' c)) (HW.o.below (show Below wr.heap.size wr u1 from It.bdrew0' c)) (zad (show Below wr.heap.size wr u1 from It.bdrew0' c) x.o) λab T E ae=>?_;have s0:=zab c ai);(try go_wp2_with fail);refine shutOn a λhHeld=>?_;refine zaB 7 (h:=λK a=>?_);go_simp;refine shutOn a λhHeld=>?_;refine zaB 8 (h:=λK a=>?_);(refine zet rfl _ _ rfl rfl (T.o.alloc (.cells #[(A2,n,c2)] 30)) rfl (zal _ _ _) ((ab.o.base V.o).alloc _) (n:=k) (by rw[ZI];have:=m.o;omega) (by have:=u.o;omega) (by simp;have:=E.o.b.size;omega) ?_;intro Q c5 w5 H L I ah;refine μ3 H I (L.blk (zak ae.o) δ) λY U o=>?_;have z0:=zac o.o 0;have zf:=zag o.o 0;simp only[Xd,Z8,XJ]at z0);refine shutOn a λhHeld=>?_;refine zaw [9] ?_;repeat refine tkX (h:=?_)
  refine zao ?_;refine zaw [10] ?_;repeat refine tkL hHeld ?_
  refine zao ?_;refine zay 11 (h:=λK a=>?_);go_simp;refine shutOff a ?_;refine zaM (h:=?_);go_wp2;go_roundw
  case rel=>exact⟨k+1,Q,c5,_,by go_num,ω,zar _ o.o,by rw[show C.take (k+1)=C.take k++[r]by rw[Xe,Z.o];rfl];exact Y.o.tk (TKeep.set o.o _) δ δ δ,((E.o.alloc _).b.trans U.o).setCell (p:=⟨w,0,none⟩) (Za _) _⟩
  case measure=>simp[intOf];omega
 obtain rfl:k=n:=ω;refine μ3 (show VecsL wr w (bA,k,bc_) j C by have h:=c;rw[m.o,XL]at h;rw[m.o];exact h) d l λW v x=>?_;go_wp2_with fail
 refine(factor w.heap.size w.heap.size k S bc_ bA j C _ _ _ x.o W.o (Za _) B.o u.o ad.o X.o).mono ?_;rintro e w2 (⟨hr,rfl,hs,hb2,_⟩ | ⟨hr,rfl,hb2⟩)
 ·refine μ3 hr (hs none (λg h=>by cases h)).toS (v.o.trans hb2) λf HS t=>?_;go_wp2;go_ret2
  exact .inl ⟨_,f.o,rfl,HS.o,t.o⟩
 have f:=un hr;have t:=un (v.o.trans (hb2.mono v.o.size));go_wp2;go_ret2
 exact .inr ⟨f.o,rfl,t.o⟩
end Bs
def EtasL.base{w:World}{H c:Nat}{v:Value}{l:List (Nat × Value)}{es:List (Nat × List Rat)}(h:EtasL w H v l es)(d:c<=H):EtasL w c v l es :=
 ⟨h.len,λk s e a b=>⟨(h.each k s e a b).1,(h.each k s e a b).2.base d⟩,zbu h.own d⟩
def zjE.base{w:World}{H b q n S:Nat}{C:List (List Rat)}(h:zjE w H q n S C)(a:b<=H):zjE w b q n S C:=by obtain⟨cA,cc,lc,K,ql,F,D,eA,ec,le,es,h⟩:=h;exact⟨cA,cc,lc,K,ql,F,D,eA,ec,le,es,h.blk,h.cols.base a,h.low,h.lu,h.fac,h.etas.base a,h.right,h.few,Zf a h.own,Zf a h.ownK⟩
def zhf.base{w:World}{H b q n S:Nat}{C:List (List Rat)}{tb:Option Nat}(h:zhf w H q n S C tb)(a:b<=H):zhf w b q n S C tb:=by obtain⟨cA,cc,lc,K,ql,F,D,eA,ec,le,es,h,c⟩:=h;exact⟨cA,cc,lc,K,ql,F,D,eA,ec,le,es,⟨h.blk,h.cols.base a,h.low,h.lu,h.fac,h.etas.base a,h.right,h.few,Zf a h.own,Zf a h.ownK⟩,c⟩
def zzi(h:cols[k]? = some j):bc A (cols.take (k+1))=bc A (cols.take k)++[zb4 A j]:=by unfold bc;rw[Xe,h,X8];rfl
def zqp(a:Basis m N A cols)(hk:cols[k]? = some j):(j:Int) ∉ (cols.map fun(x:Nat)=>(x:Int)).take k:=λh=>by
 obtain⟨i,hi⟩:=Xh.1 h;rw[Ys]at hi;split at hi
 rename_i hik;rw[Z1]at hi;cases e:cols[i]? with
 | none=>rw[e]at hi;cases hi
 | some x =>
  rw[e]at hi;injection hi with hi;have b:x=j:=by have g:((x:Nat):Int)=(j:Int):=hi;omega
  have c:=(ZF.1 e).1;have f:=(ZF.1 hk).1;have:=a.inj i k (by rw[<-a.len];exact c) (by rw[<-a.len];exact f) (by rw[getD_some (d:=0) e,getD_some (d:=0) hk,b]);omega
 cases hi
namespace Tb
def new(rA:OA)(rc:Nat)(lA:List Value)(bA:OA)(bc_:Nat)(kA:OA)(kc:Nat)(eA:OA)(ec m N S own:Nat)(A:List (List Rat))(b c:List Rat)(left:List Int)(tA:OA)(tc:Nat)(cols:List Nat)(L:Nat)(w:World)
  (hS:StdP w rA rc lA bA bc_ kA kc eA ec m N S A b c left) (hc:IntsS w L (tA,m,tc) cols) (a:Basis m N A cols) (ar:zor m S<=LIM) :
  Calls prog 92 #[.agg #[(rA,m,rc),(N:Int),(bA,m,bc_),(kA,N,kc),(own:Int),(eA,m,ec)],(tA,m,tc)] w λe w'=>∃(q:Nat) (a3:OA) (a4:Nat),e=.returned (.tuple #[.pointer (some ⟨q,0,none⟩),.nilIface])/\zhi w w' w.heap.size q rA rc lA bA bc_ kA kc eA ec m N S own A b c left a3 a4 cols/\Below w w w':=by
 refine μ3 a ar hS λf ai I=>?_;have bv:=hS.hm;have bo:=hS.hN;have U:=hc.form;have bp:tc<=9223372036854775807:=by have:=U.2.2.1;unfold maxLen at this;omega
 have bq:m<=tc:=U.2.1;have aK:=un (show zhg mw m S (bc A cols)from λj hj i hi=>by rw[ztZ (by rw[a.len];exact hj) (by rw[a.rect.len];exact hi)];exact hS.zen hi (a.lt j hj));clear ar a U;obtain⟨W,u⟩:∃W,(w.alloc (.cells #[(rA,m,rc),(N:Int),(bA,m,bc_),(kA,N,kc),(own:Int),(eA,m,ec)] 114))=W:=⟨_,rfl⟩
 refine μ4 (show θ W w.heap.size #[(rA,m,rc),(N:Int),(bA,m,bc_),(kA,N,kc),(own:Int),(eA,m,ec)] 114by rw[<-u];exact zam σ) (show Below w w W by rw[<-u];exact zae w _) (show StdP W rA rc lA bA bc_ kA kc eA ec m N S A b c left by rw[<-u];exact(hS).alloc _) (show IntsS W L (tA,m,tc) cols by rw[<-u];exact(hc).alloc _) λam BB HS HI=>?_;obtain⟨bJ,_,bK,_,bO,_,bT,_,bV,_,bE,_⟩:=bc6 am.o;clear hS hc;go_enter func92,ntmps92;go_wp2_with fail
 clear u;refine zaS (S:=λw'=>χ w' w 0 (rA,m,rc)/\χ w' w 1 (.int .i64 (N:Int))/\χ w' w 2 (bA,m,bc_)/\χ w' w 3 (kA,N,kc)/\χ w' w 4 (.int .i64 (own:Int))/\χ w' w 5 (eA,m,ec)) [] (h:=λhHeld=>?_);refine zaw [0,1,2,3] ?_;repeat refine tkL hHeld ?_
 refine zao ?_;refine zaB 4 (h:=λK l=>?_);go_simp
 (go_at_call 111;(refine(Mt.rows N m rc rA _).mono ?_);rintro e u1 ⟨rfl,hb⟩;refine μ4 (zad hb am.o) (HS.o.drew.below hb) (HI.o.drew.below hb) (BB.o.trans ((It.bdrew0' hb).mono BB.o.size)) λaz a9 a5 ay=>?_;obtain⟨bH,_,bI,_,bN,_,bU,_,bW,_,bF,_⟩:=bc6 az.o;clear hb)
 (try go_wp2_with fail)
 refine shutOn l λhHeld=>?_;clear l K;refine zaw [5,6,7,8,9,10,11] ?_;repeat refine tkL hHeld ?_
 refine zao ?_;refine zaB 12 (h:=λK l=>?_);go_simp
 (go_at_call 111;(refine(Mt.rows N m rc rA _).mono ?_);rintro e u2 ⟨rfl,hb⟩;refine μ4 (zad hb az.o) (a9.o.below hb) (a5.o.below hb) (ay.o.trans ((hb).mono ay.o.size)) λac aw Q C=>?_;obtain⟨bL,_,bM,_,bQ,_,bR,_,bS,_,bG,_⟩:=bc6 ac.o;clear hb)
 (try go_wp2_with fail)
 refine shutOn l λhHeld=>?_;clear l K;refine zaw [13,14] ?_;repeat refine tkL hHeld ?_
 refine zao ?_;refine zaM (h:=?_);go_wp2
 go_loopw [6,32] (λvs i wr=>∃(k:Nat) (s:OA) (t:Nat) (z:List Value),vs=(s,k,t)/\i=.int .i64 k/\k<=m/\VecsL wr u2 (s,k,t) z (bc A (cols.take k))/\Below u2 u2 wr)
  (λ_ i _=>m-(intOf i).toNat)
 case atStart=>exact⟨0,none,0,[],rfl,rfl,Zb _,VecsL.nil _ _,Zl _ _⟩
 obtain⟨k,s,t,z,rfl,rfl,hk,y,a⟩:=hrel;have aU:=un (show w.heap.size<=u2.heap.size from C.o.size);by_cases V:k<m
 ·obtain⟨j,hj⟩:∃j,cols[k]? = some j:=⟨cols[k]'(by rw[f.o.len];exact V),Ze _⟩
  have aZ:j<N:=by have:=f.o.lt k V;rw[getD_some (d:=0) hj]at this;exact this
  obtain⟨bt,rfl,_,_⟩:=Q.o.has ω;have p0:=(Q.o.below a).at_ hj;refine μ6 (zad a ac.o) (aw.o.below a) (Q.o.below a) (y) (Bel.mk a) (C.o.trans ((a).mono C.o.size)) λD P aa J HW F=>?_;obtain⟨bg,_,bh,_⟩:=bc6 D.o;have bP:χ wr bt k (.int .i64 (j:Int)):=p0;have R:=un (And.intro hj aZ);clear y a hj p0;have br:(0:Int)<=(k:Int):=Zg _;have bs:(k:Int)<(m:Int):=ω;have bu:(k:Int)<=(tc:Int):=ω;go_wp2_with fail
  refine(Mt.col N m rc rA lA A 0 j _ P.o.rows I.o.rl R.o.2 ω ω).mono ?_;rintro e w1 ⟨B,n1,c1,rfl,hv1,hb⟩;refine μ7 (zad hb D.o) (P.o.below hb) (aa.o.below hb) (J.o.below hb) (HW.o.below hb) (hv1) (F.o.trans ((hb).mono F.o.size)) λE ab Z ae bi HU G=>?_;obtain⟨bb,_,bd,_,bj,_,bk,_,bm,_,a6,_⟩:=bc6 E.o;clear hv1 hb;have T:=un (HW.o.b.size);go_wp2_with fail
  refine(Sl.has (some ⟨bt,0,none⟩) k tc ((cols.map fun(x:Nat)=>(x:Int)).take k) (j:Int) L _ (Z.o.toZ.cut ω)).mono ?_;rintro e w2 ⟨rfl,hb⟩;refine μ6 (zad hb E.o) (ab.o.below hb) (ae.o.below hb) (bi.o.below hb) (HU.o.below hb) (G.o.trans ((hb).mono G.o.size)) λad ax aB aD ba aA=>?_;obtain⟨be,_,bf,_,aC,_,bl,_,bn,_,a7,_⟩:=bc6 ad.o;clear hb;have hd:=ZJ (zqp f.o R.o.1);rw[hd];clear hd;go_wp2_with (at_builtin;refine zbW rfl _ _ rfl rfl (aB.o.alloc (.cells #[(B,n1,c1)] 30)) rfl (zal _ _ _) ((ba.o.base T.o).alloc _) (n:=k) (by rw[zx7,ZI,f.o.len];omega) ω (by simp;have:=aD.o.b.size;omega) ?_;intro A5 c5 w5 ao a0 ap aY;have aM:=un ao;have aF:=un ((aD.o.alloc (.cells #[(B,n1,c1)] 30)).b.trans ap);clear ao a0 ap aY)
  go_roundw
  case rel=>exact⟨k+1,A5,c5,_,rfl,by go_num,ω,by rw[zzi R.o.1];exact aM.o,aF.o⟩
  case measure=>simp[intOf];omega
 obtain rfl:m=k:=ω;have aS:=un (show cols.take m=cols by rw[<-f.o.len,XL]);rw[aS.o]at y;refine μ5 (zad a ac.o) (aw.o.below a) (Q.o.below a) (y) (C.o.trans ((a).mono C.o.size)) λD P aa J F=>?_;obtain⟨bg,_,bh,_⟩:=bc6 D.o;have T:=un (a.size);clear y a hk V;go_wp2_with fail
 refine(Bs.new m t s z (bc A cols) u2.heap.size S _ J.o f.o.sq ω aK.o (zC3 (ziY ai.o))).mono ?_;rintro e O (⟨qb,hr,rfl,hs,hb⟩ | ⟨hr,rfl,hb⟩)
 ·refine μ7 hs (zad hb D.o) (P.o.below hb) (aa.o.below hb) (J.o.below hb) (show zjE O wr.heap.size qb m S (bc A cols)from hs) (F.o.trans ((hb).mono F.o.size)) λah E ab Z ae aI G=>?_;obtain⟨bb,_,bd,_,bj,_,bk,_,bm,_,a6,_⟩:=bc6 E.o;clear hr hs hb;go_wp2_with fail
  refine zaS (S:=λw'=>χ w' w 0 (rA,m,rc)/\χ w' w 1 (.int .i64 (N:Int))/\χ w' w 2 (bA,m,bc_)/\χ w' w 3 (kA,N,kc)/\χ w' w 4 (.int .i64 (own:Int))/\χ w' w 5 (eA,m,ec)) [] (h:=λhHeld=>?_);refine zaw [0,1,3] ?_;repeat refine tkL hHeld ?_
  refine zao ?_;refine zaB 2 (h:=λK l=>?_);go_simp;(go_at_call 115;(refine(Sl.clone tA m tc (cols.map fun(x:Nat)=>(x:Int)) L _ (Z.o.drew.toZ) ω).mono ?_);rintro e r ⟨T4,c4,rfl,hz,hb⟩;refine μ6 (zad hb E.o) (ab.o.drew.below hb) (ae.o.drew.below hb) (aI.o.drew.below hb) (show IntsS r O (.slice T4 (cols.map fun(x:Nat)=>(x:Int)).length c4) cols from hz.toS) (G.o.trans ((It.bdrew0' hb).mono G.o.size)) λad ax aB a8 aQ aA=>?_;obtain⟨be,_,bf,_,aC,_,bl,_,bn,_,a7,_⟩:=bc6 ad.o;have aG:=un hb;clear hb;clear hz);(try go_wp2_with fail);refine shutOn l λhHeld=>?_;clear l K;refine zaw [4] ?_;repeat refine tkL hHeld ?_
  refine zao ?_;refine zaB 5 (h:=λK l=>?_);go_simp;refine shutOn l λhHeld=>?_;clear l K;refine zaw [6] ?_;repeat refine tkL hHeld ?_
  refine zao ?_;refine zaM (h:=?_);have aN:=un (show(cols.map fun(x:Nat)=>(x:Int)).length=m by rw[ZK,f.o.len]);rw[f.o.len];refine μ3 (show IntsS r O (T4,m,c4) cols by have h:=aQ.o;rw[aN.o]at h;exact h) (show wr.heap.size<=O.heap.size from ah.o.hle) (show Below w w r from aA.o) λaj aV H=>?_;have s2:χ (r.alloc (.cells #[(rA,m,rc),(N:Int),(bA,m,bc_),(kA,N,kc),(own:Int),(eA,m,ec),(T4,m,c4),.pointer (some ⟨qb,0,none⟩),()] 202)) w 2 (bA,m,bc_):=cell_al aC;refine μ4 (zal r #[(rA,m,rc),(N:Int),(bA,m,bc_),(kA,N,kc),(own:Int),(eA,m,ec),(T4,m,c4),.pointer (some ⟨qb,0,none⟩),()] 202) (a8.o.alloc (.cells #[(rA,m,rc),(N:Int),(bA,m,bc_),(kA,N,kc),(own:Int),(eA,m,ec),(T4,m,c4),.pointer (some ⟨qb,0,none⟩),()] 202)) ((((ah.o.drew.later (tb:=(Value.slice T4 m c4).ownBlock) (λg hg=>(aj.o.own.lt g hg).1)).below aG.o).alloc (.cells #[(rA,m,rc),(N:Int),(bA,m,bc_),(kA,N,kc),(own:Int),(eA,m,ec),(T4,m,c4),.pointer (some ⟨qb,0,none⟩),()] 202))) (ax.o.alloc (.cells #[(rA,m,rc),(N:Int),(bA,m,bc_),(kA,N,kc),(own:Int),(eA,m,ec),(T4,m,c4),.pointer (some ⟨qb,0,none⟩),()] 202)) λKT aJ aH aP=>?_;go_wp2_with fail
  refine(Bs.solve wr.heap.size qb m S S (bc A cols) bA bc_ b 0 _ aJ.o aP.o.B ω I.o.zb I.o.hS (ziY ai.o)).mono ?_;rintro e Y ⟨X6,n6,c6,rfl,hv6,hb⟩;have ak:=un hv6;have ag:=un hb;obtain rfl:m=n6:=by rw[ak.o.len,(zci f.o.sq f.o.reg b).2]
  have M:=un (zad hb KT.o);have aR:=un ((aj.o.alloc (.cells #[(rA,m,rc),(N:Int),(bA,m,bc_),(kA,N,kc),(own:Int),(eA,m,ec),(T4,m,c4),.pointer (some ⟨qb,0,none⟩),()] 202)).below hb);have t8:=zac M.o 8;have bB:=zag M.o 8;simp only[Xd,Z8,XJ]at t8;clear hv6 hb;go_wp2;have X:TKeep 202 Y (Y.setCell ⟨r,8,none⟩ (X6,m,c6)):=TKeep.set M.o _;have aq:Below w w (Y.setCell ⟨r,8,none⟩ (X6,m,c6)):=(H.o.trans (((zae r _).trans (ag.o.mono σ)).mono H.o.size)).setCell (p:=⟨r,8,none⟩) H.o.size _;have a1:=H.o.size;have bw:=aU.o;have bx:=T.o;have bz:=aV.o;refine Zi (v:=.tuple #[.pointer (some ⟨r,0,none⟩),.nilIface]) (by simp[results,results92,go_sem]) rfl ?_;refine⟨r.heap.size,T4,c4,rfl,⟨qb,X6,c6,?_,I.o,aq,Za _,(aR.o.base ω).tk X δ,((aH.o.below ag.o).base ω).tk X δ δ δ δ δ δ δ,?_,f.o,a1⟩,aq⟩;have:=zar (o:=8) (X6,m,c6) M.o;simpa using this;unfold za5;rw[f.o.len];exact(ak.o.base (by simp;omega)).tk X δ δ
 exact absurd f.o.reg hr
end Tb
def sgI (q:Rat):Int:=if q<0 then -1 else 1
def zUb(q:Rat):((sgI q:Int):Rat)=sgn q:=by unfold sgI sgn;split<;>rfl
theorem zTW(q:Rat):sgI q = -1\/sgI q=1:=by unfold sgI;split<;>simp
def bkL (zs:List Int) (ys:List Rat) (k:Nat):List Rat:=(List.range ys.length).map λi=>if i<k then ((zs.getD i 0:Int):Rat)*el ys i else el ys i
def zSJ(zs:List Int)(ys:List Rat)(k:Nat):(bkL zs ys k).length=ys.length:=by simp[bkL]
def zVQ(zs:List Int)(ys:List Rat):bkL zs ys 0=ys:=by apply Xf;intro i;unfold bkL;rw[Z1];grind[List.getElem?_range,zaH,List.getElem?_eq_none]
def zTv{i:Nat}(h:i<ys.length):(bkL zs ys k)[i]? = some (if i<k then ((zs.getD i 0:Int):Rat)*el ys i else el ys i):=by unfold bkL;rw[Z1,XH h];rfl
def zXf(h:k<ys.length):(bkL zs ys k).set k (((zs.getD k 0:Int):Rat)*el ys k)=bkL zs ys (k+1):=by
 apply Xf;intro i;rw[Xy];by_cases hi:i<ys.length;rw[zTv hi,zTv hi,zSJ];by_cases e:k=i;subst e;rw[if_pos rfl,if_pos h,if_pos ω];rw[if_neg e];by_cases a:i<k;rw[if_pos a,if_pos ω];rw[if_neg a,if_neg ω]
 simp_all[Xl,zSJ,if_neg]
def zUG (N m k:Nat):List Rat:=List.replicate N 0++(List.replicate k 1++List.replicate (m-k) 0)
def zVD(N m:Nat):zUG N m 0=List.replicate (N+m) 0:=by unfold zUG;simp_all
def zWG(N m:Nat):zUG N m m=zJG N m:=by unfold zUG zJG;simp
def zWI(h:k<m):(zUG N m k).set (N+k) 1=zUG N m (k+1):=by unfold zUG;rw[Yq,if_neg (by rw[ZQ];omega),ZQ,VI,Yq,if_neg (by rw[ZQ];omega),ZQ,Xz,show m-k=(m-(k+1))+1 by omega,Yu,List.set_cons_zero,Yi (n:=k),XU];rfl
def zWH(h:k<m):(zUG N m k)[N+k]? = some 0:=by unfold zUG;rw[ZN (by rw[ZQ];omega),ZQ,VI,ZN (by rw[ZQ];omega),ZQ,Xz,Z9,if_pos ω]
def zUR(N k:Nat):zKa N (k+1)=zKa N k++[N+k]:=by unfold zKa;rw[Yp,X8];rfl
def zUB(N m:Nat):zsn (N+m) N=zKc N m:=by unfold zsn zKc;rw[VI]
def zVK (w:World) (n:Nat) (xs:List Bool) (e:Ending) (w':World):Prop:=∃(A:OA) (c:Nat),e=.returned (A,n,c)/\BoolsS w' w (A,n,c) xs/\Below w w w'
namespace Pr
def pmay(rA:OA)(rc:Nat)(bA:OA)(bc_:Nat)(kA:OA)(kc:Nat)(eA:OA)(ec:Nat)(g:OA)(j m a own N:Nat)(w:World)(D:N<=a)(z:a<=64) :
  Calls prog 49 #[.agg #[(rA,m,rc),(a:Int),(bA,m,bc_),(kA,a,kc),(own:Int),(eA,m,ec),(g,m,j),(N:Int)]] w (zVK w a (zsn a N)):=by
 obtain⟨W,e⟩:∃W,(w.alloc (.cells #[(rA,m,rc),(a:Int),(bA,m,bc_),(kA,a,kc),(own:Int),(eA,m,ec),(g,m,j),(N:Int)] 118))=W:=⟨_,rfl⟩
 refine μ3 (show θ W w.heap.size #[(rA,m,rc),(a:Int),(bA,m,bc_),(kA,a,kc),(own:Int),(eA,m,ec),(g,m,j),(N:Int)] 118by rw[<-e];exact zam σ) (show Below w w W by rw[<-e];exact zae w _) (show w.heap.size+1<=W.heap.size by rw[<-e];simp) λf n u=>?_;obtain⟨_,_,_,_,_,_,aB,_⟩:=bc8 f.o;go_enter func49,ntmps49;go_wp2_with (at_make;go_must (refine zf8 rfl _ _ rfl a _ rfl rfl rfl ω W.heap.size rfl ?_;intro w1 q l;refine μ3 l (zad l f.o) (q) λr x s=>?_;obtain⟨_,_,_,_,_,_,_,_,_,_,_,_,_,_,Y,_⟩:=bc8 x.o))
 go_loopw [12] (λi wr=>∃k:Nat,i=.int .i64 k/\k<=N/\BoolsS wr W.heap.size (.slice (some ⟨W.heap.size,0,none⟩) a a) (zsn a k)/\Below W.heap.size W wr)
  (λi _=>N-(intOf i).toNat)
 case atStart=>exact⟨0,rfl,Zb _,by rw[zhU];exact s.o,r.o⟩
 obtain⟨k,rfl,hk,d,c⟩:=hrel;refine μ4 (zad c f.o) (d) (Bel.mk c) (n.o.trans ((c).mono n.o.size)) λv o t y=>?_;by_cases C:k<N
 ·have y0:=d.at_ (zrF (show k<a by omega));have E:=d.fro k;have A:(0:Int)<=(k:Int):=Zg _;have B:(k:Int)<(a:Int):=ω
  go_wp2;go_roundw
  case rel=>exact⟨k+1,by go_num,ω,by rw[<-zoQ (show k<a by omega)];exact o.o.store k true,t.o.b.setCell (p:=⟨W.heap.size,k,none⟩) (Za _) _⟩
  case measure=>simp[intOf];omega
 obtain rfl:N=k:=ω;go_wp2;go_ret;exact⟨_,_,rfl,o.o.base (by have:=u.o;omega),y.o⟩
def pback(rA:OA)(rc:Nat)(bA:OA)(bc_:Nat)(kA:OA)(kc:Nat)(eA:OA)(ec:Nat)(p:OA)(n m f own N:Nat)(zs:List Int)(V:Nat)(Y:OA)(x H:Nat)(ys:List Rat)(S:Nat)(w:World)(P:IntsZ w V (p,m,n) zs)(X:∀z∈zs,z = -1\/z=1)(O:VecS w H (Y,m,x) ys)(hS:8*S+8<=LIM)(h1:1<=S)(zy:∀q∈ys,mw q<=S)(c:m<=64) :
  Calls prog 53 #[.agg #[(rA,m,rc),(f:Int),(bA,m,bc_),(kA,f,kc),(own:Int),(eA,m,ec),(p,m,n),(N:Int)],(Y,m,x)] w (zq5 w (bkL zs ys m)):=by
 refine μ6 P.len O.len X hS h1 zy λak F au ao H1 ZY=>?_;obtain⟨W,r⟩:∃W,(w.alloc (.cells #[(rA,m,rc),(f:Int),(bA,m,bc_),(kA,f,kc),(own:Int),(eA,m,ec),(p,m,n),(N:Int)] 118))=W:=⟨_,rfl⟩
 refine μ4 (show θ W w.heap.size #[(rA,m,rc),(f:Int),(bA,m,bc_),(kA,f,kc),(own:Int),(eA,m,ec),(p,m,n),(N:Int)] 118by rw[<-r];exact zam σ) (show Below w w W by rw[<-r];exact zae w _) (show IntsZ W V (p,m,n) zs by rw[<-r];exact(P).alloc _) (show VecS W H (Y,m,x) ys by rw[<-r];exact(O).alloc _) λJ E R ap=>?_;obtain⟨_,_,_,_,_,_,_,_,_,_,_,_,bp,bl,_⟩:=bc8 J.o;go_enter func53,ntmps53;go_wp2_with fail
 refine(Vc.copy Y m x ys H _ ap.o ω).mono ?_;rintro e w1 ⟨A7,c7,rfl,d,c⟩;have aC:=un (zad c J.o);have HO:=un (d);obtain⟨bE,bK,bF,bL,bP,bR,cn,ch,cp,ck,bc,a9,bx,bn,bz,bo⟩:=bc8 aC.o;have ah:=un c;go_upto_region 2 with fail
 have aT:¬(m:Int)<(m:Int):=ω;go_cut[14,15] (λa b wr=>a=(m:Int)/\b=.int .i64 0/\wr=w1)
 case first =>
  go_wp2
  all_goals
   go_meet
   case rel=>exact⟨by first | rfl | (simp;done),rfl,rfl⟩
 obtain⟨rfl,rfl,rfl⟩:=hcut;rename World=>w1
 go_wp2
 go_loopw [15] (λi wr=>∃k:Nat,i=.int .i64 k/\k<=m/\VecS wr W.heap.size (A7,m,c7) (bkL zs ys k)/\Below W.heap.size W wr)
  (λi _=>m-(intOf i).toNat)
 case atStart=>exact⟨0,rfl,Zb _,by rw[zVQ];exact HO.o,ah.o⟩
 obtain⟨k,rfl,hk,d,o⟩:=hrel;by_cases A:k<m
 ·obtain⟨l,rfl,_,_⟩:=d.has ω;obtain⟨L,rfl,_,_⟩:=R.o.has ω;have Q:zs[k]? = some (zs.getD k 0):=zaO (by rw[<-ak.o];exact A);obtain⟨y,s,B,u,t,C,v,y0,y1,Z,M⟩:=d.at_ (zTv (zs:=zs) (k:=k) (by rw[<-F.o];exact A));rw[if_neg (X5 k)]at M;have l0:=(R.o.below o).at_ Q;have U:=un (au.o _ (Zj Q));have ar:=un (ZY.o _ (Zj (zaH (xs:=ys) (j:=k) (by rw[<-F.o];exact A))))
  have T:=un (zXf (zs:=zs) (ys:=ys) (k:=k) (by rw[<-F.o];exact A));generalize zs.getD k 0=z at l0 U T;refine μ4 (zad o J.o) (show RatS wr y (s,B,u) (t,C,v) (el ys k)from M) (d) (Bel.mk o) λaa am G HW=>?_;obtain⟨bI,_,bJ,_,b0,_,ce,_,cf,_,bd,_,br,_,bu,_⟩:=bc8 aa.o;have aE:χ wr L k (.int .i64 z):=l0;have ay:=zaa aE;have aG:χ wr l (k*3) (.bool y):=y0;have az:=zaa aG;have aH:χ wr l (k*3+1) (s,B,u):=y1;have aA:=zaa aH;have aJ:χ wr l (k*3+2) (t,C,v):=Z;have aB:=zaa aJ;have I:=un (show I64 z by rcases U.o with rfl | rfl<;>exact⟨δ,δ⟩);have L1:=un (show 4*(mw ((z:Int):Rat)+mw (el ys k))+8<=LIM by have:=zu9 z I.o;have:=ar.o;have:=ao.o;have:=H1.o;omega);have ax:=(d.lt rfl).1;have aQ:(0:Int)<=(k:Int):=Zg _;have aR:(k:Int)<(m:Int):=ω;go_wp2_with fail
  refine za2 (S:=λw'=>χ w' w 0 (rA,m,rc)/\χ w' w 1 (.int .i64 (f:Int))/\χ w' w 2 (bA,m,bc_)/\χ w' w 3 (kA,f,kc)/\χ w' w 4 (.int .i64 (own:Int))/\χ w' w 5 (eA,m,ec)/\χ w' w 6 (L,m,n)/\χ w' w 7 (.int .i64 (N:Int))/\χ w' L k (.int .i64 z)/\χ w' l (k*3) (.bool y)/\χ w' l (k*3+1) (s,B,u)/\χ w' l (k*3+2) (t,C,v)) 14 (h:=λhHeld=>?_);refine zaw [0,1,2,3,4,5,6,8,9,10,11] ?_;repeat refine tkE hHeld ?_
  refine zao ?_;refine zaN 7 (h:=λK g=>?_);go_simp;(go_at_call 30;(refine(Rt.int z I.o.1 I.o.2 _).mono ?_);rintro e u1 ⟨g1,A1,m1,c1,D1,md1,cd1,rfl,hn,c⟩;refine μ5 (zad c aa.o) (am.o.drew.below c) (G.o.drew.below c) (HW.o.drew.below c) (hn) λab aP aO aN HM=>?_;obtain⟨bY,_,bZ,_,b6,_,a7,cs,a4,_,a5,_,bs,_,bv,_⟩:=bc8 ab.o;have ac:=zab c ay;have ad:=zab c az;have af:=zab c aA;have ae:=zab c aB);(try go_wp2_with fail);refine shutOn g λhHeld=>?_;refine zaN 12 (h:=λK g=>?_);go_simp;(go_at_call 29;(refine(Rt.mul g1 A1 m1 c1 D1 md1 cd1 ((z:Int):Rat) y s B u t C v (el ys k) _ HM.o aP.o L1.o).mono ?_);rintro e u2 ⟨g2,A2,m2,c2,D2,md2,cd2,rfl,hn,c⟩;refine μ4 (zad c ab.o) (aO.o.below c) (aN.o.below c) (hn) λaD D aM HS=>?_;obtain⟨bV,_,bW,_,cb,_,ci,_,cl,cd,a6,_,bt,_,bw,_⟩:=bc8 aD.o;have aF:=zab c ac;have aI:=zab c ad;have aK:=zab c af;have aL:=zab c ae;have aU:=D.o.fro (k*3);have of1:=D.o.fro (k*3+1);have aV:=D.o.fro (k*3+2));(try go_wp2_with fail);refine shutOn g λhHeld=>?_;refine zaw [13] ?_;repeat refine tkE hHeld ?_
  refine zao ?_;refine zba (h:=λK g=>?_);go_simp;refine shutOff g ?_;refine za1 (h:=?_);go_wp2;go_roundw
  case rel=>exact⟨k+1,by go_num,ω,by rw[<-T.o];exact VecS.store D.o k HS.o,(Bel.set3 aM.o ax _ _ _).b⟩
  case measure=>simp[intOf];omega
 obtain rfl:m=k:=ω;have G:=un d;have HF:=un o;go_wp2;go_ret;exact⟨_,_,_,rfl,G.o.base E.o.size,E.o.trans (HF.o.mono E.o.size)⟩
def pfirst(rA:OA)(rc:Nat)(bA:OA)(bc_:Nat)(kA:OA)(kc:Nat)(eA:OA)(ec:Nat)(r:OA)(s m a own N:Nat)(lA:List Value)(S:Nat)(A:List (List Rat))(b c:List Rat)(left:List Int)(w:World)(hS:StdP w rA rc lA bA bc_ kA kc eA ec m a S A b c left)(O:N+m=a)(d:Basis m a A (zKa N m))(Q:zor m S<=LIM) :
  Calls prog 116 #[.agg #[(rA,m,rc),(a:Int),(bA,m,bc_),(kA,a,kc),(own:Int),(eA,m,ec),(r,m,s),(N:Int)]] w λe w'=>∃(D:World) (q:Nat) (C:OA) (cC:Nat) (x:OA) (y:Nat),e=.returned (.tuple #[.pointer (some ⟨q,0,none⟩),(C,a,cC)])/\zhi D w' D.heap.size q rA rc lA bA bc_ kA kc eA ec m a S own A b c left x y (zKa N m)/\VecS w' w (C,a,cC) (zJG N m)/\Below w w D/\Below w w w':=by
 refine μ3 O d Q λo ad ae=>?_;have aS:=hS.hm;have aV:=hS.hN;have aT:m<=9223372036854775807:=ω;obtain⟨W,j⟩:∃W,(w.alloc (.cells #[(rA,m,rc),(a:Int),(bA,m,bc_),(kA,a,kc),(own:Int),(eA,m,ec),(r,m,s),(N:Int)] 118))=W:=⟨_,rfl⟩
 refine μ4 (show θ W w.heap.size #[(rA,m,rc),(a:Int),(bA,m,bc_),(kA,a,kc),(own:Int),(eA,m,ec),(r,m,s),(N:Int)] 118by rw[<-j];exact zam σ) (show Below w w W by rw[<-j];exact zae w _) (show w.heap.size+1<=W.heap.size by rw[<-j];simp) (show StdP W rA rc lA bA bc_ kA kc eA ec m a S A b c left by rw[<-j];exact(hS).alloc _) λp G HZ HS=>?_;obtain⟨bI,bO,bJ,bD,bS,bW,cu,cm,cx,cq,ba,a7,bn,bj,bf,bk⟩:=bc8 p.o;go_enter func116,ntmps116;go_wp2_with (at_make;go_must (refine zdv rfl _ _ rfl a _ rfl rfl rfl ω W.heap.size rfl ?_;intro w1 V t;refine μ3 t (zad t p.o) (show VecS w1 W.heap.size (.slice (some ⟨W.heap.size,0,none⟩) a a) (List.replicate a 0)from V) λab aE HO=>?_;obtain⟨bG,bM,bH,bN,bR,bT,cw,cn,cy,cr,bb,a8,bx,bl,bz,bm⟩:=bc8 aE.o))
 go_loopw [4,17] (λcv i wr=>∃(k:Nat) (T:OA) (tc:Nat),i=.int .i64 k/\cv=(T,k,tc)/\k<=m/\VecS wr W.heap.size (.slice (some ⟨W.heap.size,0,none⟩) a a) (zUG N m k)/\IntsS wr W.heap.size (T,k,tc) (zKa N k)/\Below W.heap.size W wr)
  (λ_ i _=>m-(intOf i).toNat)
 case atStart=>exact⟨0,none,0,rfl,rfl,Zb _,by rw[zVD,o.o];exact HO.o,IntsS.nil _ _,ab.o⟩
 obtain⟨k,T,tc,rfl,rfl,hk,v,hi,d⟩:=hrel;refine μ6 (zad d p.o) (HS.o.below d) (show VecS wr W.heap.size (.slice (some ⟨W.heap.size,0,none⟩) a a) (zUG N m k)from v) (show IntsS wr W.heap.size (T,k,tc) (zKa N k)from hi) (show Bel W wr from Bel.mk d) (G.o.trans ((d).mono G.o.size)) λX aD I H L E=>?_;obtain⟨bK,bE,bL,bF,b6,b1,ck,cd,cl,cb,bc,a9,bq,bo,bt,bg⟩:=bc8 X.o;by_cases U:k<m
 ·have af:=un (zWH (N:=N) U);have al:=un (zWI (N:=N) U);have aK:(0:Int)<=(k:Int):=Zg _;have aL:(k:Int)<(m:Int):=ω
  have aM:(0:Int)<=(N:Int):=Zg _;have aN:(N:Int)+(k:Int)<(a:Int):=by have:=o.o;omega
  have aO:N+k<a:=by have:=o.o;omega
  have aU:N<=64:=by have:=o.o;omega
  go_wp2_with (at_builtin;go_loud (refine ziP rfl _ _ rfl rfl (H.o.alloc _) rfl (z:=N+k) (zal _ _ _) (n:=k) (by simp[zKa]) ω (by simp;have:=L.o.b.size;omega) ?_;intro F M B P R f;refine μ3 P ((I.o.alloc _).tk R δ δ) ((L.o.alloc _).b.trans f) λaj ao ac=>?_))
  have aq:=un (show IntKind.i64.wrap ((N:Int)+(k:Int))=((N+k:Nat):Int)by rw[Vj];omega);have aP:(0:Int)<=((N+k:Nat):Int):=Zg _;have aQ:((N+k:Nat):Int)<(a:Int):=ω;have aR:(0:Int)<=(N:Int)+(k:Int):=ω;have an:=un (show((N:Int)+(k:Int)).toNat=N+k by omega);have f:=ac.o;refine μ4 (zad f p.o) (show VecS B W.heap.size (.slice (some ⟨W.heap.size,0,none⟩) a a) (zUG N m k)from ao.o) (show IntsS B W.heap.size (F,k+1,M) (zKa N k++[N+k])from aj.o) (show Bel W B from Bel.mk f) λY J ag ap=>?_;obtain⟨bZ,bU,b0,bV,ce,b8,co,cg,cs,ci,a4,cA,bs,be,bv,bi⟩:=bc8 Y.o;obtain⟨ga,Z,ma,ca,Da,az,av,y0,y1,y2,ax⟩:=J.o.at_ af.o;go_wp2_with fail
  refine za2 (S:=λw'=>χ w' w 0 (rA,m,rc)/\χ w' w 1 (.int .i64 (a:Int))/\χ w' w 2 (bA,m,bc_)/\χ w' w 3 (kA,a,kc)/\χ w' w 4 (.int .i64 (own:Int))/\χ w' w 5 (eA,m,ec)/\χ w' w 6 (r,m,s)/\χ w' w 7 (.int .i64 (N:Int))/\χ w' W.heap.size ((N+k)*3) (.bool ga)/\χ w' W.heap.size ((N+k)*3+1) (Z,ma,ca)/\χ w' W.heap.size ((N+k)*3+2) (Da,az,av)) 7 (h:=λhHeld=>?_);refine zaw [0,1,2,3,4] ?_;repeat refine tkE hHeld ?_
  refine zao ?_;refine zaN 5 (h:=λK g=>?_);go_simp;(go_at_call 30;(refine(Rt.int 1 δ δ _).mono ?_);rintro e u1 ⟨g1,A1,m1,c1,D1,md1,cd1,rfl,hn,hb⟩;refine μ5 (zad hb Y.o) (J.o.drew.below hb) (ag.o.drew.below hb) (ap.o.drew.below hb) (hn) λaH l aB aC HM=>?_;obtain⟨b2,bX,b3,bY,cf,cc,cp,ch,ct,cj,a5,cB,bB,bw,bC,bp⟩:=bc8 aH.o;have z0:=zab hb y0;have z1:=zab hb y1;have z2:=zab hb y2;have aW:=l.o.fro ((N+k)*3);have of1:=l.o.fro ((N+k)*3+1);have aX:=l.o.fro ((N+k)*3+2));(try go_wp2_with fail);refine shutOn g λhHeld=>?_;rw[aq.o];refine zaw [6] ?_;repeat refine tkE hHeld ?_
  refine zao ?_;simp only[an.o];refine zba (h:=λK g=>?_);go_simp;refine shutOff g ?_;refine za1 (h:=?_);go_wp2;obtain⟨aJ,u⟩:=l.o.ratBlk;go_roundw
  case rel=>exact⟨k+1,F,M,by go_num,rfl,ω,by rw[<-al.o];exact VecS.store l.o (N+k) HM.o,by rw[zUR];exact((aB.o.tk (TKeep.set u _) δ).tk (TKeep.set (zar _ u) _) δ).tk (TKeep.set (zar _ (zar _ u)) _) δ,(Bel.set3 aC.o (Za _) _ _ _).b⟩
  case measure=>simp[intOf];omega
 obtain rfl:m=k:=ω;go_wp2_with fail
 refine(Tb.new rA rc lA bA bc_ kA kc eA ec m a S own A b c left T tc (zKa N m) W.heap.size _ aD.o H.o ad.o ae.o).mono ?_;rintro e wt ⟨q,x,y,rfl,hT,hb⟩;refine μ3 (zad hb X.o) (I.o.below hb) (E.o.trans ((hb).mono E.o.size)) λaF aI aG=>?_;obtain⟨b4,bP,b5,bQ,b9,b7,a6,cD,a2,cE,a3,cz,br,bd,bu,bh⟩:=bc8 aF.o;have HT:=un hT;go_wp2;go_ret2
 exact⟨wr,q,_,_,x,y,rfl,HT.o,by rw[<-zWG];exact aI.o.base (by have:=HZ.o;omega),E.o,aG.o⟩
