/- Contracts and lemmas: LuFac BasF. Conditions: as each says. -/
import Derived.Test.YtbpjabgfcbjjmaaGreatLuStepYe
import Derived.Test.YtbpjabgfcbjjmaaGreatIntsYe
import Derived.Test.YtbpjabgfcbjjmaaGreatMat6Ye
set_option linter.all false
set_option maxHeartbeats 8000000
set_option maxRecDepth 100000
namespace Go.Proofs.YtbpjabgfcbjjmaaGreat
open Go.RowKit Am Tryz
attribute [local go_sem ↓] Go.wp_at_zero Go.wp_at_succ
variable {F:LUv}{C L:List (List Rat)}{c n s:Nat}
def zsQ (w:World) (n:Nat) (L:List (List Rat)) (e:Ending) (w':World):Prop :=
  (∃(F:LUv) (q:Nat),zoN n L=some F/\e=.returned (.tuple #[.pointer (some ⟨q,0,none⟩),true])/\LuS w' w.heap.size q n F/\Below w w w') \/
  (zoN n L=none/\e=.returned (.tuple #[.pointer none,false])/\Below w w w')
structure Going (n s:Nat) (L:List (List Rat)) (c:Nat) (F:LUv):Prop where
  sq:Sq n F
  inv:LUinv n (en L) c F
  small:∀i,i<n->∀j,j<n->mw (en L i j)<=s
  eq:zsD n (n-c) c F=zoN n L
theorem Going.start{n s:Nat}{L:List (List Rat)}(a:L.length=n)(hr:∀r∈L,r.length=n)(b:∀i,i<n->∀j,j<n->mw (en L i j)<=s):Going n s L 0 (zg4 n L) :=
 ⟨zl6 a λi hi=>hr _ (Zz (zaO ω)),LUinv.start a λi hi=>hr _ (Zz (zaO ω)),b,rfl⟩
theorem Going.next(h:Going n s L c F)(hc:c<n)(hk:zeg F.up c (n-c) c<n):Going n s L (c+1) (F.step c (zeg F.up c (n-c) c)):=by
 obtain⟨a,_,_,b⟩:=ziG F.up c (n-c) c;refine⟨zqB h.sq hc hk,h.inv.step hc a hk (b ω),h.small,?_⟩;obtain⟨f,hf⟩:∃f,n-c=f+1:=⟨n-(c+1),ω⟩
 have e:zsD n (n-c) c F=zsD n f (c+1) (F.step c (zeg F.up c (n-c) c)):=by
  conv=>lhs;rw[hf];unfold zsD
  rw[if_neg ω]
 rw[<-h.eq,e,show n-(c+1)=f by omega]
theorem Going.stuck(h:Going n s L c F)(hc:c<n)(hk:zeg F.up c (n-c) c=n):zoN n L=none:=by rw[<-h.eq,show n-c=(n-(c+1))+1 by omega];unfold zsD;rw[if_pos hk]
theorem Going.done(h:Going n s L n F):zoN n L=some F:=by rw[<-h.eq,Xq];rfl
theorem LuS.base{w:World}{H b q n:Nat}{F:LUv}(h:LuS w H q n F)(a:b<=H):LuS w b q n F:=by obtain⟨⟨lA,lc,ll,uA,uc,ul,pA,pc,c,d,e,f,g,i,j⟩,k,l⟩:=h;exact⟨⟨lA,lc,ll,uA,uc,ul,pA,pc,c,d.base a,e,f.base a,g,i,j.base a⟩,Zl a k,l⟩
namespace Lu
theorem factor(n t:Nat)(R:OA)(l0:List Value)(L:List (List Rat))(E s:Nat)(w:World)(h:VecsL w E (R,n,t) l0 L)(Q:∀r∈L,r.length=n)(hn:n<=64)(zL:∀i,i<n->∀j,j<n->mw (en L i j)<=s)(ar:24*uB n s+8<=LIM) :
  Calls prog 184 #[.agg #[(R,n,t),(n:Int)]] w (zsQ w n L):=by
 refine μ5 hn Q h.nlen ar (Going.start h.nlen.symm Q zL) λx aY B aO ad=>?_;have bo:n<=9223372036854775807:=ω;clear hn Q zL ar;obtain⟨W,C⟩:∃W,(w.alloc (.cells #[(R,n,t),(n:Int)] 112))=W:=⟨_,rfl⟩
 refine μ3 (show θ W w.heap.size #[(R,n,t),(n:Int)] 112by rw[<-C];exact zam σ) (show Below w w W by rw[<-C];exact zae w _) (show VecsL W E (R,n,t) l0 L by rw[<-C];exact(h).alloc _) λal BB HR=>?_;obtain⟨bB,bH,bC,bv⟩:=bc2 al.o;clear h;go_enter func184,ntmps184;go_wp2_with fail
 clear C;with_reducible refine(Mt.rows n n t R _).mono ?_
 rintro e wa ⟨rfl,f⟩;refine μ3 (zad f al.o) (HR.o.below f) (BB.o.trans ((f).mono BB.o.size)) λaG bg aF=>?_;obtain⟨bz,bF,bA,bG⟩:=bc2 aG.o;clear f;go_wp2_with fail
 with_reducible refine(Mt.cols n n t R _).mono ?_
 rintro e d ⟨rfl,f⟩;refine μ3 (zad f aG.o) (bg.o.below f) (aF.o.trans ((f).mono aF.o.size)) λaE bh ab=>?_;obtain⟨bD,bw,bE,bx⟩:=bc2 aE.o;clear f;go_wp2;have N:=un (ab.o.size)
 go_loopw [19] (λi wr=>∃(k:Nat) (lA:OA) (lc:Nat) (ll:List Value) (uA:OA) (uc:Nat) (ul:List Value) (pA:OA) (pc:Nat),i=.int .i64 k/\k<=n/\LuG wr d.heap.size d.heap.size n k k k lA lc ll uA uc ul pA pc (laid n L k)/\Below d d wr)
  (λi _=>n-(intOf i).toNat)
 case atStart=>exact⟨0,none,0,[],none,0,[],none,0,rfl,Zb _,LuG.start _ _ _,zae _ _⟩
 obtain⟨k,lA,lc,ll,uA,uc,ul,pA,pc,rfl,hk,l,o⟩:=hrel;by_cases A:k<n
 ·obtain⟨r,hr⟩:∃r,L[k]? = some r:=⟨L[k]'(by rw[<-B.o];exact A),Ze _⟩
  have ay:=aY.o r (Zz hr);obtain⟨_,_,_,_,q1,_⟩:=bf4 l.blk;refine μ4 (zad o aE.o) (bh.o.below o) (l) (Bel.mk o) λbe bd I HW=>?_;obtain⟨bI,_,bJ,_⟩:=bc2 be.o;have bf:=q1;refine μ3 hr ay (o.size) λaf ag aM=>?_;clear l o hr ay;have a7:(k:Int)<(n:Int):=ω;go_wp2_with fail
  with_reducible refine(Mt.row n n t R l0 L E k r _ bd.o af.o ag.o x.o x.o).mono ?_
  rintro e w1 ⟨A2,c2,rfl,hv2,f⟩;refine μ3 (I.o.below f) (HW.o.below f) (hv2) λaa aI O=>?_;have bK:=zab f bf;clear hv2 f;have aR:=un (show ∀g,(Value.slice A2 n c2).ownBlock=some g->(∀a∈ll,a.ownBlock≠some g)/\∀a∈ul,a.ownBlock≠some g from λg hg=>⟨λa y e=>by have h1:=(O.o.lt hg).1;have P:=(I.o.lo.lt y e).2;omega,λa y e=>by have h1:=(O.o.lt hg).1;have P:=(I.o.up.lt y e).2;omega⟩);go_upto_region 9 with fail
  go_cut[] (λwy=>∃(X:OA) (Y:Nat) (D:List Value),LuG wy d.heap.size d.heap.size n k (k+1) k lA lc ll X Y D pA pc { laid n L k with up:=(laid n L k).up++[r] }/\Bel d wy)
  case first=>as_aux_lemma =>
   go_wp2_with (at_builtin;refine zbW rfl _ _ rfl rfl (aa.o.alloc (.cells #[(A2,n,c2)] 30)).up rfl (zal _ _ _) ((O.o.base aM.o).alloc _) (n:=k) (by simp[laid];have:=B.o;omega) (by have:=x.o;omega) (by simp;have:=aI.o.b.size;omega) ?_;intro A3 c3 Z am T z au;refine μ5 am T au z (T.blk (aa.o.alloc (.cells #[(A2,n,c2)] 30)).blk δ) λaW aT aP aJ q=>?_;have z1:=zac q.o 1;have zf:=zag q.o 1;simp only[Xa,Z9,XH]at z1;clear am T z au)
   go_meet
   case rel=>exact⟨_,_,_,(aa.o.alloc (.cells #[(A2,n,c2)] 30)).pushU ω aW.o aT.o aP.o ag.o aR.o,⟨((aI.o.alloc (.cells #[(A2,n,c2)] 30)).b.trans aJ.o).setCell (p:=⟨d,1,none⟩) (Za _) _⟩⟩
  rename World=>wy
  obtain⟨X,Y,D,l,f⟩:=hcut;have J:=un l;have ai:=un f;obtain⟨r0,a9,_⟩:=bf4 l.blk;clear l f;go_wp2_with fail
  go_cut[] (λwy=>∃(aA:OA) (lc':Nat) (aB:List Value),LuG wy d.heap.size d.heap.size n (k+1) (k+1) k aA lc' aB X Y D pA pc { laid n L k with up:=(laid n L k).up++[r],lo:=(laid n L k).lo++[List.replicate n 0] }/\Bel d wy)
  case first=>as_aux_lemma =>
   refine zaS (S:=λw'=>χ w' d 0 (lA,k,lc)) [11] (h:=λhHeld=>?_);refine zaw [0,1,2,3,4,5] ?_;repeat refine tkL (hS:=hHeld) (h:=?_)
   refine zao ?_;refine zaB 6 (h:=λK m=>?_);(refine zh5 rfl _ _ rfl n _ rfl rfl rfl (by have:=x.o;omega) ?_;intro Z az z;refine μ3 az (J.o.below (show Below wy.heap.size wy Z from It.bdrew0' z)) (ai.o.below (show Below wy.heap.size wy Z from It.bdrew0' z)) λa3 M ak=>?_;have s0:=zab z a9;have a5:=un (ai.o.b.size);clear az z);refine shutOn m λhHeld=>?_;clear m K;refine zaB 7 (h:=λK m=>?_);go_simp;refine shutOn m λhHeld=>?_;clear m K;refine zaB 8 (h:=λK m=>?_);(refine zet rfl _ _ rfl rfl (M.o.alloc _).lo rfl (zal _ _ _) ((a3.o.base (show d.heap.size<=wy.drew.heap.size from a5.o)).alloc _) (n:=k) (by simp[laid]) (by have:=x.o;omega) (by simp;have:=ak.o.b.size;omega) ?_;intro A5 c5 w5 an U ap av;refine μ5 an U av ap (U.blk (M.o.alloc _).blk δ) λaX aU aQ aK q=>?_;have z0:=zac q.o 0;have zf:=zag q.o 0;simp only[Xa,Z9,XH]at z0;clear an U ap av);refine shutOn m λhHeld=>?_;clear m K;refine zaw [9] ?_;repeat refine tkX (h:=?_)
   refine zao ?_;refine zaw [10] ?_;repeat refine tkL (hS:=hHeld) (h:=?_)
   refine zao ?_;refine zay 11 (h:=λK m=>?_);go_simp;refine shutOff m ?_;clear m K;refine zaM (h:=?_);go_wp2;go_meet;have aS:=un (show ∀g,(Value.slice (some ⟨wy.heap.size,0,none⟩) n n).ownBlock=some g->(∀a∈ll,a.ownBlock≠some g)/\∀a∈D,a.ownBlock≠some g from λg hg=>⟨λa y e=>by have h0:wy.heap.size=g:=(by injection hg);have P:=(J.o.lo.lt y e).2;omega,λa y e=>by have h0:wy.heap.size=g:=(by injection hg);have P:=(J.o.up.lt y e).2;omega⟩)
   case rel=>exact⟨_,_,_,(M.o.alloc (.cells #[.slice (some ⟨wy.heap.size,0,none⟩) n n] 30)).pushL ω ω aX.o aU.o aQ.o σ aS.o,⟨((ak.o.alloc (.cells #[.slice (some ⟨wy.heap.size,0,none⟩) n n] 30)).b.trans aK.o).setCell (p:=⟨d,0,none⟩) (Za _) _⟩⟩
  rename World=>wx
  obtain⟨aA,lc',aB,l,f⟩:=hcut;have u:=un l;have aj:=un f;obtain⟨s0,_,_,_,_,_,_,_,s2,_⟩:=bf4 l.blk;clear l f s0;go_wp2_with (at_builtin;refine ziP rfl _ _ rfl rfl (u.o.alloc (.cells #[(k:Int)] 3)).perm rfl (zal _ _ _) (n:=k) (by simp[laid]) (by have:=x.o;omega) (by simp;have:=aj.o.b.size;omega) ?_;intro A6 c6 w6 ao V aq;refine μ4 ao V aq (V.blk (u.o.alloc (.cells #[(k:Int)] 3)).blk δ) λaZ aV aL q=>?_;have z2:=zac q.o 2;have zf:=zag q.o 2;simp only[Xa,Z9,XH]at z2;clear ao V aq)
  go_roundw
  case rel=>exact⟨k+1,_,_,_,_,_,_,_,_,by go_num,ω,by have hh:=(u.o.alloc (.cells #[(k:Int)] 3)).pushP aZ.o aV.o;rw[<-zuY af.o];exact hh,((aj.o.alloc (.cells #[(k:Int)] 3)).b.trans aL.o).setCell (p:=⟨d,2,none⟩) (Za _) _⟩
  case measure=>simp[intOf];omega
 obtain rfl:k=n:=ω;have HQ:=un (show LuW wr d.heap.size d.heap.size k (zg4 k L)from by rw[<-zrB B.o.symm];exact l.toW (by rw[zrB B.o.symm];exact ad.o.sq));have aN:=un o;clear l o hk A;go_wp2
 go_loopw [61] (λi wr=>∃(c:Nat) (F:LUv),i=.int .i64 c/\c<=k/\LuW wr d.heap.size d.heap.size k F/\Going k s L c F/\Below d d wr)
  (λi _=>k-(intOf i).toNat)
 case atStart=>exact⟨0,_,rfl,Zb _,HQ.o,ad.o,aN.o⟩
 rename World=>wz
 obtain⟨c,F,rfl,hc,hq,hg,o⟩:=hrel;refine μ3 hq hg o λae v H=>?_;clear hq hg o;by_cases A:c<k
 ·have HU:=un (And.intro (show 1<=uB k s by unfold uB;omega) (v.o.inv.size zo5 hc v.o.small));have a7:(c:Int)<(k:Int):=ω
  go_wp2_with fail
  refine(Lu.step d.heap.size d.heap.size k (uB k s) c F _ (ae.o.1 ω) v.o.sq x.o A HU.o.2 HU.o.1 aO.o).mono ?_;rintro e w2 (⟨hk2,rfl,hq2,hb2⟩ | ⟨hk2,rfl,hb2⟩)
  ·refine μ3 (v.o.next A hk2) hq2 (H.o.trans hb2) λu a1 G=>?_;clear hk2 hq2 hb2;go_wp2;go_roundw
   case rel=>exact⟨c+1,_,by go_num,ω,⟨λ_=>a1.o,λh=>absurd h ω⟩,u.o,G.o⟩
   case measure=>simp[intOf];omega
  have u:=un (v.o.stuck A hk2);have G:=un (H.o.trans hb2);clear hk2 hb2;go_wp2;go_ret2
  exact .inr ⟨u.o,rfl,ab.o.trans (G.o.mono N.o)⟩
 obtain rfl:c=k:=ω;go_wp2;go_ret2
 exact .inl ⟨F,_,v.o.done,rfl,(ae.o.toS v.o.sq).base N.o,ab.o.trans (H.o.mono N.o)⟩
end Lu
def zCp (w:World) (H q n S:Nat) (C:List (List Rat)) (e:Ending) (w':World):Prop :=
  (CReg n C/\e=.returned true/\(∀tb:Option Nat,(∀g,tb=some g->g<w.heap.size)->zhf w' H q n S C tb)/\Below H w w'/\Kept TB none w w')\/(¬CReg n C/\e=.returned false/\Below w w w')
theorem zuy(h:CSq n C):∀r∈C,r.length=n:=λr hr=>by obtain⟨i,hi⟩:=Xv.1 hr;rw[<-getD_some (d:=[]) hi];exact h.col i (by rw[<-h.len];grind)
theorem zxM(h:CSq n C):∀r∈zcZ n C,r.length=n:=λr hr=>by obtain⟨i,_,rfl⟩:=ZH.1 hr;rw[ZK];exact h.len
theorem BasP.mk'{w:World}{H q S:Nat}{cA:OA}{cc:Nat}{lc:List Value}{v1 l:Value}{K ql:Nat}(hk:θ w q #[(cA,n,cc),v1,l] 246)(h:VecsL w H (cA,n,cc) lc C)(low:∀g,(Value.slice cA n cc).ownBlock=some g->g<K)
  (f:LuS w K ql n F) (hf:zoN n (zcZ n C)=some F) (d:CSq n C) (hr:CReg n C) (k:zhg mw n S C) (i:H<=q) (e:H<=K) :
  ∀tb:Option Nat,(∀g,tb=some g->g<K)->zhf ((w.setCell ⟨q,1,none⟩ (.pointer (some ⟨ql,0,none⟩))).setCell ⟨q,2,none⟩ ()) H q n S C tb:=by
 intro tb j;have c:TKeep 246 w (w.setCell ⟨q,1,none⟩ (.pointer (some ⟨ql,0,none⟩))):=TKeep.set hk _;have b:=zar (o:=1) (.pointer (some ⟨ql,0,none⟩)) hk;have k2:TKeep 246 (w.setCell ⟨q,1,none⟩ (.pointer (some ⟨ql,0,none⟩))) ((w.setCell ⟨q,1,none⟩ (.pointer (some ⟨ql,0,none⟩))).setCell ⟨q,2,none⟩ ()):=TKeep.set b _;have a:BasP ((w.setCell ⟨q,1,none⟩ (.pointer (some ⟨ql,0,none⟩))).setCell ⟨q,2,none⟩ ()) H q n S cA cc lc C K ql F C none 0 [] []:=by refine⟨?_,(h.tk c δ δ δ).tk k2 δ δ δ,low,(f.tk c δ δ δ δ δ).tk k2 δ δ δ δ δ,hf,EtasL.nil _ _,.nil d hr k,Zb _,i,e⟩;have:=zar (o:=2) () b;grind
 exact⟨cA,cc,lc,K,ql,F,C,none,0,[],[],a,a.ahead j⟩
namespace Bs
theorem factor(H q n S cc:Nat)(cA:OA)(lc:List Value)(C:List (List Rat))(v1 N:Value)(w:World)(hk:θ w q #[(cA,n,cc),v1,N] 246)(h:VecsL w H (cA,n,cc) lc C)(I:H<=q)(t:CSq n C)(x:n<=64)(y:zhg mw n S C)(v:24*uB n S+8<=LIM) :
  Calls prog 175 #[.pointer (some ⟨q,0,none⟩)] w (zCp w H q n S C):=by
 refine μ7 x t y v I hk h λr b s z l G m=>?_;have O:=(ZS.1 hk).1;have o:=un (show H<=w.heap.size by omega);obtain⟨M,_⟩:=bc3 hk;clear x t y v hk h;go_enter func175,ntmps175;go_wp2_with fail
 refine(matrix q n cc cA lc C H _ M m.o (zuy b.o) r.o).mono ?_;rintro e w1 ⟨A1,c1,l1,rfl,hv1,ha1,hb1⟩;have D:=un hv1;have c:=un hb1;clear hv1 ha1 hb1;go_wp2_with fail
 refine(Lu.factor n c1 A1 l1 (zcZ n C) w.heap.size S _ D.o (zxM b.o) r.o (λi hi j hj=>by rw[zeI hi (by rw[b.o.len];exact hj)];exact s.o j hj i hi) z.o).mono ?_;rintro e k (⟨F,ql,hF,rfl,hl,hb2⟩ | ⟨hF,rfl,hb2⟩)
 ·have hr:CReg n C:=by by_cases e:CReg n C;exact e;rw[zAZ b.o e]at hF;cases hF
  refine μ4 hr hF hl (c.o.trans (hb2.mono c.o.size)) λd A B a=>?_;have f:=un (zad a.o G.o);have E:=un (m.o.below a.o);have P:=c.o.size;obtain⟨_,_,_,_,Q,_,T,_,R,_,U,_⟩:=bf3 f.o;clear hF hl hb2 hr;go_wp2;go_ret;have J:Kept TB none k (k.setCell ⟨q,1,none⟩ (.pointer (some ⟨ql,0,none⟩))):=Kept.set f.o δ _;have K:Kept TB none (k.setCell ⟨q,1,none⟩ (.pointer (some ⟨ql,0,none⟩))) ((k.setCell ⟨q,1,none⟩ (.pointer (some ⟨ql,0,none⟩))).setCell ⟨q,2,none⟩ ()):=Kept.set (zar _ f.o) δ _;exact .inl ⟨d.o,rfl,λtb L=>BasP.mk' f.o E.o (λg hg=>by have:=(m.o.own.lt g hg).2;omega) B.o A.o b.o d.o s.o l.o (by have:=o.o;omega) tb (λg hg=>by have:=L g hg;omega),((a.o.mono o.o).setCell (p:=⟨q,1,none⟩) l.o _).setCell (p:=⟨q,2,none⟩) l.o _,((Kept.of_below a.o).trans J).trans K⟩
 have hr:¬CReg n C:=λe=>by obtain⟨F,u,_⟩:=ziH b.o e;rw[hF]at u;cases u
 have d:=un hr;have a:=un (c.o.trans (hb2.mono c.o.size));clear hF hb2 hr;go_wp2;go_ret;exact .inr ⟨d.o,rfl,a.o⟩
