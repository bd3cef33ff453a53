/- Contracts and lemmas: BasR Tb6. Conditions: as each says. -/
import Derived.Test.YtbpjabgfcbjjmaaGreatLuFacYn
import Derived.Test.YtbpjabgfcbjjmaaGreatBoolsYn
import Derived.Test.YtbpjabgfcbjjmaaGreatMat6Yn
set_option linter.all false
set_option maxHeartbeats 4000000
set_option maxRecDepth 100000
namespace Go.Proofs.YtbpjabgfcbjjmaaGreat
open Go.RowKit Am Tryz
attribute [local go_sem ↓] Go.wp_at_zero Go.wp_at_succ
variable {cols:List Nat}{col xs:List Rat}{b k:Nat}{q:Rat}
structure BasH (w wy:World) (H q n:Nat) (cA:OA) (cc:Nat) (C':List (List Rat)) (K ql:Nat) (F:LUv) (eA:OA) (ec:Nat) (le:List (Nat × Value)) (es:List (Nat × List Rat)) (X:OA) (cX:Nat) (x:List Rat):Prop where
  blk:θ wy q #[(cA,n,cc),.pointer (some ⟨ql,0,none⟩),(eA,es.length,ec)] 246
  cols:∃lc',VecsL wy H (cA,n,cc) lc' C'
  lu:LuS wy K ql n F
  etas:EtasL wy H (eA,es.length,ec) le es
  x:VecS wy H (X,n,cX) x
  bel:Below H w wy
  kept:Kept TB none w wy
  off:∀tb,zey w ql tb->zey wy ql tb
namespace BasH
variable {w wy w':World} {H q n:Nat} {cA:OA} {cc:Nat} {C':List (List Rat)} {K ql:Nat} {F:LUv} {eA:OA} {ec:Nat} {le:List (Nat × Value)} {es:List (Nat × List Rat)} {X:OA} {cX:Nat} {x:List Rat}
def below(h:BasH w wy H q n cA cc C' K ql F eA ec le es X cX x)(d:H<=wy.heap.size)(a:Below wy wy w'):BasH w w' H q n cA cc C' K ql F eA ec le es X cX x:=by obtain⟨lc',hc⟩:=h.cols;exact⟨zad a h.blk,⟨lc',hc.below a⟩,h.lu.below a,h.etas.below a,h.x.below a,h.bel.trans (a.mono d),h.kept.below a,λtb e=>(h.off tb e).same (a.block ql h.lu.qlt)⟩
end BasH
namespace Bs
def replace(H q n S k:Nat)(C:List (List Rat))(A:OA)(R:Nat)(a:List Rat)(Y:Nat)(w:World)(tb:Option Nat)(aD:∀g,tb=some g->g<w.heap.size)(hB:zhf w H q n S C tb)(O:VecS w Y (A,n,R) a)(hn:n<=64)(hk:k<n)(zv:∀x∈a,mw x<=S)(hS:1<=S)(hp:el (zes n C a) k≠0)(ai:zpS n S S<=LIM) :
  Calls prog 160 #[.pointer (some ⟨q,0,none⟩),(k:Int),(A,n,R)] w λe w'=>e=.returned .nilIface/\zhf w' H q n S (C.set k a) tb/\Below H w w'/\Kept TB none w w':=by
 refine μ3 (solve H q n S S C A R a Y w hB.toS O hn zv hS ai) hB.toS aD λa3 ac a5=>?_;obtain⟨cA,cc,lc,K,ql,F,D,eA,ec,le,es,E,ax⟩:=hB;refine μ9 ax hn hk hp ai E O O.len (λi (hi:i<n)=>zrz zv (i:=i) (by rw[<-O.len];exact hi)) λaY HN Q af aU f a6 an bb=>?_;have bI:=E.few;have bL:n<=9223372036854775807:=ω;have bJ:(0:Int)<=(k:Int):=Zg _;have bK:(k:Int)<(n:Int):=ω;have h1:decide ((k:Int)<0)=false:=σ;have h2:decide ((n:Int)<=(k:Int))=false:=by simp;omega
 obtain⟨bc_,rfl,bg,bE⟩:=E.cols.has ω;obtain⟨k0,_,P,_⟩:=bc3 E.blk;obtain⟨r0,aA⟩:∃r0,C[k]? = some r0:=⟨C[k]'(by rw[E.right.good.1.len];exact hk),Ze _⟩
 obtain⟨Ao,co,_,y0,_⟩:=E.cols.at_ aA;go_enter func160,ntmps160;go_wp2_with fail
 refine(a3.o).mono ?_
 rintro e w1 ⟨B,n1,c1,rfl,hv1,hb⟩;refine μ3 (f.o.below hb) (a6.o.below hb) (show VecS w1 w (B,n1,c1) (zes n C a)from hv1) λbw bs J=>?_;have bu:=zab hb k0;have y1:=zab hb y0;have ao:=un hb;obtain rfl:n=n1:=by rw[J.o.len,(zci ac.o.good.1 ac.o.good.2.1 a).2]
 have aC:=zaH (xs:=zes n C a) (j:=k) (by rw[<-J.o.len];exact Q.o);obtain⟨bx,rfl,bF,bG⟩:=J.o.has ω;obtain⟨gx,Ax,mx,cx,Dx,bl,bc,x0,x1,x2,ay⟩:=J.o.at_ aC;have a0:=un ay;go_wp2_with fail
 refine(Rt.zero gx Ax mx cx Dx bl bc (el (zes n C a) k) _ a0.o).mono ?_
 rintro e y ⟨rfl,hb⟩;refine μ3 (bw.o.below hb) (bs.o.below hb) (J.o.below hb) λbz bt bB=>?_;have bv:=zab hb bu;have bp:=zaa bv;have y2:=zab hb y1;have aP:=zaa y2;have Z:=un (ao.o.trans (hb.mono ao.o.size));have hz:zr (el (zes n C a) k)=false:=ZJ af.o;have ad:=un (show H<=w.heap.size from f.o.hle);go_upto_region 8 with fail
 go_cut[] (λwy=>BasH w wy H q n (some ⟨bc_,0,none⟩) cc (C.set k a) K ql F eA ec le es (some ⟨bx,0,none⟩) c1 (zes n C a))
 case first=>as_aux_lemma =>
  refine zaS (S:=λw'=>χ w' q 0 (bc_,n,cc)) [8] (h:=λhHeld=>?_);refine zaw [0,1,2,3,4,5] ?_;repeat refine tkL hHeld ?_
  refine zao ?_;refine zaB 6 (h:=λK L=>?_);go_simp;(go_at_call 108;(refine(Vc.copy A n R a Y _ (bt.o.drew) (by have:=HN.o;omega)).mono ?_);rintro e u1 ⟨A2,c2,rfl,hv2,hb⟩;refine μ4 (show VecS u1 y (A2,n,c2) a from hv2) (bz.o.below (show Below y y u1 from It.bdrew0' hb)) (bB.o.below (show Below y y u1 from It.bdrew0' hb)) (Z.o.trans ((show Below y y u1 from It.bdrew0' hb).mono Z.o.size)) λa7 v a8 aa=>?_;have s0:=zab hb bp;have s1:=zab hb aP;have sf:=v.o.cols.fro k;have ba:=un (show w.heap.size<=y.heap.size from Z.o.size));(try go_wp2_with fail);refine shutOn L λhHeld=>?_;refine zaw [7] ?_;repeat refine tkL hHeld ?_
  refine zao ?_;refine zay 8 (h:=λK L=>?_);go_simp;refine shutOff L ?_;refine zaM (h:=?_);go_wp2;go_meet;have bh:=v.o.cols.blk;obtain⟨cs,aj⟩:=bh;have P:TKeep 30 u1 (u1.setCell ⟨bc_,k,none⟩ (A2,n,c2)):=TKeep.set aj _
  case rel=>exact⟨P.blk v.o.blk δ,⟨_,v.o.cols.store (by rw[ac.o.good.1.len];exact Q.o) (a7.o.base (by have:=ad.o;have:=ba.o;omega))⟩,(Hi.set (v.o.low bc_ rfl) aj δ _).lu v.o.lu,v.o.etas.tk P δ δ δ,(a8.o.base ad.o).tk P δ δ,(aa.o.mono ad.o).setCell (p:=⟨bc_,k,none⟩) bg _,(Kept.of_below aa.o).trans (Kept.set aj δ _),λtb ho=>(ho.same (aa.o.block ql f.o.lu.qlt)).same (by obtain⟨⟨aF,aG,aH,aL,aM,aN,aI,aJ,a1,_⟩,_,_⟩:=v.o.lu;rw[P.blk a1 δ,a1])⟩
 rename World=>wy
 have HY:=un hcut;have ag:=un (show H<=wy.heap.size from Zf f.o.own (Xm (ZU.1 hcut.blk).1));obtain⟨_,_,_,_,_,_,_,_,z2,_⟩:=bf3 hcut.blk;refine μ4 (HY.o.below ag.o (zae wy (.cells #[(k:Int),(bx,n,c1)] 248))) (f.o.right.good.1.set (k:=k) an.o.symm) (zjl f.o.right.good.1 f.o.right.good.2.1 Q.o (zci f.o.right.good.1 f.o.right.good.2.1 a).1 af.o) (EtasZ.snoc f.o.right Q.o an.o.symm bb.o af.o) λr a4 aZ av=>?_;obtain⟨lc',az⟩:=r.o.cols;have ap:=un az;by_cases bH:es.length<8
 ·have h8:((es.length:Int))<8:=ω
  go_wp2_with (at_builtin;refine zd5 rfl _ _ rfl rfl r.o.etas rfl (zal _ _ _) (r.o.x) (n:=es.length) rfl ω (by simp;have:=ag.o;omega) ?_;intro d l l5 t M u G;refine μ4 M u (r.o.bel.trans G) (u.blk r.o.blk δ) λar z ab s=>?_;have v0:=zac s.o 0;have v1:=zac s.o 1;have v2:=zac s.o 2;have bn:=zag s.o 2;simp only[Xd,Z8,XJ]at v0 v1 v2;have ae:=un (r.o.kept.trans (Kept.tk u G.size δ)))
  go_ret;have I:TKeep 246 t (t.setCell ⟨q,2,none⟩ (d,es.length+1,l)):=TKeep.set s.o _;have W:θ (t.setCell ⟨q,2,none⟩ (d,es.length+1,l)) q #[(bc_,n,cc),.pointer (some ⟨ql,0,none⟩),(d,es.length+1,l)] 246:=by have:=zar (o:=2) (d,es.length+1,l) s.o;simpa using this
  have U:VecsL (t.setCell ⟨q,2,none⟩ (d,es.length+1,l)) H (bc_,n,cc) lc' (C.set k a):=(ap.o.tk z.o δ δ δ).tk I δ δ δ;have T:Below H w (t.setCell ⟨q,2,none⟩ (d,es.length+1,l)):=ab.o.setCell (p:=⟨q,2,none⟩) f.o.own _;have V:Kept TB none w (t.setCell ⟨q,2,none⟩ (d,es.length+1,l)):=ae.o.trans (Kept.set s.o δ _);have bj:zey (t.setCell ⟨q,2,none⟩ (d,es.length+1,l)) ql tb:=((r.o.off tb aY.o).same (by obtain⟨⟨aF,aG,aH,aL,aM,aN,aI,aJ,a1,_⟩,_,_⟩:=r.o.lu;rw[z.o.blk a1 δ,a1])).same (by obtain⟨⟨aF,aG,aH,aL,aM,aN,aI,aJ,a1,_⟩,_,_⟩:=r.o.lu;rw[I.blk (z.o.blk a1 δ) δ,z.o.blk a1 δ]);exact⟨rfl,⟨_,cc,lc',K,ql,F,D,d,l,l5,es++[(k,zes n C a)],⟨by rw[Zz];exact W,U,f.o.low,(r.o.lu.tk z.o δ δ δ δ δ).tk I δ δ δ δ δ,f.o.fac,by rw[Zz];exact ar.o.tk I δ δ δ,av.o,by rw[Zz];simp;omega,f.o.own,f.o.ownK⟩,bj⟩,T,V⟩
 have h8:8<=(es.length:Int):=ω;go_wp2_with (at_builtin;refine zd5 rfl _ _ rfl rfl r.o.etas rfl (zal _ _ _) (r.o.x) (n:=es.length) rfl ω (by simp;have:=ag.o;omega) ?_;intro d l l5 t M u G;refine μ4 M u (r.o.bel.trans G) (u.blk r.o.blk δ) λar z ab s=>?_;have v0:=zac s.o 0;have v1:=zac s.o 1;have v2:=zac s.o 2;have bn:=zag s.o 2;simp only[Xd,Z8,XJ]at v0 v1 v2;have ae:=un (r.o.kept.trans (Kept.tk u G.size δ)))
 have I:TKeep 246 t (t.setCell ⟨q,2,none⟩ (d,es.length+1,l)):=TKeep.set s.o _;have W:θ (t.setCell ⟨q,2,none⟩ (d,es.length+1,l)) q #[(bc_,n,cc),.pointer (some ⟨ql,0,none⟩),(d,es.length+1,l)] 246:=by have:=zar (o:=2) (d,es.length+1,l) s.o;simpa using this
 have U:VecsL (t.setCell ⟨q,2,none⟩ (d,es.length+1,l)) H (bc_,n,cc) lc' (C.set k a):=(ap.o.tk z.o δ δ δ).tk I δ δ δ;have T:Below H w (t.setCell ⟨q,2,none⟩ (d,es.length+1,l)):=ab.o.setCell (p:=⟨q,2,none⟩) f.o.own _;have V:Kept TB none w (t.setCell ⟨q,2,none⟩ (d,es.length+1,l)):=ae.o.trans (Kept.set s.o δ _);refine μ4 W U T V λaX aV aT aq=>?_;refine(factor H q n S cc (some ⟨bc_,0,none⟩) lc' (C.set k a) _ _ _ aX.o aV.o f.o.own a4.o HN.o av.o.good.2.2 (zC3 aU.o)).mono ?_;rintro e w6 (⟨_,rfl,hs,hb6,hk6⟩ | ⟨hr,rfl,_⟩)
 ·refine μ3 (hs tb (λg hg=>Yc (a5.o g hg) aq.o.size)) (aT.o.trans hb6) (aq.o.trans hk6) λHS aS aW=>?_;go_wp2;go_ret
  exact⟨rfl,HS.o,aS.o,aW.o⟩
 exact absurd aZ.o hr
end Bs
def zTV(h:¬0<el col k):znH cols xs col (k+1)=znH cols xs col k:=by simp only[znH];rw[if_neg h]
def zTU(h:0<el col k)(e:znH cols xs col k=none):znH cols xs col (k+1)=some k:=by simp only[znH];rw[if_pos h,e]
def zTc(h:0<el col k)(e:znH cols xs col k=some b)(a:el xs k/el col k<el xs b/el col b\/(el xs k/el col k=el xs b/el col b/\cols.getD k 0<cols.getD b 0)):znH cols xs col (k+1)=some k:=by simp only[znH];rw[if_pos h,e];simp only;rw[if_pos a]
def zTb(h:0<el col k)(e:znH cols xs col k=some b)(a:¬(el xs k/el col k<el xs b/el col b\/(el xs k/el col k=el xs b/el col b/\cols.getD k 0<cols.getD b 0))):znH cols xs col (k+1)=some b:=by simp only[znH];rw[if_pos h,e];simp only;rw[if_neg a]
def zTh(h:znH cols xs col k=some b):b<k:=by have s:=zKk cols xs col k;rw[h]at s;exact s.1
def z0m(h:0<q):q≠0:=ψ
def zYp:0<q.num↔0<q:=by have h:=Y5 (q := -q);rw[Va]at h;grind
section
variable {W0 w:World} {H q:Nat} {rA:OA} {rc:Nat} {lA:List Value} {bA:OA} {bc_:Nat} {kA:OA} {kc:Nat} {eA:OA} {ec m N S own:Nat} {A:List (List Rat)} {b c:List Rat} {left:List Int}
  {tA:OA} {tc:Nat} {cols:List Nat}
namespace Tb
def leave(h:zhi W0 w H q rA rc lA bA bc_ kA kc eA ec m N S own A b c left tA tc cols)(Z:Nat)(hZ:16*Z+8<=LIM)(K:OA)(cK:Nat)(col:List Rat)(HK:Nat)(hk:VecS w HK (.slice K m cK) col)(zx:∀x∈za5 A b cols,mw x<=Z)(zc:∀x∈col,mw x<=Z) :
  Calls prog 121 #[.pointer (some ⟨q,0,none⟩),.slice K m cK] w λe w'=>e=.returned (.int .i64 (zbh (zDG cols (za5 A b cols) col)))/\Below w w w':=by
 obtain⟨qb,xA,xc,u⟩:=h;refine μ10 hk.len u.basis.len (u.basis.vals_ok b).2 hk u.colsI u.x u.blk hZ zx zc λbD bC cV bB bz bF KQ c0 ZX ZC=>?_;have eK:=u.std.hm;have q6:=zac u.blk 6;have q8:=zac u.blk 8;simp only[Xd,Z8,XJ]at q6 q8;have dJ:=zaa q6;clear u hk zx zc hZ;go_enter func121,ntmps121;go_upto_region 3 with fail
 have eL:¬(m:Int)<(m:Int):=ω;go_cut[18,19] (λa b wr=>a=(m:Int)/\b=.int .i64 0/\wr=w.alloc (.cells #[false,(),()] 62))
 case first =>
  have eQ:=cell_al (ob:=.cells #[false,(),()] 62) q6;go_wp2
  all_goals
   go_meet
   case rel=>exact⟨by first | rfl | (simp;done),rfl,rfl⟩
 obtain⟨rfl,rfl,rfl⟩:=hcut;go_wp2
 go_loopw [5,19] (λbv i wr=>∃(k:Nat) (G:Bool) (B:OA) (M E:Nat) (C:OA) (J D:Nat),i=.int .i64 k/\bv=.int .i64 (zbh (znH cols (za5 A b cols) col k))/\k<=m/\θ wr w.heap.size #[G,(B,M,E),(C,J,D)] 62/\(∀g,znH cols (za5 A b cols) col k=some g->RatS wr G (B,M,E) (C,J,D) (el (za5 A b cols) g/el col g))/\Below w w wr)
  (λ_ i _=>m-(intOf i).toNat)
 case atStart=>exact⟨0,_,_,_,_,_,_,_,rfl,rfl,Zb _,zal _ _ _,λb h=>(by cases h),zae w _⟩
 obtain⟨k,G,B,M,E,C,J,D,rfl,rfl,hk,bH,u,p⟩:=hrel;by_cases bJ:k<m
 ·obtain⟨R,rfl,_,_⟩:=bB.o.has ω;obtain⟨s,rfl,_,_⟩:=bz.o.has ω;obtain⟨y,rfl,_,_⟩:=bF.o.has ω;have bL:=zaH (xs:=za5 A b cols) (j:=k) (by rw[cV.o];exact bJ);have bI:=zaH (xs:=col) (j:=k) (by rw[<-bD.o];exact bJ);have dd:=zaO (L:=cols) (i:=k) (d:=0) (by rw[bC.o];exact bJ);obtain⟨ga,Aa,ma,ca,Da,a6,a1,y0,y1,y2,c8⟩:=(bF.o.below p).at_ bL;obtain⟨gb,Ab,mb,cb,Db,aT,aN,z0,z1,z2,da⟩:=(bB.o.below p).at_ bI;have m0:=(bz.o.below p).at_ dd
  have dg:=ZX.o _ (Zj bL);have bh:=ZC.o _ (Zj bI);refine μ5 (bz.o.below p) (show RatS wr ga (Aa,ma,ca) (Da,a6,a1) (el (za5 A b cols) k)from c8) (da) (show ∀g,znH cols (za5 A b cols) col k=some g->RatS wr G (B,M,E) (C,J,D) (el (za5 A b cols) g/el col g)from u) (Bel.mk p) λd8 dz cY dw HW=>?_;have bm:=y0;have bn:=y1;have bo:=y2;have bq:=z0;have br:=z1;have bs:=z2;have bt:=m0;have bu:=zab p q6;have bw:=zab p q8;have cU:=dw;have c4:=un bH;have bm:=y0;have bn:=y1;have bo:=y2;have bq:=z0;have br:=z1;have bs:=z2;have bt:=m0;have bu:=zab p q6;have bw:=zab p q8;have c1:=un dg;have c3:=un bh;have eF:(0:Int)<=(k:Int):=Zg _;have eG:(k:Int)<(m:Int):=ω;clear bH u p bL bI dd y0 y1 y2 z0 z1 z2 m0 c8 da dg bh q6 q8 dJ;go_wp2_with fail
  refine(Rt.sign gb Ab mb cb Db aT aN (el col k) _ cY.o).mono ?_
  rintro e v1 ⟨rfl,hb⟩;refine μ5 (zad hb c4.o) (d8.o.below hb) (dz.o.below hb) (cY.o.below hb) (HW.o.below hb) λcg d9 dn dp dl=>?_;obtain⟨ee,_,_,_,ef,_,_,_,en,_⟩:=bf3 cg.o;have ck:=zab hb bm;have cp:=zab hb bn;have cu:=zab hb bo;have cv:=zab hb bq;have cC:=zab hb br;have cE:=zab hb bs;have cG:=zab hb bt;have cO:=zab hb bu;have cR:=zab hb bw;have cT:=un hb;clear hb;by_cases aR:0<el col k
  ·have de:=zYp.2 aR;have df:¬(el col k).num.sign<=0:=by rw[Y0 de];decide
   have dF:¬(el col k).num<=0:=ω;have eN:decide ((el col k).num<=0)=false:=ZJ dF;refine μ3 (z0m aR) aR (show 4*(mw (el (za5 A b cols) k)+mw (el col k))+8<=LIM by have:=c0.o;have:=c1.o;have:=c3.o;omega) λdy aZ du=>?_;clear aR;go_upto_region 7 with fail
   have HS:=un (show ∀w',Below v1 v1 w'->((χ w' w 0 (.bool G)/\χ w' w 1 (B,M,E)/\χ w' w 2 (C,J,D)/\χ w' y (k*3) (.bool ga)/\χ w' y (k*3+1) (Aa,ma,ca)/\χ w' y (k*3+2) (Da,a6,a1)/\χ w' R (k*3) (.bool gb)/\χ w' R (k*3+1) (Ab,mb,cb)/\χ w' R (k*3+2) (Db,aT,aN)/\χ w' s k (.int .i64 ((cols.getD k 0:Nat):Int))/\χ w' q 6 (s,m,tc)/\χ w' q 8 (y,m,xc))/\Below v1 v1 w')from λw' h=>⟨⟨zab h ee,zab h ef,zab h en,zab h ck,zab h cp,zab h cu,zab h cv,zab h cC,zab h cE,zab h cG,zab h cO,zab h cR⟩,h⟩);go_cut[8,9] (λs8 s9 wz=>zcD v1 s8 wz (el (za5 A b cols) k/el col k))
   case first =>
    go_region_held3 (λw'=>((χ w' w 0 (.bool G)/\χ w' w 1 (B,M,E)/\χ w' w 2 (C,J,D)/\χ w' y (k*3) (.bool ga)/\χ w' y (k*3+1) (Aa,ma,ca)/\χ w' y (k*3+2) (Da,a6,a1)/\χ w' R (k*3) (.bool gb)/\χ w' R (k*3+1) (Ab,mb,cb)/\χ w' R (k*3+2) (Db,aT,aN)/\χ w' s k (.int .i64 ((cols.getD k 0:Nat):Int))/\χ w' q 6 (s,m,tc)/\χ w' q 8 (y,m,xc))/\Below v1 v1 w'))
     ((refine HS.o _ ?_;repeat(first | exact Zl _ _ | exact(by assumption:_/\Below _ _ _).2 | refine bdrew ?_ | refine al2 ?_ _ | refine set2 ?_ ω | refine zc1 ?_ (by assumption))))
     (first
      | (go_at_call 159;(refine(Rt.div ga Aa ma ca Da a6 a1 (el (za5 A b cols) k) gb Ab mb cb Db aT aN (el col k) _ (dn.o.below (by assumption:_/\Below _ _ _).2) (dp.o.below (by assumption:_/\Below _ _ _).2) dy.o du.o).mono ?_);rintro e u2 ⟨g2,A2,m2,c2,D2,md2,cd2,rfl,hn,hb2⟩;have bh:=hb2.size;(try simp at bh);have eP:v1.heap.size<=u2.heap.size:=ω;(try((first | (have Q:=un (zbc (cs:=#[.bool false,.slice none 0 0,.slice none 0 0]) (t:=62) hb2 Q.o)) | (have Q:=un (zbc (cs:=#[.bool false,.slice none 0 0,.slice none 0 0]) (t:=62) hb2 (zal _ _ _))));have ev:=zac Q.o 0;have ey:=zag Q.o 0;have ew:=zac Q.o 1;have ez:=zag Q.o 1;have ex:=zac Q.o 2;have eB:=zag Q.o 2));have N7:=un hn;clear hn)
      | fail)
    all_goals
     go_wp2;go_meet
     case rel=>(have I:=(by assumption:_/\Below v1 v1 _).2;(first | (refine zcD.of I ?_ Q.o N7.o;omega) | (refine zcD.al I ?_ N7.o;omega) | (refine zcD.of I ?_ (zal _ _ _) (N7.o.alloc _);omega)))
   obtain⟨r,z,O,V,T,P,W,U,rfl,o,eM,bg,hi⟩:=hcut;rename World=>wz
   refine μ6 (λb h=>((cU.o b h).below cT.o).below o) (zad o cg.o) (d9.o.below o) (dn.o.below o) (dl.o.below o) (hi) λdx ch b7 dq dm HR=>?_;obtain⟨fz,_,_,_,fA,_,_,_,fG,_⟩:=bf3 ch.o;have cI:=zab o cG;have cJ:=zab o cO;have cP:χ wz r 0 (.bool z):=zac bg 0;have cM:χ wz r 1 (O,V,T):=zac bg 1;have cQ:χ wz r 2 (P,W,U):=zac bg 2;clear o HS;clear hi bg;cases I:znH cols (za5 A b cols) col k with
   | none =>
    have hp:zbh none = -1:=rfl;rw[hp];have aL:=un I;clear I;go_upto_region 11 with fail
    go_cut[70] (λc wx=>c=true/\Below wz.heap.size wz wx)
    case first =>
     refine wp_region_noPanic ?_;refine wp_region_held_drew (S:=λw'=>χ w' r 0 (.bool z)) ξ kp λhHeld=>?_;refine zaw [0,1,2] ?_;repeat refine tkH hHeld ?_
     refine zao ?_;refine zaw [3,4,5,6,7,8,9,10,11,12,13,14,15,16,17,18,19,20,21] ?_;repeat refine skH hHeld ?_
     refine zao ?_;refine zaw [22] ?_;repeat refine tkH hHeld ?_
     refine zao ?_;refine wpAnyH_done ξ ?_ _;refine NoPanic.normal ?_;go_wp2;go_meet;exact⟨by first | rfl | (simp at aP ⊢;omega) | (simp;omega),zap _ 1⟩
    obtain⟨rfl,f⟩:=hcut;rename World=>wy
    refine μ4 (zad f ch.o) (dq.o.below f) (dm.o.below f) (HR.o.below f) λab bb aV aW=>?_;obtain⟨_,eg,_,ek,ej,_,ep,_,er,_,ed,_⟩:=bf3 ab.o;have aA:=zab f cI;have aB:=zab f cJ;have aD:=zab f cP;have ap:=zab f cM;have au:=zab f cQ;have l:=un (zTU aZ.o aL.o);go_wp2_with fail
    refine zaS (S:=λw'=>χ w' r 0 (.bool z)/\χ w' r 1 (O,V,T)/\χ w' r 2 (P,W,U)) [3] (h:=λhHeld=>?_);refine zaw [0,1,2] ?_;repeat refine tkL hHeld ?_
    refine zao ?_;refine zay 3 (h:=λK hK=>?_);go_simp;refine shutOff hK ?_;clear hK K;refine zaM (h:=?_);go_wp2;go_roundw
    case rel=>exact⟨k+1,z,O,V,T,P,W,U,by go_num,by rw[l.o];rfl,ω,zar _ (zar _ (zar _ ab.o)),λb h=>by rw[l.o]at h;injection h with h;subst h;exact(aW.o.set3 ab.o δ _ _ _).drew,(Bel.set3 aV.o (Za _) _ _ _).drew.b⟩
    case measure=>simp[intOf];omega
   | some g =>
    have hp:zbh (some g)=(g:Int):=rfl;rw[hp];have aL:=un I;have cW:=un (dx.o g I);have eD:=zTh I;have eI:(0:Int)<=(g:Int):=Zg _;have eJ:(g:Int)<(m:Int):=ω;have dH:=ZX.o _ (Zj (zaH (xs:=za5 A b cols) (j:=g) (by rw[cV.o];omega)));have dI:=ZC.o _ (Zj (zaH (xs:=col) (j:=g) (by rw[<-bD.o];omega)));have dv:=un (show 4*(mw (el (za5 A b cols) k/el col k)+mw (el (za5 A b cols) g/el col g))+8<=LIM by have h1:=zyw (el (za5 A b cols) k) (el col k);have h2:=zyw (el (za5 A b cols) g) (el col g);have:=c0.o;have:=c1.o;have:=c3.o;omega);have dc:=b7.o.at_ (zaO (L:=cols) (i:=g) (d:=0) (by rw[bC.o];omega));clear I dH dI;go_wp2_with fail
    refine(Rt.cmpr z O V T P W U (el (za5 A b cols) k/el col k) G B M E C J D (el (za5 A b cols) g/el col g) _ HR.o cW.o dv.o).mono ?_
    rintro e Y ⟨rfl,hb⟩;refine μ5 (zad hb ch.o) (dq.o.below hb) (dm.o.below hb) (HR.o.below hb) (cW.o.below hb) λab bb aV aW bl=>?_;obtain⟨_,eg,_,ek,ej,_,ep,_,er,_,ed,_⟩:=bf3 ab.o;have aA:=zab hb cI;have aB:=zab hb cJ;have aD:=zab hb cP;have ap:=zab hb cM;have au:=zab hb cQ;have be:=zab hb dc;clear hb;by_cases hc:el (za5 A b cols) k/el col k<el (za5 A b cols) g/el col g
    ·have a3:=zm9.2 hc;have a4:=ZG a3;have ae:=un (zTc aZ.o aL.o (.inl hc));clear hc;go_upto_region 11 with fail
     go_cut[70] (λc wx=>c=true/\Below Y Y wx)
     case first =>
      refine wp_region_noPanic ?_;refine wp_region_held_drew (S:=λw'=>χ w' r 0 (.bool z)) ξ kp λhHeld=>?_;refine zaw [0,1,2] ?_;repeat refine tkH hHeld ?_
      refine zao ?_;try simp only[a4]
      refine zaw [3,4,5,6,7,8,9,10,11,12,13,14,15,16,17,18,19,20,21] ?_;repeat refine skH hHeld ?_
      refine zao ?_;refine zaw [22] ?_;repeat refine tkH hHeld ?_
      refine zao ?_;refine wpAnyH_done ξ ?_ _;refine NoPanic.normal ?_;go_wp2;go_meet;exact⟨by first | rfl | (simp at aP ⊢;omega) | (simp;omega),zap _ 1⟩
     obtain⟨rfl,f⟩:=hcut;rename World=>wy
     refine μ5 (zad f ab.o) (bb.o.below f) (aV.o.below f) (aW.o.below f) (bl.o.below f) λv cd aH a7 ba=>?_;obtain⟨_,ci,_,cr,co,_,cz,_,cN,_,b6,_⟩:=bf3 v.o;have ai:=zab f aD;have aE:=zab f ap;have aF:=zab f au;have l:=un (ae.o);go_wp2_with fail
     refine zaS (S:=λw'=>χ w' r 0 (.bool z)/\χ w' r 1 (O,V,T)/\χ w' r 2 (P,W,U)) [3] (h:=λhHeld=>?_);refine zaw [0,1,2] ?_;repeat refine tkL hHeld ?_
     refine zao ?_;refine zay 3 (h:=λK hK=>?_);go_simp;refine shutOff hK ?_;clear hK K;refine zaM (h:=?_);go_wp2;go_roundw
     case rel=>exact⟨k+1,z,O,V,T,P,W,U,by go_num,by rw[l.o];rfl,ω,zar _ (zar _ (zar _ v.o)),λb h=>by rw[l.o]at h;injection h with h;subst h;exact(a7.o.set3 v.o δ _ _ _).drew,(Bel.set3 aH.o (Za _) _ _ _).drew.b⟩
     case measure=>simp[intOf];omega
    have a3:¬zlX (el (za5 A b cols) k/el col k) (el (za5 A b cols) g/el col g)<0:=λh=>hc (zm9.1 h)
    have a4:=ZJ a3;by_cases he:el (za5 A b cols) k/el col k=el (za5 A b cols) g/el col g
    ·have aQ:=(zkD _ _).2 he;rw[aQ];by_cases bf:cols.getD k 0<cols.getD g 0
     ·have aP:((cols.getD k 0:Nat):Int)<((cols.getD g 0:Nat):Int):=ω
      have ae:=un (zTc aZ.o aL.o (.inr ⟨he,bf⟩));clear he hc bf a3 a4 aQ;go_upto_region 11 with fail
      go_cut[70] (λc wx=>c=true/\Below Y Y wx)
      case first =>
       refine wp_region_noPanic ?_;refine wp_region_held_drew (S:=λw'=>χ w' s k (.int .i64 ((cols.getD k 0:Nat):Int))/\χ w' q 6 (s,m,tc)/\χ w' s g (.int .i64 ((cols.getD g 0:Nat):Int))) ξ kp λhHeld=>?_;refine zaw [0,1,2,3,4,5,6,7,8,9,10,11,12,13,14,15,16,17,18,19,20,21,22] ?_;repeat refine tkH hHeld ?_
       refine zao ?_;refine wpAnyH_done ξ ?_ _;refine NoPanic.normal ?_;go_wp2;go_meet;exact⟨by first | rfl | (simp at aP ⊢;omega) | (simp;omega),zap _ 1⟩
      obtain⟨rfl,f⟩:=hcut;rename World=>wy
      refine μ5 (zad f ab.o) (bb.o.below f) (aV.o.below f) (aW.o.below f) (bl.o.below f) λv cd aH a7 ba=>?_;obtain⟨_,ci,_,cr,co,_,cz,_,cN,_,b6,_⟩:=bf3 v.o;have ai:=zab f aD;have aE:=zab f ap;have aF:=zab f au;have l:=un (ae.o);go_wp2_with fail
      refine zaS (S:=λw'=>χ w' r 0 (.bool z)/\χ w' r 1 (O,V,T)/\χ w' r 2 (P,W,U)) [3] (h:=λhHeld=>?_);refine zaw [0,1,2] ?_;repeat refine tkL hHeld ?_
      refine zao ?_;refine zay 3 (h:=λK hK=>?_);go_simp;refine shutOff hK ?_;clear hK K;refine zaM (h:=?_);go_wp2;go_roundw
      case rel=>exact⟨k+1,z,O,V,T,P,W,U,by go_num,by rw[l.o];rfl,ω,zar _ (zar _ (zar _ v.o)),λb h=>by rw[l.o]at h;injection h with h;subst h;exact(a7.o.set3 v.o δ _ _ _).drew,(Bel.set3 aH.o (Za _) _ _ _).drew.b⟩
      case measure=>simp[intOf];omega
     have aP:¬((cols.getD k 0:Nat):Int)<((cols.getD g 0:Nat):Int):=ω;have ae:=un (zTb aZ.o aL.o (λh=>h.elim hc λh=>bf h.2));clear he hc bf a3 a4 aQ;go_upto_region 11 with fail
     go_cut[70] (λc wx=>c=false/\Below Y Y wx)
     case first =>
      refine wp_region_noPanic ?_;refine wp_region_held_drew (S:=λw'=>χ w' s k (.int .i64 ((cols.getD k 0:Nat):Int))/\χ w' q 6 (s,m,tc)/\χ w' s g (.int .i64 ((cols.getD g 0:Nat):Int))) ξ kp λhHeld=>?_;refine zaw [0,1,2,3,4,5,6,7,8,9,10,11,12,13,14,15,16,17,18,19,20,21,22] ?_;repeat refine tkH hHeld ?_
      refine zao ?_;refine wpAnyH_done ξ ?_ _;refine NoPanic.normal ?_;go_wp2;go_meet;exact⟨by first | rfl | (simp at aP ⊢;omega) | (simp;omega),zap _ 1⟩
     obtain⟨rfl,f⟩:=hcut;rename World=>wy
     refine μ5 (zad f ab.o) (bb.o.below f) (aV.o.below f) (aW.o.below f) (bl.o.below f) λv cd aH a7 ba=>?_;obtain⟨_,ci,_,cr,co,_,cz,_,cN,_,b6,_⟩:=bf3 v.o;have ai:=zab f aD;have aE:=zab f ap;have aF:=zab f au;have l:=un (ae.o);go_wp2;go_roundw
     case rel=>exact⟨k+1,G,B,M,E,C,J,D,by go_num,by rw[l.o];rfl,ω,v.o,λb h=>by rw[l.o]at h;injection h with h;subst h;exact ba.o,aH.o.b⟩
     case measure=>simp[intOf];omega
    have aQ:¬zlX (el (za5 A b cols) k/el col k) (el (za5 A b cols) g/el col g)=0:=λh=>he ((zkD _ _).1 h)
    have dD:decide (zlX (el (za5 A b cols) k/el col k) (el (za5 A b cols) g/el col g)=0)=false:=ZJ aQ;have dE:(zlX (el (za5 A b cols) k/el col k) (el (za5 A b cols) g/el col g) == 0)=false:=by simpa using aQ
    have ae:=un (zTb aZ.o aL.o (λh=>h.elim hc λh=>he h.1));clear he hc;go_upto_region 11 with fail
    go_cut[70] (λc wx=>c=false/\Below Y Y wx)
    case first =>
     refine wp_region_noPanic ?_;refine wp_region_held_drew (S:=λw'=>χ w' r 0 (.bool z)) ξ kp λhHeld=>?_;refine zaw [0,1,2] ?_;repeat refine tkH hHeld ?_
     refine zao ?_;try simp only[a4]
     refine zaw [3,4,5] ?_;repeat refine tkH hHeld ?_
     refine zao ?_;try simp only[dD,dE]
     refine zaw [6,7,8,9,10,11,12,13,14,15,16,17,18,19,20] ?_;repeat refine skH hHeld ?_
     refine zao ?_;refine zaw [21,22] ?_;repeat refine tkH hHeld ?_
     refine zao ?_;refine wpAnyH_done ξ ?_ _;refine NoPanic.normal ?_;go_wp2;go_meet;exact⟨by first | rfl | (simp at aP ⊢;omega) | (simp;omega),zap _ 1⟩
    obtain⟨rfl,f⟩:=hcut;rename World=>wy
    refine μ5 (zad f ab.o) (bb.o.below f) (aV.o.below f) (aW.o.below f) (bl.o.below f) λv cd aH a7 ba=>?_;obtain⟨_,ci,_,cr,co,_,cz,_,cN,_,b6,_⟩:=bf3 v.o;have ai:=zab f aD;have aE:=zab f ap;have aF:=zab f au;have l:=un (ae.o);go_wp2;go_roundw
    case rel=>exact⟨k+1,G,B,M,E,C,J,D,by go_num,by rw[l.o];rfl,ω,v.o,λb h=>by rw[l.o]at h;injection h with h;subst h;exact ba.o,aH.o.b⟩
    case measure=>simp[intOf];omega
  have de:(el col k).num<=0:=Int.not_lt.1 λh=>aR (zYp.1 h)
  have df:(el col k).num.sign<=0:=by rcases Yo (el col k).num 0 with h | h | h;rw[YZ h];decide;rw[h];decide;omega
  have l:=un (zTV (cols:=cols) (xs:=za5 A b cols) (col:=col) (k:=k) aR);go_wp2;go_roundw
  case rel=>exact⟨k+1,G,B,M,E,C,J,D,by go_num,by rw[l.o],ω,cg.o,λb h=>by rw[l.o]at h;exact(cU.o b h).below cT.o,dl.o.b⟩
  case measure=>simp[intOf];omega
 obtain rfl:m=k:=ω;have l:=un (show zDG cols (za5 A b cols) col=znH cols (za5 A b cols) col m by unfold zDG;rw[<-bD.o,bC.o,Vh]);have ds:=un p;clear bH u p;go_wp2;go_ret;exact⟨by rw[l.o];rfl,ds.o⟩
end Tb
end
