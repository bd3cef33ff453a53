/- Contracts and lemmas: BasR Tb6. Conditions: as each says. -/
import Derived.Test.YtbpjabgfcbjjmaaGreatLuFacYe
import Derived.Test.YtbpjabgfcbjjmaaGreatBoolsYe
import Derived.Test.YtbpjabgfcbjjmaaGreatBasTYe
set_option linter.all false
set_option maxHeartbeats 4000000
set_option maxRecDepth 100000
namespace Go.Proofs.YtbpjabgfcbjjmaaGreat
open Go.RowKit Am Tryz
attribute [local go_sem ↓] Go.wp_at_zero Go.wp_at_succ
variable {cols:List Nat}{col xs:List Rat}{b k:Nat}{q:Rat}
structure BasH (w wy:World) (H q n:Nat) (cA:OA) (cc:Nat) (C':List (List Rat)) (K ql:Nat) (F:LUv) (eA:OA) (ec:Nat) (le:List (Nat × Value)) (es:List (Nat × List Rat)) (X:OA) (cX:Nat) (x:List Rat):Prop where
  blk:θ wy q #[(cA,n,cc),.pointer (some ⟨ql,0,none⟩),(eA,es.length,ec)] 246
  cols:∃lc',VecsL wy H (cA,n,cc) lc' C'
  lu:LuS wy K ql n F
  etas:EtasL wy H (eA,es.length,ec) le es
  x:VecS wy H (X,n,cX) x
  bel:Below H w wy
  kept:Kept TB none w wy
  off:∀tb,zey w ql tb->zey wy ql tb
namespace BasH
variable {w wy w':World} {H q n:Nat} {cA:OA} {cc:Nat} {C':List (List Rat)} {K ql:Nat} {F:LUv} {eA:OA} {ec:Nat} {le:List (Nat × Value)} {es:List (Nat × List Rat)} {X:OA} {cX:Nat} {x:List Rat}
theorem below(h:BasH w wy H q n cA cc C' K ql F eA ec le es X cX x)(d:H<=wy.heap.size)(a:Below wy wy w'):BasH w w' H q n cA cc C' K ql F eA ec le es X cX x:=by obtain⟨lc',hc⟩:=h.cols;exact⟨zad a h.blk,⟨lc',hc.below a⟩,h.lu.below a,h.etas.below a,h.x.below a,h.bel.trans (a.mono d),h.kept.below a,λtb e=>(h.off tb e).same (a.block ql h.lu.qlt)⟩
end BasH
namespace Bs
theorem replace(H q n S k:Nat)(C:List (List Rat))(A:OA)(T:Nat)(a:List Rat)(Z:Nat)(w:World)(tb:Option Nat)(aE:∀g,tb=some g->g<w.heap.size)(hB:zhf w H q n S C tb)(P:VecS w Z (A,n,T) a)(hn:n<=64)(hk:k<n)(zv:∀x∈a,mw x<=S)(hS:1<=S)(hp:el (zes n C a) k≠0)(aj:zpS n S S<=LIM) :
  Calls prog 160 #[.pointer (some ⟨q,0,none⟩),(k:Int),(A,n,T)] w λe w'=>e=.returned .nilIface/\zhf w' H q n S (C.set k a) tb/\Below H w w'/\Kept TB none w w':=by
 refine μ3 (solve H q n S S C A T a Z w hB.toS P hn zv hS aj) hB.toS aE λa4 ad a6=>?_;obtain⟨cA,cc,lc,K,ql,F,D,eA,ec,le,es,G,ay⟩:=hB;refine μ9 ay hn hk hp aj G P P.len (λi (hi:i<n)=>zrz zv (i:=i) (by rw[<-P.len];exact hi)) λaZ HN R ag aV f a7 ao bc=>?_;have bJ:=G.few;have bM:n<=9223372036854775807:=ω;have bK:(0:Int)<=(k:Int):=Zf _;have bL:(k:Int)<(n:Int):=ω;have h1:decide ((k:Int)<0)=false:=σ;have h2:decide ((n:Int)<=(k:Int))=false:=by simp;omega
 obtain⟨bc_,rfl,bh,bF⟩:=G.cols.has ω;obtain⟨k0,_,Q,_⟩:=bc3 G.blk;obtain⟨r0,aB⟩:∃r0,C[k]? = some r0:=⟨C[k]'(by rw[G.right.good.1.len];exact hk),Ze _⟩
 obtain⟨Ao,co,_,y0,_⟩:=G.cols.at_ aB;clear G P hn hk zv hS hp aj aB ay aE;go_enter func160,ntmps160;go_wp2_with fail
 with_reducible refine(a4.o).mono ?_
 rintro e w1 ⟨B,n1,c1,rfl,hv1,hb⟩;refine μ3 (f.o.below hb) (a7.o.below hb) (hv1) λbz bt L=>?_;have bv:=zab hb k0;clear hv1;have y1:=zab hb y0;have ap:=un hb;clear hb y0;obtain rfl:n=n1:=by rw[L.o.len,(zci ad.o.good.1 ad.o.good.2.1 a).2]
 have aD:=zaH (xs:=zes n C a) (j:=k) (by rw[<-L.o.len];exact R.o);obtain⟨bx,rfl,bG,bH⟩:=L.o.has ω;obtain⟨gx,Ax,mx,cx,Dx,bm,bd,x0,x1,x2,az⟩:=L.o.at_ aD;have a2:=un az;clear aD az;go_wp2_with fail
 with_reducible refine(Rt.zero gx Ax mx cx Dx bm bd (el (zes n C a) k) _ a2.o).mono ?_
 rintro e z ⟨rfl,hb⟩;refine μ3 (bz.o.below hb) (bt.o.below hb) (L.o.below hb) λbB bu bC=>?_;have bw:=zab hb bv;have bq:=zaa bw;have y2:=zab hb y1;have aQ:=zaa y2;have aa:=un (ap.o.trans (hb.mono ap.o.size));clear hb x0 x1 x2 y1;have hz:zr (el (zes n C a) k)=false:=Z3 ag.o;have ae:=un (f.o.hle);go_upto_region 8 with fail
 go_cut[] (λwy=>BasH w wy H q n (some ⟨bc_,0,none⟩) cc (C.set k a) K ql F eA ec le es (some ⟨bx,0,none⟩) c1 (zes n C a))
 case first=>as_aux_lemma =>
  refine zaS (S:=λw'=>χ w' q 0 (bc_,n,cc)) [8] (h:=λhHeld=>?_);refine zaw [0,1,2,3,4,5] ?_;repeat refine tkL (hS:=hHeld) (h:=?_)
  refine zao ?_;refine zaB 6 (h:=λK M=>?_);go_simp;(go_at_call 108;(with_reducible refine(Vc.copy A n T a Z _ (bu.o.drew) (by have:=HN.o;omega)).mono ?_);rintro e u1 ⟨A2,c2,rfl,hv2,hb⟩;refine μ4 (show VecS u1 z (A2,n,c2) a from hv2) (bB.o.below (show Below z z u1 from It.bdrew0' hb)) (bC.o.below (show Below z z u1 from It.bdrew0' hb)) (aa.o.trans ((show Below z z u1 from It.bdrew0' hb).mono aa.o.size)) λa8 v a9 ab=>?_;have s0:=zab hb bq;have s1:=zab hb aQ;have sf:=v.o.cols.fro k;have bb:=un (aa.o.size);clear hv2 hb);(try go_wp2_with fail);refine shutOn M λhHeld=>?_;clear M K;refine zaw [7] ?_;repeat refine tkL (hS:=hHeld) (h:=?_)
  refine zao ?_;refine zay 8 (h:=λK M=>?_);go_simp;refine shutOff M ?_;clear M K;refine zaM (h:=?_);go_wp2;go_meet;have bi:=v.o.cols.blk;obtain⟨cs,ak⟩:=bi;have Q:TKeep 30 u1 (u1.setCell ⟨bc_,k,none⟩ (A2,n,c2)):=TKeep.set ak _
  case rel=>exact⟨Q.blk v.o.blk δ,⟨_,v.o.cols.store (by rw[ad.o.good.1.len];exact R.o) (a8.o.base (by have:=ae.o;have:=bb.o;omega))⟩,(Hi.set (v.o.low bc_ rfl) ak δ _).lu v.o.lu,v.o.etas.tk Q δ δ δ,(a9.o.base ae.o).tk Q δ δ,(ab.o.mono ae.o).setCell (p:=⟨bc_,k,none⟩) bh _,(Kept.of_below ab.o).trans (Kept.set ak δ _),λtb ho=>(ho.same (ab.o.block ql f.o.lu.qlt)).same (by obtain⟨⟨aG,aH,aI,aM,aN,aO,aJ,aK,y,_⟩,_,_⟩:=v.o.lu;rw[Q.blk y δ,y])⟩
 rename World=>wy
 have HY:=un hcut;have ah:=un (Zl f.o.own (Xi (ZS.1 hcut.blk).1));obtain⟨_,_,_,_,_,_,_,_,z2,_⟩:=bf3 hcut.blk;clear hcut y2 aQ;refine μ4 (HY.o.below ah.o (zae wy (.cells #[(k:Int),(bx,n,c1)] 248))) (f.o.right.good.1.set (k:=k) ao.o.symm) (zjl f.o.right.good.1 f.o.right.good.2.1 R.o (zci f.o.right.good.1 f.o.right.good.2.1 a).1 ag.o) (EtasZ.snoc f.o.right R.o ao.o.symm bc.o ag.o) λr a5 a0 aw=>?_;obtain⟨lc',aA⟩:=r.o.cols;have aq:=un aA;clear aA;by_cases bI:es.length<8
 ·have h8:((es.length:Int))<8:=ω
  go_wp2_with (at_builtin;refine zd5 rfl _ _ rfl rfl r.o.etas rfl (zal _ _ _) (r.o.x) (n:=es.length) rfl ω (by simp;have:=ah.o;omega) ?_;intro d l l5 t O u I;refine μ4 O u (r.o.bel.trans I) (u.blk r.o.blk δ) λau E ac s=>?_;have v0:=zac s.o 0;have v1:=zac s.o 1;have v2:=zac s.o 2;have bo:=zag s.o 2;simp only[Xa,Z9,XH]at v0 v1 v2;have af:=un (r.o.kept.trans (Kept.tk u I.size δ));clear O u I)
  go_ret;have J:TKeep 246 t (t.setCell ⟨q,2,none⟩ (d,es.length+1,l)):=TKeep.set s.o _;have Y:θ (t.setCell ⟨q,2,none⟩ (d,es.length+1,l)) q #[(bc_,n,cc),.pointer (some ⟨ql,0,none⟩),(d,es.length+1,l)] 246:=by have:=zar (o:=2) (d,es.length+1,l) s.o;simpa using this
  have V:=(aq.o.tk E.o δ δ δ).tk J δ δ δ;have U:Below H w (t.setCell ⟨q,2,none⟩ (d,es.length+1,l)):=ac.o.setCell (p:=⟨q,2,none⟩) f.o.own _;have W:Kept TB none w (t.setCell ⟨q,2,none⟩ (d,es.length+1,l)):=af.o.trans (Kept.set s.o δ _);have bk:zey (t.setCell ⟨q,2,none⟩ (d,es.length+1,l)) ql tb:=((r.o.off tb aZ.o).same (by obtain⟨⟨aG,aH,aI,aM,aN,aO,aJ,aK,y,_⟩,_,_⟩:=r.o.lu;rw[E.o.blk y δ,y])).same (by obtain⟨⟨aG,aH,aI,aM,aN,aO,aJ,aK,y,_⟩,_,_⟩:=r.o.lu;rw[J.blk (E.o.blk y δ) δ,E.o.blk y δ]);exact⟨rfl,⟨_,cc,lc',K,ql,F,D,d,l,l5,es++[(k,zes n C a)],⟨by rw[ZD];exact Y,V,f.o.low,(r.o.lu.tk E.o δ δ δ δ δ).tk J δ δ δ δ δ,f.o.fac,by rw[ZD];exact au.o.tk J δ δ δ,aw.o,by rw[ZD];simp;omega,f.o.own,f.o.ownK⟩,bk⟩,U,W⟩
 have h8:8<=(es.length:Int):=ω;go_wp2_with (at_builtin;refine zd5 rfl _ _ rfl rfl r.o.etas rfl (zal _ _ _) (r.o.x) (n:=es.length) rfl ω (by simp;have:=ah.o;omega) ?_;intro d l l5 t O u I;refine μ4 O u (r.o.bel.trans I) (u.blk r.o.blk δ) λau E ac s=>?_;have v0:=zac s.o 0;have v1:=zac s.o 1;have v2:=zac s.o 2;have bo:=zag s.o 2;simp only[Xa,Z9,XH]at v0 v1 v2;have af:=un (r.o.kept.trans (Kept.tk u I.size δ));clear O u I)
 have J:TKeep 246 t (t.setCell ⟨q,2,none⟩ (d,es.length+1,l)):=TKeep.set s.o _;have Y:θ (t.setCell ⟨q,2,none⟩ (d,es.length+1,l)) q #[(bc_,n,cc),.pointer (some ⟨ql,0,none⟩),(d,es.length+1,l)] 246:=by have:=zar (o:=2) (d,es.length+1,l) s.o;simpa using this
 have V:=(aq.o.tk E.o δ δ δ).tk J δ δ δ;have U:Below H w (t.setCell ⟨q,2,none⟩ (d,es.length+1,l)):=ac.o.setCell (p:=⟨q,2,none⟩) f.o.own _;have W:Kept TB none w (t.setCell ⟨q,2,none⟩ (d,es.length+1,l)):=af.o.trans (Kept.set s.o δ _);refine μ4 Y V U W λaY aW aU ar=>?_;clear J Y V U W;refine(factor H q n S cc (some ⟨bc_,0,none⟩) lc' (C.set k a) _ _ _ aY.o aW.o f.o.own a5.o HN.o aw.o.good.2.2 (zC3 aV.o)).mono ?_;rintro e w6 (⟨_,rfl,hs,hb6,hk6⟩ | ⟨hr,rfl,_⟩)
 ·refine μ3 (hs tb (λg hg=>X5 (a6.o g hg) ar.o.size)) (aU.o.trans hb6) (ar.o.trans hk6) λHS aT aX=>?_;clear hs hb6 hk6;go_wp2;go_ret
  exact⟨rfl,HS.o,aT.o,aX.o⟩
 exact absurd a0.o hr
end Bs
theorem zTV(h:¬0<el col k):znH cols xs col (k+1)=znH cols xs col k:=by simp only[znH];rw[if_neg h]
theorem zTU(h:0<el col k)(e:znH cols xs col k=none):znH cols xs col (k+1)=some k:=by simp only[znH];rw[if_pos h,e]
theorem zTc(h:0<el col k)(e:znH cols xs col k=some b)(a:el xs k/el col k<el xs b/el col b\/(el xs k/el col k=el xs b/el col b/\cols.getD k 0<cols.getD b 0)):znH cols xs col (k+1)=some k:=by simp only[znH];rw[if_pos h,e];simp only;rw[if_pos a]
theorem zTb(h:0<el col k)(e:znH cols xs col k=some b)(a:¬(el xs k/el col k<el xs b/el col b\/(el xs k/el col k=el xs b/el col b/\cols.getD k 0<cols.getD b 0))):znH cols xs col (k+1)=some b:=by simp only[znH];rw[if_pos h,e];simp only;rw[if_neg a]
theorem zTh(h:znH cols xs col k=some b):b<k:=by have s:=zKk cols xs col k;rw[h]at s;exact s.1
theorem z0m(h:0<q):q≠0:=ψ
theorem zYp:0<q.num↔0<q:=by have h:=Y3 (q := -q);rw[Y8]at h;grind
section
variable {W0 w:World} {H q:Nat} {rA:OA} {rc:Nat} {lA:List Value} {bA:OA} {bc_:Nat} {kA:OA} {kc:Nat} {eA:OA} {ec m N S own:Nat} {A:List (List Rat)} {b c:List Rat} {left:List Int}
  {tA:OA} {tc:Nat} {cols:List Nat}
namespace Tb
theorem leave(h:zhi W0 w H q rA rc lA bA bc_ kA kc eA ec m N S own A b c left tA tc cols)(Z:Nat)(hZ:16*Z+8<=LIM)(K:OA)(cK:Nat)(col:List Rat)(HK:Nat)(hk:VecS w HK (.slice K m cK) col)(zx:∀x∈za5 A b cols,mw x<=Z)(zc:∀x∈col,mw x<=Z) :
  Calls prog 121 #[.pointer (some ⟨q,0,none⟩),.slice K m cK] w λe w'=>e=.returned (.int .i64 (zbh (zDG cols (za5 A b cols) col)))/\Below w w w':=by
 obtain⟨qb,xA,xc,u⟩:=h;refine μ10 hk.len u.basis.len (u.basis.vals_ok b).2 hk u.colsI u.x u.blk hZ zx zc λbD bC cV bB bz bF KQ c0 ZX ZC=>?_;have eL:=u.std.hm;have q6:=zac u.blk 6;have q8:=zac u.blk 8;simp only[Xa,Z9,XH]at q6 q8;have dK:=zaa q6;have dH:w=w:=rfl;clear u hk zx zc hZ;have BB:=un (Zj w.heap.size w);have hW:w=w:=rfl;go_enter func121,ntmps121;go_upto_region 3 with fail
 clear hW dH;have eM:¬(m:Int)<(m:Int):=ω;go_cut[18,19] (λa b wr=>a=(m:Int)/\b=.int .i64 0/\wr=w.alloc (.cells #[false,(),()] 62))
 case first =>
  have eR:=cell_al (ob:=.cells #[false,(),()] 62) q6;go_wp2
  all_goals
   go_meet
   case rel=>exact⟨by first | rfl | (simp;done),rfl,rfl⟩
 obtain⟨rfl,rfl,rfl⟩:=hcut;go_wp2
 go_loopw [5,19] (λbv i wr=>∃(k:Nat) (G:Bool) (B:OA) (M E:Nat) (C:OA) (J D:Nat),i=.int .i64 k/\bv=.int .i64 (zbh (znH cols (za5 A b cols) col k))/\k<=m/\θ wr w.heap.size #[G,(B,M,E),(C,J,D)] 62/\(∀g,znH cols (za5 A b cols) col k=some g->RatS wr G (B,M,E) (C,J,D) (el (za5 A b cols) g/el col g))/\Below w w wr)
  (λ_ i _=>m-(intOf i).toNat)
 case atStart=>exact⟨0,_,_,_,_,_,_,_,rfl,rfl,Zb _,zal _ _ _,λb h=>(by cases h),zae w _⟩
 obtain⟨k,G,B,M,E,C,J,D,rfl,rfl,hk,bH,u,p⟩:=hrel;by_cases bJ:k<m
 ·obtain⟨R,rfl,_,_⟩:=bB.o.has ω;obtain⟨s,rfl,_,_⟩:=bz.o.has ω;obtain⟨y,rfl,_,_⟩:=bF.o.has ω;have bL:=zaH (xs:=za5 A b cols) (j:=k) (by rw[cV.o];exact bJ);have bI:=zaH (xs:=col) (j:=k) (by rw[<-bD.o];exact bJ);have dd:=zaO (L:=cols) (i:=k) (d:=0) (by rw[bC.o];exact bJ);obtain⟨ga,Aa,ma,ca,Da,a6,a1,y0,y1,y2,c8⟩:=(bF.o.below p).at_ bL;obtain⟨gb,Ab,mb,cb,Db,aT,aN,z0,z1,z2,da⟩:=(bB.o.below p).at_ bI;have m0:=(bz.o.below p).at_ dd
  have dg:=ZX.o _ (Zz bL);have bh:=ZC.o _ (Zz bI);refine μ8 (bB.o.below p) (bz.o.below p) (bF.o.below p) (show RatS wr ga (Aa,ma,ca) (Da,a6,a1) (el (za5 A b cols) k)from c8) (da) (show ∀g,znH cols (za5 A b cols) col k=some g->RatS wr G (B,M,E) (C,J,D) (el (za5 A b cols) g/el col g)from u) (Bel.mk p) (BB.o.trans ((p).mono BB.o.size)) λeb d9 d7 dA cY dx HW dj=>?_;have bm:=y0;have dM:=zaa bm;have bn:=y1;have dQ:=zaa bn;have bo:=y2;have dS:=zaa bo;have bq:=z0;have dU:=zaa bq;have br:=z1;have dW:=zaa br;have bs:=z2;have dY:=zaa bs;have bt:=m0;have d0:=zaa bt;have bu:=zab p q6;have d2:=zaa bu;have bw:=zab p q8;have d4:=zaa bw;have cU:=dx;have c4:=un bH;obtain⟨fh,fj,fo,ft,fi,fk,fp,fu,fn,fs,fG,fC⟩:=bf3 c4.o;have bm:=y0;have dM:=zaa bm;have bn:=y1;have dQ:=zaa bn;have bo:=y2;have dS:=zaa bo;have bq:=z0;have dU:=zaa bq;have br:=z1;have dW:=zaa br;have bs:=z2;have dY:=zaa bs;have bt:=m0;have d0:=zaa bt;have bu:=zab p q6;have d2:=zaa bu;have bw:=zab p q8;have d4:=zaa bw;have c1:=un dg;have c3:=un bh;have eG:(0:Int)<=(k:Int):=Zf _;have eH:(k:Int)<(m:Int):=ω;clear bH u p bL bI dd y0 y1 y2 z0 z1 z2 m0 c8 da dg bh q6 q8 dK;go_wp2_with fail
  with_reducible refine(Rt.sign gb Ab mb cb Db aT aN (el col k) _ cY.o).mono ?_
  rintro e v1 ⟨rfl,hb⟩;refine μ8 (zad hb c4.o) (eb.o.below hb) (d9.o.below hb) (d7.o.below hb) (dA.o.below hb) (cY.o.below hb) (HW.o.below hb) (dj.o.trans ((hb).mono dj.o.size)) λcg ed ea d8 dn dp dl dk=>?_;obtain⟨ef,ff,fv,fq,eg,fg,fw,fr,eo,fx,fK,fI⟩:=bf3 cg.o;have ck:=zab hb bm;have eT:=zaa ck;have cp:=zab hb bn;have eY:=zaa cp;have cu:=zab hb bo;have e0:=zaa cu;have cv:=zab hb bq;have e2:=zaa cv;have cC:=zab hb br;have e4:=zaa cC;have cE:=zab hb bs;have e6:=zaa cE;have cG:=zab hb bt;have e8:=zaa cG;have cO:=zab hb bu;have fa:=zaa cO;have cR:=zab hb bw;have fc:=zaa cR;have cT:=un hb;clear hb;by_cases aR:0<el col k
  ·have de:=zYp.2 aR;have df:¬(el col k).num.sign<=0:=by rw[Y0 de];decide
   have dG:¬(el col k).num<=0:=ω;have eO:decide ((el col k).num<=0)=false:=Z3 dG;have eP:decide ((el col k).num.sign<=0)=false:=Z3 df;refine μ3 (z0m aR) aR (show 4*(mw (el (za5 A b cols) k)+mw (el col k))+8<=LIM by have:=c0.o;have:=c1.o;have:=c3.o;omega) λdz aZ dv=>?_;clear aR;go_upto_region 7 with fail
   have HS:=un (show ∀w',Below v1 v1 w'->((χ w' w 0 (.bool G)/\χ w' w 1 (B,M,E)/\χ w' w 2 (C,J,D)/\χ w' y (k*3) (.bool ga)/\χ w' y (k*3+1) (Aa,ma,ca)/\χ w' y (k*3+2) (Da,a6,a1)/\χ w' R (k*3) (.bool gb)/\χ w' R (k*3+1) (Ab,mb,cb)/\χ w' R (k*3+2) (Db,aT,aN)/\χ w' s k (.int .i64 ((cols.getD k 0:Nat):Int))/\χ w' q 6 (s,m,tc)/\χ w' q 8 (y,m,xc))/\Below v1 v1 w')from λw' h=>⟨⟨zab h ef,zab h eg,zab h eo,zab h ck,zab h cp,zab h cu,zab h cv,zab h cC,zab h cE,zab h cG,zab h cO,zab h cR⟩,h⟩);go_cut[8,9] (λs8 s9 wz=>zcD v1 s8 wz (el (za5 A b cols) k/el col k))
   case first =>
    go_region_held3 (λw'=>((χ w' w 0 (.bool G)/\χ w' w 1 (B,M,E)/\χ w' w 2 (C,J,D)/\χ w' y (k*3) (.bool ga)/\χ w' y (k*3+1) (Aa,ma,ca)/\χ w' y (k*3+2) (Da,a6,a1)/\χ w' R (k*3) (.bool gb)/\χ w' R (k*3+1) (Ab,mb,cb)/\χ w' R (k*3+2) (Db,aT,aN)/\χ w' s k (.int .i64 ((cols.getD k 0:Nat):Int))/\χ w' q 6 (s,m,tc)/\χ w' q 8 (y,m,xc))/\Below v1 v1 w'))
     ((refine HS.o _ ?_;repeat(first | exact Zj _ _ | exact(by assumption:_/\Below _ _ _).2 | with_reducible refine bdrew ?_ | with_reducible refine al2 ?_ _ | with_reducible refine set2 ?_ ω | with_reducible refine zc1 ?_ (by assumption))))
     (first
      | (go_at_call 159;(with_reducible refine(Rt.div ga Aa ma ca Da a6 a1 (el (za5 A b cols) k) gb Ab mb cb Db aT aN (el col k) _ (dn.o.below (by assumption:_/\Below _ _ _).2) (dp.o.below (by assumption:_/\Below _ _ _).2) dz.o dv.o).mono ?_);rintro e u2 ⟨g2,A2,m2,c2,D2,md2,cd2,rfl,hn,hb2⟩;have bh:=hb2.size;(try simp at bh);have eQ:v1.heap.size<=u2.heap.size:=ω;(try((first | (have Q:=un (zbc (cs:=#[.bool false,.slice none 0 0,.slice none 0 0]) (t:=62) hb2 Q.o)) | (have Q:=un (zbc (cs:=#[.bool false,.slice none 0 0,.slice none 0 0]) (t:=62) hb2 (zal _ _ _))));have ew:=zac Q.o 0;have ez:=zag Q.o 0;have ex:=zac Q.o 1;have eB:=zag Q.o 1;have ey:=zac Q.o 2;have eC:=zag Q.o 2));have N7:=un hn;clear hn)
      | fail)
    all_goals
     go_wp2;go_meet
     case rel=>(have I:=(by assumption:_/\Below v1 v1 _).2;(first | (with_reducible refine zcD.of I ?_ Q.o N7.o;omega) | (with_reducible refine zcD.al I ?_ N7.o;omega) | (with_reducible refine zcD.of I ?_ (zal _ _ _) (N7.o.alloc _);omega)))
   obtain⟨r,z,O,V,T,P,W,U,rfl,o,eN,bg,hi⟩:=hcut;rename World=>wz
   refine μ10 (λb h=>((cU.o b h).below cT.o).below o) (zad o cg.o) (ed.o.below o) (ea.o.below o) (d8.o.below o) (dn.o.below o) (dp.o.below o) (dl.o.below o) (hi) (dk.o.trans ((o).mono dk.o.size)) λdy ch di b7 dh dr ds dm HR bp=>?_;obtain⟨fA,fl,fD,fy,fB,fm,fE,fz,fH,fF,fL,fJ⟩:=bf3 ch.o;have cm:=zab o ck;have eU:=zaa cm;have cw:=zab o cp;have eZ:=zaa cw;have cB:=zab o cu;have e1:=zaa cB;have cx:=zab o cv;have e3:=zaa cx;have cD:=zab o cC;have e5:=zaa cD;have cF:=zab o cE;have e7:=zaa cF;have cI:=zab o cG;have e9:=zaa cI;have cJ:=zab o cO;have fb:=zaa cJ;have cL:=zab o cR;have fd:=zaa cL;have cP:χ wz r 0 (.bool z):=zac bg 0;have fe:=zaa cP;have cM:χ wz r 1 (O,V,T):=zac bg 1;have eV:=zaa cM;have cQ:χ wz r 2 (P,W,U):=zac bg 2;have eW:=zaa cQ;clear o HS;clear hi bg;cases I:znH cols (za5 A b cols) col k with
   | none =>
    have hp:zbh none = -1:=rfl;rw[hp];have aL:=un I;clear I;go_upto_region 11 with fail
    go_cut[70] (λc wx=>c=true/\Below wz.heap.size wz wx)
    case first =>
     refine wp_region_noPanic ?_;refine wp_region_held_drew (S:=λw'=>χ w' r 0 (.bool z)) ξ kp λhHeld=>?_;refine zaw [0,1,2] ?_;repeat refine tkH (hS:=hHeld) (h:=?_)
     refine zao ?_;refine zaw [3,4,5,6,7,8,9,10,11,12,13,14,15,16,17,18,19,20,21] ?_;repeat refine skH (hS:=hHeld) (h:=?_)
     refine zao ?_;refine zaw [22] ?_;repeat refine tkH (hS:=hHeld) (h:=?_)
     refine zao ?_;refine wpAnyH_done ξ ?_ _;refine NoPanic.normal ?_;go_wp2;go_meet;exact⟨by first | rfl | (simp at aP ⊢;omega) | (simp;omega),zap _ 1⟩
    obtain⟨rfl,f⟩:=hcut;rename World=>wy
    refine μ9 (zad f ch.o) (di.o.below f) (b7.o.below f) (dh.o.below f) (dr.o.below f) (ds.o.below f) (dm.o.below f) (HR.o.below f) (bp.o.trans ((f).mono bp.o.size)) λab a9 a8 bd bb bc aV aW ac=>?_;obtain⟨ej,eh,ep,em,ek,ei,eq,en,et,er,ee,eu⟩:=bf3 ab.o;have aj:=zab f cm;have dN:=zaa aj;have ak:=zab f cw;have dR:=zaa ak;have am:=zab f cB;have dT:=zaa am;have an:=zab f cx;have dV:=zaa an;have ao:=zab f cD;have dX:=zaa ao;have ar:=zab f cF;have dZ:=zaa ar;have aA:=zab f cI;have d1:=zaa aA;have aB:=zab f cJ;have d3:=zaa aB;have aC:=zab f cL;have d5:=zaa aC;have aD:=zab f cP;have d6:=zaa aD;have ap:=zab f cM;have dO:=zaa ap;have au:=zab f cQ;have dP:=zaa au;have l:=un (zTU aZ.o aL.o);go_wp2_with fail
    refine zaS (S:=λw'=>χ w' r 0 (.bool z)/\χ w' r 1 (O,V,T)/\χ w' r 2 (P,W,U)) [3] (h:=λhHeld=>?_);refine zaw [0,1,2] ?_;repeat refine tkL (hS:=hHeld) (h:=?_)
    refine zao ?_;refine zay 3 (h:=λK hK=>?_);go_simp;refine shutOff hK ?_;clear hK K;refine zaM (h:=?_);go_wp2;go_roundw
    case rel=>exact⟨k+1,z,O,V,T,P,W,U,by go_num,by rw[l.o];rfl,ω,zar _ (zar _ (zar _ ab.o)),λb h=>by rw[l.o]at h;injection h with h;subst h;exact(aW.o.set3 ab.o δ _ _ _).drew,(Bel.set3 aV.o (Za _) _ _ _).drew.b⟩
    case measure=>simp[intOf];omega
   | some g =>
    have hp:zbh (some g)=(g:Int):=rfl;rw[hp];have aL:=un I;have cW:=un (dy.o g I);have eE:=zTh I;have eI:¬(g:Int)<0:=ω;have eJ:(0:Int)<=(g:Int):=Zf _;have eK:(g:Int)<(m:Int):=ω;have dI:=ZX.o _ (Zz (zaH (xs:=za5 A b cols) (j:=g) (by rw[cV.o];omega)));have dJ:=ZC.o _ (Zz (zaH (xs:=col) (j:=g) (by rw[<-bD.o];omega)));have dw:=un (show 4*(mw (el (za5 A b cols) k/el col k)+mw (el (za5 A b cols) g/el col g))+8<=LIM by have h1:=zyw (el (za5 A b cols) k) (el col k);have h2:=zyw (el (za5 A b cols) g) (el col g);have:=c0.o;have:=c1.o;have:=c3.o;omega);have dc:=b7.o.at_ (zaO (L:=cols) (i:=g) (d:=0) (by rw[bC.o];omega));clear I dI dJ;have eF:=zaa dc;go_wp2_with fail
    with_reducible refine(Rt.cmpr z O V T P W U (el (za5 A b cols) k/el col k) G B M E C J D (el (za5 A b cols) g/el col g) _ HR.o cW.o dw.o).mono ?_
    rintro e Y ⟨rfl,hb⟩;refine μ10 (zad hb ch.o) (di.o.below hb) (b7.o.below hb) (dh.o.below hb) (dr.o.below hb) (ds.o.below hb) (dm.o.below hb) (HR.o.below hb) (cW.o.below hb) (bp.o.trans ((hb).mono bp.o.size)) λab a9 a8 bd bb bc aV aW bl ac=>?_;obtain⟨ej,eh,ep,em,ek,ei,eq,en,et,er,ee,eu⟩:=bf3 ab.o;have aj:=zab hb cm;have dN:=zaa aj;have ak:=zab hb cw;have dR:=zaa ak;have am:=zab hb cB;have dT:=zaa am;have an:=zab hb cx;have dV:=zaa an;have ao:=zab hb cD;have dX:=zaa ao;have ar:=zab hb cF;have dZ:=zaa ar;have aA:=zab hb cI;have d1:=zaa aA;have aB:=zab hb cJ;have d3:=zaa aB;have aC:=zab hb cL;have d5:=zaa aC;have aD:=zab hb cP;have d6:=zaa aD;have ap:=zab hb cM;have dO:=zaa ap;have au:=zab hb cQ;have dP:=zaa au;have be:=zab hb dc;have eX:=zaa be;clear hb;by_cases hc:el (za5 A b cols) k/el col k<el (za5 A b cols) g/el col g
    ·have a3:=zm9.2 hc;have a4:=ZT a3;have ae:=un (zTc aZ.o aL.o (.inl hc));clear hc;go_upto_region 11 with fail
     go_cut[70] (λc wx=>c=true/\Below Y Y wx)
     case first =>
      refine wp_region_noPanic ?_;refine wp_region_held_drew (S:=λw'=>χ w' r 0 (.bool z)) ξ kp λhHeld=>?_;refine zaw [0,1,2] ?_;repeat refine tkH (hS:=hHeld) (h:=?_)
      refine zao ?_;try simp only[a4]
      refine zaw [3,4,5,6,7,8,9,10,11,12,13,14,15,16,17,18,19,20,21] ?_;repeat refine skH (hS:=hHeld) (h:=?_)
      refine zao ?_;refine zaw [22] ?_;repeat refine tkH (hS:=hHeld) (h:=?_)
      refine zao ?_;refine wpAnyH_done ξ ?_ _;refine NoPanic.normal ?_;go_wp2;go_meet;exact⟨by first | rfl | (simp at aP ⊢;omega) | (simp;omega),zap _ 1⟩
     obtain⟨rfl,f⟩:=hcut;rename World=>wy
     refine μ10 (zad f ab.o) (a9.o.below f) (a8.o.below f) (bd.o.below f) (bb.o.below f) (bc.o.below f) (aV.o.below f) (aW.o.below f) (bl.o.below f) (ac.o.trans ((f).mono ac.o.size)) λv b9 b8 cf cd ce aH a7 ba cq=>?_;obtain⟨cn,ci,cy,cr,co,cj,cz,ct,cN,cH,b6,b5⟩:=bf3 v.o;have aq:=zab f aj;have bN:=zaa aq;have av:=zab f ak;have bR:=zaa av;have aw:=zab f am;have bS:=zaa aw;have ax:=zab f an;have bT:=zaa ax;have ay:=zab f ao;have bU:=zaa ay;have az:=zab f ar;have bV:=zaa az;have aI:=zab f aA;have bW:=zaa aI;have ag:=zab f aB;have bX:=zaa ag;have ah:=zab f aC;have bY:=zaa ah;have ai:=zab f aD;have bZ:=zaa ai;have aE:=zab f ap;have bO:=zaa aE;have aF:=zab f au;have bP:=zaa aF;have aG:=zab f be;have bQ:=zaa aG;have l:=un (ae.o);go_wp2_with fail
     refine zaS (S:=λw'=>χ w' r 0 (.bool z)/\χ w' r 1 (O,V,T)/\χ w' r 2 (P,W,U)) [3] (h:=λhHeld=>?_);refine zaw [0,1,2] ?_;repeat refine tkL (hS:=hHeld) (h:=?_)
     refine zao ?_;refine zay 3 (h:=λK hK=>?_);go_simp;refine shutOff hK ?_;clear hK K;refine zaM (h:=?_);go_wp2;go_roundw
     case rel=>exact⟨k+1,z,O,V,T,P,W,U,by go_num,by rw[l.o];rfl,ω,zar _ (zar _ (zar _ v.o)),λb h=>by rw[l.o]at h;injection h with h;subst h;exact(a7.o.set3 v.o δ _ _ _).drew,(Bel.set3 aH.o (Za _) _ _ _).drew.b⟩
     case measure=>simp[intOf];omega
    have a3:¬zlX (el (za5 A b cols) k/el col k) (el (za5 A b cols) g/el col g)<0:=λh=>hc (zm9.1 h)
    have a4:=Z3 a3;by_cases he:el (za5 A b cols) k/el col k=el (za5 A b cols) g/el col g
    ·have aQ:=(zkD _ _).2 he;rw[aQ];by_cases bf:cols.getD k 0<cols.getD g 0
     ·have aP:((cols.getD k 0:Nat):Int)<((cols.getD g 0:Nat):Int):=ω
      have ae:=un (zTc aZ.o aL.o (.inr ⟨he,bf⟩));clear he hc bf a3 a4 aQ;go_upto_region 11 with fail
      go_cut[70] (λc wx=>c=true/\Below Y Y wx)
      case first =>
       refine wp_region_noPanic ?_;refine wp_region_held_drew (S:=λw'=>χ w' s k (.int .i64 ((cols.getD k 0:Nat):Int))/\χ w' q 6 (s,m,tc)/\χ w' s g (.int .i64 ((cols.getD g 0:Nat):Int))) ξ kp λhHeld=>?_;refine zaw [0,1,2,3,4,5,6,7,8,9,10,11,12,13,14,15,16,17,18,19,20,21,22] ?_;repeat refine tkH (hS:=hHeld) (h:=?_)
       refine zao ?_;refine wpAnyH_done ξ ?_ _;refine NoPanic.normal ?_;go_wp2;go_meet;exact⟨by first | rfl | (simp at aP ⊢;omega) | (simp;omega),zap _ 1⟩
      obtain⟨rfl,f⟩:=hcut;rename World=>wy
      refine μ10 (zad f ab.o) (a9.o.below f) (a8.o.below f) (bd.o.below f) (bb.o.below f) (bc.o.below f) (aV.o.below f) (aW.o.below f) (bl.o.below f) (ac.o.trans ((f).mono ac.o.size)) λv b9 b8 cf cd ce aH a7 ba cq=>?_;obtain⟨cn,ci,cy,cr,co,cj,cz,ct,cN,cH,b6,b5⟩:=bf3 v.o;have aq:=zab f aj;have bN:=zaa aq;have av:=zab f ak;have bR:=zaa av;have aw:=zab f am;have bS:=zaa aw;have ax:=zab f an;have bT:=zaa ax;have ay:=zab f ao;have bU:=zaa ay;have az:=zab f ar;have bV:=zaa az;have aI:=zab f aA;have bW:=zaa aI;have ag:=zab f aB;have bX:=zaa ag;have ah:=zab f aC;have bY:=zaa ah;have ai:=zab f aD;have bZ:=zaa ai;have aE:=zab f ap;have bO:=zaa aE;have aF:=zab f au;have bP:=zaa aF;have aG:=zab f be;have bQ:=zaa aG;have l:=un (ae.o);go_wp2_with fail
      refine zaS (S:=λw'=>χ w' r 0 (.bool z)/\χ w' r 1 (O,V,T)/\χ w' r 2 (P,W,U)) [3] (h:=λhHeld=>?_);refine zaw [0,1,2] ?_;repeat refine tkL (hS:=hHeld) (h:=?_)
      refine zao ?_;refine zay 3 (h:=λK hK=>?_);go_simp;refine shutOff hK ?_;clear hK K;refine zaM (h:=?_);go_wp2;go_roundw
      case rel=>exact⟨k+1,z,O,V,T,P,W,U,by go_num,by rw[l.o];rfl,ω,zar _ (zar _ (zar _ v.o)),λb h=>by rw[l.o]at h;injection h with h;subst h;exact(a7.o.set3 v.o δ _ _ _).drew,(Bel.set3 aH.o (Za _) _ _ _).drew.b⟩
      case measure=>simp[intOf];omega
     have aP:¬((cols.getD k 0:Nat):Int)<((cols.getD g 0:Nat):Int):=ω;have ae:=un (zTb aZ.o aL.o (λh=>h.elim hc λh=>bf h.2));clear he hc bf a3 a4 aQ;go_upto_region 11 with fail
     go_cut[70] (λc wx=>c=false/\Below Y Y wx)
     case first =>
      refine wp_region_noPanic ?_;refine wp_region_held_drew (S:=λw'=>χ w' s k (.int .i64 ((cols.getD k 0:Nat):Int))/\χ w' q 6 (s,m,tc)/\χ w' s g (.int .i64 ((cols.getD g 0:Nat):Int))) ξ kp λhHeld=>?_;refine zaw [0,1,2,3,4,5,6,7,8,9,10,11,12,13,14,15,16,17,18,19,20,21,22] ?_;repeat refine tkH (hS:=hHeld) (h:=?_)
      refine zao ?_;refine wpAnyH_done ξ ?_ _;refine NoPanic.normal ?_;go_wp2;go_meet;exact⟨by first | rfl | (simp at aP ⊢;omega) | (simp;omega),zap _ 1⟩
     obtain⟨rfl,f⟩:=hcut;rename World=>wy
     refine μ10 (zad f ab.o) (a9.o.below f) (a8.o.below f) (bd.o.below f) (bb.o.below f) (bc.o.below f) (aV.o.below f) (aW.o.below f) (bl.o.below f) (ac.o.trans ((f).mono ac.o.size)) λv b9 b8 cf cd ce aH a7 ba cq=>?_;obtain⟨cn,ci,cy,cr,co,cj,cz,ct,cN,cH,b6,b5⟩:=bf3 v.o;have aq:=zab f aj;have bN:=zaa aq;have av:=zab f ak;have bR:=zaa av;have aw:=zab f am;have bS:=zaa aw;have ax:=zab f an;have bT:=zaa ax;have ay:=zab f ao;have bU:=zaa ay;have az:=zab f ar;have bV:=zaa az;have aI:=zab f aA;have bW:=zaa aI;have ag:=zab f aB;have bX:=zaa ag;have ah:=zab f aC;have bY:=zaa ah;have ai:=zab f aD;have bZ:=zaa ai;have aE:=zab f ap;have bO:=zaa aE;have aF:=zab f au;have bP:=zaa aF;have aG:=zab f be;have bQ:=zaa aG;have l:=un (ae.o);go_wp2;go_roundw
     case rel=>exact⟨k+1,G,B,M,E,C,J,D,by go_num,by rw[l.o];rfl,ω,v.o,λb h=>by rw[l.o]at h;injection h with h;subst h;exact ba.o,aH.o.b⟩
     case measure=>simp[intOf];omega
    have aQ:¬zlX (el (za5 A b cols) k/el col k) (el (za5 A b cols) g/el col g)=0:=λh=>he ((zkD _ _).1 h)
    have dE:decide (zlX (el (za5 A b cols) k/el col k) (el (za5 A b cols) g/el col g)=0)=false:=Z3 aQ;have dF:(zlX (el (za5 A b cols) k/el col k) (el (za5 A b cols) g/el col g) == 0)=false:=by simpa using aQ
    have ae:=un (zTb aZ.o aL.o (λh=>h.elim hc λh=>he h.1));clear he hc;go_upto_region 11 with fail
    go_cut[70] (λc wx=>c=false/\Below Y Y wx)
    case first =>
     refine wp_region_noPanic ?_;refine wp_region_held_drew (S:=λw'=>χ w' r 0 (.bool z)) ξ kp λhHeld=>?_;refine zaw [0,1,2] ?_;repeat refine tkH (hS:=hHeld) (h:=?_)
     refine zao ?_;try simp only[a4]
     refine zaw [3,4,5] ?_;repeat refine tkH (hS:=hHeld) (h:=?_)
     refine zao ?_;try simp only[dE,dF]
     refine zaw [6,7,8,9,10,11,12,13,14,15,16,17,18,19,20] ?_;repeat refine skH (hS:=hHeld) (h:=?_)
     refine zao ?_;refine zaw [21,22] ?_;repeat refine tkH (hS:=hHeld) (h:=?_)
     refine zao ?_;refine wpAnyH_done ξ ?_ _;refine NoPanic.normal ?_;go_wp2;go_meet;exact⟨by first | rfl | (simp at aP ⊢;omega) | (simp;omega),zap _ 1⟩
    obtain⟨rfl,f⟩:=hcut;rename World=>wy
    refine μ10 (zad f ab.o) (a9.o.below f) (a8.o.below f) (bd.o.below f) (bb.o.below f) (bc.o.below f) (aV.o.below f) (aW.o.below f) (bl.o.below f) (ac.o.trans ((f).mono ac.o.size)) λv b9 b8 cf cd ce aH a7 ba cq=>?_;obtain⟨cn,ci,cy,cr,co,cj,cz,ct,cN,cH,b6,b5⟩:=bf3 v.o;have aq:=zab f aj;have bN:=zaa aq;have av:=zab f ak;have bR:=zaa av;have aw:=zab f am;have bS:=zaa aw;have ax:=zab f an;have bT:=zaa ax;have ay:=zab f ao;have bU:=zaa ay;have az:=zab f ar;have bV:=zaa az;have aI:=zab f aA;have bW:=zaa aI;have ag:=zab f aB;have bX:=zaa ag;have ah:=zab f aC;have bY:=zaa ah;have ai:=zab f aD;have bZ:=zaa ai;have aE:=zab f ap;have bO:=zaa aE;have aF:=zab f au;have bP:=zaa aF;have aG:=zab f be;have bQ:=zaa aG;have l:=un (ae.o);go_wp2;go_roundw
    case rel=>exact⟨k+1,G,B,M,E,C,J,D,by go_num,by rw[l.o];rfl,ω,v.o,λb h=>by rw[l.o]at h;injection h with h;subst h;exact ba.o,aH.o.b⟩
    case measure=>simp[intOf];omega
  have de:(el col k).num<=0:=Int.not_lt.1 λh=>aR (zYp.1 h)
  have df:(el col k).num.sign<=0:=by rcases Yn (el col k).num 0 with h | h | h;rw[YZ h];decide;rw[h];decide;omega
  have l:=un (zTV (cols:=cols) (xs:=za5 A b cols) (col:=col) (k:=k) aR);go_wp2;go_roundw
  case rel=>exact⟨k+1,G,B,M,E,C,J,D,by go_num,by rw[l.o],ω,cg.o,λb h=>by rw[l.o]at h;exact(cU.o b h).below cT.o,dl.o.b⟩
  case measure=>simp[intOf];omega
 obtain rfl:m=k:=ω;have l:=un (show zDG cols (za5 A b cols) col=znH cols (za5 A b cols) col m by unfold zDG;rw[<-bD.o,bC.o,Ve]);have dt:=un p;clear bH u p;go_wp2;go_ret;exact⟨by rw[l.o];rfl,dt.o⟩
end Tb
end
