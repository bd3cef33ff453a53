/- Contracts and lemmas: BasR Tb6. Conditions: as each says. -/
import Derived.Test.YtbhfhkcdfmmmiaaGreatLuFacZj
import Derived.Test.YtbhfhkcdfmmmiaaGreatBoolsZj
import Derived.Test.YtbhfhkcdfmmmiaaGreatBasTZj
set_option linter.all false
set_option maxHeartbeats 4000000
set_option maxRecDepth 100000
namespace Go.Proofs.YtbhfhkcdfmmmiaaGreat
open Go.RowKit Am Tryz
attribute [local go_sem ↓] Go.wp_at_zero Go.wp_at_succ
variable {cols:List Nat}{col xs:List Rat}{b k:Nat}{q:Rat}
structure BasH (w wy:World) (H q n:Nat) (cA:OA) (cc:Nat) (C':List (List Rat)) (K ql:Nat) (F:LUv) (eA:OA) (ec:Nat) (le:List (Nat × Value)) (es:List (Nat × List Rat)) (X:OA) (cX:Nat) (x:List Rat):Prop where
  blk:wy.heap[q]? = some (.cells #[(cA,n,cc),.pointer (some ⟨ql,0,none⟩),(eA,es.length,ec)] 231 (0,0))
  cols:∃lc',VecsL wy H (cA,n,cc) lc' C'
  lu:LuS wy K ql n F
  etas:EtasL wy H (eA,es.length,ec) le es
  x:VecS wy H (X,n,cX) x
  bel:Below H w wy
  kept:Kept TB none w wy
  off:∀tb,zey w ql tb→zey wy ql tb
namespace BasH
variable {w wy w':World} {H q n:Nat} {cA:OA} {cc:Nat} {C':List (List Rat)} {K ql:Nat} {F:LUv} {eA:OA} {ec:Nat} {le:List (Nat × Value)} {es:List (Nat × List Rat)} {X:OA} {cX:Nat} {x:List Rat}
theorem below(h:BasH w wy H q n cA cc C' K ql F eA ec le es X cX x)(d:H≤wy.heap.size)(a:Below wy wy w'):BasH w w' H q n cA cc C' K ql F eA ec le es X cX x:=by
 obtain⟨lc',hc⟩:=h.cols;exact⟨zad a h.blk,⟨lc',hc.below a⟩,h.lu.below a,h.etas.below a,h.x.below a,h.bel.trans (a.mono d),h.kept.below a,fun tb e=>(h.off tb e).same (a.block ql h.lu.qlt)⟩
end BasH
namespace Bs
theorem replace(H q n S k:Nat)(C:List (List Rat))(A:OA)(T:Nat)(a:List Rat)(Z:Nat)(w:World)(tb:Option Nat)(aE:∀g,tb=some g→g<w.heap.size)(hB:zhf w H q n S C tb)(P:VecS w Z (A,n,T) a)(hn:n≤64)(hk:k<n)(zv:∀x∈a,mw x≤S)(hS:1≤S)(hp:el (zes n C a) k≠0)(aj:zpS n S S≤LIM) :
  Calls prog 147 #[.pointer (some ⟨q,0,none⟩),(k:Int),(A,n,T)] w fun e w'=>e=.returned .nilIface∧zhf w' H q n S (C.set k a) tb∧Below H w w'∧Kept TB none w w':=by
 have a4:=un (solve H q n S S C A T a Z w hB.toS P hn zv hS aj);have ad:=un hB.toS;have a6:=un aE;obtain⟨cA,cc,lc,K,ql,F,D,eA,ec,le,es,G,ay⟩:=hB;have aZ:=un ay;have HN:=un hn;have R:=un hk;have ag:=un hp;have aV:=un aj;have f:=un G;have a7:=un P;have ao:=un P.len;have bc:=un (fun i (hi:i<n)=>zrz zv (i:=i) (by rw[←P.len];exact hi));have bJ:=G.few;have bM:n≤9223372036854775807:=by omega
 have bK:(0:Int)≤(k:Int):=Zf _;have bL:(k:Int)<(n:Int):=by omega
 have h1:decide ((k:Int)<0)=false:=by simp
 have h2:decide ((n:Int)≤(k:Int))=false:=by simp;omega
 obtain⟨bc_,rfl,bh,bF⟩:=G.cols.has (by omega);obtain⟨k0,_,Q,_⟩:=bc3 G.blk;obtain⟨r0,aB⟩:∃r0,C[k]? = some r0:=⟨C[k]'(by rw[G.right.good.1.len];exact hk),Ze _⟩
 obtain⟨Ao,co,_,y0,_⟩:=G.cols.at_ aB;clear G P hn hk zv hS hp aj aB ay aE;go_enter func147,ntmps147;go_wp2_with fail
 with_reducible refine(a4.o).mono ?_
 rintro e w1 ⟨B,n1,c1,rfl,hv1,hb⟩;have bz:=un (f.o.below hb);have bt:=un (a7.o.below hb);have L:=un (hv1);have bv:=zab hb k0;clear hv1;have y1:=zab hb y0;have ap:=un hb;clear hb y0;obtain rfl:n=n1:=by rw[L.o.len,(zci ad.o.good.1 ad.o.good.2.1 a).2]
 have aD:=zaH (xs:=zes n C a) (j:=k) (by rw[←L.o.len];exact R.o);obtain⟨bx,rfl,bG,bH⟩:=L.o.has (by omega);obtain⟨gx,Ax,mx,cx,Dx,bm,bd,x0,x1,x2,az⟩:=L.o.at_ aD;have a2:=un az;clear aD az;go_wp2_with fail
 with_reducible refine(Rt.zero gx Ax mx cx Dx bm bd (el (zes n C a) k) _ a2.o).mono ?_
 rintro e z ⟨rfl,hb⟩;have bB:=un (bz.o.below hb);have bu:=un (bt.o.below hb);have bC:=un (L.o.below hb);have bw:=zab hb bv;have bq:=zaa bw;have y2:=zab hb y1;have aQ:=zaa y2;have aa:=un (ap.o.trans (hb.mono ap.o.size));clear hb x0 x1 x2 y1;have hz:zr (el (zes n C a) k)=false:=Zu ag.o;have ae:=un (f.o.hle);go_upto_region 8 with fail
 go_cut[] (fun wy=>BasH w wy H q n (some ⟨bc_,0,none⟩) cc (C.set k a) K ql F eA ec le es (some ⟨bx,0,none⟩) c1 (zes n C a))
 case first=>as_aux_lemma =>
  refine zaS (S:=fun w'=>w'.cell? ⟨q,0,none⟩=some (bc_,n,cc)) [8] (h:=fun hHeld=>?_);refine zaw [0,1,2,3,4,5] ?_;repeat refine tkL (hS:=hHeld) (h:=?_)
  refine zao ?_;refine zaB 6 (h:=fun K M=>?_);go_simp
  (go_at_call 45;(with_reducible refine(Vc.copy A n T a Z _ (bu.o.drew) (by have:=HN.o;omega)).mono ?_);rintro e u1 ⟨A2,c2,rfl,hv2,hb⟩;have a8:=un (show VecS u1 z (A2,n,c2) a from hv2);have v:=un (bB.o.below (show Below z z u1 from It.bdrew0' hb));have a9:=un (bC.o.below (show Below z z u1 from It.bdrew0' hb));have ab:=un (aa.o.trans ((show Below z z u1 from It.bdrew0' hb).mono aa.o.size));have s0:=zab hb bq;have s1:=zab hb aQ;have sf:=v.o.cols.fro k;have bb:=un (aa.o.size);clear hv2 hb)
  (try go_wp2_with fail)
  refine shutOn M fun hHeld=>?_
  clear M K
  refine zaw [7] ?_;repeat refine tkL (hS:=hHeld) (h:=?_)
  refine zao ?_;refine zay 8 (h:=fun K M=>?_);go_simp;refine shutOff M ?_;clear M K
  refine zaM (h:=?_);go_wp2;go_meet;have bi:=v.o.cols.blk;obtain⟨cs,ak⟩:=bi;have Q:TKeep 28 u1 (u1.setCell ⟨bc_,k,none⟩ (A2,n,c2)):=TKeep.set ak _
  case rel=>exact⟨Q.blk v.o.blk (by decide),⟨_,v.o.cols.store (by rw[ad.o.good.1.len];exact R.o) (a8.o.base (by have:=ae.o;have:=bb.o;omega))⟩,(Hi.set (v.o.low bc_ rfl) ak (by decide) _).lu v.o.lu,v.o.etas.tk Q (by decide) (by decide) (by decide),(a9.o.base ae.o).tk Q (by decide) (by decide),(ab.o.mono ae.o).setCell (p:=⟨bc_,k,none⟩) bh _,(Kept.of_below ab.o).trans (Kept.set ak (by decide) _),fun tb ho=>(ho.same (ab.o.block ql f.o.lu.qlt)).same (by obtain⟨⟨aG,aH,aI,aM,aN,aO,aJ,aK,y,_⟩,_,_⟩:=v.o.lu;rw[Q.blk y (by decide),y])⟩
 case rest =>
  rename World=>wy
  have HY:=un hcut;have ah:=un (Zc f.o.own (ZW (ZI.1 hcut.blk).1));obtain⟨_,_,_,_,_,_,_,_,z2,_⟩:=bf3 hcut.blk;clear hcut y2 aQ;have r:=un (HY.o.below ah.o (zae wy (.cells #[(k:Int),(bx,n,c1)] 233)));have a5:=un (f.o.right.good.1.set (k:=k) ao.o.symm);have a0:=un (zjl f.o.right.good.1 f.o.right.good.2.1 R.o (zci f.o.right.good.1 f.o.right.good.2.1 a).1 ag.o)
  have aw:=un (EtasZ.snoc f.o.right R.o ao.o.symm bc.o ag.o);obtain⟨lc',aA⟩:=r.o.cols;have aq:=un aA;clear aA;by_cases bI:es.length<8
  ·have h8:((es.length:Int))<8:=by omega
   go_wp2_with (at_builtin;refine zd5 rfl _ _ rfl rfl r.o.etas rfl (zal _ _ _) (r.o.x) (n:=es.length) rfl (by omega) (by simp;have:=ah.o;omega) ?_;intro d l l5 t O u I;have au:=un O;have E:=un u;have ac:=un (r.o.bel.trans I);have s:=un (u.blk r.o.blk (by decide));have v0:=zac s.o 0;have v1:=zac s.o 1;have v2:=zac s.o 2;have bo:=zag s.o 2;simp only[ZF,Zz,ZU]at v0 v1 v2;have af:=un (r.o.kept.trans (Kept.tk u I.size (by decide)));clear O u I)
   go_ret
   have J:TKeep 231 t (t.setCell ⟨q,2,none⟩ (d,es.length+1,l)):=TKeep.set s.o _;have Y:(t.setCell ⟨q,2,none⟩ (d,es.length+1,l)).heap[q]? = some (.cells #[(bc_,n,cc),.pointer (some ⟨ql,0,none⟩),(d,es.length+1,l)] 231 (0,0)):=by have:=zar (o:=2) (d,es.length+1,l) s.o;simpa using this
   have V:=(aq.o.tk E.o (by decide) (by decide) (by decide)).tk J (by decide) (by decide) (by decide);have U:Below H w (t.setCell ⟨q,2,none⟩ (d,es.length+1,l)):=ac.o.setCell (p:=⟨q,2,none⟩) f.o.own _;have W:Kept TB none w (t.setCell ⟨q,2,none⟩ (d,es.length+1,l)):=af.o.trans (Kept.set s.o (by decide) _)
   have bk:zey (t.setCell ⟨q,2,none⟩ (d,es.length+1,l)) ql tb:=((r.o.off tb aZ.o).same (by obtain⟨⟨aG,aH,aI,aM,aN,aO,aJ,aK,y,_⟩,_,_⟩:=r.o.lu;rw[E.o.blk y (by decide),y])).same (by obtain⟨⟨aG,aH,aI,aM,aN,aO,aJ,aK,y,_⟩,_,_⟩:=r.o.lu;rw[J.blk (E.o.blk y (by decide)) (by decide),E.o.blk y (by decide)])
   exact⟨rfl,⟨_,cc,lc',K,ql,F,D,d,l,l5,es++[(k,zes n C a)],⟨by rw[Zj];exact Y,V,f.o.low,(r.o.lu.tk E.o (by decide) (by decide) (by decide) (by decide) (by decide)).tk J (by decide) (by decide) (by decide) (by decide) (by decide),f.o.fac,by rw[Zj];exact au.o.tk J (by decide) (by decide) (by decide),aw.o,by rw[Zj];simp;omega,f.o.own,f.o.ownK⟩,bk⟩,U,W⟩
  ·have h8:8≤(es.length:Int):=by omega
   go_wp2_with (at_builtin;refine zd5 rfl _ _ rfl rfl r.o.etas rfl (zal _ _ _) (r.o.x) (n:=es.length) rfl (by omega) (by simp;have:=ah.o;omega) ?_;intro d l l5 t O u I;have au:=un O;have E:=un u;have ac:=un (r.o.bel.trans I);have s:=un (u.blk r.o.blk (by decide));have v0:=zac s.o 0;have v1:=zac s.o 1;have v2:=zac s.o 2;have bo:=zag s.o 2;simp only[ZF,Zz,ZU]at v0 v1 v2;have af:=un (r.o.kept.trans (Kept.tk u I.size (by decide)));clear O u I)
   have J:TKeep 231 t (t.setCell ⟨q,2,none⟩ (d,es.length+1,l)):=TKeep.set s.o _;have Y:(t.setCell ⟨q,2,none⟩ (d,es.length+1,l)).heap[q]? = some (.cells #[(bc_,n,cc),.pointer (some ⟨ql,0,none⟩),(d,es.length+1,l)] 231 (0,0)):=by have:=zar (o:=2) (d,es.length+1,l) s.o;simpa using this
   have V:=(aq.o.tk E.o (by decide) (by decide) (by decide)).tk J (by decide) (by decide) (by decide);have U:Below H w (t.setCell ⟨q,2,none⟩ (d,es.length+1,l)):=ac.o.setCell (p:=⟨q,2,none⟩) f.o.own _;have W:Kept TB none w (t.setCell ⟨q,2,none⟩ (d,es.length+1,l)):=af.o.trans (Kept.set s.o (by decide) _);have aY:=un Y;have aW:=un V;have aU:=un U
   have ar:=un W;clear J Y V U W;refine(factor H q n S cc (some ⟨bc_,0,none⟩) lc' (C.set k a) _ _ _ aY.o aW.o f.o.own a5.o HN.o aw.o.good.2.2 (zC3 aV.o)).mono ?_;rintro e w6 (⟨_,rfl,hs,hb6,hk6⟩ | ⟨hr,rfl,_⟩)
   ·have HS:=un (hs tb (fun g hg=>XL (a6.o g hg) ar.o.size));have aT:=un (aU.o.trans hb6);have aX:=un (ar.o.trans hk6);clear hs hb6 hk6;go_wp2;go_ret
    exact⟨rfl,HS.o,aT.o,aX.o⟩
   ·exact absurd a0.o hr
end Bs
theorem zTV(h:¬0<el col k):znH cols xs col (k+1)=znH cols xs col k:=by simp only[znH];rw[if_neg h]
theorem zTU(h:0<el col k)(e:znH cols xs col k=none):znH cols xs col (k+1)=some k:=by simp only[znH];rw[if_pos h,e]
theorem zTc(h:0<el col k)(e:znH cols xs col k=some b)(a:el xs k/el col k<el xs b/el col b∨(el xs k/el col k=el xs b/el col b∧cols.getD k 0<cols.getD b 0)):znH cols xs col (k+1)=some k:=by simp only[znH];rw[if_pos h,e];simp only;rw[if_pos a]
theorem zTb(h:0<el col k)(e:znH cols xs col k=some b)(a:¬(el xs k/el col k<el xs b/el col b∨(el xs k/el col k=el xs b/el col b∧cols.getD k 0<cols.getD b 0))):znH cols xs col (k+1)=some b:=by simp only[znH];rw[if_pos h,e];simp only;rw[if_neg a]
theorem zTh(h:znH cols xs col k=some b):b<k:=by
 have s:=zKk cols xs col k;rw[h]at s;exact s.1
theorem z0m(h:0<q):q≠0:=by grind
theorem zYp:0<q.num↔0<q:=by
 have h:=Yt (q := -q);rw[Yu]at h;grind
section
variable {W0 w:World} {H q:Nat} {rA:OA} {rc:Nat} {lA:List Value} {bA:OA} {bc_:Nat} {kA:OA} {kc:Nat} {eA:OA} {ec m N S own:Nat} {A:List (List Rat)} {b c:List Rat} {left:List Int}
  {tA:OA} {tc:Nat} {cols:List Nat}
namespace Tb
theorem leave(h:zhi W0 w H q rA rc lA bA bc_ kA kc eA ec m N S own A b c left tA tc cols)(Z:Nat)(hZ:16*Z+8≤LIM)(K:OA)(cK:Nat)(col:List Rat)(HK:Nat)(hk:VecS w HK (.slice K m cK) col)(zx:∀x∈za5 A b cols,mw x≤Z)(zc:∀x∈col,mw x≤Z) :
  Calls prog 114 #[.pointer (some ⟨q,0,none⟩),.slice K m cK] w fun e w'=>e=.returned (.int .i64 (zbh (zDG cols (za5 A b cols) col)))∧Below w w w':=by
 obtain⟨qb,xA,xc,u⟩:=h;have bD:=un hk.len;have bC:=un u.basis.len;have cV:=un (u.basis.vals_ok b).2;have bB:=un hk;have bz:=un u.colsI;have bF:=un u.x;have KQ:=un u.blk;have c0:=un hZ;have ZX:=un zx;have ZC:=un zc;have eK:=u.std.hm;have q6:=zac u.blk 6;have q8:=zac u.blk 8;simp only[ZF,Zz,ZU]at q6 q8;have dJ:=zaa q6;clear u hk zx zc hZ
 go_enter func114,ntmps114;go_upto_region 3 with fail
 have eL:¬(m:Int)<(m:Int):=by omega
 go_cut[18,19] (fun a b wr=>a=(m:Int)∧b=.int .i64 0∧wr=w.alloc (.cells #[false,(),()] 41))
 case first =>
  have eQ:=cell_al (ob:=.cells #[false,(),()] 41) q6;go_wp2
  all_goals
   go_meet
   case rel=>exact⟨by first | rfl | (simp;done),rfl,rfl⟩
 obtain⟨rfl,rfl,rfl⟩:=hcut;go_wp2
 go_loopw [5,19] (fun bv i wr=>∃(k:Nat) (G:Bool) (B:OA) (M E:Nat) (C:OA) (J D:Nat),i=.int .i64 k∧bv=.int .i64 (zbh (znH cols (za5 A b cols) col k))∧k≤m∧wr.heap[w.heap.size]? = some (.cells #[G,(B,M,E),(C,J,D)] 41 (0,0))∧(∀g,znH cols (za5 A b cols) col k=some g→RatS wr G (B,M,E) (C,J,D) (el (za5 A b cols) g/el col g))∧Below w w wr)
  (fun _ i _=>m-(intOf i).toNat)
 case atStart=>exact⟨0,_,_,_,_,_,_,_,rfl,rfl,Zb _,zal _ _ _,fun b h=>(by cases h),zae w _⟩
 case round =>
  obtain⟨k,G,B,M,E,C,J,D,rfl,rfl,hk,bH,u,p⟩:=hrel;by_cases bJ:k<m
  ·obtain⟨R,rfl,_,_⟩:=bB.o.has (by omega);obtain⟨s,rfl,_,_⟩:=bz.o.has (by omega);obtain⟨y,rfl,_,_⟩:=bF.o.has (by omega);have bL:=zaH (xs:=za5 A b cols) (j:=k) (by rw[cV.o];exact bJ);have bI:=zaH (xs:=col) (j:=k) (by rw[←bD.o];exact bJ);have dd:=zaO (L:=cols) (i:=k) (d:=0) (by rw[bC.o];exact bJ);obtain⟨ga,Aa,ma,ca,Da,a6,a1,y0,y1,y2,c8⟩:=(bF.o.below p).at_ bL;obtain⟨gb,Ab,mb,cb,Db,aT,aN,z0,z1,z2,da⟩:=(bB.o.below p).at_ bI;have m0:=(bz.o.below p).at_ dd
   have dg:=ZX.o _ (Zh bL);have bh:=ZC.o _ (Zh bI);have d8:=un (bz.o.below p);have dz:=un (show RatS wr ga (Aa,ma,ca) (Da,a6,a1) (el (za5 A b cols) k)from c8);have cY:=un (da);have dw:=un (show ∀g,znH cols (za5 A b cols) col k=some g→RatS wr G (B,M,E) (C,J,D) (el (za5 A b cols) g/el col g)from u)
   have HW:=un (Bel.mk p);have bm:=y0;have bn:=y1;have bo:=y2;have bq:=z0;have br:=z1
   have bs:=z2;have bt:=m0;have bu:=zab p q6;have bw:=zab p q8;have cU:=dw;have c4:=un bH;have bm:=y0;have bn:=y1
   have bo:=y2;have bq:=z0;have br:=z1;have bs:=z2;have bt:=m0;have bu:=zab p q6;have bw:=zab p q8;have c1:=un dg;have c3:=un bh;have eF:(0:Int)≤(k:Int):=Zf _;have eG:(k:Int)<(m:Int):=by omega
   clear bH u p bL bI dd y0 y1 y2 z0 z1 z2 m0 c8 da dg bh q6 q8 dJ;go_wp2_with fail
   with_reducible refine(Rt.sign gb Ab mb cb Db aT aN (el col k) _ cY.o).mono ?_
   rintro e v1 ⟨rfl,hb⟩;have cg:=un (zad hb c4.o);have d9:=un (d8.o.below hb);have dn:=un (dz.o.below hb);have dp:=un (cY.o.below hb);have dl:=un (HW.o.below hb);obtain⟨ee,_,_,_,ef,_,_,_,en,_⟩:=bf3 cg.o;have ck:=zab hb bm;have cp:=zab hb bn;have cu:=zab hb bo;have cv:=zab hb bq
   have cC:=zab hb br;have cE:=zab hb bs;have cG:=zab hb bt;have cO:=zab hb bu;have cR:=zab hb bw;have cT:=un hb;clear hb;by_cases aR:0<el col k
   ·have de:=zYp.2 aR;have df:¬(el col k).num.sign≤0:=by rw[YV de];decide
    have dF:¬(el col k).num≤0:=by omega
    have eN:decide ((el col k).num≤0)=false:=Zu dF;have dy:=un (z0m aR);have aZ:=un aR;have du:=un (show 4*(mw (el (za5 A b cols) k)+mw (el col k))+8≤LIM by have:=c0.o;have:=c1.o;have:=c3.o;omega);clear aR;go_upto_region 7 with fail
    have HS:=un (show ∀w',Below v1 v1 w'→((w'.cell? ⟨w,0,none⟩=some (.bool G)∧w'.cell? ⟨w,1,none⟩=some (B,M,E)∧w'.cell? ⟨w,2,none⟩=some (C,J,D)∧w'.cell? ⟨y,k*3,none⟩=some (.bool ga)∧w'.cell? ⟨y,k*3+1,none⟩=some (Aa,ma,ca)∧w'.cell? ⟨y,k*3+2,none⟩=some (Da,a6,a1)∧w'.cell? ⟨R,k*3,none⟩=some (.bool gb)∧w'.cell? ⟨R,k*3+1,none⟩=some (Ab,mb,cb)∧w'.cell? ⟨R,k*3+2,none⟩=some (Db,aT,aN)∧w'.cell? ⟨s,k,none⟩=some (.int .i64 ((cols.getD k 0:Nat):Int))∧w'.cell? ⟨q,6,none⟩=some (s,m,tc)∧w'.cell? ⟨q,8,none⟩=some (y,m,xc))∧Below v1 v1 w')from fun w' h=>⟨⟨zab h ee,zab h ef,zab h en,zab h ck,zab h cp,zab h cu,zab h cv,zab h cC,zab h cE,zab h cG,zab h cO,zab h cR⟩,h⟩)
    go_cut[8,9] (fun s8 s9 wz=>zcD v1 s8 wz (el (za5 A b cols) k/el col k))
    case first =>
     go_region_held3 (fun w'=>((w'.cell? ⟨w,0,none⟩=some (.bool G)∧w'.cell? ⟨w,1,none⟩=some (B,M,E)∧w'.cell? ⟨w,2,none⟩=some (C,J,D)∧w'.cell? ⟨y,k*3,none⟩=some (.bool ga)∧w'.cell? ⟨y,k*3+1,none⟩=some (Aa,ma,ca)∧w'.cell? ⟨y,k*3+2,none⟩=some (Da,a6,a1)∧w'.cell? ⟨R,k*3,none⟩=some (.bool gb)∧w'.cell? ⟨R,k*3+1,none⟩=some (Ab,mb,cb)∧w'.cell? ⟨R,k*3+2,none⟩=some (Db,aT,aN)∧w'.cell? ⟨s,k,none⟩=some (.int .i64 ((cols.getD k 0:Nat):Int))∧w'.cell? ⟨q,6,none⟩=some (s,m,tc)∧w'.cell? ⟨q,8,none⟩=some (y,m,xc))∧Below v1 v1 w'))
      ((refine HS.o _ ?_;repeat(first | exact Zg _ _ | exact(by assumption:_∧Below _ _ _).2 | with_reducible refine bdrew ?_ | with_reducible refine al2 ?_ _ | with_reducible refine set2 ?_ (by omega) | with_reducible refine zc1 ?_ (by assumption))))
      (first
       | (go_at_call 146;(with_reducible refine(Rt.div ga Aa ma ca Da a6 a1 (el (za5 A b cols) k) gb Ab mb cb Db aT aN (el col k) _ (dn.o.below (by assumption:_∧Below _ _ _).2) (dp.o.below (by assumption:_∧Below _ _ _).2) dy.o du.o).mono ?_);rintro e u2 ⟨g2,A2,m2,c2,D2,md2,cd2,rfl,hn,hb2⟩;have bh:=hb2.size;(try simp at bh);have eP:v1.heap.size≤u2.heap.size:=(by omega);(try((first | (have Q:=un (zbc (cs:=#[.bool false,.slice none 0 0,.slice none 0 0]) (t:=41) hb2 Q.o)) | (have Q:=un (zbc (cs:=#[.bool false,.slice none 0 0,.slice none 0 0]) (t:=41) hb2 (zal _ _ _))));have ev:=zac Q.o 0;have ey:=zag Q.o 0;have ew:=zac Q.o 1;have ez:=zag Q.o 1;have ex:=zac Q.o 2;have eB:=zag Q.o 2));have N7:=un hn;clear hn)
       | fail)
     all_goals
      go_wp2;go_meet
      case rel=>(have I:=(by assumption:_∧Below v1 v1 _).2;(first | (with_reducible refine zcD.of I ?_ Q.o N7.o;omega) | (with_reducible refine zcD.al I ?_ N7.o;omega) | (with_reducible refine zcD.of I ?_ (zal _ _ _) (N7.o.alloc _);omega)))
    case rest =>
     obtain⟨r,z,O,V,T,P,W,U,rfl,o,eM,bg,hi⟩:=hcut;rename World=>wz
     have dx:=un (fun b h=>((cU.o b h).below cT.o).below o);have ch:=un (zad o cg.o);have b7:=un (d9.o.below o);have dq:=un (dn.o.below o);have dm:=un (dl.o.below o);have HR:=un (hi);obtain⟨fz,_,_,_,fA,_,_,_,fG,_⟩:=bf3 ch.o
     have cI:=zab o cG;have cJ:=zab o cO;have cP:wz.cell? ⟨r,0,none⟩=some (.bool z):=zac bg 0;have cM:wz.cell? ⟨r,1,none⟩=some (O,V,T):=zac bg 1;have cQ:wz.cell? ⟨r,2,none⟩=some (P,W,U):=zac bg 2
     clear o HS;clear hi bg;cases I:znH cols (za5 A b cols) col k with
     | none =>
      have hp:zbh none = -1:=rfl;rw[hp];have aL:=un I;clear I;go_upto_region 11 with fail
      go_cut[70] (fun c wx=>c=true∧Below wz.heap.size wz wx)
      case first =>
       refine wp_region_noPanic ?_;refine wp_region_held_drew (S:=fun w'=>w'.cell? ⟨r,0,none⟩=some (.bool z)) (by kernel_rfl) kp fun hHeld=>?_
       refine zaw [0,1,2] ?_;repeat refine tkH (hS:=hHeld) (h:=?_)
       refine zao ?_;refine zaw [3,4,5,6,7,8,9,10,11,12,13,14,15,16,17,18,19,20,21] ?_;repeat refine skH (hS:=hHeld) (h:=?_)
       refine zao ?_;refine zaw [22] ?_;repeat refine tkH (hS:=hHeld) (h:=?_)
       refine zao ?_;refine wpAnyH_done (by kernel_rfl) ?_ _;refine NoPanic.normal ?_;go_wp2;go_meet;exact⟨by first | rfl | (simp at aP ⊢;omega) | (simp;omega),zap _ 1⟩
      obtain⟨rfl,f⟩:=hcut;rename World=>wy
      have ab:=un (zad f ch.o);have bb:=un (dq.o.below f);have aV:=un (dm.o.below f);have aW:=un (HR.o.below f);obtain⟨_,eg,_,ek,ej,_,ep,_,er,_,ed,_⟩:=bf3 ab.o
      have aA:=zab f cI;have aB:=zab f cJ;have aD:=zab f cP;have ap:=zab f cM;have au:=zab f cQ;have l:=un (zTU aZ.o aL.o);go_wp2_with fail
      refine zaS (S:=fun w'=>w'.cell? ⟨r,0,none⟩=some (.bool z)∧w'.cell? ⟨r,1,none⟩=some (O,V,T)∧w'.cell? ⟨r,2,none⟩=some (P,W,U)) [3] (h:=fun hHeld=>?_);refine zaw [0,1,2] ?_;repeat refine tkL (hS:=hHeld) (h:=?_)
      refine zao ?_;refine zay 3 (h:=fun K hK=>?_);go_simp;refine shutOff hK ?_;clear hK K
      refine zaM (h:=?_);go_wp2;go_roundw
      case rel=>exact⟨k+1,z,O,V,T,P,W,U,by go_num,by rw[l.o];rfl,by omega,zar _ (zar _ (zar _ ab.o)),fun b h=>by rw[l.o]at h;injection h with h;subst h;exact(aW.o.set3 ab.o (by decide) _ _ _).drew,(Bel.set3 aV.o (Za _) _ _ _).drew.b⟩
      case measure=>simp[intOf];omega
     | some g =>
      have hp:zbh (some g)=(g:Int):=rfl;rw[hp];have aL:=un I;have cW:=un (dx.o g I);have eD:=zTh I
      have eI:(0:Int)≤(g:Int):=Zf _;have eJ:(g:Int)<(m:Int):=by omega
      have dH:=ZX.o _ (Zh (zaH (xs:=za5 A b cols) (j:=g) (by rw[cV.o];omega)));have dI:=ZC.o _ (Zh (zaH (xs:=col) (j:=g) (by rw[←bD.o];omega)));have dv:=un (show 4*(mw (el (za5 A b cols) k/el col k)+mw (el (za5 A b cols) g/el col g))+8≤LIM by have h1:=zyw (el (za5 A b cols) k) (el col k);have h2:=zyw (el (za5 A b cols) g) (el col g);have:=c0.o;have:=c1.o;have:=c3.o;omega);have dc:=b7.o.at_ (zaO (L:=cols) (i:=g) (d:=0) (by rw[bC.o];omega))
      clear I dH dI;go_wp2_with fail
      with_reducible refine(Rt.cmpr z O V T P W U (el (za5 A b cols) k/el col k) G B M E C J D (el (za5 A b cols) g/el col g) _ HR.o cW.o dv.o).mono ?_
      rintro e Y ⟨rfl,hb⟩;have ab:=un (zad hb ch.o);have bb:=un (dq.o.below hb);have aV:=un (dm.o.below hb);have aW:=un (HR.o.below hb);have bl:=un (cW.o.below hb);obtain⟨_,eg,_,ek,ej,_,ep,_,er,_,ed,_⟩:=bf3 ab.o
      have aA:=zab hb cI;have aB:=zab hb cJ;have aD:=zab hb cP;have ap:=zab hb cM;have au:=zab hb cQ;have be:=zab hb dc;clear hb
      by_cases hc:el (za5 A b cols) k/el col k<el (za5 A b cols) g/el col g
      ·have a3:=zm9.2 hc;have a4:=Zs a3;have ae:=un (zTc aZ.o aL.o (.inl hc));clear hc;go_upto_region 11 with fail
       go_cut[70] (fun c wx=>c=true∧Below Y Y wx)
       case first =>
        refine wp_region_noPanic ?_;refine wp_region_held_drew (S:=fun w'=>w'.cell? ⟨r,0,none⟩=some (.bool z)) (by kernel_rfl) kp fun hHeld=>?_
        refine zaw [0,1,2] ?_;repeat refine tkH (hS:=hHeld) (h:=?_)
        refine zao ?_;try simp only[a4]
        refine zaw [3,4,5,6,7,8,9,10,11,12,13,14,15,16,17,18,19,20,21] ?_;repeat refine skH (hS:=hHeld) (h:=?_)
        refine zao ?_;refine zaw [22] ?_;repeat refine tkH (hS:=hHeld) (h:=?_)
        refine zao ?_;refine wpAnyH_done (by kernel_rfl) ?_ _;refine NoPanic.normal ?_;go_wp2;go_meet;exact⟨by first | rfl | (simp at aP ⊢;omega) | (simp;omega),zap _ 1⟩
       obtain⟨rfl,f⟩:=hcut;rename World=>wy
       have v:=un (zad f ab.o);have cd:=un (bb.o.below f);have aH:=un (aV.o.below f);have a7:=un (aW.o.below f);have ba:=un (bl.o.below f);obtain⟨_,ci,_,cr,co,_,cz,_,cN,_,b6,_⟩:=bf3 v.o
       have ai:=zab f aD;have aE:=zab f ap;have aF:=zab f au;have l:=un (ae.o);go_wp2_with fail
       refine zaS (S:=fun w'=>w'.cell? ⟨r,0,none⟩=some (.bool z)∧w'.cell? ⟨r,1,none⟩=some (O,V,T)∧w'.cell? ⟨r,2,none⟩=some (P,W,U)) [3] (h:=fun hHeld=>?_);refine zaw [0,1,2] ?_;repeat refine tkL (hS:=hHeld) (h:=?_)
       refine zao ?_;refine zay 3 (h:=fun K hK=>?_);go_simp;refine shutOff hK ?_;clear hK K
       refine zaM (h:=?_);go_wp2;go_roundw
       case rel=>exact⟨k+1,z,O,V,T,P,W,U,by go_num,by rw[l.o];rfl,by omega,zar _ (zar _ (zar _ v.o)),fun b h=>by rw[l.o]at h;injection h with h;subst h;exact(a7.o.set3 v.o (by decide) _ _ _).drew,(Bel.set3 aH.o (Za _) _ _ _).drew.b⟩
       case measure=>simp[intOf];omega
      ·have a3:¬zlX (el (za5 A b cols) k/el col k) (el (za5 A b cols) g/el col g)<0:=fun h=>hc (zm9.1 h)
       have a4:=Zu a3;by_cases he:el (za5 A b cols) k/el col k=el (za5 A b cols) g/el col g
       ·have aQ:=(zkD _ _).2 he;rw[aQ];by_cases bf:cols.getD k 0<cols.getD g 0
        ·have aP:((cols.getD k 0:Nat):Int)<((cols.getD g 0:Nat):Int):=by omega
         have ae:=un (zTc aZ.o aL.o (.inr ⟨he,bf⟩));clear he hc bf a3 a4 aQ;go_upto_region 11 with fail
         go_cut[70] (fun c wx=>c=true∧Below Y Y wx)
         case first =>
          refine wp_region_noPanic ?_;refine wp_region_held_drew (S:=fun w'=>w'.cell? ⟨s,k,none⟩=some (.int .i64 ((cols.getD k 0:Nat):Int))∧w'.cell? ⟨q,6,none⟩=some (s,m,tc)∧w'.cell? ⟨s,g,none⟩=some (.int .i64 ((cols.getD g 0:Nat):Int))) (by kernel_rfl) kp fun hHeld=>?_
          refine zaw [0,1,2,3,4,5,6,7,8,9,10,11,12,13,14,15,16,17,18,19,20,21,22] ?_;repeat refine tkH (hS:=hHeld) (h:=?_)
          refine zao ?_;refine wpAnyH_done (by kernel_rfl) ?_ _;refine NoPanic.normal ?_;go_wp2;go_meet;exact⟨by first | rfl | (simp at aP ⊢;omega) | (simp;omega),zap _ 1⟩
         obtain⟨rfl,f⟩:=hcut;rename World=>wy
         have v:=un (zad f ab.o);have cd:=un (bb.o.below f);have aH:=un (aV.o.below f);have a7:=un (aW.o.below f);have ba:=un (bl.o.below f);obtain⟨_,ci,_,cr,co,_,cz,_,cN,_,b6,_⟩:=bf3 v.o
         have ai:=zab f aD;have aE:=zab f ap;have aF:=zab f au;have l:=un (ae.o);go_wp2_with fail
         refine zaS (S:=fun w'=>w'.cell? ⟨r,0,none⟩=some (.bool z)∧w'.cell? ⟨r,1,none⟩=some (O,V,T)∧w'.cell? ⟨r,2,none⟩=some (P,W,U)) [3] (h:=fun hHeld=>?_);refine zaw [0,1,2] ?_;repeat refine tkL (hS:=hHeld) (h:=?_)
         refine zao ?_;refine zay 3 (h:=fun K hK=>?_);go_simp;refine shutOff hK ?_;clear hK K
         refine zaM (h:=?_);go_wp2;go_roundw
         case rel=>exact⟨k+1,z,O,V,T,P,W,U,by go_num,by rw[l.o];rfl,by omega,zar _ (zar _ (zar _ v.o)),fun b h=>by rw[l.o]at h;injection h with h;subst h;exact(a7.o.set3 v.o (by decide) _ _ _).drew,(Bel.set3 aH.o (Za _) _ _ _).drew.b⟩
         case measure=>simp[intOf];omega
        ·have aP:¬((cols.getD k 0:Nat):Int)<((cols.getD g 0:Nat):Int):=by omega
         have ae:=un (zTb aZ.o aL.o (fun h=>h.elim hc fun h=>bf h.2));clear he hc bf a3 a4 aQ;go_upto_region 11 with fail
         go_cut[70] (fun c wx=>c=false∧Below Y Y wx)
         case first =>
          refine wp_region_noPanic ?_;refine wp_region_held_drew (S:=fun w'=>w'.cell? ⟨s,k,none⟩=some (.int .i64 ((cols.getD k 0:Nat):Int))∧w'.cell? ⟨q,6,none⟩=some (s,m,tc)∧w'.cell? ⟨s,g,none⟩=some (.int .i64 ((cols.getD g 0:Nat):Int))) (by kernel_rfl) kp fun hHeld=>?_
          refine zaw [0,1,2,3,4,5,6,7,8,9,10,11,12,13,14,15,16,17,18,19,20,21,22] ?_;repeat refine tkH (hS:=hHeld) (h:=?_)
          refine zao ?_;refine wpAnyH_done (by kernel_rfl) ?_ _;refine NoPanic.normal ?_;go_wp2;go_meet;exact⟨by first | rfl | (simp at aP ⊢;omega) | (simp;omega),zap _ 1⟩
         obtain⟨rfl,f⟩:=hcut;rename World=>wy
         have v:=un (zad f ab.o);have cd:=un (bb.o.below f);have aH:=un (aV.o.below f);have a7:=un (aW.o.below f);have ba:=un (bl.o.below f);obtain⟨_,ci,_,cr,co,_,cz,_,cN,_,b6,_⟩:=bf3 v.o
         have ai:=zab f aD;have aE:=zab f ap;have aF:=zab f au;have l:=un (ae.o);go_wp2;go_roundw
         case rel=>exact⟨k+1,G,B,M,E,C,J,D,by go_num,by rw[l.o];rfl,by omega,v.o,fun b h=>by rw[l.o]at h;injection h with h;subst h;exact ba.o,aH.o.b⟩
         case measure=>simp[intOf];omega
       ·have aQ:¬zlX (el (za5 A b cols) k/el col k) (el (za5 A b cols) g/el col g)=0:=fun h=>he ((zkD _ _).1 h)
        have dD:decide (zlX (el (za5 A b cols) k/el col k) (el (za5 A b cols) g/el col g)=0)=false:=Zu aQ;have dE:(zlX (el (za5 A b cols) k/el col k) (el (za5 A b cols) g/el col g) == 0)=false:=by simpa using aQ
        have ae:=un (zTb aZ.o aL.o (fun h=>h.elim hc fun h=>he h.1));clear he hc;go_upto_region 11 with fail
        go_cut[70] (fun c wx=>c=false∧Below Y Y wx)
        case first =>
         refine wp_region_noPanic ?_;refine wp_region_held_drew (S:=fun w'=>w'.cell? ⟨r,0,none⟩=some (.bool z)) (by kernel_rfl) kp fun hHeld=>?_
         refine zaw [0,1,2] ?_;repeat refine tkH (hS:=hHeld) (h:=?_)
         refine zao ?_;try simp only[a4]
         refine zaw [3,4,5] ?_;repeat refine tkH (hS:=hHeld) (h:=?_)
         refine zao ?_;try simp only[dD,dE]
         refine zaw [6,7,8,9,10,11,12,13,14,15,16,17,18,19,20] ?_;repeat refine skH (hS:=hHeld) (h:=?_)
         refine zao ?_;refine zaw [21,22] ?_;repeat refine tkH (hS:=hHeld) (h:=?_)
         refine zao ?_;refine wpAnyH_done (by kernel_rfl) ?_ _;refine NoPanic.normal ?_;go_wp2;go_meet;exact⟨by first | rfl | (simp at aP ⊢;omega) | (simp;omega),zap _ 1⟩
        obtain⟨rfl,f⟩:=hcut;rename World=>wy
        have v:=un (zad f ab.o);have cd:=un (bb.o.below f);have aH:=un (aV.o.below f);have a7:=un (aW.o.below f);have ba:=un (bl.o.below f);obtain⟨_,ci,_,cr,co,_,cz,_,cN,_,b6,_⟩:=bf3 v.o
        have ai:=zab f aD;have aE:=zab f ap;have aF:=zab f au;have l:=un (ae.o);go_wp2;go_roundw
        case rel=>exact⟨k+1,G,B,M,E,C,J,D,by go_num,by rw[l.o];rfl,by omega,v.o,fun b h=>by rw[l.o]at h;injection h with h;subst h;exact ba.o,aH.o.b⟩
        case measure=>simp[intOf];omega
   ·have de:(el col k).num≤0:=Int.not_lt.1 fun h=>aR (zYp.1 h)
    have df:(el col k).num.sign≤0:=by rcases XP (el col k).num 0 with h | h | h;rw[YU h];decide;rw[h];decide;omega
    have l:=un (zTV (cols:=cols) (xs:=za5 A b cols) (col:=col) (k:=k) aR);go_wp2;go_roundw
    case rel=>exact⟨k+1,G,B,M,E,C,J,D,by go_num,by rw[l.o],by omega,cg.o,fun b h=>by rw[l.o]at h;exact(cU.o b h).below cT.o,dl.o.b⟩
    case measure=>simp[intOf];omega
  ·obtain rfl:m=k:=by omega
   have l:=un (show zDG cols (za5 A b cols) col=znH cols (za5 A b cols) col m by unfold zDG;rw[←bD.o,bC.o,Yx]);have ds:=un p;clear bH u p;go_wp2;go_ret
   exact⟨by rw[l.o];rfl,ds.o⟩
end Tb
end
