/- Contracts and lemmas: BasR Tb6. Conditions: as each says. -/
import Derived.Test.YtbhfhkcdfmmmiaaGreatLuFacZr
import Derived.Test.YtbhfhkcdfmmmiaaGreatBoolsZr
import Derived.Test.YtbhfhkcdfmmmiaaGreatBasTZr
set_option linter.all false
set_option maxHeartbeats 4000000
set_option maxRecDepth 100000
namespace Go.Proofs.YtbhfhkcdfmmmiaaGreat
open Go.RowKit Am Tryz
attribute [local go_sem ↓] Go.wp_at_zero Go.wp_at_succ
variable {cols:List Nat}{col xs:List Rat}{b k:Nat}{q:Rat}
structure BasH (w wy:World) (H q n:Nat) (cA:OA) (cc:Nat) (C':List (List Rat)) (K ql:Nat) (F:LUv) (eA:OA) (ec:Nat) (le:List (Nat × Value)) (es:List (Nat × List Rat)) (X:OA) (cX:Nat) (x:List Rat):Prop where
  blk:wy.heap[q]? = some (.cells #[(cA,n,cc),.pointer (some ⟨ql,0,none⟩),(eA,es.length,ec)] 231 (0,0))
  cols:∃lc',VecsL wy H (cA,n,cc) lc' C'
  lu:LuS wy K ql n F
  etas:EtasL wy H (eA,es.length,ec) le es
  x:VecS wy H (X,n,cX) x
  bel:Below H w wy
  kept:Kept TB none w wy
  off:∀tb,zey w ql tb→zey wy ql tb
namespace BasH
variable {w wy w':World} {H q n:Nat} {cA:OA} {cc:Nat} {C':List (List Rat)} {K ql:Nat} {F:LUv} {eA:OA} {ec:Nat} {le:List (Nat × Value)} {es:List (Nat × List Rat)} {X:OA} {cX:Nat} {x:List Rat}
theorem below(h:BasH w wy H q n cA cc C' K ql F eA ec le es X cX x)(d:H≤wy.heap.size)(a:Below wy wy w'):BasH w w' H q n cA cc C' K ql F eA ec le es X cX x:=by
 obtain⟨lc',hc⟩:=h.cols;exact⟨zad a h.blk,⟨lc',hc.below a⟩,h.lu.below a,h.etas.below a,h.x.below a,h.bel.trans (a.mono d),h.kept.below a,fun tb e=>(h.off tb e).same (a.block ql h.lu.qlt)⟩
end BasH
namespace Bs
theorem replace(H q n S k:Nat)(C:List (List Rat))(A:OA)(T:Nat)(a:List Rat)(Z:Nat)(w:World)(tb:Option Nat)(aD:∀g,tb=some g→g<w.heap.size)(hB:zhf w H q n S C tb)(P:VecS w Z (A,n,T) a)(hn:n≤64)(hk:k<n)(zv:∀x∈a,mw x≤S)(hS:1≤S)(hp:el (zes n C a) k≠0)(aj:zpS n S S≤LIM) :
  Calls prog 147 #[.pointer (some ⟨q,0,none⟩),(k:Int),(A,n,T)] w fun e w'=>e=.returned .nilIface∧zhf w' H q n S (C.set k a) tb∧Below H w w'∧Kept TB none w w':=by
 have a3:=un (solve H q n S S C A T a Z w hB.toS P hn zv hS aj);have ad:=un hB.toS;have a5:=un aD;obtain⟨cA,cc,lc,K,ql,F,D,eA,ec,le,es,G,ax⟩:=hB;have aY:=un ax;have HN:=un hn;have R:=un hk;have ag:=un hp;have aU:=un aj;have f:=un G;have a6:=un P;have ao:=un P.len;have bb:=un (fun i (hi:i<n)=>zrz zv (i:=i) (by rw[←P.len];exact hi));have bJ:=G.few;have bM:n≤9223372036854775807:=by omega
 have bK:(0:Int)≤(k:Int):=Int.natCast_nonneg _;have bL:(k:Int)<(n:Int):=by omega
 have h1:decide ((k:Int)<0)=false:=by simp
 have h2:decide ((n:Int)≤(k:Int))=false:=by simp;omega
 obtain⟨bc_,rfl,bg,bF⟩:=G.cols.has (by omega);obtain⟨k0,_,Q,_⟩:=bc3 G.blk;obtain⟨r0,aA⟩:∃r0,C[k]? = some r0:=⟨C[k]'(by rw[G.right.good.1.len];exact hk),List.getElem?_eq_getElem _⟩
 obtain⟨Ao,co,_,y0,_⟩:=G.cols.at_ aA;clear G P hn hk zv hS hp aj aA ax aD;go_enter func147,ntmps147;go_wp2_with fail
 with_reducible refine(a3.o).mono ?_
 rintro e w1 ⟨B,n1,c1,rfl,hv1,hb⟩;have bz:=un (f.o.below hb);have bt:=un (a6.o.below hb);have L:=un (hv1);have bv:=zab hb k0;clear hv1;have y1:=zab hb y0;have ap:=un hb;clear hb y0;obtain rfl:n=n1:=by rw[L.o.len,(zci ad.o.good.1 ad.o.good.2.1 a).2]
 have aC:=zaH (xs:=zes n C a) (j:=k) (by rw[←L.o.len];exact R.o);obtain⟨bx,rfl,bG,bH⟩:=L.o.has (by omega);obtain⟨gx,Ax,mx,cx,Dx,bm,bc,x0,x1,x2,ay⟩:=L.o.at_ aC;have a0:=un ay;clear aC ay;go_wp2_with fail
 with_reducible refine(Rt.zero gx Ax mx cx Dx bm bc (el (zes n C a) k) _ a0.o).mono ?_
 rintro e z ⟨rfl,hb⟩;have bB:=un (bz.o.below hb);have bu:=un (bt.o.below hb);have bC:=un (L.o.below hb);have bw:=zab hb bv;have bq:=zaa bw;have y2:=zab hb y1;have aP:=zaa y2;have aa:=un (ap.o.trans (hb.mono ap.o.size));clear hb x0 x1 x2 y1;have hz:zr (el (zes n C a) k)=false:=decide_eq_false ag.o;have ae:=un (f.o.hle);go_upto_region 8 with fail
 go_cut[] (fun wy=>BasH w wy H q n (some ⟨bc_,0,none⟩) cc (C.set k a) K ql F eA ec le es (some ⟨bx,0,none⟩) c1 (zes n C a))
 case first=>as_aux_lemma =>
  refine zaS (S:=fun w'=>w'.cell? ⟨q,0,none⟩=some (bc_,n,cc)) [8] (h:=fun hHeld=>?_);refine zaw [0,1,2,3,4,5] ?_;repeat refine tkL (hS:=hHeld) (h:=?_)
  refine zao ?_;refine zaB 6 (h:=fun K M=>?_);go_simp
  (go_at_call 45;(with_reducible refine(Vc.copy A n T a Z _ (bu.o.drew) (by have:=HN.o;omega)).mono ?_);rintro e u1 ⟨A2,c2,rfl,hv2,hb⟩;have a7:=un (show VecS u1 z (A2,n,c2) a from hv2);have v:=un (bB.o.below (show Below z z u1 from It.bdrew0' hb));have a8:=un (bC.o.below (show Below z z u1 from It.bdrew0' hb));have ab:=un (aa.o.trans ((show Below z z u1 from It.bdrew0' hb).mono aa.o.size));have s0:=zab hb bq;have s1:=zab hb aP;have sf:=v.o.cols.fro k;have ba:=un (show w.heap.size≤z.heap.size from aa.o.size);clear hv2 hb)
  (try go_wp2_with fail)
  refine M.o _ _ kp fun hHeld=>?_
  clear M K;try simp only[Act.put,pu1,pu2,pu3,pu4,pu5,pu6]
  refine zaw [7] ?_;repeat refine tkL (hS:=hHeld) (h:=?_)
  refine zao ?_;refine zay 8 (h:=fun K M=>?_);go_simp;refine M.o _ _ ?_;clear M K;try simp only[Act.put,pu1,pu2,pu3,pu4,pu5,pu6]
  refine zaM (h:=?_);go_wp2;go_meet;have bh:=v.o.cols.blk;obtain⟨cs,ak⟩:=bh;have Q:TKeep 28 u1 (u1.setCell ⟨bc_,k,none⟩ (A2,n,c2)):=TKeep.set ak _
  case rel=>exact⟨Q.blk v.o.blk (by decide),⟨_,v.o.cols.store (by rw[ad.o.good.1.len];exact R.o) (a7.o.base (by have:=ae.o;have:=ba.o;omega))⟩,(Hi.set (v.o.low bc_ rfl) ak (by decide) _).lu v.o.lu,v.o.etas.tk Q (by decide) (by decide) (by decide),(a8.o.base ae.o).tk Q (by decide) (by decide),(ab.o.mono ae.o).setCell (p:=⟨bc_,k,none⟩) bg _,(Kept.of_below ab.o).trans (Kept.set ak (by decide) _),fun tb ho=>(ho.same (ab.o.block ql f.o.lu.qlt)).same (by obtain⟨⟨aF,aG,aH,aL,aM,aN,aI,aJ,y,_⟩,_,_⟩:=v.o.lu;rw[Q.blk y (by decide),y])⟩
 case rest =>
  rename World=>wy
  have HY:=un hcut;have ah:=un (Nat.le_trans f.o.own (Nat.le_of_lt (Array.getElem?_eq_some_iff.1 hcut.blk).1));obtain⟨_,_,_,_,_,_,_,_,z2,_⟩:=bf3 hcut.blk;clear hcut y2 aP;have r:=un (HY.o.below ah.o (zae wy (.cells #[(k:Int),(bx,n,c1)] 233)));have a4:=un (f.o.right.good.1.set (k:=k) ao.o.symm);have aZ:=un (zjl f.o.right.good.1 f.o.right.good.2.1 R.o (zci f.o.right.good.1 f.o.right.good.2.1 a).1 ag.o)
  have aw:=un (EtasZ.snoc f.o.right R.o ao.o.symm bb.o ag.o);obtain⟨lc',az⟩:=r.o.cols;have aq:=un az;clear az;by_cases bI:es.length<8
  ·have h8:((es.length:Int))<8:=by omega
   go_wp2_with (at_builtin;refine zd5 rfl _ _ rfl rfl r.o.etas rfl (zal _ _ _) (r.o.x) (n:=es.length) rfl (by omega) (by simp;have:=ah.o;omega) ?_;intro d l l5 t O u I;have au:=un O;have E:=un u;have ac:=un (r.o.bel.trans I);have s:=un (u.blk r.o.blk (by decide));have v0:=zac s.o 0;have v1:=zac s.o 1;have v2:=zac s.o 2;have bo:=zag s.o 2;simp only[List.getElem?_toArray,List.getElem?_cons_zero,List.getElem?_cons_succ]at v0 v1 v2;have af:=un (r.o.kept.trans (Kept.tk u I.size (by decide)));clear O u I)
   go_ret
   have J:TKeep 231 t (t.setCell ⟨q,2,none⟩ (d,es.length+1,l)):=TKeep.set s.o _;have Y:(t.setCell ⟨q,2,none⟩ (d,es.length+1,l)).heap[q]? = some (.cells #[(bc_,n,cc),.pointer (some ⟨ql,0,none⟩),(d,es.length+1,l)] 231 (0,0)):=by have:=zar (o:=2) (d,es.length+1,l) s.o;simpa using this
   have V:=(aq.o.tk E.o (by decide) (by decide) (by decide)).tk J (by decide) (by decide) (by decide);have U:Below H w (t.setCell ⟨q,2,none⟩ (d,es.length+1,l)):=ac.o.setCell (p:=⟨q,2,none⟩) f.o.own _;have W:Kept TB none w (t.setCell ⟨q,2,none⟩ (d,es.length+1,l)):=af.o.trans (Kept.set s.o (by decide) _)
   have bk:zey (t.setCell ⟨q,2,none⟩ (d,es.length+1,l)) ql tb:=((r.o.off tb aY.o).same (by obtain⟨⟨aF,aG,aH,aL,aM,aN,aI,aJ,y,_⟩,_,_⟩:=r.o.lu;rw[E.o.blk y (by decide),y])).same (by obtain⟨⟨aF,aG,aH,aL,aM,aN,aI,aJ,y,_⟩,_,_⟩:=r.o.lu;rw[J.blk (E.o.blk y (by decide)) (by decide),E.o.blk y (by decide)])
   exact⟨rfl,⟨_,cc,lc',K,ql,F,D,d,l,l5,es++[(k,zes n C a)],⟨by rw[List.length_append];exact Y,V,f.o.low,(r.o.lu.tk E.o (by decide) (by decide) (by decide) (by decide) (by decide)).tk J (by decide) (by decide) (by decide) (by decide) (by decide),f.o.fac,by rw[List.length_append];exact au.o.tk J (by decide) (by decide) (by decide),aw.o,by rw[List.length_append];simp;omega,f.o.own,f.o.ownK⟩,bk⟩,U,W⟩
  ·have h8:8≤(es.length:Int):=by omega
   go_wp2_with (at_builtin;refine zd5 rfl _ _ rfl rfl r.o.etas rfl (zal _ _ _) (r.o.x) (n:=es.length) rfl (by omega) (by simp;have:=ah.o;omega) ?_;intro d l l5 t O u I;have au:=un O;have E:=un u;have ac:=un (r.o.bel.trans I);have s:=un (u.blk r.o.blk (by decide));have v0:=zac s.o 0;have v1:=zac s.o 1;have v2:=zac s.o 2;have bo:=zag s.o 2;simp only[List.getElem?_toArray,List.getElem?_cons_zero,List.getElem?_cons_succ]at v0 v1 v2;have af:=un (r.o.kept.trans (Kept.tk u I.size (by decide)));clear O u I)
   have J:TKeep 231 t (t.setCell ⟨q,2,none⟩ (d,es.length+1,l)):=TKeep.set s.o _;have Y:(t.setCell ⟨q,2,none⟩ (d,es.length+1,l)).heap[q]? = some (.cells #[(bc_,n,cc),.pointer (some ⟨ql,0,none⟩),(d,es.length+1,l)] 231 (0,0)):=by have:=zar (o:=2) (d,es.length+1,l) s.o;simpa using this
   have V:=(aq.o.tk E.o (by decide) (by decide) (by decide)).tk J (by decide) (by decide) (by decide);have U:Below H w (t.setCell ⟨q,2,none⟩ (d,es.length+1,l)):=ac.o.setCell (p:=⟨q,2,none⟩) f.o.own _;have W:Kept TB none w (t.setCell ⟨q,2,none⟩ (d,es.length+1,l)):=af.o.trans (Kept.set s.o (by decide) _);have aX:=un Y;have aV:=un V;have aT:=un U
   have ar:=un W;clear J Y V U W;refine(factor H q n S cc (some ⟨bc_,0,none⟩) lc' (C.set k a) _ _ _ aX.o aV.o f.o.own a4.o HN.o aw.o.good.2.2 (zC3 aU.o)).mono ?_;rintro e w6 (⟨_,rfl,hs,hb6,hk6⟩ | ⟨hr,rfl,_⟩)
   ·have HS:=un (hs tb (fun g hg=>Nat.lt_of_lt_of_le (a5.o g hg) ar.o.size));have aS:=un (aT.o.trans hb6);have aW:=un (ar.o.trans hk6);clear hs hb6 hk6;go_wp2;go_ret
    exact⟨rfl,HS.o,aS.o,aW.o⟩
   ·exact absurd aZ.o hr
end Bs
theorem zTV(h:¬0<el col k):znH cols xs col (k+1)=znH cols xs col k:=by simp only[znH];rw[if_neg h]
theorem zTU(h:0<el col k)(e:znH cols xs col k=none):znH cols xs col (k+1)=some k:=by simp only[znH];rw[if_pos h,e]
theorem zTc(h:0<el col k)(e:znH cols xs col k=some b)(a:el xs k/el col k<el xs b/el col b∨(el xs k/el col k=el xs b/el col b∧cols.getD k 0<cols.getD b 0)):znH cols xs col (k+1)=some k:=by simp only[znH];rw[if_pos h,e];simp only;rw[if_pos a]
theorem zTb(h:0<el col k)(e:znH cols xs col k=some b)(a:¬(el xs k/el col k<el xs b/el col b∨(el xs k/el col k=el xs b/el col b∧cols.getD k 0<cols.getD b 0))):znH cols xs col (k+1)=some b:=by simp only[znH];rw[if_pos h,e];simp only;rw[if_neg a]
theorem zTh(h:znH cols xs col k=some b):b<k:=by
 have s:=zKk cols xs col k;rw[h]at s;exact s.1
theorem z0m(h:0<q):q≠0:=by grind
theorem zYp:0<q.num↔0<q:=by
 have h:=Rat.num_nonneg (q := -q);rw[Rat.neg_num]at h;constructor
 ·intro h1;have:¬0 ≤ -q:=fun a=>by have:=h.2 a;omega
  grind
 ·intro h1;have:¬0 ≤ -q.num:=fun a=>by have:=h.1 a;grind
  omega
section
variable {W0 w:World} {H q:Nat} {rA:OA} {rc:Nat} {lA:List Value} {bA:OA} {bc_:Nat} {kA:OA} {kc:Nat} {eA:OA} {ec m N S own:Nat} {A:List (List Rat)} {b c:List Rat} {left:List Int}
  {tA:OA} {tc:Nat} {cols:List Nat}
namespace Tb
theorem leave(h:zhi W0 w H q rA rc lA bA bc_ kA kc eA ec m N S own A b c left tA tc cols)(Z:Nat)(hZ:16*Z+8≤LIM)(K:OA)(cK:Nat)(col:List Rat)(HK:Nat)(hk:VecS w HK (.slice K m cK) col)(zx:∀x∈za5 A b cols,mw x≤Z)(zc:∀x∈col,mw x≤Z) :
  Calls prog 114 #[.pointer (some ⟨q,0,none⟩),.slice K m cK] w fun e w'=>e=.returned (.int .i64 (zbh (zDG cols (za5 A b cols) col)))∧Below w w w':=by
 obtain⟨qb,xA,xc,u⟩:=h;have bC:=un hk.len;have bB:=un u.basis.len;have cU:=un (u.basis.vals_ok b).2;have bz:=un hk;have bw:=un u.colsI;have bE:=un u.x;have KQ:=un u.blk;have cZ:=un hZ;have ZX:=un zx;have ZC:=un zc;have eL:=u.std.hm;have q6:=zac u.blk 6;have q8:=zac u.blk 8;simp only[List.getElem?_toArray,List.getElem?_cons_zero,List.getElem?_cons_succ]at q6 q8;have dK:=zaa q6;have dH:w=w:=rfl;clear u hk zx zc hZ;have BB:=un (Below.refl w.heap.size w);have hW:w=w:=rfl
 go_enter func114,ntmps114;go_upto_region 3 with fail
 clear hW dH;have eM:¬(m:Int)<(m:Int):=by omega
 go_cut[18,19] (fun a b wr=>a=(m:Int)∧b=.int .i64 0∧wr=w.alloc (.cells #[false,(),()] 41))
 case first =>
  have eR:=cell_al (ob:=.cells #[false,(),()] 41) q6;go_wp2
  all_goals
   go_meet
   case rel=>exact⟨by first | rfl | (simp;done),rfl,rfl⟩
 obtain⟨rfl,rfl,rfl⟩:=hcut;go_wp2
 go_loopw [5,19] (fun bv i wr=>∃(k:Nat) (E:Bool) (z:OA) (J D:Nat) (B:OA) (I C:Nat),i=.int .i64 k∧bv=.int .i64 (zbh (znH cols (za5 A b cols) col k))∧k≤m∧wr.heap[w.heap.size]? = some (.cells #[E,(z,J,D),(B,I,C)] 41 (0,0))∧(∀g,znH cols (za5 A b cols) col k=some g→RatS wr E (z,J,D) (B,I,C) (el (za5 A b cols) g/el col g))∧Below w w wr)
  (fun _ i _=>m-(intOf i).toNat)
 case atStart=>exact⟨0,_,_,_,_,_,_,_,rfl,rfl,Nat.zero_le _,zal _ _ _,fun b h=>(by cases h),zae w _⟩
 case round =>
  obtain⟨k,E,z,J,D,B,I,C,rfl,rfl,hk,bG,u,p⟩:=hrel;by_cases bI:k<m
  ·obtain⟨Q,rfl,_,_⟩:=bz.o.has (by omega);obtain⟨s,rfl,_,_⟩:=bw.o.has (by omega);obtain⟨bx,rfl,_,_⟩:=bE.o.has (by omega);have bK:=zaH (xs:=za5 A b cols) (j:=k) (by rw[cU.o];exact bI);have bH:=zaH (xs:=col) (j:=k) (by rw[←bC.o];exact bI);have dd:=zaO (L:=cols) (i:=k) (d:=0) (by rw[bB.o];exact bI);obtain⟨ga,Aa,ma,ca,Da,a5,a0,y0,y1,y2,c7⟩:=(bE.o.below p).at_ bK;obtain⟨gb,Ab,mb,cb,Db,aS,aM,z0,z1,z2,c8⟩:=(bz.o.below p).at_ bH;have m0:=(bw.o.below p).at_ dd
   have dg:=ZX.o _ (List.mem_of_getElem? bK);have bg:=ZC.o _ (List.mem_of_getElem? bH);have eb:=un (bz.o.below p);have d9:=un (bw.o.below p);have d7:=un (bE.o.below p);have dA:=un (show RatS wr ga (Aa,ma,ca) (Da,a5,a0) (el (za5 A b cols) k)from c7);have cW:=un (show RatS wr gb (Ab,mb,cb) (Db,aS,aM) (el col k)from c8);have dx:=un (show ∀g,znH cols (za5 A b cols) col k=some g→RatS wr E (z,J,D) (B,I,C) (el (za5 A b cols) g/el col g)from u)
   have HW:=un (Bel.mk p);have dj:=un (BB.o.trans ((p).mono BB.o.size));have bl:wr.cell? ⟨bx,k*3,none⟩=some (.bool ga):=y0;have dM:=zaa bl;have bm:wr.cell? ⟨bx,k*3+1,none⟩=some (Aa,ma,ca):=y1;have dQ:=zaa bm;have bn:wr.cell? ⟨bx,k*3+2,none⟩=some (Da,a5,a0):=y2;have dS:=zaa bn;have bp:wr.cell? ⟨Q,k*3,none⟩=some (.bool gb):=z0;have dU:=zaa bp;have bq:wr.cell? ⟨Q,k*3+1,none⟩=some (Ab,mb,cb):=z1;have dW:=zaa bq
   have br:wr.cell? ⟨Q,k*3+2,none⟩=some (Db,aS,aM):=z2;have dY:=zaa br;have bs:wr.cell? ⟨s,k,none⟩=some (.int .i64 ((cols.getD k 0:Nat):Int)):=m0;have d0:=zaa bs;have bt:wr.cell? ⟨q,6,none⟩=some (s,m,tc):=zab p q6;have d2:=zaa bt;have bu:wr.cell? ⟨q,8,none⟩=some (bx,m,xc):=zab p q8;have d4:=zaa bu;have cT:=dx;have c3:=un bG;obtain⟨fh,fj,fo,ft,fi,fk,fp,fu,fn,fs,fG,fC⟩:=bf3 c3.o;have bl:=y0;have dM:=zaa bl;have bm:=y1;have dQ:=zaa bm
   have bn:=y2;have dS:=zaa bn;have bp:=z0;have dU:=zaa bp;have bq:=z1;have dW:=zaa bq;have br:=z2;have dY:=zaa br;have bs:=m0;have d0:=zaa bs;have bt:=zab p q6;have d2:=zaa bt;have bu:=zab p q8;have d4:=zaa bu;have c0:=un dg;have c1:=un bg;have eG:(0:Int)≤(k:Int):=Int.natCast_nonneg _;have eH:(k:Int)<(m:Int):=by omega
   clear bG u p bK bH dd y0 y1 y2 z0 z1 z2 m0 c7 c8 dg bg q6 q8 dK;go_wp2_with fail
   with_reducible refine(Rt.sign gb Ab mb cb Db aS aM (el col k) _ cW.o).mono ?_
   rintro e v1 ⟨rfl,hb⟩;have cf:=un (zad hb c3.o);have ed:=un (eb.o.below hb);have ea:=un (d9.o.below hb);have d8:=un (d7.o.below hb);have dn:=un (dA.o.below hb);have dp:=un (cW.o.below hb);have dl:=un (HW.o.below hb);have dk:=un (dj.o.trans ((hb).mono dj.o.size));obtain⟨ef,ff,fv,fq,eg,fg,fw,fr,eo,fx,fK,fI⟩:=bf3 cf.o;have cj:=zab hb bl;have eT:=zaa cj;have co:=zab hb bm;have eY:=zaa co;have ct:=zab hb bn;have e0:=zaa ct;have cu:=zab hb bp;have e2:=zaa cu
   have cB:=zab hb bq;have e4:=zaa cB;have cD:=zab hb br;have e6:=zaa cD;have cF:=zab hb bs;have e8:=zaa cF;have cN:=zab hb bt;have fa:=zaa cN;have cQ:=zab hb bu;have fc:=zaa cQ;have cS:=un hb;clear hb;by_cases aQ:0<el col k
   ·have de:=zYp.2 aQ;have df:¬(el col k).num.sign≤0:=by rw[Int.sign_eq_one_of_pos de];decide
    have dG:¬(el col k).num≤0:=by omega
    have eO:decide ((el col k).num≤0)=false:=decide_eq_false dG;have eP:decide ((el col k).num.sign≤0)=false:=decide_eq_false df;have dz:=un (z0m aQ);have aY:=un aQ;have dv:=un (show 4*(mw (el (za5 A b cols) k)+mw (el col k))+8≤LIM by have:=cZ.o;have:=c0.o;have:=c1.o;omega);clear aQ;go_upto_region 7 with fail
    have HS:=un (show ∀w',Below v1 v1 w'→((w'.cell? ⟨w,0,none⟩=some (.bool E)∧w'.cell? ⟨w,1,none⟩=some (z,J,D)∧w'.cell? ⟨w,2,none⟩=some (B,I,C)∧w'.cell? ⟨bx,k*3,none⟩=some (.bool ga)∧w'.cell? ⟨bx,k*3+1,none⟩=some (Aa,ma,ca)∧w'.cell? ⟨bx,k*3+2,none⟩=some (Da,a5,a0)∧w'.cell? ⟨Q,k*3,none⟩=some (.bool gb)∧w'.cell? ⟨Q,k*3+1,none⟩=some (Ab,mb,cb)∧w'.cell? ⟨Q,k*3+2,none⟩=some (Db,aS,aM)∧w'.cell? ⟨s,k,none⟩=some (.int .i64 ((cols.getD k 0:Nat):Int))∧w'.cell? ⟨q,6,none⟩=some (s,m,tc)∧w'.cell? ⟨q,8,none⟩=some (bx,m,xc))∧Below v1 v1 w')from fun w' h=>⟨⟨zab h ef,zab h eg,zab h eo,zab h cj,zab h co,zab h ct,zab h cu,zab h cB,zab h cD,zab h cF,zab h cN,zab h cQ⟩,h⟩)
    go_cut[8,9] (fun s8 s9 wz=>zcD v1 s8 wz (el (za5 A b cols) k/el col k))
    case first =>
     go_region_held3 (fun w'=>((w'.cell? ⟨w,0,none⟩=some (.bool E)∧w'.cell? ⟨w,1,none⟩=some (z,J,D)∧w'.cell? ⟨w,2,none⟩=some (B,I,C)∧w'.cell? ⟨bx,k*3,none⟩=some (.bool ga)∧w'.cell? ⟨bx,k*3+1,none⟩=some (Aa,ma,ca)∧w'.cell? ⟨bx,k*3+2,none⟩=some (Da,a5,a0)∧w'.cell? ⟨Q,k*3,none⟩=some (.bool gb)∧w'.cell? ⟨Q,k*3+1,none⟩=some (Ab,mb,cb)∧w'.cell? ⟨Q,k*3+2,none⟩=some (Db,aS,aM)∧w'.cell? ⟨s,k,none⟩=some (.int .i64 ((cols.getD k 0:Nat):Int))∧w'.cell? ⟨q,6,none⟩=some (s,m,tc)∧w'.cell? ⟨q,8,none⟩=some (bx,m,xc))∧Below v1 v1 w'))
      ((refine HS.o _ ?_;repeat(first | exact Below.refl _ _ | exact(by assumption:_∧Below _ _ _).2 | with_reducible refine bdrew ?_ | with_reducible refine al2 ?_ _ | with_reducible refine set2 ?_ (by omega) | with_reducible refine zc1 ?_ (by assumption))))
      (first
       | (go_at_call 146;(with_reducible refine(Rt.div ga Aa ma ca Da a5 a0 (el (za5 A b cols) k) gb Ab mb cb Db aS aM (el col k) _ (dn.o.below (by assumption:_∧Below _ _ _).2) (dp.o.below (by assumption:_∧Below _ _ _).2) dz.o dv.o).mono ?_);rintro e u2 ⟨g2,A2,m2,c2,D2,md2,cd2,rfl,hn,hb2⟩;have bg:=hb2.size;(try simp at bg);have eQ:v1.heap.size≤u2.heap.size:=(by omega);(try((first | (have P:=un (zbc (cs:=#[.bool false,.slice none 0 0,.slice none 0 0]) (t:=41) hb2 P.o)) | (have P:=un (zbc (cs:=#[.bool false,.slice none 0 0,.slice none 0 0]) (t:=41) hb2 (zal _ _ _))));have ew:=zac P.o 0;have ez:=zag P.o 0;have ex:=zac P.o 1;have eB:=zag P.o 1;have ey:=zac P.o 2;have eC:=zag P.o 2));have N7:=un hn;clear hn)
       | fail)
     all_goals
      go_wp2;go_meet
      case rel=>(have G:=(by assumption:_∧Below v1 v1 _).2;(first | (with_reducible refine zcD.of G ?_ P.o N7.o;omega) | (with_reducible refine zcD.al G ?_ N7.o;omega) | (with_reducible refine zcD.of G ?_ (zal _ _ _) (N7.o.alloc _);omega)))
    case rest =>
     obtain⟨r,y,M,U,R,O,V,T,rfl,o,eN,bf,hi⟩:=hcut;rename World=>wz
     have dy:=un (fun b h=>((cT.o b h).below cS.o).below o);have cg:=un (zad o cf.o);have di:=un (ed.o.below o);have b6:=un (ea.o.below o);have dh:=un (d8.o.below o);have dr:=un (dn.o.below o);have ds:=un (dp.o.below o);have dm:=un (dl.o.below o);have HR:=un (show RatS wz y (M,U,R) (O,V,T) (el (za5 A b cols) k/el col k)from hi);have bo:=un (dk.o.trans ((o).mono dk.o.size));obtain⟨fA,fl,fD,fy,fB,fm,fE,fz,fH,fF,fL,fJ⟩:=bf3 cg.o;have ck:=zab o cj
     have eU:=zaa ck;have cv:=zab o co;have eZ:=zaa cv;have cz:=zab o ct;have e1:=zaa cz;have cw:=zab o cu;have e3:=zaa cw;have cC:=zab o cB;have e5:=zaa cC;have cE:=zab o cD;have e7:=zaa cE;have cH:=zab o cF;have e9:=zaa cH;have cI:=zab o cN;have fb:=zaa cI;have cJ:=zab o cQ;have fd:=zaa cJ;have cO:wz.cell? ⟨r,0,none⟩=some (.bool y):=zac bf 0;have fe:=zaa cO;have cL:wz.cell? ⟨r,1,none⟩=some (M,U,R):=zac bf 1;have eV:=zaa cL;have cP:wz.cell? ⟨r,2,none⟩=some (O,V,T):=zac bf 2
     have eW:=zaa cP;clear o HS;clear hi bf;cases G:znH cols (za5 A b cols) col k with
     | none =>
      have hp:zbh none = -1:=rfl;rw[hp];have aK:=un G;clear G;go_upto_region 11 with fail
      go_cut[70] (fun c Y=>c=true∧Below wz.heap.size wz Y)
      case first =>
       refine wp_region_noPanic ?_;refine wp_region_held_drew (S:=fun w'=>w'.cell? ⟨r,0,none⟩=some (.bool y)) (by kernel_rfl) kp fun hHeld=>?_
       refine zaw [0,1,2] ?_;repeat refine tkH (hS:=hHeld) (h:=?_)
       refine zao ?_;refine zaw [3,4,5,6,7,8,9,10,11,12,13,14,15,16,17,18,19,20,21] ?_;repeat refine skH (hS:=hHeld) (h:=?_)
       refine zao ?_;refine zaw [22] ?_;repeat refine tkH (hS:=hHeld) (h:=?_)
       refine zao ?_;refine wpAnyH_done (by kernel_rfl) ?_ _;refine NoPanic.normal ?_;go_wp2;go_meet;exact⟨by first | rfl | (simp at aO ⊢;omega) | (simp;omega),zap _ 1⟩
      obtain⟨rfl,f⟩:=hcut;rename World=>wy
      have aa:=un (zad f cg.o);have a8:=un (di.o.below f);have a7:=un (b6.o.below f);have bc:=un (dh.o.below f);have ba:=un (dr.o.below f);have bb:=un (ds.o.below f);have aU:=un (dm.o.below f);have aV:=un (HR.o.below f);have ab:=un (bo.o.trans ((f).mono bo.o.size));obtain⟨ej,eh,ep,em,ek,ei,eq,en,et,er,ee,eu⟩:=bf3 aa.o;have ai:=zab f ck;have dN:=zaa ai;have aj:=zab f cv;have dR:=zaa aj;have ak:=zab f cz;have dT:=zaa ak;have am:=zab f cw;have dV:=zaa am
      have an:=zab f cC;have dX:=zaa an;have aq:=zab f cE;have dZ:=zaa aq;have az:=zab f cH;have d1:=zaa az;have aA:=zab f cI;have d3:=zaa aA;have aB:=zab f cJ;have d5:=zaa aB;have aC:=zab f cO;have d6:=zaa aC;have ao:=zab f cL;have dO:=zaa ao;have ar:=zab f cP;have dP:=zaa ar;have l:=un (zTU aY.o aK.o);go_wp2_with fail
      refine zaS (S:=fun w'=>w'.cell? ⟨r,0,none⟩=some (.bool y)∧w'.cell? ⟨r,1,none⟩=some (M,U,R)∧w'.cell? ⟨r,2,none⟩=some (O,V,T)) [3] (h:=fun hHeld=>?_);refine zaw [0,1,2] ?_;repeat refine tkL (hS:=hHeld) (h:=?_)
      refine zao ?_;refine zay 3 (h:=fun K hK=>?_);go_simp;refine hK.o _ _ ?_;clear hK K;try simp only[Act.put,pu1,pu2,pu3,pu4,pu5,pu6]
      refine zaM (h:=?_);go_wp2;go_roundw
      case rel=>exact⟨k+1,y,M,U,R,O,V,T,by go_num,by rw[l.o];rfl,by omega,zar _ (zar _ (zar _ aa.o)),fun b h=>by rw[l.o]at h;injection h with h;subst h;exact(aV.o.set3 aa.o (by decide) _ _ _).drew,(Bel.set3 aU.o (Nat.le_refl _) _ _ _).drew.b⟩
      case measure=>simp[intOf];omega
     | some g =>
      have hp:zbh (some g)=(g:Int):=rfl;rw[hp];have aK:=un G;have cV:=un (dy.o g G);have eE:=zTh G;have eI:¬(g:Int)<0:=by omega
      have eJ:(0:Int)≤(g:Int):=Int.natCast_nonneg _;have eK:(g:Int)<(m:Int):=by omega
      have dI:=ZX.o _ (List.mem_of_getElem? (zaH (xs:=za5 A b cols) (j:=g) (by rw[cU.o];omega)));have dJ:=ZC.o _ (List.mem_of_getElem? (zaH (xs:=col) (j:=g) (by rw[←bC.o];omega)));have dw:=un (show 4*(mw (el (za5 A b cols) k/el col k)+mw (el (za5 A b cols) g/el col g))+8≤LIM by have h1:=zyw (el (za5 A b cols) k) (el col k);have h2:=zyw (el (za5 A b cols) g) (el col g);have:=cZ.o;have:=c0.o;have:=c1.o;omega);have db:=b6.o.at_ (zaO (L:=cols) (i:=g) (d:=0) (by rw[bB.o];omega))
      clear G dI dJ;have eF:=zaa db;go_wp2_with fail
      with_reducible refine(Rt.cmpr y M U R O V T (el (za5 A b cols) k/el col k) E z J D B I C (el (za5 A b cols) g/el col g) _ HR.o cV.o dw.o).mono ?_
      rintro e W ⟨rfl,hb⟩;have aa:=un (zad hb cg.o);have a8:=un (di.o.below hb);have a7:=un (b6.o.below hb);have bc:=un (dh.o.below hb);have ba:=un (dr.o.below hb);have bb:=un (ds.o.below hb);have aU:=un (dm.o.below hb);have aV:=un (HR.o.below hb);have bj:=un (cV.o.below hb);have ab:=un (bo.o.trans ((hb).mono bo.o.size));obtain⟨ej,eh,ep,em,ek,ei,eq,en,et,er,ee,eu⟩:=bf3 aa.o;have ai:=zab hb ck;have dN:=zaa ai;have aj:=zab hb cv;have dR:=zaa aj;have ak:=zab hb cz
      have dT:=zaa ak;have am:=zab hb cw;have dV:=zaa am;have an:=zab hb cC;have dX:=zaa an;have aq:=zab hb cE;have dZ:=zaa aq;have az:=zab hb cH;have d1:=zaa az;have aA:=zab hb cI;have d3:=zaa aA;have aB:=zab hb cJ;have d5:=zaa aB;have aC:=zab hb cO;have d6:=zaa aC;have ao:=zab hb cL;have dO:=zaa ao;have ar:=zab hb cP;have dP:=zaa ar;have bd:W.cell? ⟨s,g,none⟩=some (.int .i64 ((cols.getD g 0:Nat):Int)):=zab hb db;have eX:=zaa bd;clear hb
      by_cases hc:el (za5 A b cols) k/el col k<el (za5 A b cols) g/el col g
      ·have a2:=zm9.2 hc;have a3:=decide_eq_true a2;have ad:=un (zTc aY.o aK.o (.inl hc));clear hc;go_upto_region 11 with fail
       go_cut[70] (fun c Y=>c=true∧Below W W Y)
       case first =>
        refine wp_region_noPanic ?_;refine wp_region_held_drew (S:=fun w'=>w'.cell? ⟨r,0,none⟩=some (.bool y)) (by kernel_rfl) kp fun hHeld=>?_
        refine zaw [0,1,2] ?_;repeat refine tkH (hS:=hHeld) (h:=?_)
        refine zao ?_;try simp only[a3]
        refine zaw [3,4,5,6,7,8,9,10,11,12,13,14,15,16,17,18,19,20,21] ?_;repeat refine skH (hS:=hHeld) (h:=?_)
        refine zao ?_;refine zaw [22] ?_;repeat refine tkH (hS:=hHeld) (h:=?_)
        refine zao ?_;refine wpAnyH_done (by kernel_rfl) ?_ _;refine NoPanic.normal ?_;go_wp2;go_meet;exact⟨by first | rfl | (simp at aO ⊢;omega) | (simp;omega),zap _ 1⟩
       obtain⟨rfl,f⟩:=hcut;rename World=>wy
       have v:=un (zad f aa.o);have b8:=un (a8.o.below f);have b7:=un (a7.o.below f);have ce:=un (bc.o.below f);have b9:=un (ba.o.below f);have cd:=un (bb.o.below f);have aG:=un (aU.o.below f);have a6:=un (aV.o.below f);have a9:=un (bj.o.below f);have cp:=un (ab.o.trans ((f).mono ab.o.size));obtain⟨cm,ch,cx,cq,cn,ci,cy,cr,cM,cG,b5,b4⟩:=bf3 v.o;have ap:=zab f ai;have bM:=zaa ap;have au:=zab f aj;have bQ:=zaa au;have av:=zab f ak;have bR:=zaa av;have aw:=zab f am
       have bS:=zaa aw;have ax:=zab f an;have bT:=zaa ax;have ay:=zab f aq;have bU:=zaa ay;have aH:=zab f az;have bV:=zaa aH;have af:=zab f aA;have bW:=zaa af;have ag:=zab f aB;have bX:=zaa ag;have ah:=zab f aC;have bY:=zaa ah;have aD:=zab f ao;have bN:=zaa aD;have aE:=zab f ar;have bO:=zaa aE;have aF:=zab f bd;have bP:=zaa aF;have l:=un (ad.o);go_wp2_with fail
       refine zaS (S:=fun w'=>w'.cell? ⟨r,0,none⟩=some (.bool y)∧w'.cell? ⟨r,1,none⟩=some (M,U,R)∧w'.cell? ⟨r,2,none⟩=some (O,V,T)) [3] (h:=fun hHeld=>?_);refine zaw [0,1,2] ?_;repeat refine tkL (hS:=hHeld) (h:=?_)
       refine zao ?_;refine zay 3 (h:=fun K hK=>?_);go_simp;refine hK.o _ _ ?_;clear hK K;try simp only[Act.put,pu1,pu2,pu3,pu4,pu5,pu6]
       refine zaM (h:=?_);go_wp2;go_roundw
       case rel=>exact⟨k+1,y,M,U,R,O,V,T,by go_num,by rw[l.o];rfl,by omega,zar _ (zar _ (zar _ v.o)),fun b h=>by rw[l.o]at h;injection h with h;subst h;exact(a6.o.set3 v.o (by decide) _ _ _).drew,(Bel.set3 aG.o (Nat.le_refl _) _ _ _).drew.b⟩
       case measure=>simp[intOf];omega
      ·have a2:¬zlX (el (za5 A b cols) k/el col k) (el (za5 A b cols) g/el col g)<0:=fun h=>hc (zm9.1 h)
       have a3:=decide_eq_false a2;by_cases he:el (za5 A b cols) k/el col k=el (za5 A b cols) g/el col g
       ·have aP:=(zkD _ _).2 he;rw[aP];by_cases be:cols.getD k 0<cols.getD g 0
        ·have aO:((cols.getD k 0:Nat):Int)<((cols.getD g 0:Nat):Int):=by omega
         have ad:=un (zTc aY.o aK.o (.inr ⟨he,be⟩));clear he hc be a2 a3 aP;go_upto_region 11 with fail
         go_cut[70] (fun c Y=>c=true∧Below W W Y)
         case first =>
          refine wp_region_noPanic ?_;refine wp_region_held_drew (S:=fun w'=>w'.cell? ⟨s,k,none⟩=some (.int .i64 ((cols.getD k 0:Nat):Int))∧w'.cell? ⟨q,6,none⟩=some (s,m,tc)∧w'.cell? ⟨s,g,none⟩=some (.int .i64 ((cols.getD g 0:Nat):Int))) (by kernel_rfl) kp fun hHeld=>?_
          refine zaw [0,1,2,3,4,5,6,7,8,9,10,11,12,13,14,15,16,17,18,19,20,21,22] ?_;repeat refine tkH (hS:=hHeld) (h:=?_)
          refine zao ?_;refine wpAnyH_done (by kernel_rfl) ?_ _;refine NoPanic.normal ?_;go_wp2;go_meet;exact⟨by first | rfl | (simp at aO ⊢;omega) | (simp;omega),zap _ 1⟩
         obtain⟨rfl,f⟩:=hcut;rename World=>wy
         have v:=un (zad f aa.o);have b8:=un (a8.o.below f);have b7:=un (a7.o.below f);have ce:=un (bc.o.below f);have b9:=un (ba.o.below f);have cd:=un (bb.o.below f);have aG:=un (aU.o.below f);have a6:=un (aV.o.below f);have a9:=un (bj.o.below f);have cp:=un (ab.o.trans ((f).mono ab.o.size));obtain⟨cm,ch,cx,cq,cn,ci,cy,cr,cM,cG,b5,b4⟩:=bf3 v.o;have ap:=zab f ai;have bM:=zaa ap;have au:=zab f aj;have bQ:=zaa au;have av:=zab f ak;have bR:=zaa av
         have aw:=zab f am;have bS:=zaa aw;have ax:=zab f an;have bT:=zaa ax;have ay:=zab f aq;have bU:=zaa ay;have aH:=zab f az;have bV:=zaa aH;have af:=zab f aA;have bW:=zaa af;have ag:=zab f aB;have bX:=zaa ag;have ah:=zab f aC;have bY:=zaa ah;have aD:=zab f ao;have bN:=zaa aD;have aE:=zab f ar;have bO:=zaa aE;have aF:=zab f bd;have bP:=zaa aF;have l:=un (ad.o);go_wp2_with fail
         refine zaS (S:=fun w'=>w'.cell? ⟨r,0,none⟩=some (.bool y)∧w'.cell? ⟨r,1,none⟩=some (M,U,R)∧w'.cell? ⟨r,2,none⟩=some (O,V,T)) [3] (h:=fun hHeld=>?_);refine zaw [0,1,2] ?_;repeat refine tkL (hS:=hHeld) (h:=?_)
         refine zao ?_;refine zay 3 (h:=fun K hK=>?_);go_simp;refine hK.o _ _ ?_;clear hK K;try simp only[Act.put,pu1,pu2,pu3,pu4,pu5,pu6]
         refine zaM (h:=?_);go_wp2;go_roundw
         case rel=>exact⟨k+1,y,M,U,R,O,V,T,by go_num,by rw[l.o];rfl,by omega,zar _ (zar _ (zar _ v.o)),fun b h=>by rw[l.o]at h;injection h with h;subst h;exact(a6.o.set3 v.o (by decide) _ _ _).drew,(Bel.set3 aG.o (Nat.le_refl _) _ _ _).drew.b⟩
         case measure=>simp[intOf];omega
        ·have aO:¬((cols.getD k 0:Nat):Int)<((cols.getD g 0:Nat):Int):=by omega
         have ad:=un (zTb aY.o aK.o (fun h=>h.elim hc fun h=>be h.2));clear he hc be a2 a3 aP;go_upto_region 11 with fail
         go_cut[70] (fun c Y=>c=false∧Below W W Y)
         case first =>
          refine wp_region_noPanic ?_;refine wp_region_held_drew (S:=fun w'=>w'.cell? ⟨s,k,none⟩=some (.int .i64 ((cols.getD k 0:Nat):Int))∧w'.cell? ⟨q,6,none⟩=some (s,m,tc)∧w'.cell? ⟨s,g,none⟩=some (.int .i64 ((cols.getD g 0:Nat):Int))) (by kernel_rfl) kp fun hHeld=>?_
          refine zaw [0,1,2,3,4,5,6,7,8,9,10,11,12,13,14,15,16,17,18,19,20,21,22] ?_;repeat refine tkH (hS:=hHeld) (h:=?_)
          refine zao ?_;refine wpAnyH_done (by kernel_rfl) ?_ _;refine NoPanic.normal ?_;go_wp2;go_meet;exact⟨by first | rfl | (simp at aO ⊢;omega) | (simp;omega),zap _ 1⟩
         obtain⟨rfl,f⟩:=hcut;rename World=>wy
         have v:=un (zad f aa.o);have b8:=un (a8.o.below f);have b7:=un (a7.o.below f);have ce:=un (bc.o.below f);have b9:=un (ba.o.below f);have cd:=un (bb.o.below f);have aG:=un (aU.o.below f);have a6:=un (aV.o.below f);have a9:=un (bj.o.below f);have cp:=un (ab.o.trans ((f).mono ab.o.size));obtain⟨cm,ch,cx,cq,cn,ci,cy,cr,cM,cG,b5,b4⟩:=bf3 v.o;have ap:=zab f ai;have bM:=zaa ap;have au:=zab f aj;have bQ:=zaa au;have av:=zab f ak;have bR:=zaa av
         have aw:=zab f am;have bS:=zaa aw;have ax:=zab f an;have bT:=zaa ax;have ay:=zab f aq;have bU:=zaa ay;have aH:=zab f az;have bV:=zaa aH;have af:=zab f aA;have bW:=zaa af;have ag:=zab f aB;have bX:=zaa ag;have ah:=zab f aC;have bY:=zaa ah;have aD:=zab f ao;have bN:=zaa aD;have aE:=zab f ar;have bO:=zaa aE;have aF:=zab f bd;have bP:=zaa aF;have l:=un (ad.o);go_wp2;go_roundw
         case rel=>exact⟨k+1,E,z,J,D,B,I,C,by go_num,by rw[l.o];rfl,by omega,v.o,fun b h=>by rw[l.o]at h;injection h with h;subst h;exact a9.o,aG.o.b⟩
         case measure=>simp[intOf];omega
       ·have aP:¬zlX (el (za5 A b cols) k/el col k) (el (za5 A b cols) g/el col g)=0:=fun h=>he ((zkD _ _).1 h)
        have dE:decide (zlX (el (za5 A b cols) k/el col k) (el (za5 A b cols) g/el col g)=0)=false:=decide_eq_false aP;have dF:(zlX (el (za5 A b cols) k/el col k) (el (za5 A b cols) g/el col g) == 0)=false:=by simpa using aP
        have ad:=un (zTb aY.o aK.o (fun h=>h.elim hc fun h=>he h.1));clear he hc;go_upto_region 11 with fail
        go_cut[70] (fun c Y=>c=false∧Below W W Y)
        case first =>
         refine wp_region_noPanic ?_;refine wp_region_held_drew (S:=fun w'=>w'.cell? ⟨r,0,none⟩=some (.bool y)) (by kernel_rfl) kp fun hHeld=>?_
         refine zaw [0,1,2] ?_;repeat refine tkH (hS:=hHeld) (h:=?_)
         refine zao ?_;try simp only[a3]
         refine zaw [3,4,5] ?_;repeat refine tkH (hS:=hHeld) (h:=?_)
         refine zao ?_;try simp only[dE,dF]
         refine zaw [6,7,8,9,10,11,12,13,14,15,16,17,18,19,20] ?_;repeat refine skH (hS:=hHeld) (h:=?_)
         refine zao ?_;refine zaw [21,22] ?_;repeat refine tkH (hS:=hHeld) (h:=?_)
         refine zao ?_;refine wpAnyH_done (by kernel_rfl) ?_ _;refine NoPanic.normal ?_;go_wp2;go_meet;exact⟨by first | rfl | (simp at aO ⊢;omega) | (simp;omega),zap _ 1⟩
        obtain⟨rfl,f⟩:=hcut;rename World=>wy
        have v:=un (zad f aa.o);have b8:=un (a8.o.below f);have b7:=un (a7.o.below f);have ce:=un (bc.o.below f);have b9:=un (ba.o.below f);have cd:=un (bb.o.below f);have aG:=un (aU.o.below f);have a6:=un (aV.o.below f);have a9:=un (bj.o.below f);have cp:=un (ab.o.trans ((f).mono ab.o.size));obtain⟨cm,ch,cx,cq,cn,ci,cy,cr,cM,cG,b5,b4⟩:=bf3 v.o;have ap:=zab f ai;have bM:=zaa ap;have au:=zab f aj;have bQ:=zaa au;have av:=zab f ak;have bR:=zaa av;have aw:=zab f am
        have bS:=zaa aw;have ax:=zab f an;have bT:=zaa ax;have ay:=zab f aq;have bU:=zaa ay;have aH:=zab f az;have bV:=zaa aH;have af:=zab f aA;have bW:=zaa af;have ag:=zab f aB;have bX:=zaa ag;have ah:=zab f aC;have bY:=zaa ah;have aD:=zab f ao;have bN:=zaa aD;have aE:=zab f ar;have bO:=zaa aE;have aF:=zab f bd;have bP:=zaa aF;have l:=un (ad.o);go_wp2;go_roundw
        case rel=>exact⟨k+1,E,z,J,D,B,I,C,by go_num,by rw[l.o];rfl,by omega,v.o,fun b h=>by rw[l.o]at h;injection h with h;subst h;exact a9.o,aG.o.b⟩
        case measure=>simp[intOf];omega
   ·have de:(el col k).num≤0:=Int.not_lt.1 fun h=>aQ (zYp.1 h)
    have df:(el col k).num.sign≤0:=by rcases Int.lt_trichotomy (el col k).num 0 with h | h | h;rw[Int.sign_eq_neg_one_of_neg h];decide;rw[h];decide;omega
    have l:=un (zTV (cols:=cols) (xs:=za5 A b cols) (col:=col) (k:=k) aQ);go_wp2;go_roundw
    case rel=>exact⟨k+1,E,z,J,D,B,I,C,by go_num,by rw[l.o],by omega,cf.o,fun b h=>by rw[l.o]at h;exact(cT.o b h).below cS.o,dl.o.b⟩
    case measure=>simp[intOf];omega
  ·obtain rfl:m=k:=by omega
   have l:=un (show zDG cols (za5 A b cols) col=znH cols (za5 A b cols) col m by unfold zDG;rw[←bC.o,bB.o,Nat.min_self]);have dt:=un p;clear bG u p;go_wp2;go_ret
   exact⟨by rw[l.o];rfl,dt.o⟩
end Tb
end
