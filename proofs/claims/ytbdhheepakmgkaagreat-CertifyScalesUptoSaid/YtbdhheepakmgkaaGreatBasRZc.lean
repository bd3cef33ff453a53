/- Contracts and lemmas: BasR Tb4 DuR PrR. Conditions: as each says. -/
import Derived.Test.YtbdhheepakmgkaaGreatLuFacZc
import Derived.Test.YtbdhheepakmgkaaGreatDuBZc
import Derived.Test.YtbdhheepakmgkaaGreatTb6Zc
set_option linter.all false
set_option maxHeartbeats 4000000
set_option maxRecDepth 100000
namespace Go.Proofs.YtbdhheepakmgkaaGreat
open Go.RowKit Am
open Lib (hid)
attribute [local go_sem ↓] Go.wp_at_zero Go.wp_at_succ
structure BasH (w wy:World) (H q n:Nat) (cA:OA) (cc:Nat) (C':List (List Rat)) (K ql:Nat) (F:LUv) (eA:OA) (ec:Nat) (le:List (Nat × Value)) (es:List (Nat × List Rat)) (X:OA) (cX:Nat) (x:List Rat):Prop where
  blk:wy.heap[q]? = some (.cells #[.slice cA n cc,.pointer (some ⟨ql,0,none⟩),.slice eA es.length ec] 156 (0,0))
  cols:∃lc',VecsL wy H (.slice cA n cc) lc' C'
  lu:LuS wy K ql n F
  etas:EtasL wy H (.slice eA es.length ec) le es
  x:VecS wy H (.slice X n cX) x
  bel:Below H w wy
  kept:Kept TB none w wy
  off:∀tb,zey w ql tb→zey wy ql tb
namespace BasH
variable {w wy w':World} {H q n:Nat} {cA:OA} {cc:Nat} {C':List (List Rat)} {K ql:Nat} {F:LUv} {eA:OA} {ec:Nat} {le:List (Nat × Value)} {es:List (Nat × List Rat)} {X:OA} {cX:Nat} {x:List Rat}
theorem below(h:BasH w wy H q n cA cc C' K ql F eA ec le es X cX x)(d:H≤wy.heap.size)(a:Below wy.heap.size wy w'):BasH w w' H q n cA cc C' K ql F eA ec le es X cX x:=by
 obtain⟨lc',hc⟩:=h.cols;exact⟨zad a h.blk,⟨lc',hc.below a⟩,h.lu.below a,h.etas.below a,h.x.below a,h.bel.trans (a.mono d),h.kept.below a,fun tb e=>(h.off tb e).same (a.block ql h.lu.qlt)⟩
end BasH
namespace Bs
theorem replace(H q n S k:Nat)(C:List (List Rat))(A:OA)(R:Nat)(a:List Rat)(Y:Nat)(w:World)(tb:Option Nat)(aD:∀g,tb=some g→g<w.heap.size)(hB:zhf w H q n S C tb)(O:VecS w Y (.slice A n R) a)(hn:n≤64)(hk:k<n)(zv:∀x∈a,mw x≤S)(hS:1≤S)(hp:el (zes n C a) k≠0)(ai:zpS n S S≤LIM) :
  Calls Tryz.prog 100 #[.pointer (some ⟨q,0,none⟩),.int .i64 (k:Int),.slice A n R] w fun e w'=>e=.returned .nilIface∧zhf w' H q n S (C.set k a) tb∧Below H w w'∧Kept TB none w w':=by
 have a3:=hid (solve H q n S S C A R a Y w hB.toS O hn zv hS ai);have ac:=hid hB.toS;have a5:=hid aD;obtain⟨cA,cc,lc,K,ql,F,D,eA,ec,le,es,E,ax⟩:=hB;have aY:=hid ax;have HN:=hid hn;have Q:=hid hk;have af:=hid hp;have aU:=hid ai;have f:=hid E;have a6:=hid O;have an:=hid O.len;have bb:=hid (fun i (hi:i<n)=>zrz zv (i:=i) (by rw[←O.len];exact hi));have bK:=E.few;have bN:n≤9223372036854775807:=by omega
 have bL:(0:Int)≤(k:Int):=Int.natCast_nonneg _;have bM:(k:Int)<(n:Int):=by omega
 have h1:decide ((k:Int)<0)=false:=by simp
 have h2:decide ((n:Int)≤(k:Int))=false:=by simp;omega
 obtain⟨bc_,rfl,bg,bG⟩:=E.cols.has (by omega);obtain⟨k0,_,P,_⟩:=bc3 E.blk;obtain⟨r0,aA⟩:∃r0,C[k]? = some r0:=⟨C[k]'(by rw[E.right.good.1.len];exact hk),List.getElem?_eq_getElem _⟩
 obtain⟨Ao,co,_,y0,_⟩:=E.cols.at_ aA;clear E O hn hk zv hS hp ai aA ax aD;go_enter Tryz.func100,Tryz.ntmps100;go_wp2_with fail
 with_reducible refine(a3.out).mono ?_
 rintro e w1 ⟨B,n1,c1,rfl,hv1,hb⟩;have bz:=hid (f.out.below hb);have bt:=hid (a6.out.below hb);have J:=hid (show VecS w1 w.heap.size (.slice B n1 c1) (zes n C a)from hv1);have bv:=zab hb k0;clear hv1;have y1:=zab hb y0;have ao:=hid hb;clear hb y0;obtain rfl:n=n1:=by rw[J.out.len,(zci ac.out.good.1 ac.out.good.2.1 a).2]
 have aC:=zaH (xs:=zes n C a) (j:=k) (by rw[←J.out.len];exact Q.out);obtain⟨bx,rfl,bH,bI⟩:=J.out.has (by omega);obtain⟨gx,Ax,mx,cx,Dx,bm,bc,x0,x1,x2,ay⟩:=J.out.at_ aC;have a0:=hid ay;clear aC ay;go_wp2_with fail
 with_reducible refine(Rt.zero gx Ax mx cx Dx bm bc (el (zes n C a) k) _ a0.out).mono ?_
 rintro e y ⟨rfl,hb⟩;have bB:=hid (bz.out.below hb);have bu:=hid (bt.out.below hb);have bC:=hid (J.out.below hb);have bw:=zab hb bv;have bq:=zaa bw;have y2:=zab hb y1;have aP:=zaa y2;have Z:=hid (ao.out.trans (hb.mono ao.out.size));clear hb x0 x1 x2 y1;have hz:zr (el (zes n C a) k)=false:=decide_eq_false af.out;have ad:=hid (show H≤w.heap.size from f.out.hle);go_upto_region 8 with fail
 go_cut[] (fun wy=>BasH w wy H q n (some ⟨bc_,0,none⟩) cc (C.set k a) K ql F eA ec le es (some ⟨bx,0,none⟩) c1 (zes n C a))
 case first=>as_aux_lemma =>
  refine zaS (S:=fun w'=>w'.cell? ⟨q,0,none⟩=some (.slice (some ⟨bc_,0,none⟩) n cc)) [8] (h:=fun hHeld=>?_);refine zaw [0,1,2,3,4,5] ?_;repeat refine tkL (hS:=hHeld) (h:=?_)
  refine zao ?_;refine zaB 6 (h:=fun K L=>?_);go_simp
  (go_at_call 32;(with_reducible refine(Vc.copy A n R a Y _ (bu.out.drew) (by have:=HN.out;omega)).mono ?_);rintro e u1 ⟨A2,c2,rfl,hv2,hb⟩;have a7:=hid (show VecS u1 y.heap.size (.slice A2 n c2) a from hv2);have v:=hid (bB.out.below (show Below y.heap.size y u1 from It.bdrew0' hb));have a8:=hid (bC.out.below (show Below y.heap.size y u1 from It.bdrew0' hb));have aa:=hid (Z.out.trans ((show Below y.heap.size y u1 from It.bdrew0' hb).mono Z.out.size));have s0:=zab hb bq;have s1:=zab hb aP;have sf:=v.out.cols.fro k;have ba:=hid (show w.heap.size≤y.heap.size from Z.out.size);clear hv2 hb)
  (try go_wp2_with fail)
  refine L.out _ _ kp fun hHeld=>?_
  clear L K;try simp only[Act.put,pu1,pu2,pu3,pu4,pu5,pu6]
  refine zaw [7] ?_;repeat refine tkL (hS:=hHeld) (h:=?_)
  refine zao ?_;refine zay 8 (h:=fun K L=>?_);go_simp;refine L.out _ _ ?_;clear L K;try simp only[Act.put,pu1,pu2,pu3,pu4,pu5,pu6]
  refine zaM (h:=?_);go_wp2;go_meet;have bh:=v.out.cols.blk;obtain⟨cs,aj⟩:=bh;have P:TKeep 28 u1 (u1.setCell ⟨bc_,k,none⟩ (.slice A2 n c2)):=TKeep.set aj _
  case rel=>exact⟨P.blk v.out.blk (by decide),⟨_,v.out.cols.store (by rw[ac.out.good.1.len];exact Q.out) (a7.out.base (by have:=ad.out;have:=ba.out;omega))⟩,(Hi.set (v.out.low bc_ rfl) aj (by decide) _).lu v.out.lu,v.out.etas.tk P (by decide) (by decide) (by decide),(a8.out.base ad.out).tk P (by decide) (by decide),(aa.out.mono ad.out).setCell (p:=⟨bc_,k,none⟩) bg _,(Kept.of_below aa.out).trans (Kept.set aj (by decide) _),fun tb ho=>(ho.same (aa.out.block ql f.out.lu.qlt)).same (by obtain⟨⟨aF,aG,aH,aL,aM,aN,aI,aJ,a1,_⟩,_,_⟩:=v.out.lu;rw[P.blk a1 (by decide),a1])⟩
 case rest =>
  rename World=>wy
  have HY:=hid hcut;have ag:=hid (show H≤wy.heap.size from Nat.le_trans f.out.own (Nat.le_of_lt (Array.getElem?_eq_some_iff.1 hcut.blk).1));obtain⟨_,_,_,_,_,_,_,_,z2,_⟩:=bf3 hcut.blk;clear hcut y2 aP;have r:=hid (HY.out.below ag.out (zae wy (.cells #[.int .i64 (k:Int),.slice (some ⟨bx,0,none⟩) n c1] 158)));have a4:=hid (f.out.right.good.1.set (k:=k) an.out.symm);have aZ:=hid (zjl f.out.right.good.1 f.out.right.good.2.1 Q.out (zci f.out.right.good.1 f.out.right.good.2.1 a).1 af.out)
  have av:=hid (EtasZ.snoc f.out.right Q.out an.out.symm bb.out af.out);obtain⟨lc',az⟩:=r.out.cols;have ap:=hid az;clear az;by_cases bJ:es.length<8
  ·have h8:((es.length:Int))<8:=by omega
   go_wp2_with (at_builtin;refine zd5 rfl _ _ rfl rfl r.out.etas rfl (zal _ _ _) (r.out.x) (n:=es.length) rfl (by omega) (by simp;have:=ag.out;omega) ?_;intro d l l5 t M u G;have ar:=hid M;have z:=hid u;have ab:=hid (r.out.bel.trans G);have s:=hid (u.blk r.out.blk (by decide));have v0:=zac s.out 0;have v1:=zac s.out 1;have v2:=zac s.out 2;have bo:=zag s.out 2;simp only[List.getElem?_toArray,List.getElem?_cons_zero,List.getElem?_cons_succ]at v0 v1 v2;have ae:=hid (r.out.kept.trans (Kept.tk u G.size (by decide)));clear M u G)
   go_ret
   have I:TKeep 156 t (t.setCell ⟨q,2,none⟩ (.slice d (es.length+1) l)):=TKeep.set s.out _;have W:(t.setCell ⟨q,2,none⟩ (.slice d (es.length+1) l)).heap[q]? = some (.cells #[.slice (some ⟨bc_,0,none⟩) n cc,.pointer (some ⟨ql,0,none⟩),.slice d (es.length+1) l] 156 (0,0)):=by have:=zar (o:=2) (.slice d (es.length+1) l) s.out;simpa using this
   have U:VecsL (t.setCell ⟨q,2,none⟩ (.slice d (es.length+1) l)) H (.slice (some ⟨bc_,0,none⟩) n cc) lc' (C.set k a):=(ap.out.tk z.out (by decide) (by decide) (by decide)).tk I (by decide) (by decide) (by decide);have T:Below H w (t.setCell ⟨q,2,none⟩ (.slice d (es.length+1) l)):=ab.out.setCell (p:=⟨q,2,none⟩) f.out.own _;have V:Kept TB none w (t.setCell ⟨q,2,none⟩ (.slice d (es.length+1) l)):=ae.out.trans (Kept.set s.out (by decide) _)
   have bk:zey (t.setCell ⟨q,2,none⟩ (.slice d (es.length+1) l)) ql tb:=((r.out.off tb aY.out).same (by obtain⟨⟨aF,aG,aH,aL,aM,aN,aI,aJ,a1,_⟩,_,_⟩:=r.out.lu;rw[z.out.blk a1 (by decide),a1])).same (by obtain⟨⟨aF,aG,aH,aL,aM,aN,aI,aJ,a1,_⟩,_,_⟩:=r.out.lu;rw[I.blk (z.out.blk a1 (by decide)) (by decide),z.out.blk a1 (by decide)])
   exact⟨rfl,⟨_,cc,lc',K,ql,F,D,d,l,l5,es++[(k,zes n C a)],⟨by rw[List.length_append];exact W,U,f.out.low,(r.out.lu.tk z.out (by decide) (by decide) (by decide) (by decide) (by decide)).tk I (by decide) (by decide) (by decide) (by decide) (by decide),f.out.fac,by rw[List.length_append];exact ar.out.tk I (by decide) (by decide) (by decide),av.out,by rw[List.length_append];simp;omega,f.out.own,f.out.ownK⟩,bk⟩,T,V⟩
  ·have h8:8≤(es.length:Int):=by omega
   go_wp2_with (at_builtin;refine zd5 rfl _ _ rfl rfl r.out.etas rfl (zal _ _ _) (r.out.x) (n:=es.length) rfl (by omega) (by simp;have:=ag.out;omega) ?_;intro d l l5 t M u G;have ar:=hid M;have z:=hid u;have ab:=hid (r.out.bel.trans G);have s:=hid (u.blk r.out.blk (by decide));have v0:=zac s.out 0;have v1:=zac s.out 1;have v2:=zac s.out 2;have bo:=zag s.out 2;simp only[List.getElem?_toArray,List.getElem?_cons_zero,List.getElem?_cons_succ]at v0 v1 v2;have ae:=hid (r.out.kept.trans (Kept.tk u G.size (by decide)));clear M u G)
   have I:TKeep 156 t (t.setCell ⟨q,2,none⟩ (.slice d (es.length+1) l)):=TKeep.set s.out _;have W:(t.setCell ⟨q,2,none⟩ (.slice d (es.length+1) l)).heap[q]? = some (.cells #[.slice (some ⟨bc_,0,none⟩) n cc,.pointer (some ⟨ql,0,none⟩),.slice d (es.length+1) l] 156 (0,0)):=by have:=zar (o:=2) (.slice d (es.length+1) l) s.out;simpa using this
   have U:VecsL (t.setCell ⟨q,2,none⟩ (.slice d (es.length+1) l)) H (.slice (some ⟨bc_,0,none⟩) n cc) lc' (C.set k a):=(ap.out.tk z.out (by decide) (by decide) (by decide)).tk I (by decide) (by decide) (by decide);have T:Below H w (t.setCell ⟨q,2,none⟩ (.slice d (es.length+1) l)):=ab.out.setCell (p:=⟨q,2,none⟩) f.out.own _;have V:Kept TB none w (t.setCell ⟨q,2,none⟩ (.slice d (es.length+1) l)):=ae.out.trans (Kept.set s.out (by decide) _);have aX:=hid W;have aV:=hid U;have aT:=hid T
   have aq:=hid V;clear I W U T V;refine(factor H q n S cc (some ⟨bc_,0,none⟩) lc' (C.set k a) _ _ _ aX.out aV.out f.out.own a4.out HN.out av.out.good.2.2 (zC3 aU.out)).mono ?_;rintro e w6 (⟨_,rfl,hs,hb6,hk6⟩ | ⟨hr,rfl,_⟩)
   ·have HS:=hid (hs tb (fun g hg=>Nat.lt_of_lt_of_le (a5.out g hg) aq.out.size));have aS:=hid (aT.out.trans hb6);have aW:=hid (aq.out.trans hk6);clear hs hb6 hk6;go_wp2;go_ret
    exact⟨rfl,HS.out,aS.out,aW.out⟩
   ·exact absurd aZ.out hr
end Bs
theorem zqq{j:Nat}{cols:List Nat}(h:j ∉ cols):(j:Int) ∉ cols.map fun(x:Nat)=>(x:Int):=fun a=>by
 obtain⟨x,d,e⟩:=List.mem_map.1 a;have f:x=j:=by omega
 exact h (f▸d)
theorem zhf.tkT{w w':World}{H q n S:Nat}{C:List (List Rat)}{tb:Option Nat}(h:zhf w H q n S C tb)(hk:TKeep 128 w w'):zhf w' H q n S C tb:=h.tk hk (by decide) (by decide) (by decide) (by decide) (by decide) (by decide) (by decide)
section
variable {W0 w:World} {H q:Nat} {rA:OA} {rc:Nat} {lA:List Value} {bA:OA} {bc_:Nat} {kA:OA} {kc:Nat} {eA:OA} {ec m N S own:Nat} {A:List (List Rat)} {b c:List Rat} {left:List Int}
  {tA:OA} {tc:Nat} {cols:List Nat}
namespace Tb
theorem swap(h:zhi W0 w H q rA rc lA bA bc_ kA kc eA ec m N S own A b c left tA tc cols)(k j:Nat)(hk:k<m)(hj:j<N)(J:el (zav A cols j) k≠0)(ad:j ∉ cols)(Z:zor m S≤LIM) :
  Calls Tryz.prog 67 #[.pointer (some ⟨q,0,none⟩),.int .i64 (k:Int),.int .i64 (j:Int)] w fun e w'=>e=.returned .nilIface∧zhi W0 w' H q rA rc lA bA bc_ kA kc eA ec m N S own A b c left tA tc (cols.set k j)∧Below H w w'∧Kept TT (Value.slice tA m tc).ownBlock w w':=by
 obtain⟨qb,xA,xc,r⟩:=h;have a:=hid r;have aK:=r.std.hm;have aH:=r.std.hN;have O:=hid (Below.refl w.heap.size w);obtain⟨k0,_,f,_,_,_,_,_,_,_,_,_,k6,aM,k7,_⟩:=bc9 r.blk;clear r;have Q:=hid hj;have HK:=hid hk;have aq:=hid (show el (zes m (bc A cols) (zb4 A j)) k≠0 by have h:=J;unfold zav at h;rw[a.out.basis.len]at h;exact h);have t:=hid (a.out.basis.swap hk hj J);have P:=hid Z;have al:=hid a.out.hle;have hd:decide ((j:Int)∈(cols.map fun(x:Nat)=>(x:Int)))=false:=decide_eq_false (zqq ad)
 have HD:=hid hd;have aI:(0:Int)≤(k:Int):=Int.natCast_nonneg _;have aJ:(k:Int)<(m:Int):=by omega
 have h1:decide ((k:Int)<0)=false:=by simp
 have h2:decide (m≤k)=false:=by simp;omega
 obtain⟨d,au,av,aw⟩:=a.out.colsI.has (by omega);subst au;have E:cols[k]? = some (cols[k]'(by rw[a.out.basis.len];exact hk)):=List.getElem?_eq_getElem _;generalize cols[k]'(by rw[a.out.basis.len];exact hk)=x0 at E;have aj:=hid E;clear hj hk J ad Z hd E;go_enter Tryz.func67,Tryz.ntmps67;go_wp2_with fail
 with_reducible refine(Mt.col N m rc rA lA A 0 j _ a.out.stdN.rows a.out.std.rl Q.out (by omega) (by omega)).mono ?_
 rintro e w1 ⟨B,n1,c1,rfl,hv1,hb⟩;have af:=hid (a.out.below hb);have R:=hid (show VecS w1 w.heap.size (.slice B n1 c1) (zb4 A j)from hv1);have ae:=hid (O.out.trans ((hb).mono O.out.size));have aV:=zab hb k6;have aF:=zab hb k7;clear hv1 hb;obtain rfl:m=n1:=by rw[R.out.len,zbH,←a.out.std.rows.nlen]
 go_wp2_with fail
 with_reducible refine(Sl.has (some ⟨d,0,none⟩) m tc (cols.map fun(x:Nat)=>(x:Int)) (j:Int) H _ (af.out.colsI.toZ)).mono ?_
 rintro e w2 ⟨rfl,hb⟩;have M:=hid (af.out.below hb);have aD:=hid (R.out.below hb);have aE:=hid (ae.out.trans ((hb).mono ae.out.size));have aW:=zab hb aF;clear hb;rw[HD.out];have y:=hid (show Below w.heap.size w w2 from aE.out);go_wp2_with fail
 refine(Bs.replace H qb m S k (bc A cols) B c1 (zb4 A j) w.heap.size _ (some d) (fun g hg=>by injection hg with hg;subst hg;exact Nat.lt_of_lt_of_le aw y.out.size) M.out.basO aD.out (by omega) HK.out (a.out.std.zcol Q.out) a.out.std.hS aq.out (ziY P.out)).mono ?_;rintro e L ⟨rfl,hs,hb,hkp⟩;have ai:=hid (show zhf L H qb m S (bc A (cols.set k j)) (some d)by rw[zq6];exact hs);have ag:=hid ((y.out.mono al.out).trans hb);have ao:=hid ((Kept.of_below y.out).trans hkp)
 have V:=hid (hkp.blk M.out.blk (by decide) (by decide));have u:=hid (hkp.ints (by decide) M.out.colsI (fun g _=>by simp));have z0:=u.out.at_ aj.out;have zf:=u.out.fro k;obtain⟨_,_,_,_,_,_,_,_,_,_,_,_,q6,_⟩:=bc9 V.out;clear hs hb hkp;go_upto_region 7 with fail
 go_cut[] (fun wy=>wy.heap[q]? = some (.cells #[.slice rA m rc,.int .i64 (N:Int),.slice bA m bc_,.slice kA N kc,.int .i64 (own:Int),.slice eA m ec,.slice (some ⟨d,0,none⟩) m tc,.pointer (some ⟨qb,0,none⟩),.slice xA m xc] 128 (0,0))∧IntsS wy H (.slice (some ⟨d,0,none⟩) m tc) (cols.set k j)∧zhf wy H qb m S (bc A (cols.set k j)) (some d)∧Below H w wy∧Kept TT (some d) w wy)
 case first=>as_aux_lemma =>
  go_wp2;go_meet;obtain⟨cs,G⟩:=u.out.blk;have f:TKeep 3 L (L.setCell ⟨d,k,none⟩ (.int .i64 (j:Int))):=TKeep.set G _
  case rel=>exact⟨f.blk V.out (by decide),u.out.store k j,ai.out.setI G _,ag.out.setCell (p:=⟨d,k,none⟩) av _,(ao.out.any (by decide)).trans (Kept.setInt G _)⟩
 case rest =>
  rename World=>wy
  obtain⟨I,ab,Y,D,ac⟩:=hcut;have KQ:=hid I;have am:=hid ab;have z:=hid Y;have ah:=hid D;have ap:=hid ac;have C:=hid (a.out.std.below (a.out.bel.trans (D.mono a.out.base)));obtain⟨_,_,_,_,_,_,_,_,p2,az,_,_,_,_,_,_,_,_,_,_,_,_,_,_,_,_,_,_,p7,aA,_,_,_,aB,_⟩:=bf9 I;clear I ab Y D ac;have U:=hid z.out.hle;go_wp2_with fail
  refine zaS (S:=fun w'=>w'.cell? ⟨q,2,none⟩=some (.slice bA m bc_)∧w'.cell? ⟨q,7,none⟩=some (.pointer (some ⟨qb,0,none⟩))) [16] (h:=fun hHeld=>?_);refine zaw [0,1,2,3,4,5,6,7,8,9] ?_;repeat refine tkL (hS:=hHeld) (h:=?_)
  refine zao ?_;refine zaB 10 (h:=fun K l=>?_);go_simp
  (go_at_call 97;(with_reducible refine(Bs.solve H qb m S S (bc A (cols.set k j)) bA bc_ b 0 _ (z.out.toS.drew) (C.out.B.drew) (by omega) C.out.zb C.out.hS (ziY P.out)).mono ?_);rintro e s ⟨X6,n6,c6,rfl,hv6,hb⟩;have T:=hid (show VecS s wy.heap.size (.slice X6 n6 c6) (zes m (bc A (cols.set k j)) b)from hv6);have i:=hid (show Below wy.heap.size wy s from It.bdrew0' hb);have v:=hid (zad i.out KQ.out);have r2:=zab hb az;have r7:=zab hb aA;have r8:=zab hb aB;have aS:=zag v.out 8;clear hv6 hb)
  (try go_wp2_with fail)
  refine l.out _ _ kp fun hHeld=>?_
  clear l K;try simp only[Act.put,pu1,pu2,pu3,pu4,pu5,pu6]
  refine zaw [11,12] ?_;repeat refine tkL (hS:=hHeld) (h:=?_)
  refine zao ?_;refine zaw [13,14] ?_;repeat refine tkX (h:=?_)
  refine zao ?_;refine zaw [15] ?_;repeat refine tkL (hS:=hHeld) (h:=?_)
  refine zao ?_;refine zay 16 (h:=fun K l=>?_);go_simp;refine l.out _ _ ?_;clear l K;try simp only[Act.put,pu1,pu2,pu3,pu4,pu5,pu6]
  refine zaM (h:=?_);obtain rfl:m=n6:=by rw[T.out.len,(zci t.out.sq t.out.reg b).2]
  go_wp2;go_ret
  have f:TKeep 128 s (s.setCell ⟨q,8,none⟩ (.slice X6 m c6)):=TKeep.set v.out _;have W:Below H w (s.setCell ⟨q,8,none⟩ (.slice X6 m c6)):=(ah.out.trans (i.out.mono U.out)).setCell (p:=⟨q,8,none⟩) a.out.own_ _;refine⟨rfl,⟨qb,X6,c6,?_,a.out.std,a.out.bel.trans (W.mono a.out.base),a.out.base,(am.out.below i.out).tk f (by decide),(z.out.below i.out).tkT f,?_,t.out,a.out.own_⟩,W,(ap.out.below i.out).trans (Kept.set v.out (by decide) _)⟩
  ·have:=zar (o:=8) (.slice X6 m c6) v.out;simpa using this
  ·unfold za5;rw[t.out.len];exact(T.out.base U.out).tk f (by decide) (by decide)
end Tb
end
def upN (i:Nat) (r:RunOut):RunOut:={ r with n:=r.n+i }
theorem zvf{next:List Nat→Am.Next}{f:Nat}{cols:List Nat}(h:next cols=.stop):pivs next f cols=⟨cols,none,0,false⟩:=by cases f<;>simp only[pivs,h]
theorem zxw{next:List Nat→Am.Next}{f k:Nat}{cols:List Nat}(h:next cols=.bad k):pivs next f cols=⟨cols,some k,0,false⟩:=by cases f<;>simp only[pivs,h]
theorem zsr{next:List Nat→Am.Next}{k j:Nat}{cols:List Nat}(h:next cols=.piv k j):pivs next 0 cols=⟨cols,none,0,true⟩:=by simp only[pivs,h]
theorem zxx{next:List Nat→Am.Next}{f k j:Nat}{cols:List Nat}(h:next cols=.piv k j):pivs next (f+1) cols=upN 1 (pivs next f (cols.set k j)):=by simp only[pivs,h];rfl
theorem zDR(i:Nat)(r:RunOut):upN i (upN 1 r)=upN (i+1) r:=by simp only[upN,Nat.add_assoc,Nat.add_comm 1 i]
abbrev zve:ByteArray:={ data:=#[112,105,118,111,116] }
theorem DPiv.out{m N:Nat}{A:List (List Rat)}{b c:List Rat}{cols:List Nat}(a:Basis m N A cols){k j:Nat}(p:DPiv m N A b c cols k j):j ∉ cols:=fun h=>by
 obtain⟨l,e⟩:=List.mem_iff_getElem?.1 h;have f:l<m:=by rw[←a.len];exact(List.getElem?_eq_some_iff.1 e).1
 have u:el (zav A cols (cols.getD l 0)) k=if l=k then 1 else 0:=(a.dic b).uni k l p.hk f
 rw[getD_some (d:=0) e]at u;have t:=p.t;rw[u]at t;split at t<;>grind
section
variable {W0 w:World} {H q:Nat} {rA:OA} {rc:Nat} {lA:List Value} {bA:OA} {bc_:Nat} {kA:OA} {kc:Nat} {eA:OA} {ec m N S own:Nat} {A:List (List Rat)} {b c:List Rat} {left:List Int}
  {tA:OA} {tc:Nat} {cols:List Nat}
namespace Du
def zCr (W0 w:World) (H q:Nat) (rA:OA) (rc:Nat) (lA:List Value) (bA:OA) (bc_:Nat) (kA:OA) (kc:Nat) (eA:OA) (ec m N S own:Nat) (A:List (List Rat)) (b c:List Rat) (left:List Int) (tA:OA) (tc:Nat) (r:RunOut) (e:Ending) (w':World):Prop :=
  ∃ ev,e = .returned (.tuple #[.int .i64 (zbh r.at_), .int .i64 (r.n:Int),ev]) ∧
    ((r.err=false∧ev=.nilIface)∨(r.err=true∧∃fb,ev=.iface 147 (.pointer (some ⟨fb,0,none⟩))∧w'.heap[fb]? = some (.cells #[.string zve,.int .i64 (r.n:Int),.iface 113 (.int .i64 180)] 149 (0,0)))) ∧
    zhi W0 w' H q rA rc lA bA bc_ kA kc eA ec m N S own A b c left tA tc r.cols∧Below H w w'∧Kept TT (Value.slice tA m tc).ownBlock w w'
end Du
end
theorem z0n{m N S:Nat}{A:List (List Rat)}{cols:List Nat}{b:List Rat}(a:Basis m N A cols)(g:zhg mw m S (bc A cols))(d:b.length=m)(zb:∀x∈b,mw x≤S):∀x∈za5 A b cols,mw x≤sB m S S:=by
 have f:=a.len;unfold za5;rw[f];exact zrD (zci a.sq a.reg _).2 (zo0 zo5 a.sq a.reg g fun i e=>zrz zb (by rw[d];exact e))
theorem zVc{m N S:Nat}{A:List (List Rat)}{cols:List Nat}(a:Basis m N A cols)(f:zhg mw m S (bc A cols)){j:Nat}(zc:∀q∈zb4 A j,mw q≤S):∀x∈zav A cols j,mw x≤sB m S S:=by
 have e:=a.len;unfold zav;rw[e];exact zrD (zci a.sq a.reg _).2 (zo0 zo5 a.sq a.reg f fun i d=>zrz zc (by unfold zb4;rw[List.length_map,a.rect.len];exact d))
theorem zVf{p:List Rat}{may:List Bool}{j:Nat}(h:zdi p may=some j):j<p.length:=by
 have s:=zKj p may p.length 0;unfold zdi at h;rw[h]at s;have:=s.2.1;omega
theorem PPiv.out{m N:Nat}{A:List (List Rat)}{b c:List Rat}{may:List Bool}{cols:List Nat}(a:Basis m N A cols)(hc:c.length=N){k j:Nat}(p:PPiv m N A b c may cols k j):j ∉ cols:=fun h=>by
 obtain⟨l,e⟩:=List.mem_iff_getElem?.1 h;have f:l<m:=by rw[←a.len];exact(List.getElem?_eq_some_iff.1 e).1
 have z:=(a.pri hc).zero l f;rw[getD_some (d:=0) e]at z;have d:=p.d;rw[z]at d;exact absurd d (by decide)
section
variable {W0 w:World} {H q:Nat} {rA:OA} {rc:Nat} {lA:List Value} {bA:OA} {bc_:Nat} {kA:OA} {kc:Nat} {eA:OA} {ec m N S own:Nat} {A:List (List Rat)} {b c:List Rat} {left:List Int}
  {tA:OA} {tc:Nat} {cols:List Nat}
namespace Pr
open Du (zCr)
theorem prun(h:zhi W0 w H q rA rc lA bA bc_ kA kc eA ec m N S own A b c left tA tc cols)(C:OA)(Q Hc:Nat)(g:List Rat)(T:VecS w Hc (.slice C N Q) g)(zC:∀x∈g,mw x≤S)(M:OA)(nm R H':Nat)(may:List Bool)(hm:BoolsS w H' (.slice M nm R) may)(Z:zor m S≤LIM)(a:Int)(V:a≤9223372036854775807) :
  Calls Tryz.prog 25 #[.pointer (some ⟨q,0,none⟩),.slice C N Q,.slice M nm R,.int .i64 a] w (zCr W0 w H q rA rc lA bA bc_ kA kc eA ec m N S own A b c left tA tc (pivs (zBX N A b g may) a.toNat cols)):=by
 have HP:=hid h;have HC:=hid T;have aQ:=hid zC;have HM:=hid hm;have G:=hid Z;have I:=hid (show g.length=N from T.len.symm);have aU:=hid h.hle;have ar:=zos Z;have aM:=hid (show 16*sB m S S+8≤LIM by unfold pB at ar;omega);have aw:=hid V;clear h T zC hm Z ar V;obtain⟨l,ac⟩:∃l,l=zBX N A b g may:=⟨_,rfl⟩
 have u:=hid ac;rw[←ac];clear ac;go_enter Tryz.func25,Tryz.ntmps25;go_wp2
 go_loopw [11] (fun nv wr=>∃(i:Nat) (cs:List Nat),nv=.int .i64 i∧i≤a.toNat∧pivs l a.toNat cols=upN i (pivs l (a.toNat-i) cs)∧zhi W0 wr H q rA rc lA bA bc_ kA kc eA ec m N S own A b c left tA tc cs∧Below H w wr∧Kept TT (Value.slice tA m tc).ownBlock w wr)
  (fun nv _=>a.toNat-(intOf nv).toNat)
 case atStart=>exact⟨0,cols,rfl,Nat.zero_le _,rfl,HP.out,Below.refl _ _,Kept.refl _⟩
 case round =>
  obtain⟨i,cs,rfl,hi,o,U,hB,hK⟩:=hrel;have P:=hid U;have aA:=hid hB;have J:=hid hK;have v:=hid o;have HI:=hid hi;have r:=hid U.basis;have aC:=hid (J.out.vec (by decide) (by decide) HC.out);have aJ:=hid (HM.out.kept J.out (by decide));clear U hB hK o hi;go_wp2_with fail
  refine(Tb.prices P.out C Q g Hc aC.out aQ.out G.out).mono ?_;rintro e v1 ⟨A1,n1,c1,rfl,hv,hb⟩;have aO:=hid hv;have am:=hid (P.out.below hb);have ax:=hid (aA.out.trans (hb.mono P.out.hle));have aE:=hid (J.out.below hb);have aI:=hid (aJ.out.below hb);clear hv hb;go_wp2_with fail
  refine(Pr.enter A1 n1 c1 (zaC N A cs g) wr.heap.size M nm R may H' _ aO.out aI.out).mono ?_;rintro e v2 ⟨rfl,hb⟩;have y:=hid (am.out.below hb);have ah:=hid (ax.out.trans (hb.mono am.out.hle));have ak:=hid (aE.out.below hb);clear hb;cases hen:zdi (zaC N A cs g) may with
  | none =>
   have d:=hid (show pivs l a.toNat cols=⟨cs,none,i,false⟩by rw[v.out,zvf (by rw[u.out];unfold zBX;rw[hen])];simp only[upN,Nat.zero_add]);have f:zbh none = -1:=rfl;rw[f];clear hen;go_wp2;go_ret3
   exact⟨_,by rw[d.out];rfl,by rw[d.out];exact .inl ⟨rfl,rfl⟩,by rw[d.out];exact y.out,ah.out,ak.out⟩
  | some j =>
   have f:zbh (some j)=(j:Int):=rfl;rw[f];have aY:(0:Int)≤(j:Int):=Int.natCast_nonneg _;have aR:¬(j:Int)<0:=by omega
   have ai:=hid hen;have aj:=hid (show j<N by have:=zVf hen;rwa [zKp I.out]at this);clear hen;go_upto_region 6 with fail
   go_cut[33] (fun c s=>c=.bool false∧s=v2)
   case first =>
    go_wp2;go_meet;exact⟨by simp,rfl⟩
   obtain⟨rfl,rfl⟩:=hcut;clear f aR;rename World=>v2
   go_wp2_with fail
   refine(Tb.column y.out j aj.out G.out).mono ?_;rintro e v3 ⟨A3,n3,c3,rfl,hv3,hb⟩;obtain rfl:n3=m:=by rw[hv3.len,(r.out.column_ok j).2]
   have aP:=hid hv3;have z:=hid (y.out.below hb);have ay:=hid (ah.out.trans (hb.mono y.out.hle));have aF:=hid (ak.out.below hb);clear hv3 hb;go_wp2_with fail
   have an:=hid (show(∀x∈za5 A b cs,mw x≤sB n3 S S)∧(∀x∈zav A cs j,mw x≤sB n3 S S)by
    obtain⟨_,_,_,D⟩:=z.out;have hz:=D.bas.good.2.2;exact⟨z0n r.out hz D.std.blen D.std.zb,zVc r.out hz (D.std.zcol aj.out)⟩)
   refine(Tb.leave z.out (sB n3 S S) aM.out A3 c3 (zav A cs j) v2.heap.size aP.out an.out.1 an.out.2).mono ?_;rintro e p ⟨rfl,hb⟩;have B:=hid (z.out.below hb);have E:=hid (ay.out.trans (hb.mono z.out.hle));have L:=hid (aF.out.below hb);clear hb;cases hlv:zDG cs (za5 A b cs) (zav A cs j)with
   | none =>
    have d:=hid (show pivs l a.toNat cols=⟨cs,some j,i,false⟩by rw[v.out,zxw (k:=j) (by rw[u.out];unfold zBX;rw[ai.out];simp only[hlv])];simp only[upN,Nat.zero_add]);have f:zbh none = -1:=rfl;rw[f];clear hlv;go_wp2;go_ret3
    exact⟨_,by rw[d.out];rfl,by rw[d.out];exact .inl ⟨rfl,rfl⟩,by rw[d.out];exact B.out,E.out,L.out⟩
   | some k =>
    have f:zbh (some k)=(k:Int):=rfl;rw[f];have aZ:(0:Int)≤(k:Int):=Int.natCast_nonneg _;have aS:¬(k:Int)<0:=by omega
    have ab:l cs=.piv k j:=by rw[u.out];unfold zBX;rw[ai.out];simp only[hlv]
    have o:=zK6 r.out I.out (b:=b) (may:=may) (by rw[←u.out];exact ab);have O:=hid o;have al:=hid ab;have aK:=hid (PPiv.out r.out I.out o);have aW:(0:Int)≤(i:Int):=Int.natCast_nonneg _;clear hlv ab o;go_upto_region 10 with fail
    go_cut[45] (fun c s=>c=.bool false∧s=p)
    case first =>
     go_wp2;go_meet;exact⟨by simp,rfl⟩
    obtain⟨rfl,rfl⟩:=hcut;clear f aS;rename World=>p
    go_upto_region 12 with fail
    go_cut[50] (fun c s=>c=.bool (decide (a≤(i:Int)))∧s=p)
    case first =>
     go_wp2;go_meet;exact⟨by simp,rfl⟩
    obtain⟨rfl,rfl⟩:=hcut;rename World=>p
    have hi:=HI.out;have V:=aw.out;by_cases aV:i<a.toNat
    ·have W:¬a≤(i:Int):=by omega
     have Y:decide (a≤(i:Int))=false:=decide_eq_false W;rw[Y];have aX:(i:Int)<9223372036854775807:=by omega
     go_wp2_with fail
     refine(Tb.swap B.out k j O.out.hk O.out.hj (by have:=O.out.t;grind) aK.out G.out).mono ?_;rintro e v5 ⟨rfl,hT5,hb5,hk5⟩;have aN:=hid hT5;have az:=hid (E.out.trans hb5);have aG:=hid (L.out.trans hk5);clear hT5 hb5 hk5;go_wp2;go_roundw
     case rel=>exact⟨i+1,cs.set k j,by go_num,by omega,by rw[v.out,show a.toNat-i=(a.toNat-(i+1))+1 by omega,zxx al.out,zDR],aN.out,az.out,aG.out⟩
     case measure=>simp[intOf];omega
    ·have W:a≤(i:Int):=by omega
     have Y:decide (a≤(i:Int))=true:=decide_eq_true W;rw[Y];have d:=hid (show pivs l a.toNat cols=⟨cs,none,i,true⟩by rw[v.out,show a.toNat-i=0 by omega,zsr al.out];simp only[upN,Nat.zero_add]);go_wp2_with fail
     refine(Err.wrap 180 zve (i:Int) _).mono ?_;rintro e v5 ⟨rfl,rfl⟩;go_wp2;go_ret3
     exact⟨_,by rw[d.out];rfl,by rw[d.out];exact .inr ⟨rfl,_,rfl,zal _ _ _⟩,by rw[d.out];exact B.out.alloc _,E.out.trans (zae p _ |>.mono B.out.hle),L.out.below (zae p _)⟩
end Pr
end
