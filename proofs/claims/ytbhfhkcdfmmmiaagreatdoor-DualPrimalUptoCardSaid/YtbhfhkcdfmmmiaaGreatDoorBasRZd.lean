/- Contracts and lemmas: BasR Tb4. Conditions: as each says. -/
import Derived.Test.YtbhfhkcdfmmmiaaGreatDoorLuFacZd
import Derived.Test.YtbhfhkcdfmmmiaaGreatDoorBasTZd
set_option linter.all false
set_option maxHeartbeats 4000000
set_option maxRecDepth 100000
namespace Go.Proofs.YtbhfhkcdfmmmiaaGreatDoor
open Go.RowKit Am
open Lib (hid)
attribute [local go_sem ↓] Go.wp_at_zero Go.wp_at_succ
structure BasH (w wy:World) (H q n:Nat) (cA:OA) (cc:Nat) (C':List (List Rat)) (K ql:Nat) (F:LUv) (eA:OA) (ec:Nat) (le:List (Nat × Value)) (es:List (Nat × List Rat)) (X:OA) (cX:Nat) (x:List Rat):Prop where
  blk:wy.heap[q]? = some (.cells #[(cA,n,cc),.pointer (some ⟨ql,0,none⟩),(eA,es.length,ec)] 175 (0,0))
  cols:∃lc',VecsL wy H (cA,n,cc) lc' C'
  lu:LuS wy K ql n F
  etas:EtasL wy H (eA,es.length,ec) le es
  x:VecS wy H (X,n,cX) x
  bel:Below H w wy
  kept:Kept TB none w wy
  off:∀tb,zey w ql tb→zey wy ql tb
namespace BasH
variable {w wy w':World} {H q n:Nat} {cA:OA} {cc:Nat} {C':List (List Rat)} {K ql:Nat} {F:LUv} {eA:OA} {ec:Nat} {le:List (Nat × Value)} {es:List (Nat × List Rat)} {X:OA} {cX:Nat} {x:List Rat}
theorem below(h:BasH w wy H q n cA cc C' K ql F eA ec le es X cX x)(d:H≤wy.heap.size)(a:Below wy.heap.size wy w'):BasH w w' H q n cA cc C' K ql F eA ec le es X cX x:=by
 obtain⟨lc',hc⟩:=h.cols;exact⟨zad a h.blk,⟨lc',hc.below a⟩,h.lu.below a,h.etas.below a,h.x.below a,h.bel.trans (a.mono d),h.kept.below a,fun tb e=>(h.off tb e).same (a.block ql h.lu.qlt)⟩
end BasH
namespace Bs
theorem replace(H q n S k:Nat)(C:List (List Rat))(A:OA)(T:Nat)(a:List Rat)(Z:Nat)(w:World)(tb:Option Nat)(aE:∀g,tb=some g→g<w.heap.size)(hB:zhf w H q n S C tb)(P:VecS w Z (A,n,T) a)(hn:n≤64)(hk:k<n)(zv:∀x∈a,mw x≤S)(hS:1≤S)(hp:el (zes n C a) k≠0)(aj:zpS n S S≤LIM) :
  Calls Tryz.prog 107 #[.pointer (some ⟨q,0,none⟩),(k:Int),(A,n,T)] w fun e w'=>e=.returned .nilIface∧zhf w' H q n S (C.set k a) tb∧Below H w w'∧Kept TB none w w':=by
 have a4:=hid (solve H q n S S C A T a Z w hB.toS P hn zv hS aj);have ad:=hid hB.toS;have a6:=hid aE;obtain⟨cA,cc,lc,K,ql,F,D,eA,ec,le,es,G,ay⟩:=hB;have aZ:=hid ay;have HN:=hid hn;have R:=hid hk;have ag:=hid hp;have aV:=hid aj;have f:=hid G;have a7:=hid P;have ao:=hid P.len;have bc:=hid (fun i (hi:i<n)=>zrz zv (i:=i) (by rw[←P.len];exact hi));have bK:=G.few;have bN:n≤9223372036854775807:=by omega
 have bL:(0:Int)≤(k:Int):=Int.natCast_nonneg _;have bM:(k:Int)<(n:Int):=by omega
 have h1:decide ((k:Int)<0)=false:=by simp
 have h2:decide ((n:Int)≤(k:Int))=false:=by simp;omega
 obtain⟨bc_,rfl,bh,bG⟩:=G.cols.has (by omega);obtain⟨k0,_,Q,_⟩:=bc3 G.blk;obtain⟨r0,aB⟩:∃r0,C[k]? = some r0:=⟨C[k]'(by rw[G.right.good.1.len];exact hk),List.getElem?_eq_getElem _⟩
 obtain⟨Ao,co,_,y0,_⟩:=G.cols.at_ aB;clear G P hn hk zv hS hp aj aB ay aE;go_enter Tryz.func107,Tryz.ntmps107;go_wp2_with fail
 with_reducible refine(a4.out).mono ?_
 rintro e w1 ⟨B,n1,c1,rfl,hv1,hb⟩;have bB:=hid (f.out.below hb);have bu:=hid (a7.out.below hb);have L:=hid (hv1);have bw:=zab hb k0;clear hv1;have y1:=zab hb y0;have ap:=hid hb;clear hb y0;obtain rfl:n=n1:=by rw[L.out.len,(zci ad.out.good.1 ad.out.good.2.1 a).2]
 have aD:=zaH (xs:=zes n C a) (j:=k) (by rw[←L.out.len];exact R.out);obtain⟨bx,rfl,bH,bI⟩:=L.out.has (by omega);obtain⟨gx,Ax,mx,cx,Dx,bn,bd,x0,x1,x2,az⟩:=L.out.at_ aD;have a2:=hid az;clear aD az;go_wp2_with fail
 with_reducible refine(Rt.zero gx Ax mx cx Dx bn bd (el (zes n C a) k) _ a2.out).mono ?_
 rintro e z ⟨rfl,hb⟩;have bC:=hid (bB.out.below hb);have bv:=hid (bu.out.below hb);have bD:=hid (L.out.below hb);have bz:=zab hb bw;have br:=zaa bz;have y2:=zab hb y1;have aQ:=zaa y2;have aa:=hid (ap.out.trans (hb.mono ap.out.size));clear hb x0 x1 x2 y1;have hz:zr (el (zes n C a) k)=false:=decide_eq_false ag.out;have ae:=hid (f.out.hle);go_upto_region 8 with fail
 go_cut[] (fun wy=>BasH w wy H q n (some ⟨bc_,0,none⟩) cc (C.set k a) K ql F eA ec le es (some ⟨bx,0,none⟩) c1 (zes n C a))
 case first=>as_aux_lemma =>
  refine zaS (S:=fun w'=>w'.cell? ⟨q,0,none⟩=some (bc_,n,cc)) [8] (h:=fun hHeld=>?_);refine zaw [0,1,2,3,4,5] ?_;repeat refine tkL (hS:=hHeld) (h:=?_)
  refine zao ?_;refine zaB 6 (h:=fun K M=>?_);go_simp
  (go_at_call 54;(with_reducible refine(Vc.copy A n T a Z _ (bv.out.drew) (by have:=HN.out;omega)).mono ?_);rintro e u1 ⟨A2,c2,rfl,hv2,hb⟩;have a8:=hid (show VecS u1 z.heap.size (A2,n,c2) a from hv2);have v:=hid (bC.out.below (show Below z.heap.size z u1 from It.bdrew0' hb));have a9:=hid (bD.out.below (show Below z.heap.size z u1 from It.bdrew0' hb));have ab:=hid (aa.out.trans ((show Below z.heap.size z u1 from It.bdrew0' hb).mono aa.out.size));have s0:=zab hb br;have s1:=zab hb aQ;have sf:=v.out.cols.fro k;have bb:=hid (aa.out.size);clear hv2 hb)
  (try go_wp2_with fail)
  refine M.out _ _ kp fun hHeld=>?_
  clear M K;try simp only[Act.put,pu1,pu2,pu3,pu4,pu5,pu6]
  refine zaw [7] ?_;repeat refine tkL (hS:=hHeld) (h:=?_)
  refine zao ?_;refine zay 8 (h:=fun K M=>?_);go_simp;refine M.out _ _ ?_;clear M K;try simp only[Act.put,pu1,pu2,pu3,pu4,pu5,pu6]
  refine zaM (h:=?_);go_wp2;go_meet;have bi:=v.out.cols.blk;obtain⟨cs,ak⟩:=bi;have Q:TKeep 28 u1 (u1.setCell ⟨bc_,k,none⟩ (A2,n,c2)):=TKeep.set ak _
  case rel=>exact⟨Q.blk v.out.blk (by decide),⟨_,v.out.cols.store (by rw[ad.out.good.1.len];exact R.out) (a8.out.base (by have:=ae.out;have:=bb.out;omega))⟩,(Hi.set (v.out.low bc_ rfl) ak (by decide) _).lu v.out.lu,v.out.etas.tk Q (by decide) (by decide) (by decide),(a9.out.base ae.out).tk Q (by decide) (by decide),(ab.out.mono ae.out).setCell (p:=⟨bc_,k,none⟩) bh _,(Kept.of_below ab.out).trans (Kept.set ak (by decide) _),fun tb ho=>(ho.same (ab.out.block ql f.out.lu.qlt)).same (by obtain⟨⟨aG,aH,aI,aM,aN,aO,aJ,aK,y,_⟩,_,_⟩:=v.out.lu;rw[Q.blk y (by decide),y])⟩
 case rest =>
  rename World=>wy
  have HY:=hid hcut;have ah:=hid (Nat.le_trans f.out.own (Nat.le_of_lt (Array.getElem?_eq_some_iff.1 hcut.blk).1));obtain⟨_,_,_,_,_,_,_,_,z2,_⟩:=bf3 hcut.blk;clear hcut y2 aQ;have r:=hid (HY.out.below ah.out (zae wy (.cells #[(k:Int),(bx,n,c1)] 177)));have a5:=hid (f.out.right.good.1.set (k:=k) ao.out.symm);have a0:=hid (zjl f.out.right.good.1 f.out.right.good.2.1 R.out (zci f.out.right.good.1 f.out.right.good.2.1 a).1 ag.out)
  have aw:=hid (EtasZ.snoc f.out.right R.out ao.out.symm bc.out ag.out);obtain⟨lc',aA⟩:=r.out.cols;have aq:=hid aA;clear aA;by_cases bJ:es.length<8
  ·have h8:((es.length:Int))<8:=by omega
   go_wp2_with (at_builtin;refine zd5 rfl _ _ rfl rfl r.out.etas rfl (zal _ _ _) (r.out.x) (n:=es.length) rfl (by omega) (by simp;have:=ah.out;omega) ?_;intro d l l5 t O u I;have au:=hid O;have E:=hid u;have ac:=hid (r.out.bel.trans I);have s:=hid (u.blk r.out.blk (by decide));have v0:=zac s.out 0;have v1:=zac s.out 1;have v2:=zac s.out 2;have bp:=zag s.out 2;simp only[List.getElem?_toArray,List.getElem?_cons_zero,List.getElem?_cons_succ]at v0 v1 v2;have af:=hid (r.out.kept.trans (Kept.tk u I.size (by decide)));clear O u I)
   go_ret
   have J:TKeep 175 t (t.setCell ⟨q,2,none⟩ (d,es.length+1,l)):=TKeep.set s.out _;have Y:(t.setCell ⟨q,2,none⟩ (d,es.length+1,l)).heap[q]? = some (.cells #[(bc_,n,cc),.pointer (some ⟨ql,0,none⟩),(d,es.length+1,l)] 175 (0,0)):=by have:=zar (o:=2) (d,es.length+1,l) s.out;simpa using this
   have V:=(aq.out.tk E.out (by decide) (by decide) (by decide)).tk J (by decide) (by decide) (by decide);have U:Below H w (t.setCell ⟨q,2,none⟩ (d,es.length+1,l)):=ac.out.setCell (p:=⟨q,2,none⟩) f.out.own _;have W:Kept TB none w (t.setCell ⟨q,2,none⟩ (d,es.length+1,l)):=af.out.trans (Kept.set s.out (by decide) _)
   have bl:=((r.out.off tb aZ.out).same (by obtain⟨⟨aG,aH,aI,aM,aN,aO,aJ,aK,y,_⟩,_,_⟩:=r.out.lu;rw[E.out.blk y (by decide),y])).same (by obtain⟨⟨aG,aH,aI,aM,aN,aO,aJ,aK,y,_⟩,_,_⟩:=r.out.lu;rw[J.blk (E.out.blk y (by decide)) (by decide),E.out.blk y (by decide)])
   exact⟨rfl,⟨_,cc,lc',K,ql,F,D,d,l,l5,es++[(k,zes n C a)],⟨by rw[List.length_append];exact Y,V,f.out.low,(r.out.lu.tk E.out (by decide) (by decide) (by decide) (by decide) (by decide)).tk J (by decide) (by decide) (by decide) (by decide) (by decide),f.out.fac,by rw[List.length_append];exact au.out.tk J (by decide) (by decide) (by decide),aw.out,by rw[List.length_append];simp;omega,f.out.own,f.out.ownK⟩,bl⟩,U,W⟩
  ·have h8:8≤(es.length:Int):=by omega
   go_wp2_with (at_builtin;refine zd5 rfl _ _ rfl rfl r.out.etas rfl (zal _ _ _) (r.out.x) (n:=es.length) rfl (by omega) (by simp;have:=ah.out;omega) ?_;intro d l l5 t O u I;have au:=hid O;have E:=hid u;have ac:=hid (r.out.bel.trans I);have s:=hid (u.blk r.out.blk (by decide));have v0:=zac s.out 0;have v1:=zac s.out 1;have v2:=zac s.out 2;have bp:=zag s.out 2;simp only[List.getElem?_toArray,List.getElem?_cons_zero,List.getElem?_cons_succ]at v0 v1 v2;have af:=hid (r.out.kept.trans (Kept.tk u I.size (by decide)));clear O u I)
   have J:TKeep 175 t (t.setCell ⟨q,2,none⟩ (d,es.length+1,l)):=TKeep.set s.out _;have Y:(t.setCell ⟨q,2,none⟩ (d,es.length+1,l)).heap[q]? = some (.cells #[(bc_,n,cc),.pointer (some ⟨ql,0,none⟩),(d,es.length+1,l)] 175 (0,0)):=by have:=zar (o:=2) (d,es.length+1,l) s.out;simpa using this
   have V:=(aq.out.tk E.out (by decide) (by decide) (by decide)).tk J (by decide) (by decide) (by decide);have U:Below H w (t.setCell ⟨q,2,none⟩ (d,es.length+1,l)):=ac.out.setCell (p:=⟨q,2,none⟩) f.out.own _;have W:Kept TB none w (t.setCell ⟨q,2,none⟩ (d,es.length+1,l)):=af.out.trans (Kept.set s.out (by decide) _);have aY:=hid Y;have aW:=hid V;have aU:=hid U
   have ar:=hid W;clear J Y V U W;refine(factor H q n S cc (some ⟨bc_,0,none⟩) lc' (C.set k a) _ _ _ aY.out aW.out f.out.own a5.out HN.out aw.out.good.2.2 (zC3 aV.out)).mono ?_;rintro e w6 (⟨_,rfl,hs,hb6,hk6⟩ | ⟨hr,rfl,_⟩)
   ·have HS:=hid (hs tb (fun g hg=>Nat.lt_of_lt_of_le (a6.out g hg) ar.out.size));have aT:=hid (aU.out.trans hb6);have aX:=hid (ar.out.trans hk6);clear hs hb6 hk6;go_wp2;go_ret
    exact⟨rfl,HS.out,aT.out,aX.out⟩
   ·exact absurd a0.out hr
end Bs
theorem zqq{j:Nat}{cols:List Nat}(h:j ∉ cols):(j:Int) ∉ cols.map fun(x:Nat)=>(x:Int):=fun a=>by
 obtain⟨x,d,e⟩:=List.mem_map.1 a;have f:x=j:=by omega
 exact h (f▸d)
theorem zhf.tkT{w w':World}{H q n S:Nat}{C:List (List Rat)}{tb:Option Nat}(h:zhf w H q n S C tb)(hk:TKeep 138 w w'):zhf w' H q n S C tb:=h.tk hk (by decide) (by decide) (by decide) (by decide) (by decide) (by decide) (by decide)
section
variable {W0 w:World} {H q:Nat} {rA:OA} {rc:Nat} {lA:List Value} {bA:OA} {bc_:Nat} {kA:OA} {kc:Nat} {eA:OA} {ec m N S own:Nat} {A:List (List Rat)} {b c:List Rat} {left:List Int}
  {tA:OA} {tc:Nat} {cols:List Nat}
namespace Tb
theorem swap(h:zhi W0 w H q rA rc lA bA bc_ kA kc eA ec m N S own A b c left tA tc cols)(k j:Nat)(hk:k<m)(hj:j<N)(J:el (zav A cols j) k≠0)(ad:j ∉ cols)(Z:zor m S≤LIM) :
  Calls Tryz.prog 68 #[.pointer (some ⟨q,0,none⟩),(k:Int),(j:Int)] w fun e w'=>e=.returned .nilIface∧zhi W0 w' H q rA rc lA bA bc_ kA kc eA ec m N S own A b c left tA tc (cols.set k j)∧Below H w w'∧Kept TT (Value.slice tA m tc).ownBlock w w':=by
 obtain⟨qb,xA,xc,r⟩:=h;have a:=hid r;have aK:=r.std.hm;have aH:=r.std.hN;have O:=hid (Below.refl w.heap.size w);obtain⟨k0,_,f,_,_,_,_,_,_,_,_,_,k6,aM,k7,_⟩:=bc9 r.blk;clear r;have Q:=hid hj;have HK:=hid hk;have aq:=hid (show el (zes m (bc A cols) (zb4 A j)) k≠0 by have h:=J;unfold zav at h;rw[a.out.basis.len]at h;exact h);have t:=hid (a.out.basis.swap hk hj J);have P:=hid Z;have al:=hid a.out.hle;have hd:decide ((j:Int)∈(cols.map fun(x:Nat)=>(x:Int)))=false:=decide_eq_false (zqq ad)
 have HD:=hid hd;have aI:(0:Int)≤(k:Int):=Int.natCast_nonneg _;have aJ:(k:Int)<(m:Int):=by omega
 have h1:decide ((k:Int)<0)=false:=by simp
 have h2:decide (m≤k)=false:=by simp;omega
 obtain⟨d,au,av,aw⟩:=a.out.colsI.has (by omega);subst au;have E:cols[k]? = some (cols[k]'(by rw[a.out.basis.len];exact hk)):=List.getElem?_eq_getElem _;generalize cols[k]'(by rw[a.out.basis.len];exact hk)=x0 at E;have aj:=hid E;clear hj hk J ad Z hd E;go_enter Tryz.func68,Tryz.ntmps68;go_wp2_with fail
 with_reducible refine(Mt.col N m rc rA lA A 0 j _ a.out.stdN.rows a.out.std.rl Q.out (by omega) (by omega)).mono ?_
 rintro e w1 ⟨B,n1,c1,rfl,hv1,hb⟩;have af:=hid (a.out.below hb);have R:=hid (show VecS w1 w.heap.size (B,n1,c1) (zb4 A j)from hv1);have ae:=hid (O.out.trans ((hb).mono O.out.size));have aV:=zab hb k6;have aF:=zab hb k7;clear hv1 hb;obtain rfl:m=n1:=by rw[R.out.len,zbH,←a.out.std.rows.nlen]
 go_wp2_with fail
 with_reducible refine(Sl.has (some ⟨d,0,none⟩) m tc (cols.map fun(x:Nat)=>(x:Int)) (j:Int) H _ (af.out.colsI.toZ)).mono ?_
 rintro e w2 ⟨rfl,hb⟩;have M:=hid (af.out.below hb);have aD:=hid (R.out.below hb);have aE:=hid (ae.out.trans ((hb).mono ae.out.size));have aW:=zab hb aF;clear hb;rw[HD.out];have y:=hid (show Below w.heap.size w w2 from aE.out);go_wp2_with fail
 refine(Bs.replace H qb m S k (bc A cols) B c1 (zb4 A j) w.heap.size _ (some d) (fun g hg=>by injection hg with hg;subst hg;exact Nat.lt_of_lt_of_le aw y.out.size) M.out.basO aD.out (by omega) HK.out (a.out.std.zcol Q.out) a.out.std.hS aq.out (ziY P.out)).mono ?_;rintro e L ⟨rfl,hs,hb,hkp⟩;have ai:=hid (show zhf L H qb m S (bc A (cols.set k j)) (some d)by rw[zq6];exact hs);have ag:=hid ((y.out.mono al.out).trans hb);have ao:=hid ((Kept.of_below y.out).trans hkp)
 have V:=hid (hkp.blk M.out.blk (by decide) (by decide));have u:=hid (hkp.ints (by decide) M.out.colsI (fun g _=>by simp));have z0:=u.out.at_ aj.out;have zf:=u.out.fro k;obtain⟨_,_,_,_,_,_,_,_,_,_,_,_,q6,_⟩:=bc9 V.out;clear hs hb hkp;go_upto_region 7 with fail
 go_cut[] (fun wy=>wy.heap[q]? = some (.cells #[(rA,m,rc),(N:Int),(bA,m,bc_),(kA,N,kc),(own:Int),(eA,m,ec),(d,m,tc),.pointer (some ⟨qb,0,none⟩),(xA,m,xc)] 138 (0,0))∧IntsS wy H (d,m,tc) (cols.set k j)∧zhf wy H qb m S (bc A (cols.set k j)) (some d)∧Below H w wy∧Kept TT (some d) w wy)
 case first=>as_aux_lemma =>
  go_wp2;go_meet;obtain⟨cs,G⟩:=u.out.blk;have f:TKeep 3 L (L.setCell ⟨d,k,none⟩ (j:Int)):=TKeep.set G _
  case rel=>exact⟨f.blk V.out (by decide),u.out.store k j,ai.out.setI G _,ag.out.setCell (p:=⟨d,k,none⟩) av _,(ao.out.any (by decide)).trans (Kept.setInt G _)⟩
 case rest =>
  rename World=>wy
  obtain⟨I,ab,Y,D,ac⟩:=hcut;have KQ:=hid I;have am:=hid ab;have z:=hid Y;have ah:=hid D;have ap:=hid ac;have C:=hid (a.out.std.below (a.out.bel.trans (D.mono a.out.base)));obtain⟨_,_,_,_,_,_,_,_,p2,az,_,_,_,_,_,_,_,_,_,_,_,_,_,_,_,_,_,_,p7,aA,_,_,_,aB,_⟩:=bf9 I;clear I ab Y D ac;have U:=hid z.out.hle;go_wp2_with fail
  refine zaS (S:=fun w'=>w'.cell? ⟨q,2,none⟩=some (bA,m,bc_)∧w'.cell? ⟨q,7,none⟩=some (.pointer (some ⟨qb,0,none⟩))) [16] (h:=fun hHeld=>?_);refine zaw [0,1,2,3,4,5,6,7,8,9] ?_;repeat refine tkL (hS:=hHeld) (h:=?_)
  refine zao ?_;refine zaB 10 (h:=fun K l=>?_);go_simp
  (go_at_call 62;(with_reducible refine(Bs.solve H qb m S S (bc A (cols.set k j)) bA bc_ b 0 _ (z.out.toS.drew) (C.out.B.drew) (by omega) C.out.zb C.out.hS (ziY P.out)).mono ?_);rintro e s ⟨X6,n6,c6,rfl,hv6,hb⟩;have T:=hid (show VecS s wy.heap.size (X6,n6,c6) (zes m (bc A (cols.set k j)) b)from hv6);have i:=hid (show Below wy.heap.size wy s from It.bdrew0' hb);have v:=hid (zad i.out KQ.out);have r2:=zab hb az;have r7:=zab hb aA;have r8:=zab hb aB;have aS:=zag v.out 8;clear hv6 hb)
  (try go_wp2_with fail)
  refine l.out _ _ kp fun hHeld=>?_
  clear l K;try simp only[Act.put,pu1,pu2,pu3,pu4,pu5,pu6]
  refine zaw [11,12] ?_;repeat refine tkL (hS:=hHeld) (h:=?_)
  refine zao ?_;refine zaw [13,14] ?_;repeat refine tkX (h:=?_)
  refine zao ?_;refine zaw [15] ?_;repeat refine tkL (hS:=hHeld) (h:=?_)
  refine zao ?_;refine zay 16 (h:=fun K l=>?_);go_simp;refine l.out _ _ ?_;clear l K;try simp only[Act.put,pu1,pu2,pu3,pu4,pu5,pu6]
  refine zaM (h:=?_);obtain rfl:m=n6:=by rw[T.out.len,(zci t.out.sq t.out.reg b).2]
  go_wp2;go_ret
  have f:TKeep 138 s (s.setCell ⟨q,8,none⟩ (X6,m,c6)):=TKeep.set v.out _;have W:Below H w (s.setCell ⟨q,8,none⟩ (X6,m,c6)):=(ah.out.trans (i.out.mono U.out)).setCell (p:=⟨q,8,none⟩) a.out.own_ _;refine⟨rfl,⟨qb,X6,c6,?_,a.out.std,a.out.bel.trans (W.mono a.out.base),a.out.base,(am.out.below i.out).tk f (by decide),(z.out.below i.out).tkT f,?_,t.out,a.out.own_⟩,W,(ap.out.below i.out).trans (Kept.set v.out (by decide) _)⟩
  ·have:=zar (o:=8) (X6,m,c6) v.out;simpa using this
  ·unfold za5;rw[t.out.len];exact(T.out.base U.out).tk f (by decide) (by decide)
end Tb
end
