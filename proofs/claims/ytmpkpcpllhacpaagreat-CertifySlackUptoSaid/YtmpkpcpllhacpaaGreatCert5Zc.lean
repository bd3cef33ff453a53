/- Contracts and lemmas: Cert5. Conditions: as each says. -/
import Derived.Test.YtmpkpcpllhacpaaGreatCert3Zc
set_option linter.all false
set_option maxHeartbeats 4000000
set_option maxRecDepth 100000
namespace Go.Proofs.YtmpkpcpllhacpaaGreat
open Go.RowKit Am
open Lib (hid)
attribute [local go_sem ↓] Go.wp_at_zero Go.wp_at_succ
theorem Rt.zero_is(g:Bool)(A:OA)(m c:Nat)(D:OA)(d a:Nat)(q:Rat)(w:World)(h:RatS w g (.slice A m c) (.slice D d a) q)(b:Bool)(f:zr q=b) :
  Calls Tryz.prog 45 #[.agg #[.bool g,.slice A m c,.slice D d a]] w fun e w'=>e=.returned (.bool b)∧Below w.heap.size w w':=by
 rw[←f];exact Rt.zero g A m c D d a q w h
theorem ygb{q:Rat}(h:q=0):zr q=true:=decide_eq_true h
theorem yfz{q:Rat}(h:q≠0):zr q=false:=decide_eq_false h
theorem yfy(g:Bool)(A:OA)(m c:Nat)(D:OA)(k i:Nat)(a:Rat)(g':Bool)(d:OA)(m' c':Nat)(f:OA)(l j:Nat)(b:Rat)(w:World)(h:RatS w g (.slice A m c) (.slice D k i) a)(n:RatS w g' (.slice d m' c') (.slice f l j) b)(o:4*(mw a+mw b)+8≤LIM)(r:Bool)(hr:zA9 a b=r) :
  Calls Tryz.prog 19 #[.agg #[.bool g,.slice A m c,.slice D k i],.agg #[.bool g',.slice d m' c',.slice f l j]] w fun e w'=>e=.returned (.bool r)∧Below w.heap.size w w':=by
 rw[←hr];exact Rt.same g A m c D k i a g' d m' c' f l j b w h n o
namespace Ct
open Pb (zPu)
theorem yfm(C:OA)(nc cc:Nat)(R:OA)(nr a:Nat)(cost:List Rat)(rows:List PRow)(X:OA)(j g:Nat)(x:List Rat)(Y:OA)(f d:Nat)(y:List Rat)(w:World)(hc:VecS w 0 (.slice C nc cc) cost)(hr:RowsS w 0 (.slice R nr a) rows)(p:VecS w 0 (.slice X j g) x)(i:VecS w 0 (.slice Y f d) y)(hg:Good nc nr cost rows)(zy:Sm y)(zx:Sm x)(o:y.length≠rows.length) :
  Calls Tryz.prog 14 #[.agg #[.slice C nc cc,.slice R nr a],.slice X j g,.slice Y f d] w fun e w'=>e=.returned (.bool false)∧Below w.heap.size w w':=by
 clear hg zy zx;obtain⟨W,b⟩:∃W,(w.alloc (.cells #[.slice C nc cc,.slice R nr a] 31))=W:=⟨_,rfl⟩
 have n:=hid (show W.heap[w.heap.size]? = some (.cells #[.slice C nc cc,.slice R nr a] 31 (0,0))by rw[←b];exact zam (by simp));have c:=hid (show Below w.heap.size w W by rw[←b];exact zae w _);have k:=hid (show VecS W 0 (.slice C nc cc) cost by rw[←b];exact(hc).alloc _);have l:=hid (show RowsS W 0 (.slice R nr a) rows by rw[←b];exact(hr).alloc _);have m:=hid (show VecS W 0 (.slice Y f d) y by rw[←b];exact(i).alloc _);obtain⟨r,_,s,_⟩:=bc2 n.out;clear hc hr p i;go_enter Tryz.func14,Tryz.ntmps14
 go_wp2_with fail
 clear b;with_reducible refine(yeM C nc cc R nr a cost rows Y f d y _ k.out l.out m.out o).mono ?_
 rintro e w1 ⟨S2,ns2,cs2,g2,A2,m2,c2,D2,md2,cd2,rfl,hv,hn,hb⟩;have q:=hid (show Below w.heap.size w (w1.alloc (.cells #[.bool g2,.slice A2 m2 c2,.slice D2 md2 cd2] 47))from((c.out.trans ((hb).mono c.out.size))).alloc ((c.out.trans ((hb).mono c.out.size))).size _);clear hv hn hb;go_wp2;go_ret
 exact⟨by rfl,q.out⟩
theorem yfn(C:OA)(nc cc:Nat)(R:OA)(nr a:Nat)(cost:List Rat)(rows:List PRow)(X:OA)(f l:Nat)(x:List Rat)(Y:OA)(g d:Nat)(y:List Rat)(w:World)(hc:VecS w 0 (.slice C nc cc) cost)(hr:RowsS w 0 (.slice R nr a) rows)(j:VecS w 0 (.slice X f l) x)(n:VecS w 0 (.slice Y g d) y)(hg:Good nc nr cost rows)(zy:Sm y)(zx:Sm x)(m:y.length=rows.length)(t:x.length≠cost.length) :
  Calls Tryz.prog 14 #[.agg #[.slice C nc cc,.slice R nr a],.slice X f l,.slice Y g d] w fun e w'=>e=.returned (.bool false)∧Below w.heap.size w w':=by
 have h1:¬((f:Int)=(nc:Int)):=by rw[j.len,hc.len];omega
 have z:¬(f=nc):=by rw[j.len,hc.len];omega
 have p:=hid m;have i:=hid hg;have s:=hid zy;clear hg zy zx m t;obtain⟨W,b⟩:∃W,(w.alloc (.cells #[.slice C nc cc,.slice R nr a] 31))=W:=⟨_,rfl⟩
 have k:=hid (show W.heap[w.heap.size]? = some (.cells #[.slice C nc cc,.slice R nr a] 31 (0,0))by rw[←b];exact zam (by simp));have c:=hid (show Below w.heap.size w W by rw[←b];exact zae w _);have o:=hid (show VecS W 0 (.slice C nc cc) cost by rw[←b];exact(hc).alloc _);have q:=hid (show RowsS W 0 (.slice R nr a) rows by rw[←b];exact(hr).alloc _);have r:=hid (show VecS W 0 (.slice Y g d) y by rw[←b];exact(n).alloc _);obtain⟨B,_,D,_⟩:=bc2 k.out;clear hc hr j n;go_enter Tryz.func14,Tryz.ntmps14
 go_wp2_with fail
 clear b;with_reducible refine(yeN C nc cc R nr a cost rows Y g d y _ o.out q.out r.out p.out i.out.hr (Nat.le_trans i.out.hc (by decide)) i.out.rw_ s.out).mono ?_
 rintro e w1 ⟨S2,ns2,cs2,g2,A2,m2,c2,D2,md2,cd2,rfl,hv,hn,hb⟩;have v:=hid (show(w1.alloc (.cells #[.bool g2,.slice A2 m2 c2,.slice D2 md2 cd2] 47)).heap[w.heap.size]? = some (.cells #[.slice C nc cc,.slice R nr a] 31 (0,0))from zak (zad hb k.out));have u:=hid (show Below w.heap.size w (w1.alloc (.cells #[.bool g2,.slice A2 m2 c2,.slice D2 md2 cd2] 47))from((c.out.trans ((hb).mono c.out.size))).alloc ((c.out.trans ((hb).mono c.out.size))).size _);obtain⟨A,_⟩:=bc2 v.out;clear hv hn hb;go_wp2
 go_ret
 exact⟨by rfl,u.out⟩
theorem yfi(C:OA)(nc cc:Nat)(R:OA)(nr o:Nat)(cost:List Rat)(rows:List PRow)(X:OA)(nx cx:Nat)(x:List Rat)(Y:OA)(ny cy:Nat)(y:List Rat)(w:World)(hc:VecS w 0 (.slice C nc cc) cost)(hr:RowsS w 0 (.slice R nr o) rows)(hx:VecS w 0 (.slice X nx cx) x)(hy:VecS w 0 (.slice Y ny cy) y)(hg:Good nc nr cost rows)(zy:Sm y)(zx:Sm x)(hl:y.length=rows.length)(cZ:x.length=cost.length) :
  Calls Tryz.prog 14 #[.agg #[.slice C nc cc,.slice R nr o],.slice X nx cx,.slice Y ny cy] w fun e w'=>e=.returned (.bool (ydZ nc cost rows x y))∧Below w.heap.size w w':=by
 have co:=hx.len;have cp:=hc.len;have en:nc=nx:=by omega
 subst en;have bo:=hr.len;have c1:=hy.len;have en:nr=ny:=by omega
 subst en;have HL:=hid hl;have HG:=hid hg;have ZY:=hid zy;have ZX:=hid zx;generalize hob:ydZ nc cost rows x y=ob;have ba:=hid hob;have b6:=hid co;have cN:=hid cp;have aO:=hid bo;have b5:=hid (show(sv nc y rows).length=nc from yee hg.rw_);have cT:=hid (show ∀q∈sv nc y rows,mw q≤100000000 from yeT hg.rw_ zy (by rw[←bo];exact hg.hr));have dG:nc≤9223372036854775807:=Nat.le_trans hg.hc (by decide);have dH:nr≤9223372036854775807:=Nat.le_trans hg.hr (by decide);clear hl hg zy zx cZ hob co cp bo c1
 obtain⟨W,hW⟩:∃W,(w.alloc (.cells #[.slice C nc cc,.slice R nr o] 31))=W:=⟨_,rfl⟩
 have ce:=hid (show W.heap[w.heap.size]? = some (.cells #[.slice C nc cc,.slice R nr o] 31 (0,0))by rw[←hW];exact zam (by simp));have BB:=hid (show Below w.heap.size w W by rw[←hW];exact zae w _);have HC:=hid (show VecS W 0 (.slice C nc cc) cost by rw[←hW];exact(hc).alloc _);have HR:=hid (show RowsS W 0 (.slice R nr o) rows by rw[←hW];exact(hr).alloc _);have HX:=hid (show VecS W 0 (.slice X nc cx) x by rw[←hW];exact(hx).alloc _)
 have HY:=hid (show VecS W 0 (.slice Y nr cy) y by rw[←hW];exact(hy).alloc _);obtain⟨dP,dT,dQ,dM⟩:=bc2 ce.out;clear hc hr hx hy;go_enter Tryz.func14,Tryz.ntmps14;go_wp2_with fail
 clear hW;with_reducible refine(yeN C nc cc R nr o cost rows Y nr cy y _ HC.out HR.out HY.out HL.out HG.out.hr (Nat.le_trans HG.out.hc (by decide)) HG.out.rw_ ZY.out).mono ?_
 rintro e w1 ⟨S2,ns2,cs2,g2,A2,m2,c2,D2,md2,cd2,rfl,hv,hn,hb⟩;have bQ:=hid (show(w1.alloc (.cells #[.bool g2,.slice A2 m2 c2,.slice D2 md2 cd2] 47)).heap[w.heap.size]? = some (.cells #[.slice C nc cc,.slice R nr o] 31 (0,0))from zak (zad hb ce.out));have cK:=hid (show VecS (w1.alloc (.cells #[.bool g2,.slice A2 m2 c2,.slice D2 md2 cd2] 47)) 0 (.slice C nc cc) cost from(HC.out.below hb).alloc _)
 have cH:=hid (show RowsS (w1.alloc (.cells #[.bool g2,.slice A2 m2 c2,.slice D2 md2 cd2] 47)) 0 (.slice R nr o) rows from(HR.out.below hb).alloc _);have a4:=hid (show VecS (w1.alloc (.cells #[.bool g2,.slice A2 m2 c2,.slice D2 md2 cd2] 47)) 0 (.slice X nc cx) x from(HX.out.below hb).alloc _);have cI:=hid (show VecS (w1.alloc (.cells #[.bool g2,.slice A2 m2 c2,.slice D2 md2 cd2] 47)) 0 (.slice Y nr cy) y from(HY.out.below hb).alloc _)
 have HV:=hid (show VecS (w1.alloc (.cells #[.bool g2,.slice A2 m2 c2,.slice D2 md2 cd2] 47)) 0 (.slice S2 ns2 cs2) (sv nc y rows)from((hv.base (Nat.zero_le _))).alloc _);have aY:=hid (show Below w.heap.size w (w1.alloc (.cells #[.bool g2,.slice A2 m2 c2,.slice D2 md2 cd2] 47))from((BB.out.trans ((hb).mono BB.out.size))).alloc ((BB.out.trans ((hb).mono BB.out.size))).size _);obtain⟨dN,dR,dO,dS⟩:=bc2 bQ.out;clear hv hn hb;obtain rfl:nc=ns2:=by rw[HV.out.len,b5.out]
 go_wp2
 go_loopw [34] (fun i wr=>∃k:Nat,i=.int .i64 k∧k≤nc∧Below (w1.alloc (.cells #[.bool g2,.slice A2 m2 c2,.slice D2 md2 cd2] 47)).heap.size (w1.alloc (.cells #[.bool g2,.slice A2 m2 c2,.slice D2 md2 cd2] 47)) wr∧(∀j,j<k→el x j=0∨el (sv nc y rows) j=el cost j))
  (fun i _=>nc-(intOf i).toNat)
 case atStart=>exact⟨0,rfl,Nat.zero_le _,Below.refl _ _,fun j hj=>by omega⟩
 case round =>
  obtain⟨k,rfl,hk,d,hT⟩:=hrel;have HT:=hid hT;clear hT;by_cases L:k<nc
  ·obtain⟨a,ha⟩:∃a,x[k]? = some a:=⟨x[k]'(by rw[←b6.out];exact L),List.getElem?_eq_getElem _⟩
   obtain⟨s,hs⟩:∃s,(sv nc y rows)[k]? = some s:=⟨(sv nc y rows)[k]'(by rw[b5.out];exact L),List.getElem?_eq_getElem _⟩
   obtain⟨u,aR⟩:∃u,cost[k]? = some u:=⟨cost[k]'(by rw[←cN.out];exact L),List.getElem?_eq_getElem _⟩
   obtain⟨l,rfl,dC,dD⟩:=(a4.out).has (by omega);obtain⟨f,rfl,dA,dB⟩:=(HV.out).has (by omega);obtain⟨bc,rfl,dy,dz⟩:=(cK.out).has (by omega);obtain⟨J,F,M,H,G,N,I,k0,k1,k2,ch⟩:=(a4.out.below d).at_ ha;obtain⟨gs,T,ms,ad,V,al,ac,l0,l1,l2,ck⟩:=(HV.out.below d).at_ hs;obtain⟨gc,P,mc,aa,U,ak,ab,o0,o1,o2,cj⟩:=(cK.out.below d).at_ aR;have O:=hid (zad d bQ.out);have bW:=hid (cH.out.below d);have aE:=hid (a4.out.below d);have bO:=hid (cI.out.below d)
   have bb:=hid (show RatS wr J (.slice F M H) (.slice G N I) a from ch);have be:=hid (show RatS wr gs (.slice T ms ad) (.slice V al ac) s from ck);have bd:=hid (show RatS wr gc (.slice P mc aa) (.slice U ak ab) u from cj);have HW:=hid (show Bel (w1.alloc (.cells #[.bool g2,.slice A2 m2 c2,.slice D2 md2 cd2] 47)) wr from Bel.mk d);have r:=hid (aY.out.trans ((d).mono aY.out.size));obtain⟨dd,_,de,dc⟩:=bc2 O.out;have df:wr.cell? ⟨l,k*3,none⟩=some (.bool J):=k0;have bB:=zaa df
   have dg:wr.cell? ⟨l,k*3+1,none⟩=some (.slice F M H):=k1;have bD:=zaa dg;have dh:wr.cell? ⟨l,k*3+2,none⟩=some (.slice G N I):=k2;have bF:=zaa dh;have di:wr.cell? ⟨f,k*3,none⟩=some (.bool gs):=l0;have bH:=zaa di;have dk:wr.cell? ⟨f,k*3+1,none⟩=some (.slice T ms ad):=l1;have bI:=zaa dk;have dn:wr.cell? ⟨f,k*3+2,none⟩=some (.slice V al ac):=l2;have bJ:=zaa dn;have dq:wr.cell? ⟨bc,k*3,none⟩=some (.bool gc):=o0;have bK:=zaa dq;have du:wr.cell? ⟨bc,k*3+1,none⟩=some (.slice P mc aa):=o1
   have bL:=zaa du;have dv:wr.cell? ⟨bc,k*3+2,none⟩=some (.slice U ak ab):=o2;have bM:=zaa dv;have EA:=hid (znd ha);have ES:=hid (znd hs);have EC:=hid (znd aR);have L1:=hid (show 4*(mw s+mw u)+8≤LIM by have:=cT.out s (List.mem_of_getElem? hs);have:=HG.out.sc u (List.mem_of_getElem? aR);have:=zaP;omega);clear d ha hs aR k0 k1 k2 l0 l1 l2 o0 o1 o2 ch ck cj;have cW:(0:Int)≤(k:Int):=Int.natCast_nonneg _;have cX:(k:Int)<(nc:Int):=by omega
   by_cases ah:a=0
   ·have aQ:=hid (ygb ah);have Z:=hid (show ∀j,j<k+1→el x j=0∨el (sv nc y rows) j=el cost j from fun j hj=>by by_cases e:j=k;(subst e;exact .inl (EA.out.trans ah));exact HT.out j (by omega));clear ah;go_wp2_with fail
    refine wp_region_noPanic ?_
    refine wp_region_held_drew (S:=fun w'=>w'.cell? ⟨w.heap.size,0,none⟩=some (.slice (some ⟨bc,0,none⟩) nc cc)∧w'.cell? ⟨w.heap.size,1,none⟩=some (.slice R nr o)∧w'.cell? ⟨l,k*3,none⟩=some (.bool J)∧w'.cell? ⟨l,k*3+1,none⟩=some (.slice F M H)∧w'.cell? ⟨l,k*3+2,none⟩=some (.slice G N I)∧w'.cell? ⟨f,k*3,none⟩=some (.bool gs)∧w'.cell? ⟨f,k*3+1,none⟩=some (.slice T ms ad)∧w'.cell? ⟨f,k*3+2,none⟩=some (.slice V al ac)∧w'.cell? ⟨bc,k*3,none⟩=some (.bool gc)∧w'.cell? ⟨bc,k*3+1,none⟩=some (.slice P mc aa)∧w'.cell? ⟨bc,k*3+2,none⟩=some (.slice U ak ab)) (by kernel_rfl) kp fun hHeld=>?_
    refine zaw [0,1,2,3] ?_;repeat refine tkH (hS:=hHeld) (h:=?_)
    refine zao ?_;refine wpAnyH_ready (rs:=[4]) (by kernel_rfl) (by simp) ?_;refine AllReadyH.cons rfl (fun K hK=>?_) AllReadyH.nil;go_simp
    (go_at_call 45;(with_reducible refine(Rt.zero_is J F M H G N I a _ bb.out.drew true aQ.out).mono ?_);rintro e v1 ⟨rfl,hb⟩;have n:=hid (zad hb O.out);have an:=hid (aE.out.drew.below hb);have aX:=hid (be.out.drew.below hb);have aW:=hid (bd.out.drew.below hb);have aM:=hid (HW.out.drew.below hb);have t:=hid (r.out.trans ((It.bdrew0' hb).mono r.out.size));obtain⟨aZ,_,a0,_⟩:=bc2 n.out;have z:=zab hb bB;have bC:=zaa z;have B:=zab hb bD;have bE:=zaa B;have E:=zab hb bF;have bG:=zaa E;have a2:=zab hb bH;have a3:=zab hb bI;have a5:=zab hb bJ;have a6:=zab hb bK;have a7:=zab hb bL;have a8:=zab hb bM;clear hb)
    (try go_wp2_with fail)
    refine hK.out _ _ kp fun hHeld=>?_
    clear hK K;try simp only[Act.put,pu1,pu2,pu3,pu4,pu5,pu6]
    refine zaw [5,6] ?_;repeat refine tkH (hS:=hHeld) (h:=?_)
    refine zao ?_;refine zaw [7,8,9,10,11,12,13,14,15,16,17] ?_;repeat refine skH (hS:=hHeld) (h:=?_)
    refine zao ?_;refine zaw [18] ?_;repeat refine tkH (hS:=hHeld) (h:=?_)
    refine zao ?_;refine wpAnyH_done (by kernel_rfl) ?_ _;refine NoPanic.normal ?_
    all_goals
     go_wp2;go_roundw
     case rel=>exact⟨k+1,by go_num,by omega,aM.out.b,Z.out⟩
     case measure=>simp[intOf];omega
   ·have aQ:=hid (yfz ah);by_cases ax:s=u
    ·have a9:=hid (show zA9 s u=true from decide_eq_true ax);have Z:=hid (show ∀j,j<k+1→el x j=0∨el (sv nc y rows) j=el cost j from fun j hj=>by by_cases e:j=k;(subst e;exact .inr (by rw[ES.out,EC.out];exact ax));exact HT.out j (by omega));clear ah ax;go_wp2_with fail
     go_region_held3 (fun w'=>w'.cell? ⟨w.heap.size,0,none⟩=some (.slice (some ⟨bc,0,none⟩) nc cc)∧w'.cell? ⟨w.heap.size,1,none⟩=some (.slice R nr o)∧w'.cell? ⟨l,k*3,none⟩=some (.bool J)∧w'.cell? ⟨l,k*3+1,none⟩=some (.slice F M H)∧w'.cell? ⟨l,k*3+2,none⟩=some (.slice G N I)∧w'.cell? ⟨f,k*3,none⟩=some (.bool gs)∧w'.cell? ⟨f,k*3+1,none⟩=some (.slice T ms ad)∧w'.cell? ⟨f,k*3+2,none⟩=some (.slice V al ac)∧w'.cell? ⟨bc,k*3,none⟩=some (.bool gc)∧w'.cell? ⟨bc,k*3+1,none⟩=some (.slice P mc aa)∧w'.cell? ⟨bc,k*3+2,none⟩=some (.slice U ak ab))
      (((try go_split_ands);(try simp only[World.cell?_drew]);(repeat' apply And.intro)<;>(repeat(first | with_reducible assumption | with_reducible refine cell_set (by omega) ?_ | with_reducible refine cell_al ?_))))
      (first
       | (go_at_call 45;(with_reducible refine(Rt.zero_is J F M H G N I a _ bb.out.drew false aQ.out).mono ?_);rintro e v1 ⟨rfl,hb⟩;have n:=hid (zad hb O.out);have an:=hid (aE.out.drew.below hb);have aX:=hid (be.out.drew.below hb);have aW:=hid (bd.out.drew.below hb);have aM:=hid (HW.out.drew.below hb);have t:=hid (r.out.trans ((It.bdrew0' hb).mono r.out.size));obtain⟨aZ,_,a0,_⟩:=bc2 n.out;have z:=zab hb bB;have bC:=zaa z;have B:=zab hb bD;have bE:=zaa B;have E:=zab hb bF;have bG:=zaa E;have a2:=zab hb bH;have a3:=zab hb bI;have a5:=zab hb bJ;have a6:=zab hb bK;have a7:=zab hb bL;have a8:=zab hb bM;clear hb)
       | (go_at_call 19;(with_reducible refine(yfy gs T ms ad V al ac s gc P mc aa U ak ab u _ aX.out aW.out L1.out true a9.out).mono ?_);rintro e v2 ⟨rfl,hb⟩;have aK:=hid (zad hb n.out);have bN:=hid (an.out.below hb);have cG:=hid (aM.out.below hb);have ao:=hid (t.out.trans ((hb).mono t.out.size));obtain⟨cE,_,cF,_⟩:=bc2 aK.out;have aB:=zab hb z;have cw:=zaa aB;have aC:=zab hb B;have cz:=zaa aC;have aD:=zab hb E;have cA:=zaa aD;have dl:=zab hb a2;have dm:=zab hb a3;have dp:=zab hb a5;have dr:=zab hb a6;have ds:=zab hb a7;have dt:=zab hb a8;clear hb)
       | fail)
     all_goals
      go_wp2;go_roundw
      case rel=>exact⟨k+1,by go_num,by omega,cG.out.b,Z.out⟩
      case measure=>simp[intOf];omega
    ·have a9:=hid (show zA9 s u=false from decide_eq_false ax);have aF:=hid (show ob=false by rw[←ba.out];exact yeI L (by rw[EA.out];exact ah) (by rw[ES.out,EC.out];exact ax));clear ah ax;go_wp2_with fail
     go_region_held3 (fun w'=>w'.cell? ⟨w.heap.size,0,none⟩=some (.slice (some ⟨bc,0,none⟩) nc cc)∧w'.cell? ⟨w.heap.size,1,none⟩=some (.slice R nr o)∧w'.cell? ⟨l,k*3,none⟩=some (.bool J)∧w'.cell? ⟨l,k*3+1,none⟩=some (.slice F M H)∧w'.cell? ⟨l,k*3+2,none⟩=some (.slice G N I)∧w'.cell? ⟨f,k*3,none⟩=some (.bool gs)∧w'.cell? ⟨f,k*3+1,none⟩=some (.slice T ms ad)∧w'.cell? ⟨f,k*3+2,none⟩=some (.slice V al ac)∧w'.cell? ⟨bc,k*3,none⟩=some (.bool gc)∧w'.cell? ⟨bc,k*3+1,none⟩=some (.slice P mc aa)∧w'.cell? ⟨bc,k*3+2,none⟩=some (.slice U ak ab))
      (((try go_split_ands);(try simp only[World.cell?_drew]);(repeat' apply And.intro)<;>(repeat(first | with_reducible assumption | with_reducible refine cell_set (by omega) ?_ | with_reducible refine cell_al ?_))))
      (first
       | (go_at_call 45;(with_reducible refine(Rt.zero_is J F M H G N I a _ bb.out.drew false aQ.out).mono ?_);rintro e v1 ⟨rfl,hb⟩;have n:=hid (zad hb O.out);have an:=hid (aE.out.drew.below hb);have aX:=hid (be.out.drew.below hb);have aW:=hid (bd.out.drew.below hb);have aM:=hid (HW.out.drew.below hb);have t:=hid (r.out.trans ((It.bdrew0' hb).mono r.out.size));obtain⟨aZ,_,a0,_⟩:=bc2 n.out;have z:=zab hb bB;have bC:=zaa z;have B:=zab hb bD;have bE:=zaa B;have E:=zab hb bF;have bG:=zaa E;have a2:=zab hb bH;have a3:=zab hb bI;have a5:=zab hb bJ;have a6:=zab hb bK;have a7:=zab hb bL;have a8:=zab hb bM;clear hb)
       | (go_at_call 19;(with_reducible refine(yfy gs T ms ad V al ac s gc P mc aa U ak ab u _ aX.out aW.out L1.out false a9.out).mono ?_);rintro e v2 ⟨rfl,hb⟩;have aK:=hid (zad hb n.out);have bN:=hid (an.out.below hb);have cG:=hid (aM.out.below hb);have ao:=hid (t.out.trans ((hb).mono t.out.size));obtain⟨cE,_,cF,_⟩:=bc2 aK.out;have aB:=zab hb z;have cw:=zaa aB;have aC:=zab hb B;have cz:=zaa aC;have aD:=zab hb E;have cA:=zaa aD;have dl:=zab hb a2;have dm:=zab hb a3;have dp:=zab hb a5;have dr:=zab hb a6;have ds:=zab hb a7;have dt:=zab hb a8;clear hb)
       | fail)
     all_goals
      go_wp2;go_ret
      exact⟨by rw[aF.out];first | done | rfl,ao.out⟩
  ·obtain rfl:nc=k:=by omega
   have H1:=hid HT.out;have O:=hid (zad d bQ.out);have bW:=hid (cH.out.below d);have aE:=hid (a4.out.below d);have bO:=hid (cI.out.below d);have r:=hid (aY.out.trans ((d).mono aY.out.size));obtain⟨dd,_,de,dc⟩:=bc2 O.out;clear d;go_wp2
   go_loopw [60] (fun i wz=>∃k:Nat,i=.int .i64 k∧k≤nr∧Below wr.heap.size wr wz∧(∀j,j<k→zdp (rows.getD j default) x=0∨el y j=0))
    (fun i _=>nr-(intOf i).toNat)
   case atStart=>exact⟨0,rfl,Nat.zero_le _,Below.refl _ _,fun j hj=>by omega⟩
   case round =>
    rename World=>wz
    obtain⟨k,rfl,hk,d,cm⟩:=hrel;have bg:=hid cm;clear cm;by_cases L:k<nr
    ·obtain⟨p,hp⟩:∃p,rows[k]? = some p:=⟨rows[k]'(by rw[←aO.out];exact L),List.getElem?_eq_getElem _⟩
     obtain⟨q,hq⟩:∃q,y[k]? = some q:=⟨y[k]'(by rw[HL.out,←aO.out];exact L),List.getElem?_eq_getElem _⟩
     obtain⟨b,rfl,dw,dx⟩:=(bW.out).has (by omega);obtain⟨by_,rfl,dE,dF⟩:=(bO.out).has (by omega);obtain⟨Q,nq,cq,g,A,m,c,D,md,cd,k0,k1,k2,k3,k4,bq,cs⟩:=(bW.out.below d).at_ hp;obtain⟨gb,Ab,mb,cb,Db,aA,av,l0,l1,l2,ci⟩:=(bO.out.below d).at_ hq;have aP:=hid (HG.out.rw_ p (List.mem_of_getElem? hp));have EP:=hid (zfC hp);have EQ:=hid (znd hq);obtain rfl:nc=nq:=by rw[bq.len,aP.out.1]
     generalize hkd:p.kind=kd at k1;have cM:=hid hkd;have n:=hid (zad d O.out);have an:=hid (aE.out.below d);have cP:=hid (show RatS wz gb (.slice Ab mb cb) (.slice Db aA av) q from ci);have cQ:=hid (show VecS wz 0 (.slice Q nc cq) p.coef from bq);have cO:=hid (show RatS wz g (.slice A m c) (.slice D md cd) p.rhs from cs);have cR:=hid (show Bel wr wz from Bel.mk d);have t:=hid (r.out.trans ((d).mono r.out.size));obtain⟨aZ,_,a0,_⟩:=bc2 n.out;have z:wz.cell? ⟨by_,k*3,none⟩=some (.bool gb):=l0
     have bC:=zaa z;have B:wz.cell? ⟨by_,k*3+1,none⟩=some (.slice Ab mb cb):=l1;have bE:=zaa B;have E:wz.cell? ⟨by_,k*3+2,none⟩=some (.slice Db aA av):=l2;have bG:=zaa E;clear d hp hq bq cs ci hkd l0 l1 l2;have cW:(0:Int)≤(k:Int):=Int.natCast_nonneg _;have cX:(k:Int)<(nr:Int):=by omega
     have v:=zae wz (.cells #[.slice Q nc cq,.int .i64 kd,.bool g,.slice A m c,.slice D md cd] 68);have aK:=hid (zad v n.out);have bN:=hid (an.out.below v);have db:=hid (cP.out.below v);have c9:=hid (cQ.out.below v);have c8:=hid (cO.out.below v);have da:=hid (cR.out.below v);have ao:=hid (t.out.trans ((v).mono t.out.size));obtain⟨cE,_,cF,_⟩:=bc2 aK.out;have aB:=zab v z;have cw:=zaa aB;have aC:=zab v B;have cz:=zaa aC;have aD:=zab v E;have cA:=zaa aD;go_wp2_with fail
     with_reducible refine(Pb.over Q nc cq g A m c D md cd kd p cM.out X nc cx x _ c9.out c8.out bN.out (by rw[aP.out.1];exact b6.out) (Nat.le_trans HG.out.hc (by decide)) aP.out.2.1 aP.out.2.2 ZX.out).mono ?_
     rintro e v1 ⟨g5,A5,m5,c5,D5,md5,cd5,rfl,hn,hb⟩;have cD:=hid (show RatS (v1.alloc (.cells #[.bool g5,.slice A5 m5 c5,.slice D5 md5 cd5] 47)) gb (.slice Ab mb cb) (.slice Db aA av) q from(db.out.below hb).alloc _);have cB:=hid (show Bel wr (v1.alloc (.cells #[.bool g5,.slice A5 m5 c5,.slice D5 md5 cd5] 47))from(da.out.below hb).alloc _)
     have HO:=hid (show RatS (v1.alloc (.cells #[.bool g5,.slice A5 m5 c5,.slice D5 md5 cd5] 47)) g5 (.slice A5 m5 c5) (.slice D5 md5 cd5) (zdp p x)from(hn).alloc _);have a1:=hid (show Below w.heap.size w (v1.alloc (.cells #[.bool g5,.slice A5 m5 c5,.slice D5 md5 cd5] 47))from((ao.out.trans ((hb).mono ao.out.size))).alloc ((ao.out.trans ((hb).mono ao.out.size))).size _)
     have dj:=hid (show(v1.alloc (.cells #[.bool g5,.slice A5 m5 c5,.slice D5 md5 cd5] 47)).heap[v1.heap.size]? = some (.cells #[.bool g5,.slice A5 m5 c5,.slice D5 md5 cd5] 47 (0,0))from zam (by simp));obtain⟨dU,_,dV,_,dW,_⟩:=bc3 dj.out;have bR:(v1.alloc (.cells #[.bool g5,.slice A5 m5 c5,.slice D5 md5 cd5] 47)).cell? ⟨by_,k*3,none⟩=some (.bool gb):=cell_al (zab hb aB);have dJ:=zaa bR
     have bS:(v1.alloc (.cells #[.bool g5,.slice A5 m5 c5,.slice D5 md5 cd5] 47)).cell? ⟨by_,k*3+1,none⟩=some (.slice Ab mb cb):=cell_al (zab hb aC);have dK:=zaa bS;have bT:(v1.alloc (.cells #[.bool g5,.slice A5 m5 c5,.slice D5 md5 cd5] 47)).cell? ⟨by_,k*3+2,none⟩=some (.slice Db aA av):=cell_al (zab hb aD);have dL:=zaa bT;clear hn hb;go_wp2_with fail
     by_cases ai:zdp p x=0
     ·have bj:=hid (ygb ai);have Z:=hid (show ∀j,j<k+1→zdp (rows.getD j default) x=0∨el y j=0 from fun j hj=>by by_cases e:j=k;(subst e;exact .inl (by rw[EP.out];exact ai));exact bg.out j (by omega));clear ai;with_reducible refine(Rt.zero_is g5 A5 m5 c5 D5 md5 cd5 (zdp p x) _ HO.out true bj.out).mono ?_
      rintro e v2 ⟨rfl,hb⟩;have bP:=hid (cD.out.below hb);have aV:=hid (cB.out.below hb);have aL:=hid (a1.out.trans ((hb).mono a1.out.size));have bU:=zab hb bR;have c4:=zaa bU;have bV:=zab hb bS;have c6:=zaa bV;have bX:=zab hb bT;have c7:=zaa bX;clear hb;go_wp2;go_roundw
      case rel=>exact⟨k+1,by go_num,by omega,aV.out.b,Z.out⟩
      case measure=>simp[intOf];omega
     ·have bj:=hid (yfz ai);with_reducible refine(Rt.zero_is g5 A5 m5 c5 D5 md5 cd5 (zdp p x) _ HO.out false bj.out).mono ?_
      rintro e v2 ⟨rfl,hb⟩;have bP:=hid (cD.out.below hb);have aV:=hid (cB.out.below hb);have aL:=hid (a1.out.trans ((hb).mono a1.out.size));have bU:=zab hb bR;have c4:=zaa bU;have bV:=zab hb bS;have c6:=zaa bV;have bX:=zab hb bT;have c7:=zaa bX;clear hb;go_wp2_with fail
      by_cases ay:q=0
      ·have bk:=hid (ygb ay);have Z:=hid (show ∀j,j<k+1→zdp (rows.getD j default) x=0∨el y j=0 from fun j hj=>by by_cases e:j=k;(subst e;exact .inr (EQ.out.trans ay));exact bg.out j (by omega));clear ai ay;with_reducible refine(Rt.zero_is gb Ab mb cb Db aA av q _ bP.out true bk.out).mono ?_
       rintro e v3 ⟨rfl,hb⟩;have cC:=hid (aV.out.below hb);have cJ:=hid (aL.out.trans ((hb).mono aL.out.size));clear hb;go_wp2;go_roundw
       case rel=>exact⟨k+1,by go_num,by omega,cC.out.b,Z.out⟩
       case measure=>simp[intOf];omega
      ·have bk:=hid (yfz ay);have aF:=hid (show ob=false by rw[←ba.out];exact yeJ (k:=k) (by rw[←aO.out];exact L) (by rw[EP.out];exact ai) (by rw[EQ.out];exact ay));clear ai ay;with_reducible refine(Rt.zero_is gb Ab mb cb Db aA av q _ bP.out false bk.out).mono ?_
       rintro e v3 ⟨rfl,hb⟩;have cC:=hid (aV.out.below hb);have cJ:=hid (aL.out.trans ((hb).mono aL.out.size));clear hb;go_wp2;go_ret
       exact⟨by rw[aF.out];first | done | rfl,cJ.out⟩
    ·have cY:k=nr:=by omega
     have n:=hid (zad d O.out);have an:=hid (aE.out.below d);have t:=hid (r.out.trans ((d).mono r.out.size));obtain⟨aZ,_,a0,_⟩:=bc2 n.out;clear d;have aF:=hid (show ob=true by rw[←ba.out];exact yeL H1.out (by have:=bg.out;rw[cY,aO.out]at this;exact this));go_wp2;go_ret
     exact⟨by rw[aF.out];first | done | rfl,t.out⟩
theorem slack_is(C:OA)(nc cc:Nat)(R:OA)(nr b:Nat)(cost:List Rat)(rows:List PRow)(X:OA)(f c:Nat)(x:List Rat)(Y:OA)(g d:Nat)(y:List Rat)(w:World)(hc:VecS w 0 (.slice C nc cc) cost)(hr:RowsS w 0 (.slice R nr b) rows)(j:VecS w 0 (.slice X f c) x)(k:VecS w 0 (.slice Y g d) y)(hg:Good nc nr cost rows)(zy:Sm y)(zx:Sm x) :
  Calls Tryz.prog 14 #[.agg #[.slice C nc cc,.slice R nr b],.slice X f c,.slice Y g d] w fun e w'=>e=.returned (.bool (yev nc cost rows x y))∧Below w.heap.size w w':=by
 unfold yev;by_cases a:y.length=rows.length
 ·by_cases i:x.length=cost.length
  ·have h:=yfi C nc cc R nr b cost rows X f c x Y g d y w hc hr j k hg zy zx a i;rw[decide_eq_true a,decide_eq_true i];exact h
  ·have h:=yfn C nc cc R nr b cost rows X f c x Y g d y w hc hr j k hg zy zx a i;rw[decide_eq_true a,decide_eq_false i];exact h
 ·have h:=yfm C nc cc R nr b cost rows X f c x Y g d y w hc hr j k hg zy zx a;rw[decide_eq_false a];exact h
theorem slack(C:OA)(nc cc:Nat)(R:OA)(nr b:Nat)(cost:List Rat)(rows:List PRow)(X:OA)(g d:Nat)(x:List Rat)(Y:OA)(i f:Nat)(y:List Rat)(w:World)(hc:VecS w 0 (.slice C nc cc) cost)(hr:RowsS w 0 (.slice R nr b) rows)(o:VecS w 0 (.slice X g d) x)(r:VecS w 0 (.slice Y i f) y)(n:y.length=rows.length)(hg:Good nc nr cost rows)(zy:Sm y)(zx:Sm x)(l:x.length=cost.length)(h1:∀(j:Nat) (a s c:Rat),x[j]? = some a→(sv nc y rows)[j]? = some s→cost[j]? = some c→a=0∨s=c)(m:∀(k:Nat) (p:PRow) (q:Rat),rows[k]? = some p→y[k]? = some q→zdp p x=0∨q=0) :
  Calls Tryz.prog 14 #[.agg #[.slice C nc cc,.slice R nr b],.slice X g d,.slice Y i f] w fun e w'=>e=.returned (.bool true)∧Below w.heap.size w w':=by
 have h:=yfi C nc cc R nr b cost rows X g d x Y i f y w hc hr o r hg zy zx n l;rw[yeL (fun j hj=>h1 j _ _ _ (zaH (by rw[l,←hc.len];exact hj)) (zaH (by rw[yee hg.rw_];exact hj)) (zaH (by rw[←hc.len];exact hj))) (fun k hk=>m k _ _ (zaO hk) (zaH (by omega)))]at h;exact h
