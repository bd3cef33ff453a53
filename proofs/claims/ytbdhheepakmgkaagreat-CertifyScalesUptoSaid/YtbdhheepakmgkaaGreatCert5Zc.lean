/- Contracts and lemmas: Cert5. Conditions: as each says. -/
import Derived.Test.YtbdhheepakmgkaaGreatCert3Zc
set_option linter.all false
set_option maxHeartbeats 4000000
set_option maxRecDepth 100000
namespace Go.Proofs.YtbdhheepakmgkaaGreat
open Go.RowKit Am
open Lib (hid)
attribute [local go_sem ↓] Go.wp_at_zero Go.wp_at_succ
theorem Rt.zero_is(g:Bool)(A:OA)(m c:Nat)(D:OA)(d a:Nat)(q:Rat)(w:World)(h:RatS w g (.slice A m c) (.slice D d a) q)(b:Bool)(f:zr q=b) :
  Calls Tryz.prog 50 #[.agg #[.bool g,.slice A m c,.slice D d a]] w fun e w'=>e=.returned (.bool b)∧Below w.heap.size w w':=by
 rw[←f];exact Rt.zero g A m c D d a q w h
theorem ygb{q:Rat}(h:q=0):zr q=true:=decide_eq_true h
theorem yfz{q:Rat}(h:q≠0):zr q=false:=decide_eq_false h
theorem yfy(g:Bool)(A:OA)(m c:Nat)(D:OA)(k i:Nat)(a:Rat)(g':Bool)(d:OA)(m' c':Nat)(f:OA)(l j:Nat)(b:Rat)(w:World)(h:RatS w g (.slice A m c) (.slice D k i) a)(n:RatS w g' (.slice d m' c') (.slice f l j) b)(o:4*(mw a+mw b)+8≤LIM)(r:Bool)(hr:zA9 a b=r) :
  Calls Tryz.prog 13 #[.agg #[.bool g,.slice A m c,.slice D k i],.agg #[.bool g',.slice d m' c',.slice f l j]] w fun e w'=>e=.returned (.bool r)∧Below w.heap.size w w':=by
 rw[←hr];exact Rt.same g A m c D k i a g' d m' c' f l j b w h n o
namespace Ct
open Pb (zPu)
theorem yfi(C:OA)(nc cc:Nat)(R:OA)(nr E:Nat)(cost:List Rat)(rows:List PRow)(X:OA)(nx cx:Nat)(x:List Rat)(Y:OA)(ny cy:Nat)(y:List Rat)(w:World)(hc:VecS w 0 (.slice C nc cc) cost)(hr:RowsS w 0 (.slice R nr E) rows)(hx:VecS w 0 (.slice X nx cx) x)(hy:VecS w 0 (.slice Y ny cy) y)(hg:Good nc nr cost rows)(zy:Sm y)(zx:Sm x)(hl:y.length=rows.length)(c3:x.length=cost.length) :
  Calls Tryz.prog 19 #[.agg #[.slice C nc cc,.slice R nr E],.slice X nx cx,.slice Y ny cy] w fun e w'=>e=.returned (.bool (ydZ nc cost rows x y))∧Below w.heap.size w w':=by
 have cs:=hx.len;have ct:=hc.len;have en:nc=nx:=by omega
 subst en;have bp:=hr.len;have c4:=hy.len;have en:nr=ny:=by omega
 subst en;have HL:=hid hl;have HG:=hid hg;have ZY:=hid zy;have ZX:=hid zx;generalize hob:ydZ nc cost rows x y=ob;have bb:=hid hob;have b8:=hid cs;have cP:=hid ct;have aI:=hid bp;have b7:=hid (show(sv nc y rows).length=nc from yee hg.rw_);have cV:=hid (show ∀q∈sv nc y rows,mw q≤100000000 from yeT hg.rw_ zy (by rw[←bp];exact hg.hr));have dI:nc≤9223372036854775807:=Nat.le_trans hg.hc (by decide);have dJ:nr≤9223372036854775807:=Nat.le_trans hg.hr (by decide);clear hl hg zy zx c3 hob cs ct bp c4
 obtain⟨W,hW⟩:∃W,(w.alloc (.cells #[.slice C nc cc,.slice R nr E] 31))=W:=⟨_,rfl⟩
 have cg:=hid (show W.heap[w.heap.size]? = some (.cells #[.slice C nc cc,.slice R nr E] 31 (0,0))by rw[←hW];exact zam (by simp));have BB:=hid (show Below w.heap.size w W by rw[←hW];exact zae w _);have HC:=hid (show VecS W 0 (.slice C nc cc) cost by rw[←hW];exact(hc).alloc _);have HR:=hid (show RowsS W 0 (.slice R nr E) rows by rw[←hW];exact(hr).alloc _);have HX:=hid (show VecS W 0 (.slice X nc cx) x by rw[←hW];exact(hx).alloc _)
 have HY:=hid (show VecS W 0 (.slice Y nr cy) y by rw[←hW];exact(hy).alloc _);obtain⟨dR,dV,dS,dO⟩:=bc2 cg.out;clear hc hr hx hy;go_enter Tryz.func19,Tryz.ntmps19;go_wp2_with fail
 clear hW;with_reducible refine(yeN C nc cc R nr E cost rows Y nr cy y _ HC.out HR.out HY.out HL.out HG.out.hr (Nat.le_trans HG.out.hc (by decide)) HG.out.rw_ ZY.out).mono ?_
 rintro e w1 ⟨S2,ns2,cs2,g2,A2,m2,c2,D2,md2,cd2,rfl,hv,hn,hb⟩;have ap:=(hb).alloc (hb).size (.cells #[.bool g2,.slice A2 m2 c2,.slice D2 md2 cd2] 47);have bR:=hid (zad ap cg.out);have cM:=hid (HC.out.below ap);have cJ:=hid (HR.out.below ap);have a5:=hid (HX.out.below ap);have cK:=hid (HY.out.below ap);have HV:=hid (show VecS (w1.alloc (.cells #[.bool g2,.slice A2 m2 c2,.slice D2 md2 cd2] 47)) 0 (.slice S2 ns2 cs2) (sv nc y rows)from((hv.base (Nat.zero_le _))).alloc _)
 have aZ:=hid (BB.out.trans ((ap).mono BB.out.size));obtain⟨dP,dT,dQ,dU⟩:=bc2 bR.out;clear hv hn hb;obtain rfl:nc=ns2:=by rw[HV.out.len,b7.out]
 go_wp2
 go_loopw [34] (fun i wr=>∃k:Nat,i=.int .i64 k∧k≤nc∧Below (w1.alloc (.cells #[.bool g2,.slice A2 m2 c2,.slice D2 md2 cd2] 47)).heap.size (w1.alloc (.cells #[.bool g2,.slice A2 m2 c2,.slice D2 md2 cd2] 47)) wr∧(∀j,j<k→el x j=0∨el (sv nc y rows) j=el cost j))
  (fun i _=>nc-(intOf i).toNat)
 case atStart=>exact⟨0,rfl,Nat.zero_le _,Below.refl _ _,fun j hj=>by omega⟩
 case round =>
  obtain⟨k,rfl,hk,d,hT⟩:=hrel;have HT:=hid hT;clear hT;by_cases L:k<nc
  ·obtain⟨a,ha⟩:∃a,x[k]? = some a:=⟨x[k]'(by rw[←b8.out];exact L),List.getElem?_eq_getElem _⟩
   obtain⟨s,hs⟩:∃s,(sv nc y rows)[k]? = some s:=⟨(sv nc y rows)[k]'(by rw[b7.out];exact L),List.getElem?_eq_getElem _⟩
   obtain⟨t,aQ⟩:∃t,cost[k]? = some t:=⟨cost[k]'(by rw[←cP.out];exact L),List.getElem?_eq_getElem _⟩
   obtain⟨l,rfl,dE,dF⟩:=(a5.out).has (by omega);obtain⟨f,rfl,dC,dD⟩:=(HV.out).has (by omega);obtain⟨bc,rfl,dA,dB⟩:=(cM.out).has (by omega);obtain⟨J,F,M,H,G,N,I,k0,k1,k2,cj⟩:=(a5.out.below d).at_ ha;obtain⟨gs,T,ms,ad,V,al,ac,l0,l1,l2,cm⟩:=(HV.out.below d).at_ hs;obtain⟨gc,P,mc,aa,U,ak,ab,o0,o1,o2,cl⟩:=(cM.out.below d).at_ aQ;have O:=hid (zad d bR.out);have bX:=hid (cJ.out.below d);have ay:=hid (a5.out.below d);have bP:=hid (cK.out.below d)
   have bd:=hid (show RatS wr J (.slice F M H) (.slice G N I) a from cj);have bf:=hid (show RatS wr gs (.slice T ms ad) (.slice V al ac) s from cm);have be:=hid (show RatS wr gc (.slice P mc aa) (.slice U ak ab) t from cl);have HW:=hid (show Bel (w1.alloc (.cells #[.bool g2,.slice A2 m2 c2,.slice D2 md2 cd2] 47)) wr from Bel.mk d);have o:=hid (aZ.out.trans ((d).mono aZ.out.size));obtain⟨df,_,dg,de⟩:=bc2 O.out;have dh:wr.cell? ⟨l,k*3,none⟩=some (.bool J):=k0;have bC:=zaa dh
   have di:wr.cell? ⟨l,k*3+1,none⟩=some (.slice F M H):=k1;have bE:=zaa di;have dj:wr.cell? ⟨l,k*3+2,none⟩=some (.slice G N I):=k2;have bG:=zaa dj;have dk:wr.cell? ⟨f,k*3,none⟩=some (.bool gs):=l0;have bI:=zaa dk;have dm:wr.cell? ⟨f,k*3+1,none⟩=some (.slice T ms ad):=l1;have bJ:=zaa dm;have dq:wr.cell? ⟨f,k*3+2,none⟩=some (.slice V al ac):=l2;have bK:=zaa dq;have ds:wr.cell? ⟨bc,k*3,none⟩=some (.bool gc):=o0;have bL:=zaa ds;have dw:wr.cell? ⟨bc,k*3+1,none⟩=some (.slice P mc aa):=o1
   have bM:=zaa dw;have dx:wr.cell? ⟨bc,k*3+2,none⟩=some (.slice U ak ab):=o2;have bN:=zaa dx;have EA:=hid (znd ha);have ES:=hid (znd hs);have EC:=hid (znd aQ);have L1:=hid (show 4*(mw s+mw t)+8≤LIM by have:=cV.out s (List.mem_of_getElem? hs);have:=HG.out.sc t (List.mem_of_getElem? aQ);have:=zaP;omega);clear d ha hs aQ k0 k1 k2 l0 l1 l2 o0 o1 o2 cj cm cl;have cY:(0:Int)≤(k:Int):=Int.natCast_nonneg _;have cZ:(k:Int)<(nc:Int):=by omega
   by_cases ah:a=0
   ·have aK:=hid (ygb ah);have Z:=hid (show ∀j,j<k+1→el x j=0∨el (sv nc y rows) j=el cost j from fun j hj=>by by_cases e:j=k;(subst e;exact .inl (EA.out.trans ah));exact HT.out j (by omega));clear ah;go_wp2_with fail
    refine wp_region_noPanic ?_
    refine wp_region_held_drew (S:=fun w'=>w'.cell? ⟨w.heap.size,0,none⟩=some (.slice (some ⟨bc,0,none⟩) nc cc)∧w'.cell? ⟨w.heap.size,1,none⟩=some (.slice R nr E)∧w'.cell? ⟨l,k*3,none⟩=some (.bool J)∧w'.cell? ⟨l,k*3+1,none⟩=some (.slice F M H)∧w'.cell? ⟨l,k*3+2,none⟩=some (.slice G N I)∧w'.cell? ⟨f,k*3,none⟩=some (.bool gs)∧w'.cell? ⟨f,k*3+1,none⟩=some (.slice T ms ad)∧w'.cell? ⟨f,k*3+2,none⟩=some (.slice V al ac)∧w'.cell? ⟨bc,k*3,none⟩=some (.bool gc)∧w'.cell? ⟨bc,k*3+1,none⟩=some (.slice P mc aa)∧w'.cell? ⟨bc,k*3+2,none⟩=some (.slice U ak ab)) (by kernel_rfl) kp fun hHeld=>?_
    refine zaw [0,1,2,3] ?_;repeat refine tkH (hS:=hHeld) (h:=?_)
    refine zao ?_;refine wpAnyH_ready (rs:=[4]) (by kernel_rfl) (by simp) ?_;refine AllReadyH.cons rfl (fun K hK=>?_) AllReadyH.nil;go_simp
    (go_at_call 50;(with_reducible refine(Rt.zero_is J F M H G N I a _ bd.out.drew true aK.out).mono ?_);rintro e v1 ⟨rfl,hb⟩;have n:=hid (zad hb O.out);have an:=hid (ay.out.drew.below hb);have aY:=hid (bf.out.drew.below hb);have aX:=hid (be.out.drew.below hb);have aF:=hid (HW.out.drew.below hb);have r:=hid (o.out.trans ((It.bdrew0' hb).mono o.out.size));obtain⟨a0,_,a1,_⟩:=bc2 n.out;have v:=zab hb bC;have bD:=zaa v;have z:=zab hb bE;have bF:=zaa z;have B:=zab hb bG;have bH:=zaa B;have a3:=zab hb bI;have a4:=zab hb bJ;have a6:=zab hb bK;have a7:=zab hb bL;have a8:=zab hb bM;have a9:=zab hb bN;clear hb)
    (try go_wp2_with fail)
    refine hK.out _ _ kp fun hHeld=>?_
    clear hK K;try simp only[Act.put,pu1,pu2,pu3,pu4,pu5,pu6]
    refine zaw [5,6] ?_;repeat refine tkH (hS:=hHeld) (h:=?_)
    refine zao ?_;refine zaw [7,8,9,10,11,12,13,14,15,16,17] ?_;repeat refine skH (hS:=hHeld) (h:=?_)
    refine zao ?_;refine zaw [18] ?_;repeat refine tkH (hS:=hHeld) (h:=?_)
    refine zao ?_;refine wpAnyH_done (by kernel_rfl) ?_ _;refine NoPanic.normal ?_
    all_goals
     go_wp2;go_roundw
     case rel=>exact⟨k+1,by go_num,by omega,aF.out.b,Z.out⟩
     case measure=>simp[intOf];omega
   ·have aK:=hid (yfz ah);by_cases ar:s=t
    ·have ba:=hid (show zA9 s t=true from decide_eq_true ar);have Z:=hid (show ∀j,j<k+1→el x j=0∨el (sv nc y rows) j=el cost j from fun j hj=>by by_cases e:j=k;(subst e;exact .inr (by rw[ES.out,EC.out];exact ar));exact HT.out j (by omega));clear ah ar;go_wp2_with fail
     go_region_held3 (fun w'=>w'.cell? ⟨w.heap.size,0,none⟩=some (.slice (some ⟨bc,0,none⟩) nc cc)∧w'.cell? ⟨w.heap.size,1,none⟩=some (.slice R nr E)∧w'.cell? ⟨l,k*3,none⟩=some (.bool J)∧w'.cell? ⟨l,k*3+1,none⟩=some (.slice F M H)∧w'.cell? ⟨l,k*3+2,none⟩=some (.slice G N I)∧w'.cell? ⟨f,k*3,none⟩=some (.bool gs)∧w'.cell? ⟨f,k*3+1,none⟩=some (.slice T ms ad)∧w'.cell? ⟨f,k*3+2,none⟩=some (.slice V al ac)∧w'.cell? ⟨bc,k*3,none⟩=some (.bool gc)∧w'.cell? ⟨bc,k*3+1,none⟩=some (.slice P mc aa)∧w'.cell? ⟨bc,k*3+2,none⟩=some (.slice U ak ab))
      (((try go_split_ands);(try simp only[World.cell?_drew]);(repeat' apply And.intro)<;>(repeat(first | with_reducible assumption | with_reducible refine cell_set (by omega) ?_ | with_reducible refine cell_al ?_))))
      (first
       | (go_at_call 50;(with_reducible refine(Rt.zero_is J F M H G N I a _ bd.out.drew false aK.out).mono ?_);rintro e v1 ⟨rfl,hb⟩;have n:=hid (zad hb O.out);have an:=hid (ay.out.drew.below hb);have aY:=hid (bf.out.drew.below hb);have aX:=hid (be.out.drew.below hb);have aF:=hid (HW.out.drew.below hb);have r:=hid (o.out.trans ((It.bdrew0' hb).mono o.out.size));obtain⟨a0,_,a1,_⟩:=bc2 n.out;have v:=zab hb bC;have bD:=zaa v;have z:=zab hb bE;have bF:=zaa z;have B:=zab hb bG;have bH:=zaa B;have a3:=zab hb bI;have a4:=zab hb bJ;have a6:=zab hb bK;have a7:=zab hb bL;have a8:=zab hb bM;have a9:=zab hb bN;clear hb)
       | (go_at_call 13;(with_reducible refine(yfy gs T ms ad V al ac s gc P mc aa U ak ab t _ aY.out aX.out L1.out true ba.out).mono ?_);rintro e v2 ⟨rfl,hb⟩;have aC:=hid (zad hb n.out);have bO:=hid (an.out.below hb);have cI:=hid (aF.out.below hb);have aD:=hid (r.out.trans ((hb).mono r.out.size));obtain⟨cG,_,cH,_⟩:=bc2 aC.out;have av:=zab hb v;have cA:=zaa av;have aw:=zab hb z;have cB:=zaa aw;have ax:=zab hb B;have cC:=zaa ax;have dn:=zab hb a3;have dp:=zab hb a4;have dr:=zab hb a6;have dt:=zab hb a7;have du:=zab hb a8;have dv:=zab hb a9;clear hb)
       | fail)
     all_goals
      go_wp2;go_roundw
      case rel=>exact⟨k+1,by go_num,by omega,cI.out.b,Z.out⟩
      case measure=>simp[intOf];omega
    ·have ba:=hid (show zA9 s t=false from decide_eq_false ar);have az:=hid (show ob=false by rw[←bb.out];exact yeI L (by rw[EA.out];exact ah) (by rw[ES.out,EC.out];exact ar));clear ah ar;go_wp2_with fail
     go_region_held3 (fun w'=>w'.cell? ⟨w.heap.size,0,none⟩=some (.slice (some ⟨bc,0,none⟩) nc cc)∧w'.cell? ⟨w.heap.size,1,none⟩=some (.slice R nr E)∧w'.cell? ⟨l,k*3,none⟩=some (.bool J)∧w'.cell? ⟨l,k*3+1,none⟩=some (.slice F M H)∧w'.cell? ⟨l,k*3+2,none⟩=some (.slice G N I)∧w'.cell? ⟨f,k*3,none⟩=some (.bool gs)∧w'.cell? ⟨f,k*3+1,none⟩=some (.slice T ms ad)∧w'.cell? ⟨f,k*3+2,none⟩=some (.slice V al ac)∧w'.cell? ⟨bc,k*3,none⟩=some (.bool gc)∧w'.cell? ⟨bc,k*3+1,none⟩=some (.slice P mc aa)∧w'.cell? ⟨bc,k*3+2,none⟩=some (.slice U ak ab))
      (((try go_split_ands);(try simp only[World.cell?_drew]);(repeat' apply And.intro)<;>(repeat(first | with_reducible assumption | with_reducible refine cell_set (by omega) ?_ | with_reducible refine cell_al ?_))))
      (first
       | (go_at_call 50;(with_reducible refine(Rt.zero_is J F M H G N I a _ bd.out.drew false aK.out).mono ?_);rintro e v1 ⟨rfl,hb⟩;have n:=hid (zad hb O.out);have an:=hid (ay.out.drew.below hb);have aY:=hid (bf.out.drew.below hb);have aX:=hid (be.out.drew.below hb);have aF:=hid (HW.out.drew.below hb);have r:=hid (o.out.trans ((It.bdrew0' hb).mono o.out.size));obtain⟨a0,_,a1,_⟩:=bc2 n.out;have v:=zab hb bC;have bD:=zaa v;have z:=zab hb bE;have bF:=zaa z;have B:=zab hb bG;have bH:=zaa B;have a3:=zab hb bI;have a4:=zab hb bJ;have a6:=zab hb bK;have a7:=zab hb bL;have a8:=zab hb bM;have a9:=zab hb bN;clear hb)
       | (go_at_call 13;(with_reducible refine(yfy gs T ms ad V al ac s gc P mc aa U ak ab t _ aY.out aX.out L1.out false ba.out).mono ?_);rintro e v2 ⟨rfl,hb⟩;have aC:=hid (zad hb n.out);have bO:=hid (an.out.below hb);have cI:=hid (aF.out.below hb);have aD:=hid (r.out.trans ((hb).mono r.out.size));obtain⟨cG,_,cH,_⟩:=bc2 aC.out;have av:=zab hb v;have cA:=zaa av;have aw:=zab hb z;have cB:=zaa aw;have ax:=zab hb B;have cC:=zaa ax;have dn:=zab hb a3;have dp:=zab hb a4;have dr:=zab hb a6;have dt:=zab hb a7;have du:=zab hb a8;have dv:=zab hb a9;clear hb)
       | fail)
     all_goals
      go_wp2;go_ret
      exact⟨by rw[az.out];first | done | rfl,aD.out⟩
  ·obtain rfl:nc=k:=by omega
   have H1:=hid HT.out;have O:=hid (zad d bR.out);have bX:=hid (cJ.out.below d);have ay:=hid (a5.out.below d);have bP:=hid (cK.out.below d);have o:=hid (aZ.out.trans ((d).mono aZ.out.size));obtain⟨df,_,dg,de⟩:=bc2 O.out;clear d;go_wp2
   go_loopw [60] (fun i wz=>∃k:Nat,i=.int .i64 k∧k≤nr∧Below wr.heap.size wr wz∧(∀j,j<k→zdp (rows.getD j default) x=0∨el y j=0))
    (fun i _=>nr-(intOf i).toNat)
   case atStart=>exact⟨0,rfl,Nat.zero_le _,Below.refl _ _,fun j hj=>by omega⟩
   case round =>
    rename World=>wz
    obtain⟨k,rfl,hk,d,co⟩:=hrel;have bh:=hid co;clear co;by_cases L:k<nr
    ·obtain⟨p,hp⟩:∃p,rows[k]? = some p:=⟨rows[k]'(by rw[←aI.out];exact L),List.getElem?_eq_getElem _⟩
     obtain⟨q,hq⟩:∃q,y[k]? = some q:=⟨y[k]'(by rw[HL.out,←aI.out];exact L),List.getElem?_eq_getElem _⟩
     obtain⟨b,rfl,dy,dz⟩:=(bX.out).has (by omega);obtain⟨by_,rfl,dG,dH⟩:=(bP.out).has (by omega);obtain⟨Q,nq,cq,g,A,m,c,D,md,cd,k0,k1,k2,k3,k4,br,cu⟩:=(bX.out.below d).at_ hp;obtain⟨gb,Ab,mb,cb,Db,aV,aM,l0,l1,l2,ck⟩:=(bP.out.below d).at_ hq;have aJ:=hid (HG.out.rw_ p (List.mem_of_getElem? hp));have EP:=hid (zfC hp);have EQ:=hid (znd hq);obtain rfl:nc=nq:=by rw[br.len,aJ.out.1]
     generalize hkd:p.kind=kd at k1;have cO:=hid hkd;have n:=hid (zad d O.out);have an:=hid (ay.out.below d);have cR:=hid (show RatS wz gb (.slice Ab mb cb) (.slice Db aV aM) q from ck);have cS:=hid (show VecS wz 0 (.slice Q nc cq) p.coef from br);have cQ:=hid (show RatS wz g (.slice A m c) (.slice D md cd) p.rhs from cu);have cT:=hid (show Bel wr wz from Bel.mk d);have r:=hid (o.out.trans ((d).mono o.out.size));obtain⟨a0,_,a1,_⟩:=bc2 n.out;have v:wz.cell? ⟨by_,k*3,none⟩=some (.bool gb):=l0
     have bD:=zaa v;have z:wz.cell? ⟨by_,k*3+1,none⟩=some (.slice Ab mb cb):=l1;have bF:=zaa z;have B:wz.cell? ⟨by_,k*3+2,none⟩=some (.slice Db aV aM):=l2;have bH:=zaa B;clear d hp hq br cu ck hkd l0 l1 l2;have cY:(0:Int)≤(k:Int):=Int.natCast_nonneg _;have cZ:(k:Int)<(nr:Int):=by omega
     have u:=zae wz (.cells #[.slice Q nc cq,.int .i64 kd,.bool g,.slice A m c,.slice D md cd] 60);have aC:=hid (zad u n.out);have bO:=hid (an.out.below u);have dd:=hid (cR.out.below u);have db:=hid (cS.out.below u);have da:=hid (cQ.out.below u);have dc:=hid (cT.out.below u);have aD:=hid (r.out.trans ((u).mono r.out.size));obtain⟨cG,_,cH,_⟩:=bc2 aC.out;have av:=zab u v;have cA:=zaa av;have aw:=zab u z;have cB:=zaa aw;have ax:=zab u B;have cC:=zaa ax;go_wp2_with fail
     with_reducible refine(Pb.over Q nc cq g A m c D md cd kd p cO.out X nc cx x _ db.out da.out bO.out (by rw[aJ.out.1];exact b8.out) (Nat.le_trans HG.out.hc (by decide)) aJ.out.2.1 aJ.out.2.2 ZX.out).mono ?_
     rintro e v1 ⟨g5,A5,m5,c5,D5,md5,cd5,rfl,hn,hb⟩;have aq:=(hb).alloc (hb).size (.cells #[.bool g5,.slice A5 m5 c5,.slice D5 md5 cd5] 47);have cF:=hid (dd.out.below aq);have cD:=hid (dc.out.below aq);have HO:=hid (show RatS (v1.alloc (.cells #[.bool g5,.slice A5 m5 c5,.slice D5 md5 cd5] 47)) g5 (.slice A5 m5 c5) (.slice D5 md5 cd5) (zdp p x)from(hn).alloc _);have a2:=hid (aD.out.trans ((aq).mono aD.out.size));have dl:=hid (zal v1 #[.bool g5,.slice A5 m5 c5,.slice D5 md5 cd5] 47)
     obtain⟨dW,_,dX,_,dY,_⟩:=bc3 dl.out;have bS:=zab aq av;have dL:=zaa bS;have bT:=zab aq aw;have dM:=zaa bT;have bU:=zab aq ax;have dN:=zaa bU;clear hn hb;go_wp2_with fail
     by_cases ai:zdp p x=0
     ·have bk:=hid (ygb ai);have Z:=hid (show ∀j,j<k+1→zdp (rows.getD j default) x=0∨el y j=0 from fun j hj=>by by_cases e:j=k;(subst e;exact .inl (by rw[EP.out];exact ai));exact bh.out j (by omega));clear ai;with_reducible refine(Rt.zero_is g5 A5 m5 c5 D5 md5 cd5 (zdp p x) _ HO.out true bk.out).mono ?_
      rintro e v2 ⟨rfl,hb⟩;have bQ:=hid (cF.out.below hb);have aW:=hid (cD.out.below hb);have aE:=hid (a2.out.trans ((hb).mono a2.out.size));have bV:=zab hb bS;have c7:=zaa bV;have bW:=zab hb bT;have c8:=zaa bW;have bY:=zab hb bU;have c9:=zaa bY;clear hb;go_wp2;go_roundw
      case rel=>exact⟨k+1,by go_num,by omega,aW.out.b,Z.out⟩
      case measure=>simp[intOf];omega
     ·have bk:=hid (yfz ai);with_reducible refine(Rt.zero_is g5 A5 m5 c5 D5 md5 cd5 (zdp p x) _ HO.out false bk.out).mono ?_
      rintro e v2 ⟨rfl,hb⟩;have bQ:=hid (cF.out.below hb);have aW:=hid (cD.out.below hb);have aE:=hid (a2.out.trans ((hb).mono a2.out.size));have bV:=zab hb bS;have c7:=zaa bV;have bW:=zab hb bT;have c8:=zaa bW;have bY:=zab hb bU;have c9:=zaa bY;clear hb;go_wp2_with fail
      by_cases au:q=0
      ·have bl:=hid (ygb au);have Z:=hid (show ∀j,j<k+1→zdp (rows.getD j default) x=0∨el y j=0 from fun j hj=>by by_cases e:j=k;(subst e;exact .inr (EQ.out.trans au));exact bh.out j (by omega));clear ai au;with_reducible refine(Rt.zero_is gb Ab mb cb Db aV aM q _ bQ.out true bl.out).mono ?_
       rintro e v3 ⟨rfl,hb⟩;have cE:=hid (aW.out.below hb);have cL:=hid (aE.out.trans ((hb).mono aE.out.size));clear hb;go_wp2;go_roundw
       case rel=>exact⟨k+1,by go_num,by omega,cE.out.b,Z.out⟩
       case measure=>simp[intOf];omega
      ·have bl:=hid (yfz au);have az:=hid (show ob=false by rw[←bb.out];exact yeJ (k:=k) (by rw[←aI.out];exact L) (by rw[EP.out];exact ai) (by rw[EQ.out];exact au));clear ai au;with_reducible refine(Rt.zero_is gb Ab mb cb Db aV aM q _ bQ.out false bl.out).mono ?_
       rintro e v3 ⟨rfl,hb⟩;have cE:=hid (aW.out.below hb);have cL:=hid (aE.out.trans ((hb).mono aE.out.size));clear hb;go_wp2;go_ret
       exact⟨by rw[az.out];first | done | rfl,cL.out⟩
    ·have c1:k=nr:=by omega
     have n:=hid (zad d O.out);have an:=hid (ay.out.below d);have r:=hid (o.out.trans ((d).mono o.out.size));obtain⟨a0,_,a1,_⟩:=bc2 n.out;clear d;have az:=hid (show ob=true by rw[←bb.out];exact yeL H1.out (by have:=bh.out;rw[c1,aI.out]at this;exact this));go_wp2;go_ret
     exact⟨by rw[az.out];first | done | rfl,r.out⟩
theorem slack(C:OA)(nc cc:Nat)(R:OA)(nr b:Nat)(cost:List Rat)(rows:List PRow)(X:OA)(g d:Nat)(x:List Rat)(Y:OA)(i f:Nat)(y:List Rat)(w:World)(hc:VecS w 0 (.slice C nc cc) cost)(hr:RowsS w 0 (.slice R nr b) rows)(o:VecS w 0 (.slice X g d) x)(r:VecS w 0 (.slice Y i f) y)(n:y.length=rows.length)(hg:Good nc nr cost rows)(zy:Sm y)(zx:Sm x)(l:x.length=cost.length)(h1:∀(j:Nat) (a s c:Rat),x[j]? = some a→(sv nc y rows)[j]? = some s→cost[j]? = some c→a=0∨s=c)(m:∀(k:Nat) (p:PRow) (q:Rat),rows[k]? = some p→y[k]? = some q→zdp p x=0∨q=0) :
  Calls Tryz.prog 19 #[.agg #[.slice C nc cc,.slice R nr b],.slice X g d,.slice Y i f] w fun e w'=>e=.returned (.bool true)∧Below w.heap.size w w':=by
 have h:=yfi C nc cc R nr b cost rows X g d x Y i f y w hc hr o r hg zy zx n l;rw[yeL (fun j hj=>h1 j _ _ _ (zaH (by rw[l,←hc.len];exact hj)) (zaH (by rw[yee hg.rw_];exact hj)) (zaH (by rw[←hc.len];exact hj))) (fun k hk=>m k _ _ (zaO hk) (zaH (by omega)))]at h;exact h
