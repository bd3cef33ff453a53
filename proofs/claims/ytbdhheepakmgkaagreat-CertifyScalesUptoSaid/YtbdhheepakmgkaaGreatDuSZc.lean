/- Contracts and lemmas: DuS PrN. Conditions: as each says. -/
import Derived.Test.YtbdhheepakmgkaaGreatStdWZc
import Derived.Test.YtbdhheepakmgkaaGreatBasRZc
import Derived.Test.YtbdhheepakmgkaaGreatTb3Zc
set_option linter.all false
set_option maxHeartbeats 2000000
set_option maxRecDepth 100000
namespace Go.Proofs.YtbdhheepakmgkaaGreat
open Go.RowKit Am
open Lib (hid)
attribute [local go_sem ↓] Go.wp_at_zero Go.wp_at_succ
theorem Pb.standardN(S:Nat)(hS:1≤S)(C:OA)(nc cc:Nat)(R:OA)(nr a:Nat)(cost:List Rat)(rows:List PRow)(N:Nat)(hN:nc+cnt rows nr=N)(w:World)(hc:VecS w 0 (.slice C nc cc) cost)(hr:RowsS w 0 (.slice R nr a) rows)(d:nc≤24)(g:nr≤20)(i:Rows nc rows)(f:Kinds rows)(zc:∀q∈cost,mw q≤S)(zr:∀p∈rows,(∀q∈p.coef,mw q≤S)∧mw p.rhs≤S) :
  Calls Tryz.prog 22 #[.agg #[.slice C nc cc,.slice R nr a]] w fun e w'=>∃(rA:OA) (rc:Nat) (lA:List Value) (bA:OA) (bc_:Nat) (kA:OA) (kc:Nat) (eA:OA) (ec:Nat),
   e=.returned (.tuple #[.agg #[.slice rA nr rc,.int .i64 (N:Int),.slice bA nr bc_,.slice kA N kc,.int .i64 (nc:Int),.slice eA nr ec],.nilIface]) ∧
   StdP w' rA rc lA bA bc_ kA kc eA ec nr N S (zc3 rows) (zg8 rows) (zjD cost rows) (zca nc rows nr)∧Below w.heap.size w w':=by
 subst hN;exact Pb.standard S hS C nc cc R nr a cost rows w hc hr d g i f zc zr
theorem zqy{w:World}{b:Nat}{cs:Array Value}{t:TypeId}(d:w.heap[b]? = some (.cells cs t (0,0)))(v0 v1 g i j:Value):TKeep t w (((((w.setCell ⟨b,0,none⟩ v0).setCell ⟨b,1,none⟩ v1).setCell ⟨b,2,none⟩ g).setCell ⟨b,3,none⟩ i).setCell ⟨b,4,none⟩ j):=fun k _ f=>by
 have a:k≠b:=fun e=>f cs (by rw[e];exact d)
 rw[Below.heap_setCell _ _ _ _ (by exact a),Below.heap_setCell _ _ _ _ (by exact a),Below.heap_setCell _ _ _ _ (by exact a),Below.heap_setCell _ _ _ _ (by exact a),Below.heap_setCell _ _ _ _ (by exact a)]
def zzb (w:World) (N nc nr:Nat) (cost:List Rat) (rows:List PRow) (r:RunOut) (e:Ending) (w':World):Prop :=
  Below w.heap.size w w' ∧
  ((r.err=true∧∃fb,e=.returned (.tuple #[.agg #[.int .i64 0,.slice none 0 0,.slice none 0 0,.slice none 0 0,.int .i64 0],.iface 147 (.pointer (some ⟨fb,0,none⟩))])∧w'.heap[fb]? = some (.cells #[.string zve,.int .i64 (r.n:Int),.iface 113 (.int .i64 180)] 149 (0,0))) ∨
   (r.err=false∧∃(k:Nat) (D:OA) (cD:Nat),r.at_=some k∧e=.returned (.tuple #[.agg #[.int .i64 2,.slice none 0 0,.slice D nr cD,.slice none 0 0,.int .i64 (r.n:Int)],.nilIface])∧VecS w' w.heap.size (.slice D nr cD) (scale (-1) (zbf (zc3 rows) r.cols k))) ∨
   (r.err=false∧r.at_=none∧∃(P:OA) (cP:Nat) (D:OA) (cD:Nat),e=.returned (.tuple #[.agg #[.int .i64 1,.slice P nc cP,.slice D nr cD,.slice none 0 0,.int .i64 (r.n:Int)],.nilIface]) ∧
     VecS w' w.heap.size (.slice P nc cP) ((zh1 N r.cols (za5 (zc3 rows) (zg8 rows) r.cols)).take nc)∧VecS w' w.heap.size (.slice D nr cD) (zcl (zc3 rows) r.cols (zjD cost rows))))
theorem zT7{xs:List Rat}{n j:Nat}(h:j<n):el (xs.take n) j=el xs j:=by
 unfold el;rw[List.getD_eq_getElem?_getD,List.getD_eq_getElem?_getD,List.getElem?_take,if_pos h]
theorem zTa(xs:List Rat)(n:Nat):∀f s,s+f≤n→zkZ (xs.take n) f s=zkZ xs f s
 | 0,_,_=>rfl
 | f+1,s,h=>by
  unfold zkZ;rw[zT7 (by omega),zTa xs n f (s+1) (by omega)]
theorem zTn{own N:Nat}{A:List (List Rat)}{B f k:Nat}{cs:List Nat}{n:Nat}(h:¬own≤cs.getD k 0):zSz own N A B (f+1) k (cs,n)=zSz own N A B f (k+1) (cs,n):=by
 conv=>lhs;unfold zSz
 simp only[if_neg h]
theorem zS6{own N:Nat}{A:List (List Rat)}{B f k:Nat}{cs:List Nat}{n:Nat}(h:own≤cs.getD k 0)(e:zkZ (zk8 N A cs k) own 0=none):zSz own N A B (f+1) k (cs,n)=zSz own N A B f (k+1) (cs,n):=by
 conv=>lhs;unfold zSz
 simp only[if_pos h,e]
theorem zS7{own N:Nat}{A:List (List Rat)}{B f k j:Nat}{cs:List Nat}{n:Nat}(h:own≤cs.getD k 0)(e:zkZ (zk8 N A cs k) own 0=some j)(a:B≤n):zSz own N A B (f+1) k (cs,n)=((cs,n),true):=by
 conv=>lhs;unfold zSz
 simp only[if_pos h,e,if_pos a]
theorem zTo{own N:Nat}{A:List (List Rat)}{B f k j:Nat}{cs:List Nat}{n:Nat}(h:own≤cs.getD k 0)(e:zkZ (zk8 N A cs k) own 0=some j)(a:¬B≤n):zSz own N A B (f+1) k (cs,n)=zSz own N A B f (k+1) (cs.set k j,n+1):=by
 conv=>lhs;unfold zSz
 simp only[if_pos h,e,if_neg a]
theorem zWd{m N own:Nat}{A:List (List Rat)}{cols:List Nat}(a:Basis m N A cols){k j:Nat}(hk:k<m)(o:own≤cols.getD k 0)(p:own≤N)(e:zkZ (zk8 N A cols k) own 0=some j):j<own∧el (zav A cols j) k≠0∧j ∉ cols:=by
 have s:=zSM (zk8 N A cols k) own 0;rw[e]at s;obtain⟨_,s2,g⟩:=s;have hj:j<own:=by omega
 rw[a.line_el hk (by omega)]at g;refine⟨hj,g,fun h=>?_⟩;obtain⟨l,f⟩:=List.mem_iff_getElem?.1 h;have n:l<m:=by rw[←a.len];exact(List.getElem?_eq_some_iff.1 f).1
 have u:el (zav A cols (cols.getD l 0)) k=if l=k then 1 else 0:=(a.dic []).uni k l hk n
 rw[getD_some (d:=0) f]at u;by_cases i:l=k
 ·subst i;rw[getD_some (d:=0) f]at o;omega
 ·rw[if_neg i]at u;exact g u
section
variable {W0 w:World} {H q:Nat} {rA:OA} {rc:Nat} {lA:List Value} {bA:OA} {bc_:Nat} {kA:OA} {kc:Nat} {eA:OA} {ec m NN S own:Nat} {A:List (List Rat)} {b c:List Rat} {left:List Int}
  {tA:OA} {tc:Nat} {cols:List Nat}
def zVL (W0 w:World) (H q:Nat) (rA:OA) (rc:Nat) (lA:List Value) (bA:OA) (bc_:Nat) (kA:OA) (kc:Nat) (eA:OA) (ec m NN S own:Nat) (A:List (List Rat)) (b c:List Rat) (left:List Int) (tA:OA) (tc:Nat) (r:(List Nat × Nat) × Bool) (e:Ending) (w':World):Prop :=
  ∃ ev,e = .returned (.tuple #[.int .i64 (r.1.2:Int),ev]) ∧
    ((r.2=false∧ev=.nilIface)∨(r.2=true∧∃fb,ev=.iface 147 (.pointer (some ⟨fb,0,none⟩))∧w'.heap[fb]? = some (.cells #[.string zve,.int .i64 (r.1.2:Int),.iface 113 (.int .i64 180)] 149 (0,0)))) ∧
    zhi W0 w' H q rA rc lA bA bc_ kA kc eA ec m NN S own A b c left tA tc r.1.1∧Below H w w'∧Kept TT (Value.slice tA m tc).ownBlock w w'
namespace Pr
theorem pdrive(h:zhi W0 w H q rA rc lA bA bc_ kA kc eA ec m NN S own A b c left tA tc cols)(M:OA)(O N:Nat)(hN:N≤NN)(al:zor m S≤LIM)(a:Int)(P:a≤9223372036854775807) :
  Calls Tryz.prog 61 #[.agg #[.slice rA m rc,.int .i64 (NN:Int),.slice bA m bc_,.slice kA NN kc,.int .i64 (own:Int),.slice eA m ec,.slice M m O,.int .i64 (N:Int)],.pointer (some ⟨q,0,none⟩),.int .i64 a] w (zVL W0 w H q rA rc lA bA bc_ kA kc eA ec m NN S own A b c left tA tc (zSz N NN A a.toNat m 0 (cols,0))):=by
 have HP:=hid h;have ay:=hid h.hle;have X:=hid al;have J:=hid hN;have au:=hid P;have bc:=h.std.hm;have bf:=h.std.hN;have aF:=hid (show ∀g,(Value.slice tA m tc).ownBlock=some g→g<w.heap.size by
  intro g hg;obtain⟨_,_,_,hP⟩:=h;exact(hP.colsI.own.lt g hg).2)
 clear h al hN P;obtain⟨W,x⟩:∃W,(w.alloc (.cells #[.slice rA m rc,.int .i64 (NN:Int),.slice bA m bc_,.slice kA NN kc,.int .i64 (own:Int),.slice eA m ec,.slice M m O,.int .i64 (N:Int)] 77))=W:=⟨_,rfl⟩
 have af:=hid (show W.heap[w.heap.size]? = some (.cells #[.slice rA m rc,.int .i64 (NN:Int),.slice bA m bc_,.slice kA NN kc,.int .i64 (own:Int),.slice eA m ec,.slice M m O,.int .i64 (N:Int)] 77 (0,0))by rw[←x];exact zam (by simp));have BB:=hid (show Below w.heap.size w W by rw[←x];exact zae w _);have HZ:=hid (show w.heap.size+1≤W.heap.size by rw[←x];simp);obtain⟨bK,bM,bL,bJ,bN,bO,bR,bP,bS,bQ,bE,bD,bI,bG,bF,bH⟩:=bc8 af.out;go_enter Tryz.func61,Tryz.ntmps61;go_wp2_with fail
 clear x;have B:=hid (show Below w.heap.size w W from BB.out);have ae:=hid (HP.out.below B.out);have bk:=HZ.out;refine(Tb.basis ae.out).mono ?_;rintro e w1 ⟨B0,cB,rfl,hi,hb⟩;have Z:=hid hi;have aD:=hid (ae.out.below hb);have U:=hid (B.out.trans (hb.mono B.out.size));have aI:=hid (zad hb af.out);have ax:=hid (HP.out.basis.len);clear hi hb;go_wp2
 go_loopw [8,18] (fun nv i wr=>∃(k n:Nat) (cs:List Nat),i=.int .i64 k∧nv=.int .i64 n∧k≤m∧n≤k∧(zSz N NN A a.toNat m 0 (cols,0)=zSz N NN A a.toNat (m-k) k (cs,n))∧(∀l,k≤l→cs.getD l 0=cols.getD l 0)∧zhi W0 wr H q rA rc lA bA bc_ kA kc eA ec m NN S own A b c left tA tc cs∧Below H w wr∧Kept TT (Value.slice tA m tc).ownBlock w wr∧Kept TT (Value.slice tA m tc).ownBlock w1 wr)
  (fun _ i _=>m-(intOf i).toNat)
 case atStart=>exact⟨0,0,cols,rfl,rfl,Nat.zero_le _,Nat.zero_le _,rfl,fun _ _=>rfl,aD.out,U.out.mono ay.out,Kept.of_below U.out,Kept.refl _⟩
 case round =>
  obtain⟨k,n,cs,rfl,rfl,hk,bg,hd,am,hT,hB,hK,aj⟩:=hrel;have E:=hid hd;have s:=hid am;have o:=hid hT;have C:=hid hB;have G:=hid hK;have t:=hid aj;clear hd am hT hB hK aj;have ag:=hid (t.out.blk aI.out (by decide) (by decide));have aa:=hid (t.out.ints (by decide) Z.out fun g hg e=>by have h1:=(Z.out.own.lt g hg).1;have h2:=aF.out g e.symm;omega);obtain⟨s0,aP,s1,aQ,s2,aR,s3,aT,s4,aV,s5,aX,s6,aZ,s7,a1⟩:=bc8 ag.out;by_cases r:k<m
  ·have a9:(0:Int)≤(k:Int):=Int.natCast_nonneg _;have ba:(k:Int)<(m:Int):=by omega
   obtain⟨bi,rfl,_,_⟩:=aa.out.has (by omega);have m0:=aa.out.at_ (zaO (L:=cols) (i:=k) (d:=0) (by rw[ax.out];exact r));have D:=hid (s.out k (Nat.le_refl _));have V:=hid o.out.basis;by_cases ho:N≤cols.getD k 0
   ·have aq:¬((cols.getD k 0:Nat):Int)<(N:Int):=by omega
    have u:=hid (show N≤cs.getD k 0 by rw[D.out];exact ho);generalize cols.getD k 0=ck at m0 D ho aq;have bj:=J.out;go_wp2_with fail
    refine(Tb.line o.out k r X.out).mono ?_;rintro e v1 ⟨A1,n1,c1,rfl,hv,hb⟩;obtain rfl:NN=n1:=by rw[hv.len];exact(zkb _ _ _).symm
    have aG:=hid (hv.cut N J.out);have a6:=hv.form.2.1;have a7:=hv.form.2.2.1;have a8:N≤c1:=by omega
    have be:N≤64:=by omega
    have ad:=hid (o.out.below hb);have av:=hid (C.out.trans (hb.mono o.out.hle));have az:=hid (G.out.below hb);have aA:=hid (t.out.below hb);have aJ:=hid (zad hb ag.out);obtain⟨t0,bm,t1,bo,t2,bq,t3,bs,t4,bu,t5,bw,t6,bz,t7,bC⟩:=bc8 aJ.out;clear hv hb s0 aP s1 aQ s2 aR s3 aT s4 aV s5 aX s6 aZ s7 a1;go_wp2_with fail
    refine(Vc.first A1 N c1 ((zk8 NN A cs k).take N) wr.heap.size _ aG.out).mono ?_;rintro e p ⟨rfl,hb⟩;rw[zTa (zk8 NN A cs k) N N 0 (by omega)];have v:=hid (ad.out.below hb);have z:=hid (av.out.trans (hb.mono ad.out.hle));have I:=hid (az.out.below hb);have ab:=hid (aA.out.below hb);clear hb;have F:=hid (show zSz N NN A a.toNat m 0 (cols,0)=zSz N NN A a.toNat (m-(k+1)+1) k (cs,n)by rw[E.out,show m-k=(m-(k+1))+1 by omega]);cases hfz:zkZ (zk8 NN A cs k) N 0 with
    | none =>
     have y:zbh none = -1:=rfl;rw[y];have f:=hid (F.out.trans (zS6 u.out hfz));clear hfz;go_wp2;go_roundw
     case rel=>exact⟨k+1,n,cs,by go_num,rfl,by omega,by omega,f.out,fun l hl=>s.out l (by omega),v.out,z.out,I.out,ab.out⟩
     case measure=>simp[intOf];omega
    | some j =>
     have y:zbh (some j)=(j:Int):=rfl;rw[y];have K:=hid (zWd V.out r u.out J.out hfz);have Y:=hid hfz;have bb:(0:Int)≤(j:Int):=Int.natCast_nonneg _;have aL:¬(j:Int)<0:=by omega
     have bd:(0:Int)≤(n:Int):=Int.natCast_nonneg _;clear hfz;go_upto_region 8 with fail
     go_cut[39] (fun c T=>c=.bool false∧T=p)
     case first =>
      go_wp2;go_meet;exact⟨by simp,rfl⟩
     obtain⟨rfl,rfl⟩:=hcut;clear y aL;rename World=>p
     go_upto_region 9 with fail
     go_cut[42] (fun c T=>c=.bool (decide (a≤(n:Int)))∧T=p)
     case first =>
      go_wp2;go_meet;exact⟨by simp,rfl⟩
     obtain⟨rfl,rfl⟩:=hcut;rename World=>p
     have P:=au.out;by_cases a5:n<a.toNat
     ·have Q:¬a≤(n:Int):=by omega
      have R:decide (a≤(n:Int))=false:=decide_eq_false Q;rw[R];have f:=hid (F.out.trans (zTo u.out Y.out (by omega)));have bh:(n:Int)<9223372036854775807:=by omega
      go_wp2_with fail
      refine(Tb.swap v.out k j r (by have:=K.out.1;omega) K.out.2.1 K.out.2.2 X.out).mono ?_;rintro e v3 ⟨rfl,hT3,hb3,hk3⟩;have aE:=hid hT3;have aw:=hid (z.out.trans hb3);have aB:=hid (I.out.trans hk3);have aC:=hid (ab.out.trans hk3);clear hT3 hb3 hk3;go_wp2;go_roundw
      case rel=>exact⟨k+1,n+1,cs.set k j,by go_num,by go_num,by omega,by omega,f.out,fun l hl=>by rw[gset (by rw[V.out.len];exact r),if_neg (by omega)];exact s.out l (by omega),aE.out,aw.out,aB.out,aC.out⟩
      case measure=>simp[intOf];omega
     ·have Q:a≤(n:Int):=by omega
      have R:decide (a≤(n:Int))=true:=decide_eq_true Q;rw[R];have f:=hid (F.out.trans (zS7 u.out Y.out (by omega)));go_wp2_with fail
      refine(Err.wrap 180 zve (n:Int) _).mono ?_;rintro e v3 ⟨rfl,rfl⟩;go_wp2;go_ret2
      exact⟨_,by rw[f.out];rfl,by rw[f.out];exact .inr ⟨rfl,_,rfl,zal _ _ _⟩,by rw[f.out];exact v.out.alloc _,z.out.trans (zae p _ |>.mono v.out.hle),I.out.below (zae p _)⟩
   ·have aq:((cols.getD k 0:Nat):Int)<(N:Int):=by omega
    have f:=hid (show zSz N NN A a.toNat m 0 (cols,0)=zSz N NN A a.toNat (m-(k+1)) (k+1) (cs,n)by rw[E.out,show m-k=(m-(k+1))+1 by omega];exact zTn (by rw[D.out];omega));generalize cols.getD k 0=ck at *
    go_wp2;go_roundw
    case rel=>exact⟨k+1,n,cs,by go_num,rfl,by omega,by omega,f.out,fun l hl=>s.out l (by omega),o.out,C.out,G.out,t.out⟩
    case measure=>simp[intOf];omega
  ·obtain rfl:m=k:=by omega
   have f:=hid (show zSz N NN A a.toNat m 0 (cols,0)=((cs,n),false)by rw[E.out,Nat.sub_self];rfl);go_wp2;go_ret2
   exact⟨_,by rw[f.out];rfl,by rw[f.out];exact .inl ⟨rfl,rfl⟩,by rw[f.out];exact o.out,C.out,G.out⟩
end Pr
end
