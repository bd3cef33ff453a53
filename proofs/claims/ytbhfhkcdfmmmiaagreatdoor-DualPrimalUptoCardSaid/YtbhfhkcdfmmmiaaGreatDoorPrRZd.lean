/- Contracts and lemmas: PrR PrN. Conditions: as each says. -/
import Derived.Test.YtbhfhkcdfmmmiaaGreatDoorTb6Zd
import Derived.Test.YtbhfhkcdfmmmiaaGreatDoorPrMZd
import Derived.Test.YtbhfhkcdfmmmiaaGreatDoorDuSZd
set_option linter.all false
set_option maxHeartbeats 4000000
set_option maxRecDepth 100000
namespace Go.Proofs.YtbhfhkcdfmmmiaaGreatDoor
open Go.RowKit Am
open Lib (hid)
attribute [local go_sem ↓] Go.wp_at_zero Go.wp_at_succ
variable {A:List (List Rat)}{may:List Bool}{cols cs:List Nat}{b:List Rat}{B N S f j k m n own:Nat}
theorem z0n(a:Basis m N A cols)(g:zhg mw m S (bc A cols))(d:b.length=m)(zb:∀x∈b,mw x≤S):∀x∈za5 A b cols,mw x≤sB m S S:=by
 have f:=a.len;unfold za5;rw[f];exact zrD (zci a.sq a.reg _).2 (zo0 zo5 a.sq a.reg g fun i e=>zrz zb (by rw[d];exact e))
theorem zVc(a:Basis m N A cols)(f:zhg mw m S (bc A cols))(zc:∀q∈zb4 A j,mw q≤S):∀x∈zav A cols j,mw x≤sB m S S:=by
 have e:=a.len;unfold zav;rw[e];exact zrD (zci a.sq a.reg _).2 (zo0 zo5 a.sq a.reg f fun i d=>zrz zc (by unfold zb4;rw[List.length_map,a.rect.len];exact d))
theorem zVf{p:List Rat}(h:zdi p may=some j):j<p.length:=by
 have s:=zKj p may p.length 0;unfold zdi at h;rw[h]at s;have:=s.2.1;omega
theorem PPiv.out{c:List Rat}(a:Basis m N A cols)(hc:c.length=N)(p:PPiv m N A b c may cols k j):j ∉ cols:=fun h=>by
 obtain⟨l,e⟩:=List.mem_iff_getElem?.1 h;have f:l<m:=by rw[←a.len];exact(List.getElem?_eq_some_iff.1 e).1
 have z:=(a.pri hc).zero l f;rw[getD_some (d:=0) e]at z;have d:=p.d;rw[z]at d;exact absurd d (by decide)
section
variable {W0 w:World} {H q:Nat} {rA:OA} {rc:Nat} {lA:List Value} {bA:OA} {bc_:Nat} {kA:OA} {kc:Nat} {eA:OA} {ec m N S own:Nat} {A:List (List Rat)} {b c:List Rat} {left:List Int}
  {tA:OA} {tc:Nat} {cols:List Nat}
namespace Pr
open Du (zCr)
theorem prun(h:zhi W0 w H q rA rc lA bA bc_ kA kc eA ec m N S own A b c left tA tc cols)(C:OA)(L Hc:Nat)(g:List Rat)(P:VecS w Hc (C,N,L) g)(zC:∀x∈g,mw x≤S)(M:OA)(Z O H':Nat)(may:List Bool)(hm:BoolsS w H' (M,Z,O) may)(V:zor m S≤LIM)(a:Int)(R:a≤9223372036854775807) :
  Calls Tryz.prog 35 #[.pointer (some ⟨q,0,none⟩),(C,N,L),(M,Z,O),.int .i64 a] w (zCr W0 w H q rA rc lA bA bc_ kA kc eA ec m N S own A b c left tA tc (pivs (zBX N A b g may) a.toNat cols)):=by
 have HP:=hid h;have HC:=hid P;have aM:=hid zC;have HM:=hid hm;have E:=hid V;have F:=hid (P.len.symm);have an:=zos V;have aI:=hid (show 16*sB m S S+8≤LIM by unfold pB at an;omega);have aq:=hid R;clear h P zC hm V an R;obtain⟨l,Y⟩:∃l,l=zBX N A b g may:=⟨_,rfl⟩
 have s:=hid Y;rw[←Y];clear Y;go_enter Tryz.func35,Tryz.ntmps35;go_wp2
 go_loopw [11] (fun nv wr=>∃(i:Nat) (cs:List Nat),nv=.int .i64 i∧i≤a.toNat∧pivs l a.toNat cols=upN i (pivs l (a.toNat-i) cs)∧zhi W0 wr H q rA rc lA bA bc_ kA kc eA ec m N S own A b c left tA tc cs∧Below H w wr∧Kept TT (Value.slice tA m tc).ownBlock w wr)
  (fun nv _=>a.toNat-(intOf nv).toNat)
 case atStart=>exact⟨0,cols,rfl,Nat.zero_le _,rfl,HP.out,Below.refl _ _,Kept.refl _⟩
 case round =>
  obtain⟨i,cs,rfl,W,n,Q,hB,hK⟩:=hrel;have K:=hid Q;have aw:=hid hB;have G:=hid hK;have u:=hid n;have HI:=hid W;have p:=hid Q.basis;have ay:=hid (G.out.vec (by decide) (by decide) HC.out);have aF:=hid (HM.out.kept G.out (by decide));clear Q hB hK n W;go_wp2_with fail
  refine(Tb.prices K.out C L g Hc ay.out aM.out E.out).mono ?_;rintro e v1 ⟨A1,n1,c1,rfl,hv,hb⟩;have aK:=hid hv;have ai:=hid (K.out.below hb);have ar:=hid (aw.out.trans (hb.mono K.out.hle));have aA:=hid (G.out.below hb);have aE:=hid (aF.out.below hb);clear hv hb;go_wp2_with fail
  refine(Pr.enter A1 n1 c1 (zaC N A cs g) wr.heap.size M Z O may H' _ aK.out aE.out).mono ?_;rintro e v2 ⟨rfl,hb⟩;have v:=hid (ai.out.below hb);have ad:=hid (ar.out.trans (hb.mono ai.out.hle));have ag:=hid (aA.out.below hb);clear hb;cases hen:zdi (zaC N A cs g) may with
  | none =>
   have d:=hid (show pivs l a.toNat cols=⟨cs,none,i,false⟩by rw[u.out,zvf (by rw[s.out];unfold zBX;rw[hen])];simp only[upN,Nat.zero_add]);have f:zbh none = -1:=rfl;rw[f];clear hen;go_wp2;go_ret3
   exact⟨_,by rw[d.out];rfl,by rw[d.out];exact .inl ⟨rfl,rfl⟩,by rw[d.out];exact v.out,ad.out,ag.out⟩
  | some j =>
   have f:zbh (some j)=(j:Int):=rfl;rw[f]
   have ae:=hid hen;have af:=hid (show j<N by have:=zVf hen;rwa [zKp F.out]at this);clear hen;go_upto_region 6 with fail
   go_cut[33] (fun c r=>c=false∧r=v2)
   case first =>
    go_wp2;go_meet;exact⟨by simp,rfl⟩
   obtain⟨rfl,rfl⟩:=hcut;clear f;rename World=>v2
   go_wp2_with fail
   refine(Tb.column v.out j af.out E.out).mono ?_;rintro e v3 ⟨A3,n3,c3,rfl,hv3,hb⟩;obtain rfl:n3=m:=by rw[hv3.len,(p.out.column_ok j).2]
   have aL:=hid hv3;have y:=hid (v.out.below hb);have au:=hid (ad.out.trans (hb.mono v.out.hle));have aB:=hid (ag.out.below hb);clear hv3 hb;go_wp2_with fail
   have aj:=hid (show(∀x∈za5 A b cs,mw x≤sB n3 S S)∧(∀x∈zav A cs j,mw x≤sB n3 S S)by
    obtain⟨_,_,_,B⟩:=y.out;have hz:=B.bas.good.2.2;exact⟨z0n p.out hz B.std.blen B.std.zb,zVc p.out hz (B.std.zcol af.out)⟩)
   refine(Tb.leave y.out (sB n3 S S) aI.out A3 c3 (zav A cs j) v2.heap.size aL.out aj.out.1 aj.out.2).mono ?_;rintro e o ⟨rfl,hb⟩;have z:=hid (y.out.below hb);have D:=hid (au.out.trans (hb.mono y.out.hle));have I:=hid (aB.out.below hb);clear hb;cases hlv:zDG cs (za5 A b cs) (zav A cs j)with
   | none =>
    have d:=hid (show pivs l a.toNat cols=⟨cs,some j,i,false⟩by rw[u.out,zxw (k:=j) (by rw[s.out];unfold zBX;rw[ae.out];simp only[hlv])];simp only[upN,Nat.zero_add]);have f:zbh none = -1:=rfl;rw[f];clear hlv;go_wp2;go_ret3
    exact⟨_,by rw[d.out];rfl,by rw[d.out];exact .inl ⟨rfl,rfl⟩,by rw[d.out];exact z.out,D.out,I.out⟩
   | some k =>
    have f:zbh (some k)=(k:Int):=rfl;rw[f]
    have X:l cs=.piv k j:=by rw[s.out];unfold zBX;rw[ae.out];simp only[hlv]
    have n:=zK6 p.out F.out (b:=b) (may:=may) (by rw[←s.out];exact X);have J:=hid n;have ah:=hid X;have aG:=hid (PPiv.out p.out F.out n);have aS:(0:Int)≤(i:Int):=Int.natCast_nonneg _;clear hlv X n;go_upto_region 10 with fail
    go_cut[45] (fun c r=>c=false∧r=o)
    case first =>
     go_wp2;go_meet;exact⟨by simp,rfl⟩
    obtain⟨rfl,rfl⟩:=hcut;clear f;rename World=>o
    go_upto_region 12 with fail
    go_cut[50] (fun c r=>c=.bool (decide (a≤(i:Int)))∧r=o)
    case first =>
     go_wp2;go_meet;exact⟨by simp,rfl⟩
    obtain⟨rfl,rfl⟩:=hcut;rename World=>o
    have W:=HI.out;have R:=aq.out;by_cases aR:i<a.toNat
    ·have T:¬a≤(i:Int):=by omega
     have U:=decide_eq_false T;rw[U];have aT:(i:Int)<9223372036854775807:=by omega
     go_wp2_with fail
     refine(Tb.swap z.out k j J.out.hk J.out.hj (by have:=J.out.t;grind) aG.out E.out).mono ?_;rintro e v5 ⟨rfl,hT5,hb5,hk5⟩;have aJ:=hid hT5;have av:=hid (D.out.trans hb5);have aC:=hid (I.out.trans hk5);clear hT5 hb5 hk5;go_wp2;go_roundw
     case rel=>exact⟨i+1,cs.set k j,by go_num,by omega,by rw[u.out,show a.toNat-i=(a.toNat-(i+1))+1 by omega,zxx ah.out,zDR],aJ.out,av.out,aC.out⟩
     case measure=>simp[intOf];omega
    ·have T:a≤(i:Int):=by omega
     have U:=decide_eq_true T;rw[U];have d:=hid (show pivs l a.toNat cols=⟨cs,none,i,true⟩by rw[u.out,show a.toNat-i=0 by omega,zsr ah.out];simp only[upN,Nat.zero_add]);go_wp2_with fail
     refine(Err.wrap 180 zve (i:Int) _).mono ?_;rintro e v5 ⟨rfl,rfl⟩;go_wp2;go_ret3
     exact⟨_,by rw[d.out];rfl,by rw[d.out];exact .inr ⟨rfl,_,rfl,zal _ _ _⟩,by rw[d.out];exact z.out.alloc _,D.out.trans (zae o _ |>.mono z.out.hle),I.out.below (zae o _)⟩
end Pr
end
theorem zT7{xs:List Rat}(h:j<n):el (xs.take n) j=el xs j:=by
 unfold el;rw[List.getD_eq_getElem?_getD,List.getD_eq_getElem?_getD,List.getElem?_take,if_pos h]
theorem zTa(xs:List Rat)(n:Nat):∀f s,s+f≤n→zkZ (xs.take n) f s=zkZ xs f s
 | 0,_,_=>rfl
 | f+1,s,h=>by
  unfold zkZ;rw[zT7 (by omega),zTa xs n f (s+1) (by omega)]
theorem zTn(h:¬own≤cs.getD k 0):zSz own N A B (f+1) k (cs,n)=zSz own N A B f (k+1) (cs,n):=by
 conv=>lhs;unfold zSz
 simp only[if_neg h]
theorem zS6(h:own≤cs.getD k 0)(e:zkZ (zk8 N A cs k) own 0=none):zSz own N A B (f+1) k (cs,n)=zSz own N A B f (k+1) (cs,n):=by
 conv=>lhs;unfold zSz
 simp only[if_pos h,e]
theorem zS7(h:own≤cs.getD k 0)(e:zkZ (zk8 N A cs k) own 0=some j)(a:B≤n):zSz own N A B (f+1) k (cs,n)=((cs,n),true):=by
 conv=>lhs;unfold zSz
 simp only[if_pos h,e,if_pos a]
theorem zTo(h:own≤cs.getD k 0)(e:zkZ (zk8 N A cs k) own 0=some j)(a:¬B≤n):zSz own N A B (f+1) k (cs,n)=zSz own N A B f (k+1) (cs.set k j,n+1):=by
 conv=>lhs;unfold zSz
 simp only[if_pos h,e,if_neg a]
theorem zWd(a:Basis m N A cols)(hk:k<m)(o:own≤cols.getD k 0)(p:own≤N)(e:zkZ (zk8 N A cols k) own 0=some j):j<own∧el (zav A cols j) k≠0∧j ∉ cols:=by
 have s:=zSM (zk8 N A cols k) own 0;rw[e]at s;obtain⟨_,s2,g⟩:=s;have hj:j<own:=by omega
 rw[a.line_el hk (by omega)]at g;refine⟨hj,g,fun h=>?_⟩;obtain⟨l,f⟩:=List.mem_iff_getElem?.1 h;have n:l<m:=by rw[←a.len];exact(List.getElem?_eq_some_iff.1 f).1
 have u:=(a.dic []).uni k l hk n
 rw[getD_some (d:=0) f]at u;by_cases i:l=k
 ·subst i;rw[getD_some (d:=0) f]at o;omega
 ·rw[if_neg i]at u;exact g u
section
variable {W0 w:World} {H q:Nat} {rA:OA} {rc:Nat} {lA:List Value} {bA:OA} {bc_:Nat} {kA:OA} {kc:Nat} {eA:OA} {ec m NN S own:Nat} {A:List (List Rat)} {b c:List Rat} {left:List Int}
  {tA:OA} {tc:Nat} {cols:List Nat}
def zVL (W0 w:World) (H q:Nat) (rA:OA) (rc:Nat) (lA:List Value) (bA:OA) (bc_:Nat) (kA:OA) (kc:Nat) (eA:OA) (ec m NN S own:Nat) (A:List (List Rat)) (b c:List Rat) (left:List Int) (tA:OA) (tc:Nat) (r:(List Nat × Nat) × Bool) (e:Ending) (w':World):Prop :=
  ∃ ev,e = .returned (.tuple #[(r.1.2:Int),ev]) ∧
    ((r.2=false∧ev=.nilIface)∨(r.2=true∧∃fb,ev=.iface 119 (.pointer (some ⟨fb,0,none⟩))∧w'.heap[fb]? = some (.cells #[.string zve,(r.1.2:Int),.iface 64 (.int .i64 180)] 123 (0,0)))) ∧
    zhi W0 w' H q rA rc lA bA bc_ kA kc eA ec m NN S own A b c left tA tc r.1.1∧Below H w w'∧Kept TT (Value.slice tA m tc).ownBlock w w'
namespace Pr
theorem pdrive(h:zhi W0 w H q rA rc lA bA bc_ kA kc eA ec m NN S own A b c left tA tc cols)(M:OA)(O N:Nat)(hN:N≤NN)(al:zor m S≤LIM)(a:Int)(P:a≤9223372036854775807) :
  Calls Tryz.prog 77 #[.agg #[(rA,m,rc),(NN:Int),(bA,m,bc_),(kA,NN,kc),(own:Int),(eA,m,ec),(M,m,O),(N:Int)],.pointer (some ⟨q,0,none⟩),.int .i64 a] w (zVL W0 w H q rA rc lA bA bc_ kA kc eA ec m NN S own A b c left tA tc (zSz N NN A a.toNat m 0 (cols,0))):=by
 have HP:=hid h;have ay:=hid h.hle;have X:=hid al;have J:=hid hN;have au:=hid P;have bc:=h.std.hm;have bf:=h.std.hN;have aF:=hid (show ∀g,(Value.slice tA m tc).ownBlock=some g→g<w.heap.size by
  intro g hg;obtain⟨_,_,_,hP⟩:=h;exact(hP.colsI.own.lt g hg).2)
 clear h al hN P;obtain⟨W,x⟩:∃W,(w.alloc (.cells #[(rA,m,rc),(NN:Int),(bA,m,bc_),(kA,NN,kc),(own:Int),(eA,m,ec),(M,m,O),(N:Int)] 95))=W:=⟨_,rfl⟩
 have af:=hid (show W.heap[w.heap.size]? = some (.cells #[(rA,m,rc),(NN:Int),(bA,m,bc_),(kA,NN,kc),(own:Int),(eA,m,ec),(M,m,O),(N:Int)] 95 (0,0))by rw[←x];exact zam (by simp));have BB:=hid (show Below w.heap.size w W by rw[←x];exact zae w _);have HZ:=hid (show w.heap.size+1≤W.heap.size by rw[←x];simp);go_enter Tryz.func77,Tryz.ntmps77;go_wp2_with fail
 clear x;have B:=hid (BB.out);have ae:=hid (HP.out.below B.out);have bk:=HZ.out;refine(Tb.basis ae.out).mono ?_;rintro e w1 ⟨B0,cB,rfl,hi,hb⟩;have Z:=hid hi;have aD:=hid (ae.out.below hb);have U:=hid (B.out.trans (hb.mono B.out.size));have aI:=hid (zad hb af.out);have ax:=hid (HP.out.basis.len);clear hi hb;go_wp2
 go_loopw [8,18] (fun nv i wr=>∃(k n:Nat) (cs:List Nat),i=.int .i64 k∧nv=.int .i64 n∧k≤m∧n≤k∧(zSz N NN A a.toNat m 0 (cols,0)=zSz N NN A a.toNat (m-k) k (cs,n))∧(∀l,k≤l→cs.getD l 0=cols.getD l 0)∧zhi W0 wr H q rA rc lA bA bc_ kA kc eA ec m NN S own A b c left tA tc cs∧Below H w wr∧Kept TT (Value.slice tA m tc).ownBlock w wr∧Kept TT (Value.slice tA m tc).ownBlock w1 wr)
  (fun _ i _=>m-(intOf i).toNat)
 case atStart=>exact⟨0,0,cols,rfl,rfl,Nat.zero_le _,Nat.zero_le _,rfl,fun _ _=>rfl,aD.out,U.out.mono ay.out,Kept.of_below U.out,Kept.refl _⟩
 case round =>
  obtain⟨k,n,cs,rfl,rfl,hk,bg,hd,am,hT,hB,hK,aj⟩:=hrel;have E:=hid hd;have s:=hid am;have o:=hid hT;have C:=hid hB;have G:=hid hK;have t:=hid aj;clear hd am hT hB hK aj;have ag:=hid (t.out.blk aI.out (by decide) (by decide));have aa:=hid (t.out.ints (by decide) Z.out fun g hg e=>by have h1:=(Z.out.own.lt g hg).1;have h2:=aF.out g e.symm;omega);obtain⟨_,_,_,_,_,_,_,_,_,_,_,_,_,_,s7,_⟩:=bc8 ag.out;by_cases r:k<m
  ·have a9:(0:Int)≤(k:Int):=Int.natCast_nonneg _;have ba:(k:Int)<(m:Int):=by omega
   obtain⟨bi,rfl,_,_⟩:=aa.out.has (by omega);have m0:=aa.out.at_ (zaO (L:=cols) (i:=k) (d:=0) (by rw[ax.out];exact r));have D:=hid (s.out k (Nat.le_refl _));have V:=hid o.out.basis;by_cases ho:N≤cols.getD k 0
   ·have aq:¬((cols.getD k 0:Nat):Int)<(N:Int):=by omega
    have u:=hid (show N≤cs.getD k 0 by rw[D.out];exact ho);generalize cols.getD k 0=ck at m0 D ho aq;have bj:=J.out;go_wp2_with fail
    refine(Tb.line o.out k r X.out).mono ?_;rintro e v1 ⟨A1,n1,c1,rfl,hv,hb⟩;obtain rfl:NN=n1:=by rw[hv.len];exact(zkb _ _ _).symm
    have aG:=hid (hv.cut N J.out);have a6:=hv.form.2.1;have a8:N≤c1:=by omega
    have ad:=hid (o.out.below hb);have av:=hid (C.out.trans (hb.mono o.out.hle));have az:=hid (G.out.below hb);have aA:=hid (t.out.below hb);have aJ:=hid (zad hb ag.out);obtain⟨_,_,_,_,_,_,_,_,_,_,_,_,_,_,t7,_⟩:=bc8 aJ.out;clear hv hb s7;go_wp2_with fail
    refine(Vc.first A1 N c1 ((zk8 NN A cs k).take N) wr.heap.size _ aG.out).mono ?_;rintro e p ⟨rfl,hb⟩;rw[zTa (zk8 NN A cs k) N N 0 (by omega)];have v:=hid (ad.out.below hb);have z:=hid (av.out.trans (hb.mono ad.out.hle));have I:=hid (az.out.below hb);have ab:=hid (aA.out.below hb);clear hb;have F:=hid (show zSz N NN A a.toNat m 0 (cols,0)=zSz N NN A a.toNat (m-(k+1)+1) k (cs,n)by rw[E.out,show m-k=(m-(k+1))+1 by omega]);cases hfz:zkZ (zk8 NN A cs k) N 0 with
    | none =>
     have y:zbh none = -1:=rfl;rw[y];have f:=hid (F.out.trans (zS6 u.out hfz));clear hfz;go_wp2;go_roundw
     case rel=>exact⟨k+1,n,cs,by go_num,rfl,by omega,by omega,f.out,fun l hl=>s.out l (by omega),v.out,z.out,I.out,ab.out⟩
     case measure=>simp[intOf];omega
    | some j =>
     have y:zbh (some j)=(j:Int):=rfl;rw[y];have K:=hid (zWd V.out r u.out J.out hfz);have Y:=hid hfz
     clear hfz;go_upto_region 8 with fail
     go_cut[39] (fun c T=>c=false∧T=p)
     case first =>
      go_wp2;go_meet;exact⟨by simp,rfl⟩
     obtain⟨rfl,rfl⟩:=hcut;clear y;rename World=>p
     go_upto_region 9 with fail
     go_cut[42] (fun c T=>c=.bool (decide (a≤(n:Int)))∧T=p)
     case first =>
      go_wp2;go_meet;exact⟨by simp,rfl⟩
     obtain⟨rfl,rfl⟩:=hcut;rename World=>p
     have P:=au.out;by_cases a5:n<a.toNat
     ·have Q:¬a≤(n:Int):=by omega
      have R:=decide_eq_false Q;rw[R];have f:=hid (F.out.trans (zTo u.out Y.out (by omega)));have bh:(n:Int)<9223372036854775807:=by omega
      go_wp2_with fail
      refine(Tb.swap v.out k j r (by have:=K.out.1;omega) K.out.2.1 K.out.2.2 X.out).mono ?_;rintro e v3 ⟨rfl,hT3,hb3,hk3⟩;have aE:=hid hT3;have aw:=hid (z.out.trans hb3);have aB:=hid (I.out.trans hk3);have aC:=hid (ab.out.trans hk3);clear hT3 hb3 hk3;go_wp2;go_roundw
      case rel=>exact⟨k+1,n+1,cs.set k j,by go_num,by go_num,by omega,by omega,f.out,fun l hl=>by rw[gset (by rw[V.out.len];exact r),if_neg (by omega)];exact s.out l (by omega),aE.out,aw.out,aB.out,aC.out⟩
      case measure=>simp[intOf];omega
     ·have Q:a≤(n:Int):=by omega
      have R:=decide_eq_true Q;rw[R];have f:=hid (F.out.trans (zS7 u.out Y.out (by omega)));go_wp2_with fail
      refine(Err.wrap 180 zve (n:Int) _).mono ?_;rintro e v3 ⟨rfl,rfl⟩;go_wp2;go_ret2
      exact⟨_,by rw[f.out];rfl,by rw[f.out];exact .inr ⟨rfl,_,rfl,zal _ _ _⟩,by rw[f.out];exact v.out.alloc _,z.out.trans (zae p _ |>.mono v.out.hle),I.out.below (zae p _)⟩
   ·have aq:((cols.getD k 0:Nat):Int)<(N:Int):=by omega
    have f:=hid (show zSz N NN A a.toNat m 0 (cols,0)=zSz N NN A a.toNat (m-(k+1)) (k+1) (cs,n)by rw[E.out,show m-k=(m-(k+1))+1 by omega];exact zTn (by rw[D.out];omega));generalize cols.getD k 0=ck at *
    go_wp2;go_roundw
    case rel=>exact⟨k+1,n,cs,by go_num,rfl,by omega,by omega,f.out,fun l hl=>s.out l (by omega),o.out,C.out,G.out,t.out⟩
    case measure=>simp[intOf];omega
  ·obtain rfl:m=k:=by omega
   have f:=hid (show zSz N NN A a.toNat m 0 (cols,0)=((cs,n),false)by rw[E.out,Nat.sub_self];rfl);go_wp2;go_ret2
   exact⟨_,by rw[f.out];rfl,by rw[f.out];exact .inl ⟨rfl,rfl⟩,by rw[f.out];exact o.out,C.out,G.out⟩
end Pr
end
