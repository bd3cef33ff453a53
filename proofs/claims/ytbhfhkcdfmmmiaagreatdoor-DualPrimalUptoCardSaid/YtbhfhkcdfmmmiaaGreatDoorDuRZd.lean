/- Contracts and lemmas: DuR. Conditions: as each says. -/
import Derived.Test.YtbhfhkcdfmmmiaaGreatDoorDuBZd
import Derived.Test.YtbhfhkcdfmmmiaaGreatDoorBasRZd
set_option linter.all false
set_option maxHeartbeats 4000000
set_option maxRecDepth 100000
namespace Go.Proofs.YtbhfhkcdfmmmiaaGreatDoor
open Go.RowKit Am
open Lib (hid)
attribute [local go_sem ↓] Go.wp_at_zero Go.wp_at_succ
variable {A:List (List Rat)}{cols:List Nat}{c:List Rat}{N S f j k m:Nat}
def upN (i:Nat) (r:RunOut):RunOut:={ r with n:=r.n+i }
theorem zvf{next:List Nat→Am.Next}(h:next cols=.stop):pivs next f cols=⟨cols,none,0,false⟩:=by cases f<;>simp only[pivs,h]
theorem zxw{next:List Nat→Am.Next}(h:next cols=.bad k):pivs next f cols=⟨cols,some k,0,false⟩:=by cases f<;>simp only[pivs,h]
theorem zsr{next:List Nat→Am.Next}(h:next cols=.piv k j):pivs next 0 cols=⟨cols,none,0,true⟩:=by simp only[pivs,h]
theorem zxx{next:List Nat→Am.Next}(h:next cols=.piv k j):pivs next (f+1) cols=upN 1 (pivs next f (cols.set k j)):=by simp only[pivs,h];rfl
theorem zDR(i:Nat)(r:RunOut):upN i (upN 1 r)=upN (i+1) r:=by simp only[upN,Nat.add_assoc,Nat.add_comm 1 i]
abbrev zve:ByteArray:={ data:=#[112,105,118,111,116] }
theorem zvh(d:Basis m N A cols)(hm:m≤64)(f:zhg mw m S (bc A cols))(zA:∀r∈A,∀q∈r,mw q≤S)(hS:1≤S)(hc:c.length=N)(zc:∀x∈c,mw x≤S):∀q∈zaC N A cols c,mw q≤2*pB m S+2:=fun q e=>by
 unfold zaC at e;obtain⟨k,hk⟩:=List.mem_iff_getElem?.1 e;unfold zly at hk;rw[List.getElem?_zipWith]at hk;cases ha:c[k]? with
 | none=>rw[ha]at hk;cases hk
 | some a =>
  cases hb:(byL N A (zcl A cols c))[k]? with
  | none=>rw[ha,hb]at hk;cases hk
  | some b =>
   rw[ha,hb]at hk;injection hk with hk;subst hk;have h1:=zc a (List.mem_of_getElem? ha);have g:=zt3 d.rect.len hm zA (znb d f hc zc) (zma m S S) hS b (List.mem_of_getElem? hb);have i:=zrI a (-1*b);have j:=zdI (-1) b;have l:mw (-1)≤1:=by rw[zhY];exact mw1
   unfold pB;omega
theorem zAX{r:Nat}(a:Basis m N A cols)(hm:m≤64)(e:zhg mw m S (bc A cols))(zA:∀r∈A,∀q∈r,mw q≤S)(hS:1≤S)(hr:r<m):∀q∈zk8 N A cols r,mw q≤2*pB m S+2:=fun q d=>by
 have:=zt3 a.rect.len hm zA (ziO a e hS hr) (zma m S S) hS q d;unfold pB;omega
theorem DPiv.out{b:List Rat}(a:Basis m N A cols)(p:DPiv m N A b c cols k j):j ∉ cols:=fun h=>by
 obtain⟨l,e⟩:=List.mem_iff_getElem?.1 h;have f:l<m:=by rw[←a.len];exact(List.getElem?_eq_some_iff.1 e).1
 have u:=(a.dic b).uni k l p.hk f
 rw[getD_some (d:=0) e]at u;have t:=p.t;rw[u]at t;split at t<;>grind
section
variable {W0 w:World} {H q:Nat} {rA:OA} {rc:Nat} {lA:List Value} {bA:OA} {bc_:Nat} {kA:OA} {kc:Nat} {eA:OA} {ec m N S own:Nat} {A:List (List Rat)} {b c:List Rat} {left:List Int}
  {tA:OA} {tc:Nat} {cols:List Nat}
namespace Du
theorem right(h:zhi W0 w H q rA rc lA bA bc_ kA kc eA ec m N S own A b c left tA tc cols)(M:OA)(f k:Nat)(may:List Bool)(hm:BoolsS w k (M,N,f) may)(n:zor m S≤LIM) :
  Calls Tryz.prog 63 #[.pointer (some ⟨q,0,none⟩),(kA,N,kc),(M,N,f)] w fun e w'=>e=.returned (.bool (zdi (zaC N A cols c) may).isNone)∧Below w.heap.size w w':=by
 have s:=hid h;have r:=hid hm;have p:=hid n;obtain⟨qb,xA,xc,g⟩:=h;have o:=hid g.stdN.C;have u:=hid g.std.zc;clear g hm n;go_enter Tryz.func63,Tryz.ntmps63;go_wp2_with fail
 refine(Tb.prices s.out kA kc c 0 o.out u.out p.out).mono ?_;rintro e w1 ⟨A1,n1,c1,rfl,hv,hb⟩;have t:=hid hv;have a:=hid hb;clear hv hb;go_wp2_with fail
 refine(Pr.enter A1 n1 c1 (zaC N A cols c) w.heap.size M N f may k _ t.out (r.out.below a.out)).mono ?_;rintro e v ⟨rfl,hb⟩;have l:=hid (a.out.trans (hb.mono a.out.size));clear hb;cases he:zdi (zaC N A cols c) may with
 | none =>
  have i:zbh none = -1:=rfl;rw[i];have d:=hid (show(zdi (zaC N A cols c) may).isNone=true by rw[he];rfl);clear he;go_wp2;go_ret
  exact⟨by rw[d.out];rfl,l.out⟩
 | some j =>
  have i:zbh (some j)=(j:Int):=rfl;rw[i];have d:=hid (show(zdi (zaC N A cols c) may).isNone=false by rw[he];rfl);clear he;go_wp2;go_ret
  exact⟨by rw[d.out];rfl,l.out⟩
def zCr (W0 w:World) (H q:Nat) (rA:OA) (rc:Nat) (lA:List Value) (bA:OA) (bc_:Nat) (kA:OA) (kc:Nat) (eA:OA) (ec m N S own:Nat) (A:List (List Rat)) (b c:List Rat) (left:List Int) (tA:OA) (tc:Nat) (r:RunOut) (e:Ending) (w':World):Prop :=
  ∃ ev,e = .returned (.tuple #[.int .i64 (zbh r.at_), .int .i64 (r.n:Int),ev]) ∧
    ((r.err=false∧ev=.nilIface)∨(r.err=true∧∃fb,ev=.iface 119 (.pointer (some ⟨fb,0,none⟩))∧w'.heap[fb]? = some (.cells #[.string zve,(r.n:Int),.iface 64 (.int .i64 180)] 123 (0,0)))) ∧
    zhi W0 w' H q rA rc lA bA bc_ kA kc eA ec m N S own A b c left tA tc r.cols∧Below H w w'∧Kept TT (Value.slice tA m tc).ownBlock w w'
theorem run_no(h:zhi W0 w H q rA rc lA bA bc_ kA kc eA ec m N S own A b c left tA tc cols)(M:OA)(a d:Nat)(may:List Bool)(hm:BoolsS w d (M,N,a) may)(f:zor m S≤LIM)(o:Int)(hr:zdi (zaC N A cols c) may≠none) :
  Calls Tryz.prog 27 #[.pointer (some ⟨q,0,none⟩),(kA,N,kc),(M,N,a),.int .i64 o] w fun e w'=>e=.returned (.tuple #[.int .i64 (-1),.int .i64 0,.iface 64 (.int .i64 190)])∧Below w.heap.size w w':=by
 have l:=hid h;have k:=hid hm;have i:=hid f;have n:=hid (show(zdi (zaC N A cols c) may).isNone=false by cases he:zdi (zaC N A cols c) may with | none=>exact absurd he hr | some j=>rfl);clear h hm f hr;go_enter Tryz.func27,Tryz.ntmps27;go_wp2_with fail
 refine(right l.out M a d may k.out i.out).mono ?_;rintro e w1 ⟨rfl,hb⟩;have g:=hid hb;clear hb;rw[n.out];go_wp2;go_ret3
 exact⟨rfl,g.out⟩
theorem run(h:zhi W0 w H q rA rc lA bA bc_ kA kc eA ec m N S own A b c left tA tc cols)(M:OA)(B W:Nat)(hm:BoolsS w W (M,N,B) (List.replicate N true))(Q:zor m S≤LIM)(a:Int)(L:a≤9223372036854775807)(hr:zdi (zaC N A cols c) (List.replicate N true)=none) :
  Calls Tryz.prog 27 #[.pointer (some ⟨q,0,none⟩),(kA,N,kc),(M,N,B),.int .i64 a] w (zCr W0 w H q rA rc lA bA bc_ kA kc eA ec m N S own A b c left tA tc (pivs (zbE N A b c (List.replicate N true)) a.toNat cols)):=by
 have HP:=hid h;have HM:=hid hm;have v:=hid Q;have Y:=hid h.std.clen;have HR:=hid (show(zdi (zaC N A cols c) (List.replicate N true)).isNone=true by rw[hr];rfl);have ay:=hid h.hle;have aM:=zos Q;have aH:=hid (show 16*(2*pB m S+2)+8≤LIM by omega);have aq:=hid L;clear h hm Q hr aM L;obtain⟨l,U⟩:∃l,l=zbE N A b c (List.replicate N true):=⟨_,rfl⟩
 have x:=hid U;rw[←U];clear U;go_enter Tryz.func27,Tryz.ntmps27;go_wp2_with fail
 refine(right HP.out M B W _ HM.out v.out).mono ?_;rintro e w1 ⟨rfl,hb⟩;have D:=hid hb;clear hb;rw[HR.out];go_wp2
 go_loopw [11] (fun V wr=>∃(i:Nat) (cs:List Nat),V=.int .i64 i∧i≤a.toNat∧pivs l a.toNat cols=upN i (pivs l (a.toNat-i) cs)∧zhi W0 wr H q rA rc lA bA bc_ kA kc eA ec m N S own A b c left tA tc cs∧Below H w wr∧Kept TT (Value.slice tA m tc).ownBlock w wr)
  (fun V _=>a.toNat-(intOf V).toNat)
 case atStart=>exact⟨0,cols,rfl,Nat.zero_le _,rfl,HP.out.below D.out,D.out.mono ay.out,Kept.of_below D.out⟩
 case round =>
  obtain⟨i,cs,rfl,R,n,K,hB,hK⟩:=hrel;have I:=hid K;have aw:=hid hB;have HK:=hid hK;have y:=hid n;have HI:=hid R;have p:=hid K.basis;clear K hB hK n R;go_wp2_with fail
  refine(leave I.out).mono ?_;rintro e v1 ⟨rfl,hb⟩;have r:=hid (I.out.below hb);have X:=hid (aw.out.trans (hb.mono I.out.hle));have aa:=hid (HK.out.below hb);clear hb;cases hlv:zi5 cs (za5 A b cs)with
  | none =>
   have d:=hid (show pivs l a.toNat cols=⟨cs,none,i,false⟩by rw[y.out,zvf (by rw[x.out];unfold zbE;rw[hlv])];simp only[upN,Nat.zero_add]);have f:zbh none = -1:=rfl;rw[f];clear hlv;go_wp2;go_ret3
   exact⟨_,by rw[d.out];rfl,by rw[d.out];exact .inl ⟨rfl,rfl⟩,by rw[d.out];exact r.out,X.out,aa.out⟩
  | some k =>
   have f:zbh (some k)=(k:Int):=rfl;rw[f];go_upto_region 5 with fail
   go_cut[28] (fun c u=>c=false∧u=v1)
   case first =>
    go_wp2;go_meet;exact⟨by simp,rfl⟩
   obtain⟨rfl,rfl⟩:=hcut;clear f;rename World=>v1
   have ap:k<m:=by
    have s:=zdk cs (za5 A b cs) (za5 A b cs).length;unfold zi5 at hlv;rw[hlv,(p.out.vals_ok b).2]at s;exact s.1
   have ac:=hid ap;have ad:=hid hlv;clear hlv ap;obtain⟨aS,aU,aV,g⟩:=r.out;have ax:=hid g.stdN.C;have al:=hid g.std.zc;have aj:=hid g.std.zA;have ak:=hid g.bas.good.2.2;have Z:=hid g.std.hS;have af:=hid g.std.hm;have aE:=hid g.std.hN;clear g;go_wp2_with fail
   refine(Tb.prices r.out kA kc c 0 ax.out al.out v.out).mono ?_;rintro e v2 ⟨A2,n2,c2,rfl,hv2,hb⟩;have aJ:=hid hv2;have J:=hid (r.out.below hb);have ar:=hid (X.out.trans (hb.mono r.out.hle));have aB:=hid (aa.out.below hb);clear hv2 hb;go_wp2_with fail
   refine(Tb.line J.out k ac.out v.out).mono ?_;rintro e v3 ⟨A3,n3,c3,rfl,hv3,hb⟩;have aL:=hid hv3;have aK:=hid (aJ.out.below hb);have ai:=hid (J.out.below hb);have au:=hid (ar.out.trans (hb.mono J.out.hle));have ab:=hid (aB.out.below hb);clear hv3 hb;have aD:=hid (HM.out.kept ab.out (by decide));go_wp2_with fail
   with_reducible refine(enter (2*pB m S+2) aH.out A2 n2 c2 (zaC N A cs c) v1.heap.size A3 n3 c3 (zk8 N A cs k) v2.heap.size M N B (List.replicate N true) _ aK.out aL.out (by rw[List.length_replicate]) (by have:=aE.out;omega) aD.out.reads (zvh p.out af.out ak.out aj.out Z.out Y.out al.out) (zAX p.out af.out ak.out aj.out Z.out ac.out)).mono ?_
   rintro e o ⟨rfl,hb⟩;have z:=hid (ai.out.below hb);have E:=hid (au.out.trans (hb.mono ai.out.hle));have F:=hid (ab.out.below hb);clear hb;cases hen:zhy (zaC N A cs c) (zk8 N A cs k) (List.replicate N true)with
   | none =>
    have d:=hid (show pivs l a.toNat cols=⟨cs,some k,i,false⟩by rw[y.out,zxw (k:=k) (by rw[x.out];unfold zbE;rw[ad.out];simp only[hen])];simp only[upN,Nat.zero_add]);have f:zbh none = -1:=rfl;rw[f];clear hen;go_wp2;go_ret3
    exact⟨_,by rw[d.out];rfl,by rw[d.out];exact .inl ⟨rfl,rfl⟩,by rw[d.out];exact z.out,E.out,F.out⟩
   | some j =>
    have f:zbh (some j)=(j:Int):=rfl;rw[f];have T:l cs=.piv k j:=by rw[x.out];unfold zbE;rw[ad.out];simp only[hen]
    have n:=zwH p.out Y.out (b:=b) (by rw[←x.out];exact T);have G:=hid n;have ag:=hid T;have aF:=hid (DPiv.out p.out n);have aQ:(0:Int)≤(i:Int):=Int.natCast_nonneg _;clear hen T n;go_upto_region 10 with fail
    go_cut[47] (fun c u=>c=false∧u=o)
    case first =>
     go_wp2;go_meet;exact⟨by simp,rfl⟩
    obtain⟨rfl,rfl⟩:=hcut;clear f;rename World=>o
    go_upto_region 12 with fail
    go_cut[52] (fun c u=>c=.bool (decide (a≤(i:Int)))∧u=o)
    case first =>
     go_wp2;go_meet;exact⟨by simp,rfl⟩
    obtain⟨rfl,rfl⟩:=hcut;rename World=>o
    have R:=HI.out;have L:=aq.out;by_cases aP:i<a.toNat
    ·have ao:¬(i:Int)≥a:=by omega
     have O:¬a≤(i:Int):=by omega
     have P:=decide_eq_false O;rw[P];have aR:(i:Int)<9223372036854775807:=by omega
     go_wp2_with fail
     refine(Tb.swap z.out k j G.out.hk G.out.hj (by have:=G.out.t;grind) aF.out v.out).mono ?_;rintro e v5 ⟨rfl,hT5,hb5,hk5⟩;have aI:=hid hT5;have av:=hid (E.out.trans hb5);have aC:=hid (F.out.trans hk5);clear hT5 hb5 hk5;go_wp2;go_roundw
     case rel=>exact⟨i+1,cs.set k j,by go_num,by omega,by rw[y.out,show a.toNat-i=(a.toNat-(i+1))+1 by omega,zxx ag.out,zDR],aI.out,av.out,aC.out⟩
     case measure=>simp[intOf];omega
    ·have ao:(i:Int)≥a:=by omega
     have O:a≤(i:Int):=ao;have P:=decide_eq_true O;rw[P];have d:=hid (show pivs l a.toNat cols=⟨cs,none,i,true⟩by rw[y.out,show a.toNat-i=0 by omega,zsr ag.out];simp only[upN,Nat.zero_add]);go_wp2_with fail
     refine(Err.wrap 180 zve (i:Int) _).mono ?_;rintro e v5 ⟨rfl,rfl⟩;go_wp2;go_ret3
     exact⟨_,by rw[d.out];rfl,by rw[d.out];exact .inr ⟨rfl,_,rfl,zal _ _ _⟩,by rw[d.out];exact z.out.alloc _,E.out.trans (zae o _ |>.mono z.out.hle),F.out.below (zae o _)⟩
end Du
end
