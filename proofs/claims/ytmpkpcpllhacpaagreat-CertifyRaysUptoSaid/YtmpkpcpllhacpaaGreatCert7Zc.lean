/- Contracts and lemmas: Cert7. Conditions: as each says. -/
import Derived.Test.YtmpkpcpllhacpaaGreatCert3Zc
set_option linter.all false
set_option maxHeartbeats 4000000
set_option maxRecDepth 100000
namespace Go.Proofs.YtmpkpcpllhacpaaGreat
open Go.RowKit Am
open Lib (hid)
attribute [local go_sem ↓] Go.wp_at_zero Go.wp_at_succ
theorem yf7{cost:List Rat}{rows:List PRow}{x d:List Rat}(h:znD cost rows x=false):yey cost rows x d=false:=by unfold yey;rw[h];rfl
theorem yf8{cost:List Rat}{rows:List PRow}{x d:List Rat}(h:d.length≠x.length):yey cost rows x d=false:=by unfold yey;rw[decide_eq_false h];simp
theorem yf9{cost:List Rat}{rows:List PRow}{x d:List Rat}(h:(d.any fun q=>decide (q<0))=true):yey cost rows x d=false:=by unfold yey;rw[h];simp
theorem yga{cost:List Rat}{rows:List PRow}{x d:List Rat}(h:(rows.all fun p=>zdH ⟨p.coef,p.kind,0⟩ d)=false):yey cost rows x d=false:=by unfold yey;rw[h];simp
theorem yf6{cost:List Rat}{rows:List PRow}{x d:List Rat}(h1:znD cost rows x=true)(a:d.length=x.length)(b:(d.any fun q=>decide (q<0))=false)(c:(rows.all fun p=>zdH ⟨p.coef,p.kind,0⟩ d)=true):yey cost rows x d=decide (dot cost d<0):=by unfold yey;rw[h1,decide_eq_true a,b,c];simp
namespace Ct
open Pb (zPu)
theorem unbounded_is(C:OA)(nc cc:Nat)(R:OA)(nr n:Nat)(cost:List Rat)(rows:List PRow)(X:OA)(r y:Nat)(x:List Rat)(E:OA)(o t:Nat)(d:List Rat)(w:World)(hc:VecS w 0 (.slice C nc cc) cost)(hr:RowsS w 0 (.slice R nr n) rows)(hx:VecS w 0 (.slice X r y) x)(he:VecS w 0 (.slice E o t) d)(hg:Good nc nr cost rows)(zx:Sm x)(zd:Sm d)(av:cost.length=nc) :
  Calls Tryz.prog 21 #[.agg #[.slice C nc cc,.slice R nr n],.slice X r y,.slice E o t] w fun e w'=>e=.returned (.bool (yey cost rows x d))∧Below w.heap.size w w':=by
 have j:=hid hg;have ZX:=hid zx;have ZD:=hid zd;have aI:=hid av;have V:=hid hx.len;have U:=hid he.len;have ak:=hid hr.len;have aP:=hid hg.hr;generalize hob:yey cost rows x d=ob;have v:=hid hob;clear hg zx zd av hob;obtain⟨W,s⟩:∃W,(w.alloc (.cells #[.slice C nc cc,.slice R nr n] 31))=W:=⟨_,rfl⟩
 have ao:=hid (show W.heap[w.heap.size]? = some (.cells #[.slice C nc cc,.slice R nr n] 31 (0,0))by rw[←s];exact zam (by simp));have BB:=hid (show Below w.heap.size w W by rw[←s];exact zae w _);have HC:=hid (show VecS W 0 (.slice C nc cc) cost by rw[←s];exact(hc).alloc _);have HR:=hid (show RowsS W 0 (.slice R nr n) rows by rw[←s];exact(hr).alloc _);have HX:=hid (show VecS W 0 (.slice X r y) x by rw[←s];exact(hx).alloc _);have HE:=hid (show VecS W 0 (.slice E o t) d by rw[←s];exact(he).alloc _)
 obtain⟨br,_,bs,bo⟩:=bc2 ao.out;clear hc hr hx he;go_enter Tryz.func21,Tryz.ntmps21;go_wp2_with fail
 clear s;with_reducible refine(Pb.may C nc cc R nr n cost rows _ HC.out HR.out j.out.hc (Nat.le_trans j.out.hr (by decide)) j.out.rw_ j.out.kd).mono ?_
 rintro e w1 ⟨rfl,hb⟩;have ae:=hid (zad hb ao.out);have P:=hid (HC.out.below hb);have O:=hid (HR.out.below hb);have N:=hid (HX.out.below hb);have ay:=hid (HE.out.below hb);have M:=hid (BB.out.trans ((hb).mono BB.out.size));obtain⟨bp,_,bq,bt⟩:=bc2 ae.out;clear hb;cases hf:znD cost rows x
 ·have l:=hid (show ob=false by rw[←v.out];exact yf7 hf);go_wp2_with fail
  with_reducible refine(fits_is C nc cc R nr n cost rows X r y x _ P.out O.out N.out j.out ZX.out false hf).mono ?_
  rintro e w2 ⟨rfl,hb⟩;have L:=hid (zad hb ae.out);have aB:=hid (P.out.below hb);have aF:=hid (O.out.below hb);have be:=hid (N.out.below hb);have ad:=hid (ay.out.below hb);have z:=hid (M.out.trans ((hb).mono M.out.size));obtain⟨_,_,a6,a5⟩:=bc2 L.out;clear hb;go_wp2;go_ret
  exact⟨by rw[l.out];first | done | rfl,z.out⟩
 ·have S:=hid hf;go_wp2_with fail
  with_reducible refine(fits_is C nc cc R nr n cost rows X r y x _ P.out O.out N.out j.out ZX.out true hf).mono ?_
  rintro e w2 ⟨rfl,hb⟩;have L:=hid (zad hb ae.out);have aB:=hid (P.out.below hb);have aF:=hid (O.out.below hb);have be:=hid (N.out.below hb);have ad:=hid (ay.out.below hb);have z:=hid (M.out.trans ((hb).mono M.out.size));obtain⟨_,_,a6,a5⟩:=bc2 L.out;clear hb hf;by_cases u:d.length=x.length
  ·have aZ:o=r:=by rw[U.out,V.out,u]
   subst aZ;have T:=hid u;clear u;go_wp2_with fail
   with_reducible refine(Vc.below E o t d 0 _ ad.out).mono ?_
   rintro e w3 ⟨rfl,hb⟩;have af:=hid (zad hb L.out);have aC:=hid (aB.out.below hb);have K:=hid (aF.out.below hb);have az:=hid (ad.out.below hb);have B:=hid (z.out.trans ((hb).mono z.out.size));obtain⟨_,_,bv,bu⟩:=bc2 af.out;clear hb;cases hneg:(d.any fun q=>decide (q<0))
   ·skip
    have aO:=hid hneg;clear hneg;have bk:=aP.out;go_wp2
    go_loopw [34] (fun i wr=>∃k:Nat,i=.int .i64 k∧k≤nr∧Below w3.heap.size w3 wr∧(rows.take k).all (fun p=>zdH ⟨p.coef,p.kind,0⟩ d)=true)
     (fun i _=>nr-(intOf i).toNat)
    case atStart=>exact⟨0,rfl,Nat.zero_le _,Below.refl _ _,rfl⟩
    case round =>
     obtain⟨k,rfl,hk,a,Z⟩:=hrel;have HT:=hid Z;by_cases aY:k<nr
     ·obtain⟨p,I⟩:∃p,rows[k]? = some p:=⟨rows[k]'(by rw[←ak.out];exact aY),List.getElem?_eq_getElem _⟩
      obtain⟨b,rfl,bg,bh⟩:=(K.out).has (by omega);obtain⟨Q,nq,H,g,A,m,c,D,md,cd,k0,k1,k2,k3,k4,hq,_⟩:=(K.out.below a).at_ I;have HP:=hid I;have Y:=hid (j.out.rw_ p (List.mem_of_getElem? I));generalize hkd:p.kind=kd at k1;have aN:=hid hkd;have ag:=hid (zad a af.out);have aD:=hid (aC.out.below a);have aG:=hid (K.out.below a);have J:=hid (az.out.below a);have HQ:=hid (show VecS wr 0 (.slice Q nq H) p.coef from hq);have HW:=hid (show Bel w3 wr from Bel.mk a)
      have F:=hid (B.out.trans ((a).mono B.out.size));obtain⟨a7,_,a8,_⟩:=bc2 ag.out;clear a Z I hq hkd;have bi:(0:Int)≤(k:Int):=Int.natCast_nonneg _;have bj:(k:Int)<(nr:Int):=by omega
      go_upto_region 6 with fail
      have aU:=hid (zal wr #[.slice Q nq H,.int .i64 kd,.bool g,.slice A m c,.slice D md cd] 68);obtain⟨_,_,_,_,_,_,_,_,r2,_,a2,_⟩:=bf5 aU.out;go_cut[] (fun wy=>wy.heap[wr.heap.size]? = some (.cells #[.slice Q nq H,.int .i64 kd,.bool false,.slice none 0 0,.slice none 0 0] 68 (0,0))∧Below wr.heap.size wr wy)
      case first =>
       go_wp2;go_meet
       case rel=>exact⟨zal _ _ _,zae _ _⟩
      case rest =>
       rename World=>wy
       obtain⟨au,a⟩:=hcut;have aA:=hid (J.out.below a);have ax:=hid (HQ.out.below a);have bd:=hid (HW.out.below a);have G:=hid (F.out.trans ((a).mono F.out.size));have KN:=hid au;obtain⟨ba,_,bb,_,bc,_,bw,_,bx,_⟩:=bc5 KN.out;clear au a r2 a2;go_wp2_with fail
       with_reducible refine(Pb.holds Q nq H false none 0 0 none 0 0 kd ⟨p.coef,p.kind,0⟩ aN.out E o t d _ ax.out (RatS.zero _) aA.out (by show p.coef.length=_;rw[Y.out.1,T.out,(ydT.1 S.out).1,aI.out]) (by have h:=(ax.out).len;rw[Y.out.1]at h;have:=j.out.hc;omega) Y.out.2.1 (by show mw 0≤_;decide +kernel) ZD.out).mono ?_
       rintro e v1 ⟨rfl,hb⟩;have a4:=hid (bd.out.below hb);have ah:=hid (G.out.trans ((hb).mono G.out.size));clear hb;cases hh:zdH ⟨p.coef,p.kind,0⟩ d
       ·have l:=hid (show ob=false by rw[←v.out];exact yga (ztT (f:=fun p=>zdH ⟨p.coef,p.kind,0⟩ d) HP.out hh));go_wp2;go_ret
        exact⟨by rw[l.out];first | done | rfl,ah.out⟩
       ·have HF:=hid (zv9 (f:=fun p=>zdH ⟨p.coef,p.kind,0⟩ d) HT.out HP.out hh);go_wp2;go_roundw
        case rel=>exact⟨k+1,by go_num,by omega,a4.out.b,HF.out⟩
        case measure=>simp[intOf];omega
     ·have aX:k=nr:=by omega
      have aH:=hid (show(rows.all fun p=>zdH ⟨p.coef,p.kind,0⟩ d)=true by have h:=HT.out;rw[aX,ak.out,List.take_length]at h;exact h);have l:=hid (show decide (dot cost d<0)=ob by rw[←v.out];exact(yf6 S.out T.out aO.out aH.out).symm);have aJ:=hid (show cost.length=d.length by rw[T.out];exact(ydT.1 S.out).1.symm);have ag:=hid (zad a af.out);have aD:=hid (aC.out.below a);have aG:=hid (K.out.below a);have J:=hid (az.out.below a);have F:=hid (B.out.trans ((a).mono B.out.size))
      obtain⟨a7,_,a8,_⟩:=bc2 ag.out;clear a Z;go_wp2_with fail
      with_reducible refine(zPu C nc cc R nr n cost rows E o t d _ aD.out aG.out J.out aJ.out (Nat.le_trans j.out.hc (by decide)) j.out.sc ZD.out).mono ?_
      rintro e v1 ⟨g3,A3,m3,c3,D3,md3,cd3,rfl,hn,hb⟩;have ar:=(hb).alloc (hb).size (.cells #[.bool g3,.slice A3 m3 c3,.slice D3 md3 cd3] 47);have aA:=hid (J.out.below ar);have HD:=hid (show RatS (v1.alloc (.cells #[.bool g3,.slice A3 m3 c3,.slice D3 md3 cd3] 47)) g3 (.slice A3 m3 c3) (.slice D3 md3 cd3) (dot cost d)from(hn).alloc _);have G:=hid (F.out.trans ((ar).mono F.out.size));have a9:=hid (zal v1 #[.bool g3,.slice A3 m3 c3,.slice D3 md3 cd3] 47);obtain⟨ba,_,bb,_,bc,_⟩:=bc3 a9.out
      clear hn hb;go_wp2_with fail
      have aR:=hid (show decide ((dot cost d).num<0)=ob by rw[←l.out];exact decide_eq_decide.2 (zvc _));with_reducible refine(Rt.sign g3 A3 m3 c3 D3 md3 cd3 (dot cost d) _ HD.out).mono ?_
      rintro e v2 ⟨rfl,hb⟩;have ah:=hid (G.out.trans ((hb).mono G.out.size));clear hb;go_wp2;go_ret
      exact⟨by show Ending.returned (Value.bool (decide ((dot cost d).num<0)))=_;rw[aR.out],ah.out⟩
   ·have l:=hid (show ob=false by rw[←v.out];exact yf9 hneg);go_wp2;go_ret
    exact⟨by rw[l.out];first | done | rfl,B.out⟩
  ·have l:=hid (show ob=false by rw[←v.out];exact yf8 u);have h1:¬((o:Int)=(r:Int)):=by rw[U.out,V.out];omega
   have h2:¬o=r:=by rw[U.out,V.out];exact u
   clear u;go_wp2;go_ret
   exact⟨by rw[l.out];first | done | rfl,z.out⟩
