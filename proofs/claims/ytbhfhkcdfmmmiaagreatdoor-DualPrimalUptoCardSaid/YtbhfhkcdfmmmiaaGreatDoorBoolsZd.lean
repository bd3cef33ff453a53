/- Contracts and lemmas: Bools Vec10 PrE DuA DuC Err2 Err3 Err4 Abs. Conditions: as each says. -/
import Derived.Test.YtbhfhkcdfmmmiaaGreatDoorBasMemZd
import Derived.Laws.Cover1
import Derived.Test.YtbhfhkcdfmmmiaaGreatDoorErrZd
import Derived.Below
set_option linter.all false
set_option maxHeartbeats 4000000
set_option maxRecDepth 100000
namespace Go.Proofs.YtbhfhkcdfmmmiaaGreatDoor
open Go.RowKit Am
open Lib (hid)
variable {t:Addr}{may xs:List Bool}{l p:List Rat}{b c k n:Nat}{A:OA}{q:Rat}{v:Value}{w w1:World}
theorem zuV:(Tryz.prog.info? 4).map (fun i=>(i.zero,i.size,i.bytes))=some (some (.bool false),1,1):=by kernel_rfl
def tcells (xs:List Bool):List Value:=xs.map fun x=>.bool x
structure BoolsS (w:World) (H:Nat) (v:Value) (xs:List Bool):Prop where
  own:w.ownsRow H 4 1 v xs.length (tcells xs)
namespace BoolsS
variable {w w':World} {H:Nat} {v:Value} {xs:List Bool}
theorem keep(h:BoolsS w H v xs)(hk:∀k,v.ownBlock=some k→w'.heap[k]? = w.heap[k]?):BoolsS w' H v xs:=⟨zc9 h.own hk⟩
theorem below(h:BoolsS w H v xs)(a:Below w.heap.size w w'):BoolsS w' H v xs:=h.keep fun k hk=>a.block k (h.own.lt k hk).2
theorem alloc(h:BoolsS w H v xs)(o:Obj):BoolsS (w.alloc o) H v xs:=h.below (zae w o)
theorem drew(h:BoolsS w H v xs):BoolsS w.drew H v xs:=h.below (zap w 1)
theorem base{a:Nat}(h:BoolsS w H v xs)(b:a≤H):BoolsS w a v xs:=⟨zbu h.own b⟩
theorem tk{t:TypeId}(h:BoolsS w H v xs)(hk:TKeep t w w')(h1:4≠t):BoolsS w' H v xs :=
 h.keep fun k a=>hk k (h.own.lt k a).2 fun cs e=>za6 h.own e h1 a
theorem kept{T:List TypeId}{b:Option Nat}(h:BoolsS w H v xs)(hk:Kept T b w w')(h1:4 ∉ T):BoolsS w' H v xs:=by
 refine h.keep fun k a=>?_
 rcases h.own.2 with ⟨rfl,_⟩ | ⟨g',cap,cur,rfl,_,c,_⟩
 ·cases a
 ·injection a with a;subst a;rw[c];exact hk.blk c h1 (by decide)
theorem form(h:BoolsS w H (A,n,c) xs):n=xs.length∧n≤c∧c≤maxLen∧((A=none∧c=0∧xs=[])∨∃g,A=some ⟨g,0,none⟩∧H≤g∧g<w.heap.size):=by
 rcases h.own.2 with ⟨b,a⟩ | ⟨g,cap,cur,b,hg,d,a,hm,_⟩
 ·injection b with e1 e2 e3;subst e1 e2 e3;exact⟨a.symm,Nat.le_refl _,Nat.zero_le _,.inl ⟨rfl,rfl,List.length_eq_zero_iff.1 a⟩⟩
 ·injection b with e1 e2 e3;subst e1 e2 e3;exact⟨rfl,a,hm,.inr ⟨g,rfl,hg,(Array.getElem?_eq_some_iff.1 d).1⟩⟩
theorem len(h:BoolsS w H (A,n,c) xs):n=xs.length:=h.form.1
theorem has(h:BoolsS w H (A,n,c) xs)(e:0<n):∃g,A=some ⟨g,0,none⟩∧H≤g∧g<w.heap.size:=by
 obtain⟨h1,b,d,a | a⟩:=h.form
 ·omega
 ·exact a
theorem slice(h:BoolsS w H v xs):∃A c,v=.slice A xs.length c:=by
 rcases h.own.2 with ⟨a,b⟩ | ⟨g,cap,cur,a,_⟩
 ·exact⟨_,_,by rw[a,b]⟩
 ·exact⟨_,_,a⟩
theorem fro(h:BoolsS w H (b,n,c) xs)(j:Nat):w.frozen? ⟨b,j,none⟩=false:=by
 have a:=h.len;subst a;exact h.own.frozenAt j
theorem at_(h:BoolsS w H (b,n,c) xs){x:Bool}(hk:xs[k]? = some x):w.cell? ⟨b,k,none⟩=some (.bool x):=by
 have a:=h.len;subst a;have d:=(List.getElem?_eq_some_iff.1 hk).1;rw[h.own.cellAt _ (by omega)];simp[tcells,hk]
theorem store(h:BoolsS w H (b,n,c) xs)(k:Nat)(x:Bool):BoolsS (w.setCell ⟨b,k,none⟩ x) H (b,n,c) (xs.set k x):=by
 have a:=h.len;subst a;refine⟨?_⟩;have:=(h.own.stored k x).1;rw[List.length_set];simpa[tcells,List.map_set]using this
end BoolsS
def zgu (w:World) (A:OA) (xs:List Bool):Prop:=∀(k:Nat) (x:Bool),xs[k]? = some x→∃b o,A=some ⟨b,o,none⟩∧w.cell? ⟨b,o+k,none⟩=some (.bool x)
theorem zgu.below{w':World}(h:zgu w A xs)(a:Below w.heap.size w w'):zgu w' A xs:=fun k x hk=>by
 obtain⟨b,o,e,hc⟩:=h k x hk;exact⟨b,o,e,zab a hc⟩
theorem BoolsS.reads{H:Nat}(h:BoolsS w H (A,n,c) xs):zgu w A xs:=fun k x hk=>by
 have a:=(List.getElem?_eq_some_iff.1 hk).1;obtain⟨g,rfl,_,_⟩:=h.has (by rw[h.len];omega);exact⟨g,0,rfl,by rw[Nat.zero_add];exact h.at_ hk⟩
attribute [local go_sem ↓] Go.wp_at_zero Go.wp_at_succ
theorem zoD{xs:List Rat}{k:Nat}(hk:el xs k≠0):∀(f s:Nat),s≤k→k<s+f→(∀j,s≤j→j<k→el xs j=0)→zkZ xs f s=some k
 | 0,s,h1,h2,_=>by omega
 | f+1,s,h1,h2,hz=>by
  unfold zkZ;by_cases e:s=k
  ·subst e;rw[if_neg hk]
  ·rw[if_pos (hz s (Nat.le_refl _) (by omega))];exact zoD hk f (s+1) (by omega) (by omega) fun j a b=>hz j (by omega) b
theorem zk0{xs:List Rat}:∀(f s:Nat),(∀j,s≤j→j<s+f→el xs j=0)→zkZ xs f s=none
 | 0,_,_=>rfl
 | f+1,s,hz=>by
  unfold zkZ;rw[if_pos (hz s (Nat.le_refl _) (by omega))];exact zk0 f (s+1) fun j a b=>hz j (by omega) (by omega)
def zbh:Option Nat→Int
  | none => -1
  | some k=>(k:Int)
namespace Vc
theorem first(A:OA)(n c:Nat)(qs:List Rat)(H:Nat)(w:World)(h:VecS w H (A,n,c) qs) :
  Calls Tryz.prog 114 #[(A,n,c)] w fun e w'=>e=.returned (.int .i64 (zbh (zkZ qs n 0)))∧Below w.heap.size w w':=by
 have t:=h.len;have s:=h.form;have z:=hid t;have C:=hid h;have P:n≤9223372036854775807:=by have F:=s.2.2.1;unfold maxLen at F;omega
 clear h s t;go_enter Tryz.func114,Tryz.ntmps114;go_wp2
 go_loopw [7] (fun i wr=>∃k:Nat,i=.int .i64 k∧k≤n∧Below w.heap.size w wr∧∀j,j<k→el qs j=0)
  (fun i _=>n-(intOf i).toNat)
 case atStart=>exact⟨0,rfl,Nat.zero_le _,Below.refl _ _,fun j hj=>absurd hj (Nat.not_lt_zero _)⟩
 case round =>
  obtain⟨k,rfl,hk,f,l⟩:=hrel;have m:=hid f;have p:=hid l;by_cases G:k<n
  ·have q:=hid (C.out.below f);obtain⟨b,rfl,L,M⟩:=q.out.has (by omega);have u:=zaH (xs:=qs) (j:=k) (by rw[←z.out];exact G);obtain⟨g,x,J,D,y,K,E,Q,R,k2,r⟩:=q.out.at_ u;have B:=hid r;have N:(0:Int)≤(k:Int):=Int.natCast_nonneg _;have O:(k:Int)<(n:Int):=by omega
   clear f l r u;go_wp2_with fail
   refine(Rt.zero g x J D y K E (el qs k) _ (B.out.alloc _)).mono ?_;rintro e S ⟨rfl,hb⟩;have o:=hid (m.out.trans (((zae wr _).trans (hb.mono (by simp))).mono m.out.size));clear hb;by_cases a:el qs k=0
   ·have I:zr (el qs k)=true:=decide_eq_true a;have d:=hid (show ∀j,j<k+1→el qs j=0 from fun j hj=>by
     by_cases e:j=k
     ·rw[e];exact a
     ·exact p.out j (by omega))
    clear a;go_wp2;go_roundw
    case rel=>exact⟨k+1,by go_num,by omega,o.out,d.out⟩
    case measure=>simp[intOf];omega
   ·have I:zr (el qs k)=false:=decide_eq_false a;have d:=hid (zoD a n 0 (Nat.zero_le _) (by omega) fun j _ hj=>p.out j hj);clear a;go_wp2;go_ret
    exact⟨by rw[d.out];rfl,o.out⟩
  ·obtain rfl:n=k:=by omega
   have d:=hid (zk0 (xs:=qs) n 0 fun j _ hj=>l j (by omega));clear f l;go_wp2;go_ret
   exact⟨by rw[d.out];rfl,m.out⟩
end Vc
theorem zkH{p:List Rat}{may:List Bool}{k:Nat}(hk:may.getD k false=true∧el p k<0):∀(f s:Nat),s≤k→k<s+f→(∀j,s≤j→j<k→¬(may.getD j false=true∧el p j<0))→zfV p may f s=some k
 | 0,s,h1,h2,_=>by omega
 | f+1,s,h1,h2,hz=>by
  unfold zfV;by_cases e:s=k
  ·subst e;rw[if_pos hk]
  ·rw[if_neg (hz s (Nat.le_refl _) (by omega))];exact zkH hk f (s+1) (by omega) (by omega) fun j a b=>hz j (by omega) b
theorem zhz{p:List Rat}{may:List Bool}:∀(f s:Nat),(∀j,s≤j→j<s+f→¬(may.getD j false=true∧el p j<0))→zfV p may f s=none
 | 0,_,_=>rfl
 | f+1,s,hz=>by
  unfold zfV;rw[if_neg (hz s (Nat.le_refl _) (by omega))];exact zhz f (s+1) fun j a b=>hz j (by omega) (by omega)
theorem zeh:q.num<0↔q<0:=by
 have h:=Rat.num_nonneg (q:=q);constructor
 ·intro e;exact Rat.not_le.1 fun a=>by have:=h.2 a;omega
 ·intro e;have:¬(0≤q.num):=fun a=>absurd (h.1 a) (Rat.not_le.2 e)
  omega
theorem zrN(h:q<0):q.num.sign<0:=by
 rw[Int.sign_eq_neg_one_of_neg (zeh.2 h)];decide
theorem zrO(h:¬q<0):0≤q.num.sign:=by
 have a:¬q.num<0:=fun e=>h (zeh.1 e)
 exact Int.sign_nonneg_iff.2 (by omega)
namespace Pr
theorem z6d(A:OA)(n cA:Nat)(ps:List Rat)(H:Nat)(M:OA)(f R:Nat)(may:List Bool)(w:World)(h:VecS w H (A,n,cA) ps)(hm:zgu w M may)(I:f=may.length)(ae:f≤9223372036854775807) :
  Calls Tryz.prog 78 #[(A,n,cA),(M,f,R)] w fun e w'=>e=.returned (.int .i64 (zbh (zdi ps may)))∧Below w.heap.size w w':=by
 have y:=hid h.len;have B:=hid I;have z:=h.form;have af:n≤9223372036854775807:=by have h1:=z.2.1;have S:=z.2.2.1;unfold maxLen at S;omega
 have Q:=hid h;have L:=hid hm;clear h hm z I;go_enter Tryz.func78,Tryz.ntmps78;go_wp2
 go_loopw [9] (fun i wr=>∃k:Nat,i=.int .i64 k∧k≤n∧Below w.heap.size w wr∧∀j,j<k→¬(may.getD j false=true∧el ps j<0))
  (fun i _=>n-(intOf i).toNat)
 case atStart=>exact⟨0,rfl,Nat.zero_le _,Below.refl _ _,fun j hj=>absurd hj (Nat.not_lt_zero _)⟩
 case round =>
  obtain⟨k,rfl,hk,r,u⟩:=hrel;have d:=hid r;have C:=hid u;by_cases V:k<n
  ·have D:=hid (Q.out.below r);have N:=hid (L.out.below r);obtain⟨b,rfl,Z,aa⟩:=D.out.has (by omega);have J:=zaH (xs:=ps) (j:=k) (by rw[←y.out];exact V);obtain⟨g,m,s,p,o,t,q,k0,k1,k2,F⟩:=D.out.at_ J;have P:=hid F;have ab:(0:Int)≤(k:Int):=Int.natCast_nonneg _;have ac:(k:Int)<(n:Int):=by omega
   clear r u F J;have x:=hid (show ¬(may.getD k false=true∧el ps k<0)→∀j,j<k+1→¬(may.getD j false=true∧el ps j<0)from fun h j hj=>by
    by_cases e:j=k
    ·rw[e];exact h
    ·exact C.out j (by omega))
   by_cases U:k<f
   ·have T:decide (k<f)=true:=by simp;omega
    have ad:(k:Int)<(f:Int):=by omega
    have G:may[k]? = some (may.getD k false):=zaO (by rw[←B.out];exact U);obtain⟨E,K,rfl,y0⟩:=N.out k _ G;clear G;cases hmv:may.getD k false with
    | false =>
     rw[hmv]at y0;have Y:(wr.alloc (.cells #[g,(m,s,p),(o,t,q)] 49)).cell? ⟨E,K+k,none⟩=some (.bool false):=cell_al y0;have a:=hid (x.out (by rw[hmv];intro h;cases h.1));have l:=hid (d.out.trans ((zae wr (.cells #[g,(m,s,p),(o,t,q)] 49)).mono d.out.size));clear hmv;go_wp2;go_roundw
     case rel=>exact⟨k+1,by go_num,by omega,l.out,a.out⟩
     case measure=>simp[intOf];omega
    | true =>
     rw[hmv]at y0;have Y:(wr.alloc (.cells #[g,(m,s,p),(o,t,q)] 49)).cell? ⟨E,K+k,none⟩=some (.bool true):=cell_al y0;have O:=hid hmv;clear hmv;go_wp2_with fail
     refine(Rt.sign g m s p o t q (el ps k) _ (P.out.alloc _)).mono ?_;rintro e w2 ⟨rfl,hb⟩;have l:=hid (d.out.trans (((zae wr _).trans (hb.mono (by simp))).mono d.out.size));clear hb;by_cases c:el ps k<0
     ·have W:=zrN c;have X:=zeh.2 c;have a:=hid (show zdi ps may=some k from zkH ⟨O.out,c⟩ ps.length 0 (Nat.zero_le _) (by rw[←y.out];omega) fun j _ hj=>C.out j hj);clear c;go_wp2;go_ret
      exact⟨by rw[a.out];rfl,l.out⟩
     ·have W:=zrO c;have X:¬(el ps k).num<0:=fun e=>c (zeh.1 e)
      have a:=hid (x.out (fun h=>c h.2));clear c;go_wp2;go_roundw
      case rel=>exact⟨k+1,by go_num,by omega,l.out,a.out⟩
      case measure=>simp[intOf];omega
   ·have T:decide (k<f)=false:=by simp;omega
    have a:=hid (x.out (fun h=>by
     have:may.getD k false=false:=by rw[List.getD_eq_getElem?_getD,List.getElem?_eq_none (by rw[←B.out];omega)];rfl
     rw[this]at h;cases h.1))
    have l:=hid (d.out.trans ((zae wr (.cells #[g,(m,s,p),(o,t,q)] 49)).mono d.out.size));go_wp2;go_roundw
    case rel=>exact⟨k+1,by go_num,by omega,l.out,a.out⟩
    case measure=>simp[intOf];omega
  ·obtain rfl:n=k:=by omega
   have a:=hid (show zdi ps may=none from zhz ps.length 0 fun j _ hj=>u j (by rw[y.out];omega));clear r u;go_wp2;go_ret
   exact⟨by rw[a.out];rfl,d.out⟩
theorem enter(A:OA)(n cA:Nat)(ps:List Rat)(H:Nat)(M:OA)(b a:Nat)(may:List Bool)(c:Nat)(w:World)(h:VecS w H (A,n,cA) ps)(hm:BoolsS w c (M,b,a) may) :
  Calls Tryz.prog 78 #[(A,n,cA),(M,b,a)] w fun e w'=>e=.returned (.int .i64 (zbh (zdi ps may)))∧Below w.heap.size w w' :=
 z6d A n cA ps H M b a may w h hm.reads hm.len (by have h1:=hm.form.2.1;have d:=hm.form.2.2.1;unfold maxLen at d;omega)
end Pr
theorem zsy(n:Nat):(madeCells (Value.bool false).cells (n*1)).toList=tcells (List.replicate n false):=by
 apply List.ext_getElem?;intro j;rw[show(Value.bool false).cells=#[.bool false]from rfl,Nat.mul_one];by_cases hj:j<n
 ·simp[madeCells,tcells,hj,Nat.mod_one]
 ·simp[madeCells,tcells,hj]
theorem zf8{ops:Array Oper}{rest:List Oper}{o:Oper}{a:Act}{Q:Exit→Act→World→Prop}
  (hg:o.guard=none) (l c:Operand) (m:o.op=Op.makeSlice 70 l c) (n:Nat) (L:Int) (j:a.eval l=.int .i64 L) (hc:a.eval c=.int .i64 L) (f:L=(n:Int)) (t:n≤1048576) (H:Nat) (d:w.heap.size=H)
  (e:∀w1,BoolsS w1 w.heap.size (H,n,n) (List.replicate n false)→Below w.heap.size w w1→wpList Tryz.prog ops Q rest (a.put o.dst (H,n,n)) w1):wpList Tryz.prog ops Q (o::rest) a w:=by
 obtain⟨s,i,p,q,r⟩:=info_parts zuV;subst d;subst f;refine wpList_make_full w hg l c 70 m w.heap.size 4 s _ 1 Tryz.underlying70 i p q .i64 .i64 n n n j hc rfl rfl (by rw[r];omega) (by unfold maxLen;omega) (Nat.le_refl _) ?_;intro w1 b g;rw[zsy]at b;exact e w1 ⟨by rw[List.length_replicate];exact b⟩ ((Below.refl _ _).grown g (Nat.le_refl _) (fun k hk=>by cases hk))
def zsn (n k:Nat):List Bool:=List.replicate k true++List.replicate (n-k) false
theorem zhU(n:Nat):zsn n 0=List.replicate n false:=by simp[zsn]
theorem zjB(n:Nat):zsn n n=List.replicate n true:=by simp[zsn]
theorem zoQ(h:k<n):(zsn n k).set k true=zsn n (k+1):=by
 unfold zsn;rw[List.set_append,if_neg (by rw[List.length_replicate];omega),List.length_replicate,Nat.sub_self,show n-k=(n-(k+1))+1 by omega,List.replicate_succ,List.set_cons_zero,List.replicate_succ' (n:=k),List.append_assoc];rfl
theorem zrF(h:k<n):(zsn n k)[k]? = some false:=by
 unfold zsn;rw[List.getElem?_append_right (by rw[List.length_replicate];omega),List.length_replicate,Nat.sub_self,List.getElem?_replicate,if_pos (by omega)]
namespace Du
theorem zzg(n:Nat)(u:n≤64)(x:0<n)(w:World):Calls Tryz.prog 23 #[(n:Int)] w fun e w'=>∃A,e=.returned (.slice A n n)∧BoolsS w' w.heap.size (.slice A n n) (List.replicate n true)∧Below w.heap.size w w':=by
 have t:min (n:Int) 64=(n:Int):=by omega
 have s:max (0:Int) (n:Int)=(n:Int):=by omega
 have r:¬((64:Int)<(n:Int)):=by omega
 go_enter Tryz.func23,Tryz.ntmps23;go_wp2_with (at_make;go_must (refine zf8 rfl _ _ rfl n _ rfl rfl rfl (by omega) w.heap.size rfl ?_;intro w1 j f;have m:=hid j;have l:=hid f;clear j f))
 go_loopw [11] (fun i wr=>∃k:Nat,i=.int .i64 k∧k≤n∧BoolsS wr w.heap.size (w.heap.size,n,n) (zsn n k)∧Below w.heap.size w wr)
  (fun i _=>n-(intOf i).toNat)
 case atStart=>exact⟨0,rfl,Nat.zero_le _,by rw[zhU];exact m.out,l.out⟩
 case round =>
  obtain⟨k,rfl,hk,a,d⟩:=hrel;have c:=hid a;have b:=hid d;clear d;by_cases g:k<n
  ·have y0:=a.at_ (zrF g);have y:=a.fro k;have o:(0:Int)≤(k:Int):=Int.natCast_nonneg _;have q:(k:Int)<(n:Int):=by omega
   clear a;go_wp2;go_roundw
   case rel=>exact⟨k+1,by go_num,by omega,by rw[←zoQ g];exact c.out.store k true,b.out.setCell (p:=⟨w.heap.size,k,none⟩) (Nat.le_refl _) _⟩
   case measure=>simp[intOf];omega
  ·obtain rfl:n=k:=by omega
   clear a;go_wp2;go_ret
   exact⟨_,rfl,by have h:=c.out;rw[zjB]at h;exact h,b.out⟩
theorem zwa(w:World):Calls Tryz.prog 23 #[.int .i64 0] w fun e w'=>∃A,e=.returned (.slice A 0 0)∧BoolsS w' w.heap.size (.slice A 0 0) []∧Below w.heap.size w w':=by

 go_enter Tryz.func23,Tryz.ntmps23;go_wp2_with (at_make;go_must (refine zf8 rfl _ _ rfl 0 _ rfl rfl rfl (by omega) w.heap.size rfl ?_;intro w1 c b;have j:=hid c;have g:=hid b;clear c b))
 go_loopw [11] (fun i wr=>∃k:Nat,i=.int .i64 k∧k≤0∧BoolsS wr w.heap.size (.slice (some ⟨w.heap.size,0,none⟩) 0 0) (zsn 0 k)∧Below w.heap.size w wr)
  (fun i _=>0-(intOf i).toNat)
 case atStart=>exact⟨0,rfl,Nat.zero_le _,by rw[zhU];exact j.out,g.out⟩
 case round =>
  obtain⟨k,rfl,hk,d,a⟩:=hrel;have l:=hid d;have f:=hid a;clear a;by_cases m:k<0
  ·exact absurd m (Nat.not_lt_zero _)
  ·obtain rfl:k=0:=by omega
   clear d;go_wp2;go_ret
   exact⟨_,rfl,by have h:=l.out;rw[zjB]at h;exact h,f.out⟩
theorem all(n:Nat)(a:n≤64)(w:World):Calls Tryz.prog 23 #[(n:Int)] w fun e w'=>∃A,e=.returned (.slice A n n)∧BoolsS w' w.heap.size (.slice A n n) (List.replicate n true)∧Below w.heap.size w w':=by
 rcases Nat.eq_zero_or_pos n with rfl | hp
 ·exact zwa w
 ·exact zzg n a hp w
end Du
theorem zdV(h:¬(may.getD k false=true∧el l k<0)):za4 p l may (k+1)=za4 p l may k:=by simp only[za4];rw[if_neg h]
theorem zkI(h:may.getD k false=true∧el l k<0)(e:za4 p l may k=none):za4 p l may (k+1)=some k:=by simp only[za4];rw[if_pos h,e]
theorem zl1(h:may.getD k false=true∧el l k<0)(e:za4 p l may k=some b)(a:el p k / -el l k<el p b / -el l b):za4 p l may (k+1)=some k:=by simp only[za4];rw[if_pos h,e];simp only;rw[if_pos a]
theorem zl0(h:may.getD k false=true∧el l k<0)(e:za4 p l may k=some b)(a:¬el p k / -el l k<el p b / -el l b):za4 p l may (k+1)=some b:=by simp only[za4];rw[if_pos h,e];simp only;rw[if_neg a]
theorem zhA(h:za4 p l may k=some b):b<k:=by
 have s:=zdW p l may k;rw[h]at s;exact s.1
theorem zyw(a b:Rat):mw (a/b)≤mw a+mw b:=by
 rw[Rat.div_def];have:=zdI a b⁻¹;have:=zva b;omega
theorem zm9{a b:Rat}:zlX a b<0↔a<b:=by
 unfold zlX;by_cases h:a<b
 ·simp[h]
 ·simp only[h,if_false,iff_false];by_cases c:b<a
  ·simp[c]
  ·simp[c]
theorem zDK(h:q<0) : -q≠0:=by grind
namespace Du
theorem enter(S:Nat)(hS:16*S+8≤LIM)(A:OA)(n cA:Nat)(ps:List Rat)(H:Nat)(B:OA)(W cB:Nat)(c:List Rat)(H':Nat)(M:OA)(X cm:Nat)(may:List Bool)(w:World)(F:VecS w H (A,n,cA) ps)(hl:VecS w H' (B,W,cB) c)(bf:X=may.length)(cx:X≤9223372036854775807)(hm:zgu w M may)(zp:∀q∈ps,mw q≤S)(zl:∀q∈c,mw q≤S) :
  Calls Tryz.prog 67 #[(A,n,cA),(B,W,cB),(M,X,cm)] w fun e w'=>e=.returned (.int .i64 (zbh (zhy ps c may)))∧Below w.heap.size w w':=by
 have aE:=hid F.len;have aC:=hid hl.len;have aD:=hid bf;have aZ:=hid F;have aV:=hid hl;have aX:=hid hm;have a3:=hid hS;have ZP:=hid zp;have ZL:=hid zl;have bQ:n≤9223372036854775807:=by have h1:=F.form.2.1;have h2:=F.form.2.2.1;unfold maxLen at h2;omega
 have cw:W≤9223372036854775807:=by have h1:=hl.form.2.1;have h2:=hl.form.2.2.1;unfold maxLen at h2;omega
 clear zp zl hS F hl hm bf;obtain⟨N,hN⟩:∃N,N=min n (min W X):=⟨_,rfl⟩
 have HN:=hid hN;have ci:N≤n:=by omega
 have cj:N≤W:=by omega
 have ck:N≤X:=by omega
 clear hN;go_enter Tryz.func67,Tryz.ntmps67;go_upto_region 3 with fail
 go_cut[18,19] (fun a b wr=>a=.int .i64 (N:Int)∧b=.int .i64 0∧wr=w.alloc (.cells #[false,(),()] 49))
 case first =>
  go_wp2
  all_goals
   go_meet
   case rel=>exact⟨by congr 1;have:=HN.out;omega,rfl,rfl⟩
 case rest =>
  obtain⟨rfl,rfl,rfl⟩:=hcut;go_wp2
  go_loopw [7,19] (fun bv i wr=>∃(k:Nat) (x:Bool) (o:OA) (z u:Nat) (r:OA) (y s:Nat),i=.int .i64 k∧bv=.int .i64 (zbh (za4 ps c may k))∧k≤N∧wr.heap[w.heap.size]? = some (.cells #[x,(o,z,u),(r,y,s)] 49 (0,0))∧(∀b,za4 ps c may k=some b→RatS wr x (o,z,u) (r,y,s) (el ps b / -el c b))∧Below w.heap.size w wr)
   (fun _ i _=>N-(intOf i).toNat)
  case atStart=>exact⟨0,_,_,_,_,_,_,_,rfl,rfl,Nat.zero_le _,zal _ _ _,fun b h=>(by cases h),zae w _⟩
  case round =>
   obtain⟨k,x,o,z,u,r,y,s,rfl,rfl,hk,aK,hP,T⟩:=hrel;by_cases cv:k<N
   ·have bO:k<n:=by omega
    have bP:k<W:=by omega
    have bd:k<X:=by omega
    obtain⟨D,rfl,_,_⟩:=aZ.out.has (by omega);obtain⟨C,rfl,_,_⟩:=aV.out.has (by omega);obtain⟨bm,om,rfl,_⟩:=aX.out k _ (zaO (L:=may) (d:=false) (by rw[←aD.out];exact bd));have aM:=zaH (xs:=ps) (j:=k) (by rw[←aE.out];exact bO);have aL:=zaH (xs:=c) (j:=k) (by rw[←aC.out];exact bP);have be:may[k]? = some (may.getD k false):=zaO (by rw[←aD.out];exact bd);obtain⟨ga,Aa,ma,ca,Da,ap,ai,y0,y1,y2,ba⟩:=(aZ.out.below T).at_ aM;obtain⟨gb,Y,mb,cb,Z,ae,ab,z0,z1,z2,bb⟩:=(aV.out.below T).at_ aL
    obtain⟨ch,cD,aJ,m0⟩:=(aX.out.below T) k _ be;injection aJ with aJ;injection aJ with hbm1 hbm2;subst hbm1 hbm2;generalize hme:may.getD k false=mv at m0;have au:=ZP.out _ (List.mem_of_getElem? aM);have av:=ZL.out _ (List.mem_of_getElem? aL);have bD:=hid (show RatS wr ga (Aa,ma,ca) (Da,ap,ai) (el ps k)from ba);have a1:=hid (show RatS wr gb (Y,mb,cb) (Z,ae,ab) (el c k)from bb)
    have bA:=hid (show ∀b,za4 ps c may k=some b→RatS wr x (o,z,u) (r,y,s) (el ps b / -el c b)from hP);have HW:=hid (show Bel w wr from Bel.mk T);have bg:wr.cell? ⟨D,k*3,none⟩=some (.bool ga):=y0;have bh:wr.cell? ⟨D,k*3+1,none⟩=some (Aa,ma,ca):=y1;have bi:wr.cell? ⟨D,k*3+2,none⟩=some (Da,ap,ai):=y2;have bj:wr.cell? ⟨C,k*3,none⟩=some (.bool gb):=z0;have bk:wr.cell? ⟨C,k*3+1,none⟩=some (Y,mb,cb):=z1;have bn:wr.cell? ⟨C,k*3+2,none⟩=some (Z,ae,ab):=z2
    have az:wr.cell? ⟨bm,om+k,none⟩=some (.bool mv):=m0;have bW:=zaa az;have aB:=bA;have a7:=hid aK;have bg:=y0;have bh:=y1;have bi:=y2;have bj:=z0;have bk:=z1;have bn:=z2;have az:=m0;have bW:=zaa az;have aW:=hid hme;have a5:=hid au;have a6:=hid av;have co:(0:Int)≤(k:Int):=Int.natCast_nonneg _;have cp:(k:Int)<(N:Int):=by omega
    have cq:(k:Int)<(n:Int):=by omega
    have cr:(k:Int)<(W:Int):=by omega
    have ct:(k:Int)<(X:Int):=by omega
    clear aK hP T aM aL be hme y0 y1 y2 z0 z1 z2 m0 ba bb au av;cases mv with
    | false =>
     have g:=hid (zdV (p:=ps) (l:=c) (may:=may) (k:=k) (by rw[aW.out];intro h;cases h.1));go_wp2;go_roundw
     case rel=>exact⟨k+1,x,o,z,u,r,y,s,by go_num,by rw[g.out],by omega,a7.out,fun b h=>by rw[g.out]at h;exact aB.out b h,HW.out.b⟩
     case measure=>simp[intOf];omega
    | true =>
     go_wp2_with fail
     with_reducible refine(Rt.sign gb Y mb cb Z ae ab (el c k) _ a1.out).mono ?_
     rintro e v1 ⟨rfl,hb⟩;have aS:=hid (zad hb a7.out);have ce:=hid (bD.out.below hb);have cf:=hid (a1.out.below hb);have br:=hid (HW.out.below hb);obtain⟨bY,_,_,_,bZ,_,_,_,b3,_⟩:=bf3 aS.out;have b1:=zab hb bg;have b2:=zab hb bh;have b4:=zab hb bi;have b5:=zab hb bj;have b6:=zab hb bk;have b7:=zab hb bn;have b8:=zab hb az;have aU:=hid hb;clear hb;by_cases G:el c k<0
     ·have hs:=zrN G;have bS:=zeh.2 G;have cy:¬0≤el c k:=Rat.not_le.2 G;have bC:=hid (zDK G);have aA:=hid (show may.getD k false=true∧el c k<0 from⟨aW.out,G⟩);have bz:=hid (show 4*(mw (el ps k)+mw (-el c k))+8≤LIM by rw[zhY];have:=a3.out;have:=a5.out;have:=a6.out;omega);clear G;go_upto_region 7 with fail
      have HS:=hid (show ∀w',Below v1.heap.size v1 w'→((w'.cell? ⟨w.heap.size,0,none⟩=some (.bool x)∧w'.cell? ⟨w.heap.size,1,none⟩=some (o,z,u)∧w'.cell? ⟨w.heap.size,2,none⟩=some (r,y,s)∧w'.cell? ⟨D,k*3,none⟩=some (.bool ga)∧w'.cell? ⟨D,k*3+1,none⟩=some (Aa,ma,ca)∧w'.cell? ⟨D,k*3+2,none⟩=some (Da,ap,ai)∧w'.cell? ⟨C,k*3,none⟩=some (.bool gb)∧w'.cell? ⟨C,k*3+1,none⟩=some (Y,mb,cb)∧w'.cell? ⟨C,k*3+2,none⟩=some (Z,ae,ab)∧w'.cell? ⟨bm,om+k,none⟩=some (.bool true))∧Below v1.heap.size v1 w')from fun w' h=>⟨⟨zab h bY,zab h bZ,zab h b3,zab h b1,zab h b2,zab h b4,zab h b5,zab h b6,zab h b7,zab h b8⟩,h⟩)
      go_cut[10] (fun bV wz=>zcD v1 bV wz (el ps k / -el c k))
      case first =>
       go_region_held3 (fun w'=>((w'.cell? ⟨w.heap.size,0,none⟩=some (.bool x)∧w'.cell? ⟨w.heap.size,1,none⟩=some (o,z,u)∧w'.cell? ⟨w.heap.size,2,none⟩=some (r,y,s)∧w'.cell? ⟨D,k*3,none⟩=some (.bool ga)∧w'.cell? ⟨D,k*3+1,none⟩=some (Aa,ma,ca)∧w'.cell? ⟨D,k*3+2,none⟩=some (Da,ap,ai)∧w'.cell? ⟨C,k*3,none⟩=some (.bool gb)∧w'.cell? ⟨C,k*3+1,none⟩=some (Y,mb,cb)∧w'.cell? ⟨C,k*3+2,none⟩=some (Z,ae,ab)∧w'.cell? ⟨bm,om+k,none⟩=some (.bool true))∧Below v1.heap.size v1 w'))
        ((refine HS.out _ ?_;repeat(first | exact Below.refl _ _ | exact(by assumption:_∧Below _ _ _).2 | with_reducible refine bdrew ?_ | with_reducible refine al2 ?_ _ | with_reducible refine set2 ?_ (by omega) | with_reducible refine zc1 ?_ (by assumption))))
        (first
         | (go_at_call 106;(with_reducible refine(Rt.neg gb Y mb cb Z ae ab (el c k) _ (cf.out.below (by assumption:_∧Below _ _ _).2)).mono ?_);rintro e u1 ⟨g1,A1,m1,c1,D1,md1,cd1,rfl,hn,hb1⟩;have au:=hb1.size;(try simp at au);have cz:v1.heap.size≤u1.heap.size:=(by omega);(try((first | (have f:=hid (zbc (cs:=#[.bool false,.slice none 0 0,.slice none 0 0]) (t:=49) hb1 f.out)) | (have f:=hid (zbc (cs:=#[.bool false,.slice none 0 0,.slice none 0 0]) (t:=49) hb1 (zal _ _ _))));have bF:=zac f.out 0;have bI:=zag f.out 0;have bG:=zac f.out 1;have bJ:=zag f.out 1;have bH:=zac f.out 2;have bK:=zag f.out 2));have N1:=hid hn;clear hn)
         | (go_at_call 102;(with_reducible refine(Rt.div ga Aa ma ca Da ap ai (el ps k) g1 A1 m1 c1 D1 md1 cd1 (-el c k) _ (ce.out.below (by assumption:_∧Below _ _ _).2) (by repeat(first | exact N1.out | with_reducible refine RatS.alloc ?_ _ | with_reducible refine RatS.drew ?_)) bC.out bz.out).mono ?_);rintro e u2 ⟨g2,A2,m2,c2,D2,md2,cd2,rfl,hn,hb2⟩;have av:=hb2.size;(try simp at av);have cC:v1.heap.size≤u2.heap.size:=(by omega);(try((first | (have f:=hid (zbc (cs:=#[.bool false,.slice none 0 0,.slice none 0 0]) (t:=49) hb2 f.out)) | (have f:=hid (zbc (cs:=#[.bool false,.slice none 0 0,.slice none 0 0]) (t:=49) hb2 (zal _ _ _))));have bF:=zac f.out 0;have bI:=zag f.out 0;have bG:=zac f.out 1;have bJ:=zag f.out 1;have bH:=zac f.out 2;have bK:=zag f.out 2));have N7:=hid hn;clear hn)
         | fail)
       all_goals
        go_wp2;go_meet
        case rel=>(have E:=(by assumption:_∧Below v1.heap.size v1 _).2;(first | (with_reducible refine zcD.of E ?_ f.out N7.out;omega) | (with_reducible refine zcD.al E ?_ N7.out;omega) | (with_reducible refine zcD.of E ?_ (zal _ _ _) (N7.out.alloc _);omega)))
      case rest =>
       obtain⟨I,R,J,U,P,O,V,Q,rfl,aq,bQ,ar,hi⟩:=hcut;rename World=>wz
       have bB:=hid (fun b h=>((aB.out b h).below aU.out).below aq);have ax:=hid (zad aq aS.out);have bt:=hid (br.out.below aq);have HR:=hid (show RatS wz R (J,U,P) (O,V,Q) (el ps k / -el c k)from hi);obtain⟨cL,cG,_,cJ,cM,_,cO,_,cP,_,cU,_⟩:=bf3 ax.out;have b9:wz.cell? ⟨I,0,none⟩=some (.bool R):=zac ar 0;have cc:wz.cell? ⟨I,1,none⟩=some (J,U,P):=zac ar 1;have cd:wz.cell? ⟨I,2,none⟩=some (O,V,Q):=zac ar 2;clear aq HS;clear hi ar;cases E:za4 ps c may k with
       | none =>
        have F:zbh none = -1:=rfl;rw[F];have g:=hid (zkI aA.out E);go_wp2_with fail
        refine zaS (S:=fun w'=>w'.cell? ⟨I,0,none⟩=some (.bool R)∧w'.cell? ⟨I,1,none⟩=some (J,U,P)∧w'.cell? ⟨I,2,none⟩=some (O,V,Q)) [3] (h:=fun hHeld=>?_);refine zaw [0,1,2] ?_;repeat refine tkL (hS:=hHeld) (h:=?_)
        refine zao ?_;refine zay 3 (h:=fun K hK=>?_);go_simp;refine hK.out _ _ ?_;clear hK K;try simp only[Act.put,pu1,pu2,pu3,pu4,pu5,pu6]
        refine zaM (h:=?_);go_wp2;go_roundw
        case rel=>exact⟨k+1,R,J,U,P,O,V,Q,by go_num,by rw[g.out];rfl,by omega,zar _ (zar _ (zar _ ax.out)),fun b h=>by rw[g.out]at h;injection h with h;subst h;exact(HR.out.set3 ax.out (by decide) _ _ _).drew,(Bel.set3 bt.out (Nat.le_refl _) _ _ _).drew.b⟩
        case measure=>simp[intOf];omega
       | some m =>
        have F:zbh (some m)=(m:Int):=rfl;rw[F];have aT:=hid E;have a0:=hid (bB.out m E);have cn:=zhA E;have cu:¬(m:Int)<0:=by omega
        have bT:=ZP.out _ (List.mem_of_getElem? (zaH (xs:=ps) (j:=m) (by rw[←aE.out];omega)));have bU:=ZL.out _ (List.mem_of_getElem? (zaH (xs:=c) (j:=m) (by rw[←aC.out];omega)));have bx:=hid (show 4*(mw (el ps k / -el c k)+mw (el ps m / -el c m))+8≤LIM by have h1:=zyw (el ps k) (-el c k);have h2:=zyw (el ps m) (-el c m);rw[zhY]at h1 h2;have:=a3.out;have:=a5.out;have:=a6.out;omega);clear E bT bU;go_wp2_with fail
        with_reducible refine(Rt.cmpr R J U P O V Q (el ps k / -el c k) x o z u r y s (el ps m / -el c m) _ HR.out a0.out bx.out).mono ?_
        rintro e v2 ⟨rfl,hb⟩;have ay:=hid (zad hb ax.out);have bo:=hid (bt.out.below hb);have cg:=hid (HR.out.below hb);have bX:=hid (a0.out.below hb);obtain⟨_,cH,_,cK,cI,_,cN,_,cT,_,cF,_⟩:=bf3 ay.out;have cQ:=zab hb b9;have cR:=zab hb cc;have cS:=zab hb cd;clear hb;by_cases hc:el ps k / -el c k<el ps m / -el c m
        ·have bN:=zm9.2 hc;have g:=hid (zl1 aA.out aT.out hc);go_wp2_with fail
         refine zaS (S:=fun w'=>w'.cell? ⟨I,0,none⟩=some (.bool R)∧w'.cell? ⟨I,1,none⟩=some (J,U,P)∧w'.cell? ⟨I,2,none⟩=some (O,V,Q)) [3] (h:=fun hHeld=>?_);refine zaw [0,1,2] ?_;repeat refine tkL (hS:=hHeld) (h:=?_)
         refine zao ?_;refine zay 3 (h:=fun K hK=>?_);go_simp;refine hK.out _ _ ?_;clear hK K;try simp only[Act.put,pu1,pu2,pu3,pu4,pu5,pu6]
         refine zaM (h:=?_);go_wp2;go_roundw
         case rel=>exact⟨k+1,R,J,U,P,O,V,Q,by go_num,by rw[g.out];rfl,by omega,zar _ (zar _ (zar _ ay.out)),fun b h=>by rw[g.out]at h;injection h with h;subst h;exact(cg.out.set3 ay.out (by decide) _ _ _).drew,(Bel.set3 bo.out (Nat.le_refl _) _ _ _).drew.b⟩
         case measure=>simp[intOf];omega
        ·have bN:¬zlX (el ps k / -el c k) (el ps m / -el c m)<0:=fun h=>hc (zm9.1 h)
         have g:=hid (zl0 aA.out aT.out hc);go_wp2;go_roundw
         case rel=>exact⟨k+1,x,o,z,u,r,y,s,by go_num,by rw[g.out];rfl,by omega,ay.out,fun b h=>by rw[g.out]at h;injection h with h;subst h;exact bX.out,bo.out.b⟩
         case measure=>simp[intOf];omega
     ·have hs:=zrO G;have bS:¬(el c k).num<0:=fun e=>G (zeh.1 e)
      have g:=hid (zdV (p:=ps) (l:=c) (may:=may) (k:=k) (fun h=>G h.2));go_wp2;go_roundw
      case rel=>exact⟨k+1,x,o,z,u,r,y,s,by go_num,by rw[g.out],by omega,aS.out,fun b h=>by rw[g.out]at h;exact(aB.out b h).below aU.out,br.out.b⟩
      case measure=>simp[intOf];omega
   ·obtain rfl:N=k:=by omega
    have g:=hid (show zhy ps c may=za4 ps c may N by unfold zhy;rw[←aE.out,←aC.out,←aD.out,←HN.out]);have bw:=hid T;clear aK hP T;go_wp2;go_ret
    exact⟨by rw[g.out];rfl,bw.out⟩
end Du
open Go.RowKit Go.Extern.Stop Go.Stop Go.Extern
namespace Err
abbrev HandleV:Value:=.iface 188 (.agg #[.pointer (some ⟨1,39,none⟩)])
theorem faU(b:Nat)(x:Value)(w:World)(a:w.cell? ⟨b,2,none⟩=some x):Calls Tryz.prog 189 #[.pointer (some ⟨b,0,none⟩)] w fun e w'=>e=.returned x∧w'=w:=by
 go_enter Tryz.func189,Tryz.ntmps189;go_wp2;go_ret
 exact⟨rfl,rfl⟩
theorem zda(hg:w.cell? ⟨0,0,none⟩=some v):0<w.heap.size:=by
 rcases Nat.eq_zero_or_pos w.heap.size with h0 | h
 ·simp[World.cell?,h0]at hg
 ·exact h
theorem zcB(a:w.cell? t=some v):t.block<w.heap.size:=by
 rcases Nat.lt_or_ge t.block w.heap.size with h | h
 ·exact h
 ·simp[World.cell?,Array.getElem?_eq_none h]at a
set_option maxHeartbeats 8000000 in
theorem zCu(e:Addr)(t:Addr)(old:Value)(w:World)(hg:w.cell? ⟨0,0,none⟩=some HandleV)(a:w.cell? t=some old)(f:w.frozen? t=false) :
  Calls Tryz.prog 50 #[.iface 119 (.pointer (some e)),.iface 121 (.pointer (some t))] w fun c w'=>c=.returned true∧∃w1,Below w.heap.size w w1∧w'=w1.setCell t (.pointer (some e)):=by
 have u := @run_callFunc_extern Tryz.prog 93 _ (fun args=>ReflectliteValue.unpack (args.getD 0 (.tuple #[]))) Tryz.func93 (by kernel_rfl) (by kernel_rfl) (by kernel_rfl) (by kernel_rfl);have x := @run_callFunc_extern Tryz.prog 94 _ (ReflectliteValue.methodAny (ReflectliteValue.valueError "reflectlite.Value.Type" 0) (fun t _ _ _=>ReflectliteType.toType t)) Tryz.func94 (by kernel_rfl) (by kernel_rfl) (by kernel_rfl) (by kernel_rfl)
 have y := @run_callFunc_extern Tryz.prog 95 _ (ReflectliteValue.method (ReflectliteValue.valueError "reflectlite.Value.IsNil" 0) ReflectliteValue.isNil) Tryz.func95 (by kernel_rfl) (by kernel_rfl) (by kernel_rfl) (by kernel_rfl);have p := @run_callFunc_extern Tryz.prog 176 _ (ReflectliteType.abiMethod fun t=>do pure (.int .u8 (←Rtype.kind t))) Tryz.func176 (by kernel_rfl) (by kernel_rfl) (by kernel_rfl) (by kernel_rfl)
 have r := @run_callFunc_extern Tryz.prog 198 _ (ReflectliteType.method ReflectliteType.elem) Tryz.func198 (by kernel_rfl) (by kernel_rfl) (by kernel_rfl) (by kernel_rfl);have s := @run_callFunc_extern Tryz.prog 199 _ (ReflectliteType.relation "Implements" ReflectliteType.implements_) Tryz.func199 (by kernel_rfl) (by kernel_rfl) (by kernel_rfl) (by kernel_rfl)
 have m := @run_callFunc_extern Tryz.prog 118 _ ReflectliteType.typeOf Tryz.func118 (by kernel_rfl) (by kernel_rfl) (by kernel_rfl) (by kernel_rfl);have q := @run_callFunc_extern Tryz.prog 196 _ (ReflectliteType.relation "AssignableTo" ReflectliteType.assignableTo) Tryz.func196 (by kernel_rfl) (by kernel_rfl) (by kernel_rfl) (by kernel_rfl)
 have n := @run_callFunc_extern Tryz.prog 119 _ (ReflectliteValue.method (ReflectliteValue.valueError "reflectlite.Value.Elem" 0) ReflectliteValue.elem) Tryz.func119 (by kernel_rfl) (by kernel_rfl) (by kernel_rfl) (by kernel_rfl);have o := @run_callFunc_extern Tryz.prog 120 _ ReflectliteValue.set Tryz.func120 (by kernel_rfl) (by kernel_rfl) (by kernel_rfl) (by kernel_rfl);have G:=zga;have E:=zf9;have F:=zcr;have D:=zbV;have g:=zda hg;have b:=zcB a;have k:=zfN;have l:=zjc;have C:=zi4;have B:=zk6
 have j:=zi1;have A:=zeq;have J:=zh8;have i:=zik;have K:=zlI;have I:=zhT ⟨w.heap.size,0,none⟩ t ((w.alloc (.cells #[.pointer (some t)] 121)).alloc (.cells #[.pointer (some ⟨1,121,none⟩),.pointer (some ⟨w.heap.size,0,none⟩),.int .u64 150] 161)) (by simp)
 have z:((w.alloc (.cells #[.pointer (some t)] 121)).alloc (.cells #[.pointer (some ⟨1,121,none⟩),.pointer (some ⟨w.heap.size,0,none⟩),.int .u64 150] 161)).cell? ⟨0,0,none⟩=some HandleV:=by rw[World.cell?_alloc_lt _ _ ⟨0,0,none⟩ (by simp),World.cell?_alloc_lt _ _ ⟨0,0,none⟩ g];exact hg
 have el:=znf ⟨w.heap.size,0,none⟩ t (((w.alloc (.cells #[.pointer (some t)] 121)).alloc (.cells #[.pointer (some ⟨1,121,none⟩),.pointer (some ⟨w.heap.size,0,none⟩),.int .u64 150] 161)).alloc (.cells #[.pointer (some ⟨1,121,none⟩),.pointer (some ⟨w.heap.size,0,none⟩),.int .u64 150] 161)) (by rw[World.cell?_alloc_lt _ _ ⟨w.heap.size,0,none⟩ (by simp;omega)];simp)
 have st:=zsv t ⟨w.heap.size+1+1+1,0,none⟩ e old ((((w.alloc (.cells #[.pointer (some t)] 121)).alloc (.cells #[.pointer (some ⟨1,121,none⟩),.pointer (some ⟨w.heap.size,0,none⟩),.int .u64 150] 161)).alloc (.cells #[.pointer (some ⟨1,121,none⟩),.pointer (some ⟨w.heap.size,0,none⟩),.int .u64 150] 161)).alloc (.cells #[.pointer (some e)] 119))
  (by rw[World.cell?_alloc_at _ _ _ _ (by simp)];rfl)
  (by rw[World.cell?_alloc_lt _ _ t (by simp;omega),World.cell?_alloc_lt _ _ t (by simp;omega),World.cell?_alloc_lt _ _ t (by simp;omega),World.cell?_alloc_lt _ _ t b];exact a)
  (by rw[World.frozen?_alloc_old _ _ t (by simp;omega),World.frozen?_alloc_old _ _ t (by simp;omega),World.frozen?_alloc_old _ _ t (by simp;omega),World.frozen?_alloc_old _ _ t (Nat.ne_of_lt b)];exact f)
 have d:Below w.heap.size w ((((w.alloc (.cells #[.pointer (some t)] 121)).alloc (.cells #[.pointer (some ⟨1,121,none⟩),.pointer (some ⟨w.heap.size,0,none⟩),.int .u64 150] 161)).alloc (.cells #[.pointer (some ⟨1,121,none⟩),.pointer (some ⟨w.heap.size,0,none⟩),.int .u64 150] 161)).alloc (.cells #[.pointer (some e)] 119)):=(((((Below.refl _ w).alloc (Nat.le_refl _) _).alloc (by simp) _).alloc (by simp;omega) _).alloc (by simp;omega) _)
 go_enter Tryz.func50,Tryz.ntmps50;go_wp2;refine wp_loop_rounds 1 ?_;rw[rounds_succ];go_wp2;go_ret
 exact⟨rfl,_,d,rfl⟩
set_option maxHeartbeats 8000000 in
theorem zBU(b:Nat)(t:Addr)(old:Value)(w:World)(y:Int)(d:w.cell? ⟨b,2,none⟩=some (.iface 64 (.int .i64 y)))(hg:w.cell? ⟨0,0,none⟩=some HandleV)(a:w.cell? t=some old)(j:w.frozen? t=false) :
  Calls Tryz.prog 50 #[.iface 119 (.pointer (some ⟨b,0,none⟩)),.iface 124 (.pointer (some t))] w fun f w'=>f=.returned true∧∃w1,Below w.heap.size w w1∧w'=w1.setCell t (.int .i64 y):=by
 have B := @run_callFunc_extern Tryz.prog 93 _ (fun args=>ReflectliteValue.unpack (args.getD 0 (.tuple #[]))) Tryz.func93 (by kernel_rfl) (by kernel_rfl) (by kernel_rfl) (by kernel_rfl);have C := @run_callFunc_extern Tryz.prog 94 _ (ReflectliteValue.methodAny (ReflectliteValue.valueError "reflectlite.Value.Type" 0) (fun t _ _ _=>ReflectliteType.toType t)) Tryz.func94 (by kernel_rfl) (by kernel_rfl) (by kernel_rfl) (by kernel_rfl)
 have D := @run_callFunc_extern Tryz.prog 95 _ (ReflectliteValue.method (ReflectliteValue.valueError "reflectlite.Value.IsNil" 0) ReflectliteValue.isNil) Tryz.func95 (by kernel_rfl) (by kernel_rfl) (by kernel_rfl) (by kernel_rfl);have u := @run_callFunc_extern Tryz.prog 176 _ (ReflectliteType.abiMethod fun t=>do pure (.int .u8 (←Rtype.kind t))) Tryz.func176 (by kernel_rfl) (by kernel_rfl) (by kernel_rfl) (by kernel_rfl)
 have z := @run_callFunc_extern Tryz.prog 198 _ (ReflectliteType.method ReflectliteType.elem) Tryz.func198 (by kernel_rfl) (by kernel_rfl) (by kernel_rfl) (by kernel_rfl);have A := @run_callFunc_extern Tryz.prog 199 _ (ReflectliteType.relation "Implements" ReflectliteType.implements_) Tryz.func199 (by kernel_rfl) (by kernel_rfl) (by kernel_rfl) (by kernel_rfl)
 have q := @run_callFunc_extern Tryz.prog 118 _ ReflectliteType.typeOf Tryz.func118 (by kernel_rfl) (by kernel_rfl) (by kernel_rfl) (by kernel_rfl);have x := @run_callFunc_extern Tryz.prog 196 _ (ReflectliteType.relation "AssignableTo" ReflectliteType.assignableTo) Tryz.func196 (by kernel_rfl) (by kernel_rfl) (by kernel_rfl) (by kernel_rfl)
 have r := @run_callFunc_extern Tryz.prog 119 _ (ReflectliteValue.method (ReflectliteValue.valueError "reflectlite.Value.Elem" 0) ReflectliteValue.elem) Tryz.func119 (by kernel_rfl) (by kernel_rfl) (by kernel_rfl) (by kernel_rfl);have s := @run_callFunc_extern Tryz.prog 120 _ ReflectliteValue.set Tryz.func120 (by kernel_rfl) (by kernel_rfl) (by kernel_rfl) (by kernel_rfl);have N:=zga;have L:=zf9;have M:=zcr;have K:=zbV;have k:=zda hg;have c:=zcB a;have o:=zgq;have p:=zlq;have J:=zk5;have I:=zl4
 have n:=zkG;have G:=ze8;have S:=zh8;have T:=zfL;have Q:=zgj;have m:=ze5;have U:=zh9;have R:=zqn;have E:=zjf;have O:=zp4;have P:=zi3 ⟨w.heap.size,0,none⟩ t ((w.alloc (.cells #[.pointer (some t)] 124)).alloc (.cells #[.pointer (some ⟨1,124,none⟩),.pointer (some ⟨w.heap.size,0,none⟩),.int .u64 150] 161)) (by simp)
 have F:((w.alloc (.cells #[.pointer (some t)] 124)).alloc (.cells #[.pointer (some ⟨1,124,none⟩),.pointer (some ⟨w.heap.size,0,none⟩),.int .u64 150] 161)).cell? ⟨0,0,none⟩=some HandleV:=by rw[World.cell?_alloc_lt _ _ ⟨0,0,none⟩ (by simp),World.cell?_alloc_lt _ _ ⟨0,0,none⟩ k];exact hg
 have i:b<w.heap.size:=zcB d;have l:(((w.alloc (.cells #[.pointer (some t)] 124)).alloc (.cells #[.pointer (some ⟨1,124,none⟩),.pointer (some ⟨w.heap.size,0,none⟩),.int .u64 150] 161)).alloc (.cells #[.pointer (some ⟨1,124,none⟩),.pointer (some ⟨w.heap.size,0,none⟩),.int .u64 150] 161)).cell? ⟨b,2,none⟩=some (.iface 64 (.int .i64 y)):=by rw[World.cell?_alloc_lt _ _ ⟨b,2,none⟩ (by simp;omega),World.cell?_alloc_lt _ _ ⟨b,2,none⟩ (by simp;omega),World.cell?_alloc_lt _ _ ⟨b,2,none⟩ i];exact d
 have el:=zi0 ⟨w.heap.size,0,none⟩ t (((w.alloc (.cells #[.pointer (some t)] 124)).alloc (.cells #[.pointer (some ⟨1,124,none⟩),.pointer (some ⟨w.heap.size,0,none⟩),.int .u64 150] 161)).alloc (.cells #[.pointer (some ⟨1,124,none⟩),.pointer (some ⟨w.heap.size,0,none⟩),.int .u64 150] 161)) (by rw[World.cell?_alloc_lt _ _ ⟨w.heap.size,0,none⟩ (by simp;omega)];simp)
 have st:=zoY t ⟨w.heap.size+1+1+1,0,none⟩ y old ((((w.alloc (.cells #[.pointer (some t)] 124)).alloc (.cells #[.pointer (some ⟨1,124,none⟩),.pointer (some ⟨w.heap.size,0,none⟩),.int .u64 150] 161)).alloc (.cells #[.pointer (some ⟨1,124,none⟩),.pointer (some ⟨w.heap.size,0,none⟩),.int .u64 150] 161)).alloc (.cells #[.int .i64 y] 64))
  (by rw[World.cell?_alloc_at _ _ _ _ (by simp)];rfl)
  (by rw[World.cell?_alloc_lt _ _ t (by simp;omega),World.cell?_alloc_lt _ _ t (by simp;omega),World.cell?_alloc_lt _ _ t (by simp;omega),World.cell?_alloc_lt _ _ t c];exact a)
  (by rw[World.frozen?_alloc_old _ _ t (by simp;omega),World.frozen?_alloc_old _ _ t (by simp;omega),World.frozen?_alloc_old _ _ t (by simp;omega),World.frozen?_alloc_old _ _ t (Nat.ne_of_lt c)];exact j)
 have g:Below w.heap.size w ((((w.alloc (.cells #[.pointer (some t)] 124)).alloc (.cells #[.pointer (some ⟨1,124,none⟩),.pointer (some ⟨w.heap.size,0,none⟩),.int .u64 150] 161)).alloc (.cells #[.pointer (some ⟨1,124,none⟩),.pointer (some ⟨w.heap.size,0,none⟩),.int .u64 150] 161)).alloc (.cells #[.int .i64 y] 64)):=(((((Below.refl _ w).alloc (Nat.le_refl _) _).alloc (by simp) _).alloc (by simp;omega) _).alloc (by simp;omega) _)
 go_enter Tryz.func50,Tryz.ntmps50;go_wp2;refine wp_loop_rounds 2 ?_;rw[rounds_succ];go_wp2_with (go_at_call 189;refine(faU b _ _ l).mono ?_;rintro e w' ⟨rfl,rfl⟩)
 rw[rounds_succ];go_wp2;go_ret
 exact⟨rfl,_,g,rfl⟩
set_option maxHeartbeats 8000000 in
theorem zwc(e:Int)(t:Addr)(old:Value)(w:World)(hg:w.cell? ⟨0,0,none⟩=some HandleV)(a:w.cell? t=some old)(f:w.frozen? t=false) :
  Calls Tryz.prog 50 #[.iface 64 (.int .i64 e),.iface 124 (.pointer (some t))] w fun c w'=>c=.returned true∧∃w1,Below w.heap.size w w1∧w'=w1.setCell t (.int .i64 e):=by
 have u := @run_callFunc_extern Tryz.prog 93 _ (fun args=>ReflectliteValue.unpack (args.getD 0 (.tuple #[]))) Tryz.func93 (by kernel_rfl) (by kernel_rfl) (by kernel_rfl) (by kernel_rfl);have x := @run_callFunc_extern Tryz.prog 94 _ (ReflectliteValue.methodAny (ReflectliteValue.valueError "reflectlite.Value.Type" 0) (fun t _ _ _=>ReflectliteType.toType t)) Tryz.func94 (by kernel_rfl) (by kernel_rfl) (by kernel_rfl) (by kernel_rfl)
 have y := @run_callFunc_extern Tryz.prog 95 _ (ReflectliteValue.method (ReflectliteValue.valueError "reflectlite.Value.IsNil" 0) ReflectliteValue.isNil) Tryz.func95 (by kernel_rfl) (by kernel_rfl) (by kernel_rfl) (by kernel_rfl);have p := @run_callFunc_extern Tryz.prog 176 _ (ReflectliteType.abiMethod fun t=>do pure (.int .u8 (←Rtype.kind t))) Tryz.func176 (by kernel_rfl) (by kernel_rfl) (by kernel_rfl) (by kernel_rfl)
 have r := @run_callFunc_extern Tryz.prog 198 _ (ReflectliteType.method ReflectliteType.elem) Tryz.func198 (by kernel_rfl) (by kernel_rfl) (by kernel_rfl) (by kernel_rfl);have s := @run_callFunc_extern Tryz.prog 199 _ (ReflectliteType.relation "Implements" ReflectliteType.implements_) Tryz.func199 (by kernel_rfl) (by kernel_rfl) (by kernel_rfl) (by kernel_rfl)
 have m := @run_callFunc_extern Tryz.prog 118 _ ReflectliteType.typeOf Tryz.func118 (by kernel_rfl) (by kernel_rfl) (by kernel_rfl) (by kernel_rfl);have q := @run_callFunc_extern Tryz.prog 196 _ (ReflectliteType.relation "AssignableTo" ReflectliteType.assignableTo) Tryz.func196 (by kernel_rfl) (by kernel_rfl) (by kernel_rfl) (by kernel_rfl)
 have n := @run_callFunc_extern Tryz.prog 119 _ (ReflectliteValue.method (ReflectliteValue.valueError "reflectlite.Value.Elem" 0) ReflectliteValue.elem) Tryz.func119 (by kernel_rfl) (by kernel_rfl) (by kernel_rfl) (by kernel_rfl);have o := @run_callFunc_extern Tryz.prog 120 _ ReflectliteValue.set Tryz.func120 (by kernel_rfl) (by kernel_rfl) (by kernel_rfl) (by kernel_rfl);have G:=zga;have E:=zf9;have F:=zcr;have D:=zbV;have g:=zda hg;have b:=zcB a;have k:=zgq;have l:=zlq;have C:=zk5;have B:=zl4
 have j:=zkG;have A:=ze8;have J:=zfL;have i:=ze5;have K:=zh9;have I:=zi3 ⟨w.heap.size,0,none⟩ t ((w.alloc (.cells #[.pointer (some t)] 124)).alloc (.cells #[.pointer (some ⟨1,124,none⟩),.pointer (some ⟨w.heap.size,0,none⟩),.int .u64 150] 161)) (by simp)
 have z:((w.alloc (.cells #[.pointer (some t)] 124)).alloc (.cells #[.pointer (some ⟨1,124,none⟩),.pointer (some ⟨w.heap.size,0,none⟩),.int .u64 150] 161)).cell? ⟨0,0,none⟩=some HandleV:=by rw[World.cell?_alloc_lt _ _ ⟨0,0,none⟩ (by simp),World.cell?_alloc_lt _ _ ⟨0,0,none⟩ g];exact hg
 have el:=zi0 ⟨w.heap.size,0,none⟩ t (((w.alloc (.cells #[.pointer (some t)] 124)).alloc (.cells #[.pointer (some ⟨1,124,none⟩),.pointer (some ⟨w.heap.size,0,none⟩),.int .u64 150] 161)).alloc (.cells #[.pointer (some ⟨1,124,none⟩),.pointer (some ⟨w.heap.size,0,none⟩),.int .u64 150] 161)) (by rw[World.cell?_alloc_lt _ _ ⟨w.heap.size,0,none⟩ (by simp;omega)];simp)
 have st:=zoY t ⟨w.heap.size+1+1+1,0,none⟩ e old ((((w.alloc (.cells #[.pointer (some t)] 124)).alloc (.cells #[.pointer (some ⟨1,124,none⟩),.pointer (some ⟨w.heap.size,0,none⟩),.int .u64 150] 161)).alloc (.cells #[.pointer (some ⟨1,124,none⟩),.pointer (some ⟨w.heap.size,0,none⟩),.int .u64 150] 161)).alloc (.cells #[.int .i64 e] 64))
  (by rw[World.cell?_alloc_at _ _ _ _ (by simp)];rfl)
  (by rw[World.cell?_alloc_lt _ _ t (by simp;omega),World.cell?_alloc_lt _ _ t (by simp;omega),World.cell?_alloc_lt _ _ t (by simp;omega),World.cell?_alloc_lt _ _ t b];exact a)
  (by rw[World.frozen?_alloc_old _ _ t (by simp;omega),World.frozen?_alloc_old _ _ t (by simp;omega),World.frozen?_alloc_old _ _ t (by simp;omega),World.frozen?_alloc_old _ _ t (Nat.ne_of_lt b)];exact f)
 have d:Below w.heap.size w ((((w.alloc (.cells #[.pointer (some t)] 124)).alloc (.cells #[.pointer (some ⟨1,124,none⟩),.pointer (some ⟨w.heap.size,0,none⟩),.int .u64 150] 161)).alloc (.cells #[.pointer (some ⟨1,124,none⟩),.pointer (some ⟨w.heap.size,0,none⟩),.int .u64 150] 161)).alloc (.cells #[.int .i64 e] 64)):=(((((Below.refl _ w).alloc (Nat.le_refl _) _).alloc (by simp) _).alloc (by simp;omega) _).alloc (by simp;omega) _)
 go_enter Tryz.func50,Tryz.ntmps50;go_wp2;refine wp_loop_rounds 1 ?_;rw[rounds_succ];go_wp2;go_ret
 exact⟨rfl,_,d,rfl⟩
set_option maxHeartbeats 8000000 in
theorem ztW(e:Int)(t:Addr)(old:Value)(w:World)(hg:w.cell? ⟨0,0,none⟩=some HandleV)(r:w.cell? t=some old) :
  Calls Tryz.prog 50 #[.iface 64 (.int .i64 e),.iface 121 (.pointer (some t))] w fun a w'=>a=.returned false∧Below w.heap.size w w':=by
 have n := @run_callFunc_extern Tryz.prog 93 _ (fun args=>ReflectliteValue.unpack (args.getD 0 (.tuple #[]))) Tryz.func93 (by kernel_rfl) (by kernel_rfl) (by kernel_rfl) (by kernel_rfl);have o := @run_callFunc_extern Tryz.prog 94 _ (ReflectliteValue.methodAny (ReflectliteValue.valueError "reflectlite.Value.Type" 0) (fun t _ _ _=>ReflectliteType.toType t)) Tryz.func94 (by kernel_rfl) (by kernel_rfl) (by kernel_rfl) (by kernel_rfl)
 have p := @run_callFunc_extern Tryz.prog 95 _ (ReflectliteValue.method (ReflectliteValue.valueError "reflectlite.Value.IsNil" 0) ReflectliteValue.isNil) Tryz.func95 (by kernel_rfl) (by kernel_rfl) (by kernel_rfl) (by kernel_rfl);have j := @run_callFunc_extern Tryz.prog 176 _ (ReflectliteType.abiMethod fun t=>do pure (.int .u8 (←Rtype.kind t))) Tryz.func176 (by kernel_rfl) (by kernel_rfl) (by kernel_rfl) (by kernel_rfl)
 have l := @run_callFunc_extern Tryz.prog 198 _ (ReflectliteType.method ReflectliteType.elem) Tryz.func198 (by kernel_rfl) (by kernel_rfl) (by kernel_rfl) (by kernel_rfl);have m := @run_callFunc_extern Tryz.prog 199 _ (ReflectliteType.relation "Implements" ReflectliteType.implements_) Tryz.func199 (by kernel_rfl) (by kernel_rfl) (by kernel_rfl) (by kernel_rfl)
 have i := @run_callFunc_extern Tryz.prog 118 _ ReflectliteType.typeOf Tryz.func118 (by kernel_rfl) (by kernel_rfl) (by kernel_rfl) (by kernel_rfl);have k := @run_callFunc_extern Tryz.prog 196 _ (ReflectliteType.relation "AssignableTo" ReflectliteType.assignableTo) Tryz.func196 (by kernel_rfl) (by kernel_rfl) (by kernel_rfl) (by kernel_rfl);have B:=zga;have z:=zf9;have A:=zcr;have y:=zbV;have c:=zda hg;have f:=zfN;have g:=zjc;have x:=zi4;have u:=zk6;have d:=zi1;have s:=zeq;have I:=zfL
 have D:=zg5;have E:=zso;have F:=zlG;have G:=zlf;have C:=zhT ⟨w.heap.size,0,none⟩ t ((w.alloc (.cells #[.pointer (some t)] 121)).alloc (.cells #[.pointer (some ⟨1,121,none⟩),.pointer (some ⟨w.heap.size,0,none⟩),.int .u64 150] 161)) (by simp)
 have q:((w.alloc (.cells #[.pointer (some t)] 121)).alloc (.cells #[.pointer (some ⟨1,121,none⟩),.pointer (some ⟨w.heap.size,0,none⟩),.int .u64 150] 161)).cell? ⟨0,0,none⟩=some HandleV:=by rw[World.cell?_alloc_lt _ _ ⟨0,0,none⟩ (by simp),World.cell?_alloc_lt _ _ ⟨0,0,none⟩ c];exact hg
 have b:Below w.heap.size w (((w.alloc (.cells #[.pointer (some t)] 121)).alloc (.cells #[.pointer (some ⟨1,121,none⟩),.pointer (some ⟨w.heap.size,0,none⟩),.int .u64 150] 161)).alloc (.cells #[.pointer (some ⟨1,121,none⟩),.pointer (some ⟨w.heap.size,0,none⟩),.int .u64 150] 161)):=((((Below.refl _ w).alloc (Nat.le_refl _) _).alloc (by simp) _).alloc (by simp;omega) _)
 go_enter Tryz.func50,Tryz.ntmps50;go_wp2;refine wp_loop_rounds 1 ?_;rw[rounds_succ];go_wp2;go_ret
 exact⟨rfl,b⟩
end Err
namespace Err
theorem zsw{old:Value}(a:Below w.heap.size w w1)(c:w.cell? t=some old):(w1.setCell t v).cell? t=some v∧Below t.block w (w1.setCell t v):=by
 have b:=zcB c;exact⟨World.cell?_setCell_same' w1 t v (by rw[a.cell b,c];rfl),(a.mono (Nat.le_of_lt b)).setCell (Nat.le_refl _) _⟩
theorem zDE{p:Addr}(a:Below w.heap.size w w1)(h:w.cell? p=some v):w1.cell? p=some v:=(a.cell (zcB h)).trans h
end Err
namespace Err
theorem zoR(y:Int)(w:World)(hg:w.cell? ⟨0,0,none⟩=some HandleV):Calls Tryz.prog 19 #[.iface 64 (.int .i64 y)] w fun b w'=>b=.returned (.int .i64 y)∧Below w.heap.size w w':=by
 have i:=zda hg;have g:=hid (show(w.alloc (.cells #[.int .i64 0] 64)).cell? ⟨0,0,none⟩=some HandleV by rw[World.cell?_alloc_lt _ _ ⟨0,0,none⟩ i];exact hg);have a:=hid (show(w.alloc (.cells #[.int .i64 0] 64)).cell? ⟨w.heap.size,0,none⟩=some (.int .i64 0)by simp);have f:=hid (show(w.alloc (.cells #[.int .i64 0] 64)).frozen? ⟨w.heap.size,0,none⟩=false by simp);have c:Hid (Below w.heap.size w (w.alloc (.cells #[.int .i64 0] 64))):=hid ((Below.refl _ w).alloc (Nat.le_refl _) _);clear hg
 go_enter Tryz.func19,Tryz.ntmps19;go_wp2_with (go_at_call 50;go_loud (refine(zwc y ⟨w.heap.size,0,none⟩ _ _  g.out a.out f.out).mono ?_;rintro e w' ⟨rfl,w1,hB,rfl⟩;have hc:=zsw (v:=.int .i64 y) hB a.out;generalize w1.setCell ⟨w.heap.size,0,none⟩ (.int .i64 y)=w2 at hc;have j:=hc.1;have d:=hid (c.out.trans hc.2);clear hc hB))
 go_ret
 exact⟨rfl,d.out⟩
theorem zqt(y:Int)(w:World)(hg:w.cell? ⟨0,0,none⟩=some HandleV):Calls Tryz.prog 16 #[.iface 64 (.int .i64 y)] w fun a w'=>a=.returned (.tuple #[.string ByteArray.empty,.int .i64 0,false])∧Below w.heap.size w w':=by
 have f:=zda hg;have d:=hid (show(w.alloc (.cells #[.pointer none] 119)).cell? ⟨0,0,none⟩=some HandleV by rw[World.cell?_alloc_lt _ _ ⟨0,0,none⟩ f];exact hg);have g:=hid (show(w.alloc (.cells #[.pointer none] 119)).cell? ⟨w.heap.size,0,none⟩=some (.pointer none)by simp);have b:Hid (Below w.heap.size w (w.alloc (.cells #[.pointer none] 119))):=hid ((Below.refl _ w).alloc (Nat.le_refl _) _);clear hg;go_enter Tryz.func16,Tryz.ntmps16
 go_wp2_with (go_at_call 50;go_loud (refine(ztW y ⟨w.heap.size,0,none⟩ _ _ d.out g.out).mono ?_;rintro e w' ⟨rfl,hB⟩;have c:=hid (b.out.trans (hB.mono (by simp)));clear hB))
 go_ret3
 exact⟨rfl,c.out⟩
theorem told_Errno(y:Int)(w:World)(hg:w.cell? ⟨0,0,none⟩=some HandleV) :
  Calls Tryz.prog 18 #[.iface 64 (.int .i64 y),.int .i64 y,.string ByteArray.empty,.int .i64 0] w fun b w'=>b=.returned true∧Below w.heap.size w w':=by
 have c:=hid (zcB hg);have f:=hid hg;have g:=hid (zqt y w hg);have hS:ByteArray.empty.toList.isEmpty=true:=by first | kernel_rfl | simp[ByteArray.toList,ByteArray.toList.loop]
 clear hg;go_enter Tryz.func18,Tryz.ntmps18
 go_wp2_with (first
  | (go_at_call 16;refine g.out.mono ?_;rintro e w' ⟨rfl,hb⟩;have a:=hid hb;clear hb)
  | (go_at_call 19;go_loud (refine(zoR y _ ((a.out.cell (p:=⟨0,0,none⟩) c.out).trans f.out)).mono ?_;rintro e w' ⟨rfl,hb⟩;have d:=hid (a.out.trans (hb.mono a.out.size));clear hb)))
 go_ret
 exact⟨rfl,d.out⟩
end Err
def zKt (q:Rat):Rat:=if q.num<0 then -q else q
theorem zKW(q:Rat):(zKt q).num=(q.num.natAbs:Int):=by
 unfold zKt;split
 ·rw[Rat.neg_num];omega
 ·omega
theorem zLp(q:Rat):(zKt q).den=q.den:=by unfold zKt;split<;>first | exact Rat.neg_den | rfl
theorem zLK(q:Rat):0≤zKt q:=by rw[←Rat.num_nonneg,zKW];exact Int.natCast_nonneg _
theorem zLJ(q:Rat):mw (zKt q)=mw q:=by unfold zKt;split<;>first | exact zhY q | rfl
theorem zLI(q:Rat):dn (zKt q)=dn q:=by unfold dn;rw[zLp]
namespace Rt
theorem abs(g:Bool)(A:OA)(m c:Nat)(D:OA)(b a:Nat)(q:Rat)(w:World)(h:RatS w g (A,m,c) (D,b,a) q):Calls Tryz.prog 24 #[.agg #[g,(A,m,c),(D,b,a)]] w (ze4 w (zKt q)):=by
 obtain⟨W,d⟩:∃W,((w.alloc (.cells #[g,(A,m,c),(D,b,a)] 49)).alloc (.cells #[false,(),()] 49))=W:=⟨_,rfl⟩
 have i:=hid (show W.heap[w.heap.size]? = some (.cells #[g,(A,m,c),(D,b,a)] 49 (0,0))by rw[←d];exact zak (zam (by simp)));have j:=hid (show W.heap[w.heap.size+1]? = some (.cells #[false,(),()] 49 (0,0))by rw[←d];exact zam (by simp));have f:=hid (show Below w.heap.size w W by rw[←d];exact(zae w _).alloc (by simp) _);have u:=hid (show RatS W g (A,m,c) (D,b,a) q by rw[←d];exact((h).alloc _).alloc _);obtain⟨Q,Y,R,L,ag,ap⟩:=bc3 i.out
 obtain⟨am,aj,aC,af,ah,aq,au,aa,av,ay,aH,aE⟩:=bf3 j.out;clear h;go_enter Tryz.func24,Tryz.ntmps24;go_wp2_with fail
 clear d
 go_region_with (first
  | (go_at_call 53;(with_reducible refine(It.abs g A m c _).mono ?_);rintro e w1 ⟨rfl,hb⟩;have o:=hid (zad hb i.out);have l:=hid (zad hb j.out);have s:=hid (u.out.drew.below hb);have n:=hid (f.out.trans ((It.bdrew0' hb).mono f.out.size));obtain⟨O,V,P,X,ae,al⟩:=bc3 o.out;obtain⟨ak,U,az,ac,an,K,aw,ai,ab,ar,aD,ax⟩:=bf3 l.out;clear hb)
  | (go_at_call 52;(with_reducible refine(It.new false A m c q.num.natAbs _ s.out.num.abs).mono ?_);rintro e k ⟨g3,A3,m3,c3,rfl,hn,hb⟩;have z:=hid (zad hb o.out);have r:=hid (zad hb l.out);have J:=hid (s.out.below hb);have t:=hid (show IntS k g3 (A3,m3,c3) (if false then -(q.num.natAbs:Int)else (q.num.natAbs:Int))from hn);have F:=hid (n.out.trans ((hb).mono n.out.size));obtain⟨S,M,T,N,aG,aB⟩:=bc3 z.out;obtain⟨E,B,Z,ao,G,y,aA,ad,I,C,aI,aF⟩:=bf3 r.out;clear hn hb))
 all_goals
  go_wp2;refine bodyPost_ret (v:=.agg #[g3,(A3,m3,c3),(D,b,a)]) (by simp[results,Tryz.results24,go_sem,E,B,G,y,I,C]) rfl ?_;have x:RatS k g3 (A3,m3,c3) (D,b,a) (zKt q):=⟨by have h:=t.out;rwa [if_neg (by decide),←zKW]at h,by rw[zLI];exact J.out.den⟩
  exact⟨g3,A3,m3,c3,D,b,a,rfl,x.set3 r.out (by decide) _ _ _,bsc (bsc (bsc F.out))⟩
