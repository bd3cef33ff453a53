/- Contracts and lemmas: BasN. Conditions: as each says. -/
import Derived.Test.YtbhfhkcdfmmmiaaGreatDoorLuFacZd
set_option linter.all false
set_option maxHeartbeats 4000000
set_option maxRecDepth 100000
namespace Go.Proofs.YtbhfhkcdfmmmiaaGreatDoor
open Go.RowKit Am
open Lib (hid)
attribute [local go_sem ↓] Go.wp_at_zero Go.wp_at_succ
def zCq (w:World) (n S:Nat) (C:List (List Rat)) (e:Ending) (w':World):Prop :=
  (∃q,CReg n C∧e=.returned (.tuple #[.pointer (some ⟨q,0,none⟩),.nilIface])∧zjE w' w.heap.size q n S C∧Below w.heap.size w w') ∨
  (¬CReg n C∧e=.returned (.tuple #[.pointer none,.iface 64 (.int .i64 140)])∧Below w.heap.size w w')
namespace Bs
theorem new(n F:Nat)(A:OA)(l0:List Value)(C:List (List Rat))(s S:Nat)(w:World)(h:VecsL w s (A,n,F) l0 C)(G:CSq n C)(N:n≤64)(P:zhg mw n S C)(J:24*uB n S+8≤LIM) :
  Calls Tryz.prog 60 #[(A,n,F)] w (zCq w n S C):=by
 have u:=hid N;have B:=hid G;have ad:=hid P;have X:=hid J;have D:=hid h;have m:=hid h.nlen;have aq:n≤9223372036854775807:=by omega
 have al:decide ((64:Int)<(n:Int))=false:=by simp;omega
 have am:¬((64:Int)<(n:Int)):=by omega
 have an:((n:Int) != (n:Int))=false:=by simp
 clear N G P J h;go_enter Tryz.func60,Tryz.ntmps60;go_wp2
 go_loopw [11] (fun i wr=>∃(k:Nat) (bA:OA) (bc_:Nat) (j:List Value),i=.int .i64 k∧k≤n∧wr.heap[w.heap.size]? = some (.cells #[(bA,k,bc_),.pointer none,()] 175 (0,0))∧VecsL wr w.heap.size (bA,k,bc_) j (C.take k)∧Below w.heap.size w wr)
  (fun i _=>n-(intOf i).toNat)
 case atStart=>exact⟨0,none,0,[],rfl,Nat.zero_le _,zal _ _ _,by rw[List.take_zero];exact VecsL.nil _ _,zae _ _⟩
 case round =>
  obtain⟨k,bA,bc_,j,rfl,hk,l,c,d⟩:=hrel;by_cases M:k<n
  ·obtain⟨r,hr⟩:∃r,C[k]? = some r:=⟨C[k]'(by rw[←m.out];exact M),List.getElem?_eq_getElem _⟩
   have O:=zuy B.out r (List.mem_of_getElem? hr);obtain⟨b0,rfl,_,_⟩:=D.out.has (by omega);obtain⟨q,y,_,y0,z⟩:=(D.out.below d).at_ hr;rw[O]at y0 z;have f:=hid (z);have R:=hid (c);have HW:=hid (Bel.mk d);have aw:=y0;have ak:wr.cell? ⟨w.heap.size,0,none⟩=some (bA,k,bc_):=zac l 0;have ai:=zaa ak;have x:=hid l;have Z:=hid hr
   have V:=hid (d.size);clear hr O z c d l y0;have ao:(0:Int)≤(k:Int):=Int.natCast_nonneg _;have ap:(k:Int)<(n:Int):=by omega
   go_wp2_with fail
   refine zaS (S:=fun w'=>w'.cell? ⟨w.heap.size,0,none⟩=some (bA,k,bc_)) [11] (h:=fun hHeld=>?_);refine zaw [0,1,2,3,4,5] ?_;repeat refine tkL (hS:=hHeld) (h:=?_)
   refine zao ?_;refine zaB 6 (h:=fun K a=>?_);go_simp
   (go_at_call 54;(with_reducible refine(Vc.copy q n y r s _ (f.out.drew) (by have:=u.out;omega)).mono ?_);rintro e u1 ⟨A2,c2,rfl,hv2,c⟩;have ab:=hid (show VecS u1 wr.heap.size (A2,n,c2) r from hv2);have T:=hid (R.out.below (show Below wr.heap.size wr u1 from It.bdrew0' c));have E:=hid (HW.out.below (show Below wr.heap.size wr u1 from It.bdrew0' c));have ae:=hid (zad (show Below wr.heap.size wr u1 from It.bdrew0' c) x.out);have s0:=zab c ai;clear hv2 c)
   (try go_wp2_with fail)
   refine a.out _ _ kp fun hHeld=>?_
   clear a K;try simp only[Act.put,pu1,pu2,pu3,pu4,pu5,pu6]
   refine zaB 7 (h:=fun K a=>?_);go_simp;refine a.out _ _ kp fun hHeld=>?_
   clear a K;try simp only[Act.put,pu1,pu2,pu3,pu4,pu5,pu6]
   refine zaB 8 (h:=fun K a=>?_)
   (refine zet rfl _ _ rfl rfl (T.out.alloc (.cells #[(A2,n,c2)] 28)) rfl (zal _ _ _) ((ab.out.base V.out).alloc _) (n:=k) (by rw[List.length_take];have:=m.out;omega) (by have:=u.out;omega) (by simp;have:=E.out.b.size;omega) ?_;intro Q c5 w5 H L I ah;have Y:=hid H;have U:=hid I;have o:=hid (L.blk (zak ae.out) (by decide));have z0:=zac o.out 0;have zf:=zag o.out 0;simp only[List.getElem?_toArray,List.getElem?_cons_zero,List.getElem?_cons_succ]at z0;clear H L I ah)
   refine a.out _ _ kp fun hHeld=>?_
   clear a K;try simp only[Act.put,pu1,pu2,pu3,pu4,pu5,pu6]
   refine zaw [9] ?_;repeat refine tkX (h:=?_)
   refine zao ?_;refine zaw [10] ?_;repeat refine tkL (hS:=hHeld) (h:=?_)
   refine zao ?_;refine zay 11 (h:=fun K a=>?_);go_simp;refine a.out _ _ ?_;clear a K;try simp only[Act.put,pu1,pu2,pu3,pu4,pu5,pu6]
   refine zaM (h:=?_);go_wp2;go_roundw
   case rel=>exact⟨k+1,Q,c5,_,by go_num,by omega,zar _ o.out,by rw[show C.take (k+1)=C.take k++[r]by rw[List.take_add_one,Z.out];rfl];exact Y.out.tk (TKeep.set o.out _) (by decide) (by decide) (by decide),((E.out.alloc _).b.trans U.out).setCell (p:=⟨w.heap.size,0,none⟩) (Nat.le_refl _) _⟩
   case measure=>simp[intOf];omega
  ·obtain rfl:k=n:=by omega
   have W:=hid (show VecsL wr w.heap.size (bA,k,bc_) j C by have h:=c;rw[m.out,List.take_length]at h;rw[m.out];exact h);have v:=hid d;have x:=hid l;clear hk l c d M;go_wp2_with fail
   refine(factor w.heap.size w.heap.size k S bc_ bA j C _ _ _ x.out W.out (Nat.le_refl _) B.out u.out ad.out X.out).mono ?_;rintro e w2 (⟨hr,rfl,hs,hb2,_⟩ | ⟨hr,rfl,hb2⟩)
   ·have f:=hid hr;have HS:=hid (hs none (fun g h=>by cases h)).toS;have t:=hid (v.out.trans hb2);clear hr hs hb2;go_wp2;go_ret2
    exact .inl ⟨_,f.out,rfl,HS.out,t.out⟩
   ·have f:=hid hr;have t:=hid (v.out.trans (hb2.mono v.out.size));clear hr hb2;go_wp2;go_ret2
    exact .inr ⟨f.out,rfl,t.out⟩
