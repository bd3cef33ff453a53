/- A problem's standard form,as lists;where each row leaves something that makes a basis,and it is right where no cost is below 0. Conditions: as each says. What the dual's end tells of the problem itself: nothing fits,or numbers that fit and cost just what the rows are worth. Conditions: as each says. Rows of whole numbers: slices.Clone,Contains,Index by their contracts. Conditions: as each says. A problem seen from a basis,in memory. Conditions: as each says. A table taken apart,while its rows are laid: what lies in memory. Conditions: as each says. rat.Abs by its contract;what a fraction is without its sign. Conditions: as it says. Conditions: as they say. -/
import Derived.Test.YtdbgbaiekpbaoaaGreatDoorVec1Zp
import Derived.Test.YtdbgbaiekpbaoaaGreatDoorLp2Zp
import Derived.Test.YtdbgbaiekpbaoaaGreatDoorMat2Zp
import Derived.Test.YtdbgbaiekpbaoaaGreatDoorBasMemZp
import Derived.Test.YtdbgbaiekpbaoaaGreatDoorLuMem2Zp
set_option linter.all false
namespace Go.Proofs.YtdbgbaiekpbaoaaGreatDoor
open Go.RowKit Am
open Lib (hid)
def cnt (rows:List PRow):Nat → Nat
  | 0 => 0
  | k + 1 => cnt rows k + if (rows.getD k default).kind = 3 then 0 else 1
theorem zyi (rows:List PRow) {j k:Nat} (h:j ≤ k):cnt rows j ≤ cnt rows k:=by
 induction k with
 | zero => rw [Nat.le_zero.1 h];exact Nat.le_refl _
 | succ k ih =>
  by_cases e:j = k + 1
  ·rw [e];exact Nat.le_refl _
  ·exact Nat.le_trans (ih (by omega)) (show cnt rows k ≤ cnt rows k + _ from Nat.le_add_right _ _)
def zfI (k:Int):Int:=if k = 1 then 1 else -1
def zch (rows:List PRow) (k:Nat):List Rat:=(List.range (cnt rows rows.length)).map fun t => if (rows.getD k default).kind ≠ 3 ∧ t = cnt rows k then ((zfI (rows.getD k default).kind:Int):Rat) else 0
def zc3 (rows:List PRow):List (List Rat):=(List.range rows.length).map fun k => (rows.getD k default).coef ++ zch rows k
def zg8 (rows:List PRow):List Rat:=rows.map fun r => r.rhs
def zjD (cost:List Rat) (rows:List PRow):List Rat:=cost ++ List.replicate (cnt rows rows.length) 0
def zli (n m:Nat):List Nat:=(List.range m).map fun k => n + k
theorem zrT {rows:List PRow} {k:Nat} (h:k < rows.length):(zc3 rows).getD k [] = (rows.getD k default).coef ++ zch rows k:=by
 unfold zc3;rw [zbU _ _ (by simpa using h) 0,zcA h]
theorem zql (rows:List PRow) (k:Nat):(zch rows k).length = cnt rows rows.length:=by simp [zch]
theorem zlk {n:Nat} {rows:List PRow} (h:∀ k,k < rows.length → (rows.getD k default).coef.length = n):Rect rows.length (n + cnt rows rows.length) (zc3 rows) :=
 ⟨by simp [zc3],fun i hi => by rw [zrT hi,List.length_append,h i hi,zql]⟩
theorem zvs {n:Nat} {rows:List PRow} (h:∀ k,k < rows.length → (rows.getD k default).coef.length = n) {k t:Nat} (hk:k < rows.length) (ht:t < cnt rows rows.length) :
  en (zc3 rows) k (n + t) = if (rows.getD k default).kind ≠ 3 ∧ t = cnt rows k then ((zfI (rows.getD k default).kind:Int):Rat) else 0:=by
 unfold en
 rw [zrT hk]
 unfold el
 rw [List.getD_eq_getElem?_getD,List.getElem?_append_right (by rw [h k hk];omega),h k hk,show n + t - n = t by omega]
 unfold zch
 rw [List.getElem?_map,List.getElem?_range ht];rfl
theorem zpU {rows:List PRow} (h:∀ k,k < rows.length → (rows.getD k default).kind ≠ 3):∀ k,k ≤ rows.length → cnt rows k = k
 | 0,_ => rfl
 | k + 1,hk => by rw [cnt,zpU h k (by omega),if_neg (h k (by omega))]
theorem zmd (n m:Nat):(zli n m).length = m:=by simp [zli]
theorem zgb {n m k:Nat} (h:k < m):(zli n m).getD k 0 = n + k:=by unfold zli;rw [zbU _ _ (by simpa using h) 0,zcA h]
section
variable {n:Nat} {rows:List PRow} (hl:∀ k,k < rows.length → (rows.getD k default).coef.length = n) (hk:∀ k,k < rows.length → (rows.getD k default).kind ≠ 3)
include hl hk
theorem zrP {i j:Nat} (hi:i < rows.length) (hj:j < rows.length):en (bc (zc3 rows) (zli n rows.length)) j i = if i = j then ((zfI (rows.getD i default).kind:Int):Rat) else 0:=by
 have hc:=zpU hk
 rw [ztZ (by rw [zmd];exact hj) (by rw [(zlk hl).len];exact hi),zgb hj,zvs hl hi (by rw [hc _ (Nat.le_refl _)];exact hj),hc i (by omega)]
 by_cases e:i = j
 ·rw [if_pos ⟨hk i hi,e.symm⟩,if_pos e]
 ·rw [if_neg (fun h => e h.2.symm),if_neg e]
omit hl hk in
theorem zBi (k:Int):((zfI k:Int):Rat) ≠ 0:=by unfold zfI;split <;> decide
theorem zqz:Basis rows.length (n + rows.length) (zc3 rows) (zli n rows.length):=by
 have hc:=zpU hk rows.length (Nat.le_refl _)
 refine ⟨by have:=zlk hl;rw [hc] at this;exact this,zmd _ _,fun k hk => by rw [zgb hk];omega,fun k l hk hl e => by rw [zgb hk,zgb hl] at e;omega,fun x hx j hj => ?_⟩
 have : zai rows.length (fun i => en (bc (zc3 rows) (zli n rows.length)) i j * x i) = 0:=hx j hj
 rw [zbI (k:=j) hj fun i hi hne => by rw [zrP hl hk hj hi,if_neg (Ne.symm hne)];grind,zrP hl hk hj hj,if_pos rfl] at this
 rcases Rat.mul_eq_zero.1 this with h | h
 ·exact absurd h (zBi _)
 ·exact h
theorem zKV {cost:List Rat} (hn:cost.length = n) (h0:∀ q ∈ cost,0 ≤ q):zx5 (n + rows.length) (zc3 rows) (zjD cost rows) (zli n rows.length):=by
 have hc:=zpU hk rows.length (Nat.le_refl _)
 have hB:=zqz hl hk
 have lC:(zjD cost rows).length = n + rows.length:=by simp [zjD,hn,hc]
 have c0:∀ j,0 ≤ el (zjD cost rows) j:=fun j => by
  unfold zjD el
  rw [List.getD_eq_getElem?_getD]
  by_cases h:j < cost.length
  ·rw [List.getElem?_append_left h,List.getElem?_eq_getElem h];exact h0 _ (List.getElem_mem h)
  ·rw [List.getElem?_append_right (by omega),List.getElem?_replicate];split <;> exact Rat.le_refl
 have cz:∀ k,k < rows.length → el (zjD cost rows) (n + k) = 0:=fun k _ => by
  unfold zjD el
  rw [List.getD_eq_getElem?_getD,List.getElem?_append_right (by omega),List.getElem?_replicate];split <;> rfl
 have y0:∀ i,i < rows.length → el (zcl (zc3 rows) (zli n rows.length) (zjD cost rows)) i = 0:=fun i hi => by
  have e:=(hB.duals_ok (zjD cost rows)).1 i hi
  rw [zbI (k:=i) hi fun j hj hne => by rw [zrP hl hk hj hi,if_neg hne];grind,zrP hl hk hi hi,if_pos rfl] at e
  have e2:el (List.map (fun j => el (zjD cost rows) j) (zli n rows.length)) i = 0:=by
   conv => lhs;unfold el
   rw [zbU _ _ (by rw [zmd];exact hi) 0,zgb hi];exact cz i hi
  rw [e2] at e
  rcases Rat.mul_eq_zero.1 e with h | h
  ·exact h
  ·exact absurd h (zBi _)
 intro j hj
 rw [hB.prices_el lC hj,zcn fun i hi => by rw [y0 i hi];grind]
 have:=c0 j;grind
end
def zh1 (N:Nat) (cols:List Nat) (xs:List Rat):List Rat:=(List.range N).map fun j => pt cols.length (fun k => cols.getD k 0) (el xs) j
theorem zl8 (N:Nat) (cols:List Nat) (xs:List Rat):(zh1 N cols xs).length = N:=by simp [zh1]
theorem zvg {N:Nat} {cols:List Nat} {xs:List Rat} {j:Nat} (h:j < N):el (zh1 N cols xs) j = pt cols.length (fun k => cols.getD k 0) (el xs) j:=by
 unfold zh1
 conv => lhs;unfold el
 rw [zbU _ _ (by simpa using h) 0,zcA h]
 rfl
section
variable {n:Nat} {rows:List PRow} (hl:∀ k,k < rows.length → (rows.getD k default).coef.length = n) (hk:∀ k,k < rows.length → (rows.getD k default).kind ≠ 3)
include hl
theorem zKy {k j:Nat} (h:k < rows.length) (hj:j < n):en (zc3 rows) k j = el (rows.getD k default).coef j:=by
 unfold en;rw [zrT h,zkF (by rw [hl k h];exact hj)]
include hk
theorem zKi {k t:Nat} (h:k < rows.length) (ht:t < rows.length):en (zc3 rows) k (n + t) = if t = k then ((zfI (rows.getD k default).kind:Int):Rat) else 0:=by
 have hc:=zpU hk
 rw [zvs hl h (by rw [hc _ (Nat.le_refl _)];exact ht),hc k (by omega)]
 by_cases e:t = k
 ·rw [if_pos ⟨hk k h,e⟩,if_pos e]
 ·rw [if_neg (fun h => e h.2),if_neg e]
theorem zKX (y:Nat → Rat) {t:Nat} (ht:t < rows.length):zai rows.length (fun i => y i * en (zc3 rows) i (n + t)) = y t * ((zfI (rows.getD t default).kind:Int):Rat):=by
 rw [zbI (k:=t) ht fun i hi hne => by rw [zKi hl hk hi ht,if_neg (Ne.symm hne)];grind,zKi hl hk ht ht,if_pos rfl]
omit hl hk in
theorem zKf {i:Nat} (h:i < rows.length):el (zg8 rows) i = (rows.getD i default).rhs:=by
 unfold zg8 el;rw [zbU _ _ h default]
omit hl hk in
theorem zKd {k:Int} (h:k = 1):((zfI k:Int):Rat) = 1:=by unfold zfI;rw [if_pos h];rfl
omit hl hk in
theorem zKe {k:Int} (h:k ≠ 1):((zfI k:Int):Rat) = -1:=by unfold zfI;rw [if_neg h];rfl
theorem zL3 {cols:List Nat} {c:List Rat} (hB:Basis rows.length (n + rows.length) (zc3 rows) cols) (hc:c.length = n + rows.length) {k:Nat}
  (e:zbE (n + rows.length) (zc3 rows) (zg8 rows) c (List.replicate (n + rows.length) true) cols = .bad k) :
  k < rows.length ∧ el (za5 (zc3 rows) (zg8 rows) cols) k < 0 ∧ (∀ j,j < n + rows.length → 0 ≤ el (zk8 (n + rows.length) (zc3 rows) cols k) j) ∧
  (∀ t,t < rows.length → 0 ≤ el (zbf (zc3 rows) cols k) t * ((zfI (rows.getD t default).kind:Int):Rat)) ∧
  (∀ j,j < n → 0 ≤ zai rows.length fun i => el (zbf (zc3 rows) cols k) i * el (rows.getD i default).coef j) ∧ zai rows.length (fun i => el (zbf (zc3 rows) cols k) i * (rows.getD i default).rhs) < 0:=by
 have hm:∀ i,i < n + rows.length → (List.replicate (n + rows.length) true).getD i false = true:=fun i hi => by rw [List.getD_eq_getElem?_getD,List.getElem?_replicate,if_pos hi];rfl
 have lp:(zaC (n + rows.length) (zc3 rows) cols c).length = n + rows.length:=by unfold zaC;rw [zdt (by rw [zkb,hc]),hc]
 unfold zbE at e
 have s1:=zdk cols (za5 (zc3 rows) (zg8 rows) cols) (za5 (zc3 rows) (zg8 rows) cols).length
 split at e
 ·cases e
 ·rename_i k' h1
  unfold zi5 at h1
  rw [h1,(hB.vals_ok _).2] at s1
  simp only at s1
  split at e
  ·rename_i h2
   injection e with e
   subst e
   unfold zhy at h2
   rw [lp,show (zk8 (n + rows.length) (zc3 rows) cols k').length = n + rows.length from zkb _ _ _,List.length_replicate,Nat.min_self,Nat.min_self] at h2
   have s2:=zdW (zaC (n + rows.length) (zc3 rows) cols c) (zk8 (n + rows.length) (zc3 rows) cols k') (List.replicate (n + rows.length) true) (n + rows.length)
   rw [h2] at s2
   simp only at s2
   have s3:∀ j,j < n + rows.length → 0 ≤ el (zk8 (n + rows.length) (zc3 rows) cols k') j:=fun j hj => s2 j hj (hm j hj)
   have s4:∀ j,j < n + rows.length → 0 ≤ zai rows.length fun i => el (zbf (zc3 rows) cols k') i * en (zc3 rows) i j:=fun j hj => by
    have:=s3 j hj;unfold zk8 at this;rw [zx9 hj,hB.rect.len] at this;exact this
   refine ⟨s1.1,s1.2.1,s3,fun t ht => ?_,fun j hj => ?_,?_⟩
   ·have:=s4 (n + t) (by omega);rw [zKX hl hk _ ht] at this;exact this
   ·have:=s4 j (by omega);rw [zaj fun i hi => by rw [zKy hl hi hj]] at this;exact this
   ·have:=s1.2.1
    rw [hB.by_weights s1.1 (hB.vals_ok _).1,zaj fun i hi => by rw [zKf hi]] at this;exact this
  ·cases e
theorem zL2 {cols:List Nat} {cost:List Rat} (hB:Basis rows.length (n + rows.length) (zc3 rows) cols) (hn:cost.length = n) (r:zx5 (n + rows.length) (zc3 rows) (zjD cost rows) cols)
  (e:zbE (n + rows.length) (zc3 rows) (zg8 rows) (zjD cost rows) (List.replicate (n + rows.length) true) cols = .stop) :
  (∀ k,k < rows.length → 0 ≤ el (za5 (zc3 rows) (zg8 rows) cols) k) ∧ (∀ t,t < rows.length → el (zcl (zc3 rows) cols (zjD cost rows)) t * ((zfI (rows.getD t default).kind:Int):Rat) ≤ 0) ∧
  (∀ j,j < n → zai rows.length (fun i => el (zcl (zc3 rows) cols (zjD cost rows)) i * el (rows.getD i default).coef j) ≤ el cost j) ∧
  (∀ j,0 ≤ el (zh1 (n + rows.length) cols (za5 (zc3 rows) (zg8 rows) cols)) j) ∧
  (∀ i,i < rows.length → zai n (fun j => el (rows.getD i default).coef j * el (zh1 (n + rows.length) cols (za5 (zc3 rows) (zg8 rows) cols)) j) + ((zfI (rows.getD i default).kind:Int):Rat) * el (zh1 (n + rows.length) cols (za5 (zc3 rows) (zg8 rows) cols)) (n + i) = (rows.getD i default).rhs) ∧
  zai n (fun j => el cost j * el (zh1 (n + rows.length) cols (za5 (zc3 rows) (zg8 rows) cols)) j) = zai rows.length fun i => el (zcl (zc3 rows) cols (zjD cost rows)) i * (rows.getD i default).rhs:=by
 have hc:=zpU hk rows.length (Nat.le_refl _)
 have lC:(zjD cost rows).length = n + rows.length:=by simp [zjD,hn,hc]
 have cOwn:∀ j,j < n → el (zjD cost rows) j = el cost j:=fun j hj => by unfold zjD;rw [zkF (by omega)]
 have cz:∀ k,k < rows.length → el (zjD cost rows) (n + k) = 0:=fun k _ => by
  unfold zjD el
  rw [List.getD_eq_getElem?_getD,List.getElem?_append_right (by omega),List.getElem?_replicate];split <;> rfl
 have x0:∀ k,k < rows.length → 0 ≤ el (za5 (zc3 rows) (zg8 rows) cols) k:=by
  unfold zbE at e
  have s1:=zdk cols (za5 (zc3 rows) (zg8 rows) cols) (za5 (zc3 rows) (zg8 rows) cols).length
  split at e
  ·rename_i h1
   unfold zi5 at h1
   rw [h1,(hB.vals_ok _).2] at s1
   exact s1
  ·split at e <;> cases e
 have D:=hB.dic (zg8 rows)
 have P:=hB.pri lC
 have z0:∀ j,0 ≤ pt cols.length (fun k => cols.getD k 0) (el (za5 (zc3 rows) (zg8 rows) cols)) j:=fun j => by
  rw [hB.len]
  by_cases hb:Bas rows.length (fun k => cols.getD k 0) j
  ·obtain ⟨k,hk,rfl⟩:=hb
   rw [zA7 hB.inj _ hk];exact x0 k hk
  ·rw [zyz _ hb];exact Rat.le_refl
 have p0:∀ j,0 ≤ el (zh1 (n + rows.length) cols (za5 (zc3 rows) (zg8 rows) cols)) j:=fun j => by
  by_cases hj:j < n + rows.length
  ·rw [zvg hj];exact z0 j
  ·rw [zDb (by rw [zl8];omega)];exact Rat.le_refl
 refine ⟨x0,fun t ht => ?_,fun j hj => ?_,p0,fun i hi => ?_,?_⟩
 ·have:=r (n + t) (by omega)
  rw [hB.prices_el lC (by omega),cz t ht,zKX hl hk _ ht] at this;grind
 ·have:=r j (by omega)
  rw [hB.prices_el lC (by omega),cOwn j hj,zaj fun i hi => by rw [zKy hl hi hj]] at this;grind
 ·have s:=D.pt_sol i hi
  rw [zgc _ n rows.length] at s
  rw [zKf hi] at s
  rw [← s]
  congr 1
  ·exact zaj fun j hj => by rw [zKy hl hi hj,zvg (by omega),hB.len]
  ·rw [zbI (k:=i) hi fun t ht hne => by rw [zKi hl hk hi ht,if_neg hne];grind,zKi hl hk hi hi,if_pos rfl,zvg (by omega),hB.len]
 ·have v:=P.value D
  rw [zgc _ n rows.length,zcn (f:=fun t => el (zjD cost rows) (n + t) * _) fun t ht => by rw [cz t ht];grind] at v
  have e3:zai rows.length (fun i => el (zcl (zc3 rows) cols (zjD cost rows)) i * (rows.getD i default).rhs) = zai rows.length (fun i => el (zcl (zc3 rows) cols (zjD cost rows)) i * el (zg8 rows) i):=zaj fun i hi => by rw [zKf hi]
  rw [e3, ← v]
  have e2:zai n (fun j => el cost j * el (zh1 (n + rows.length) cols (za5 (zc3 rows) (zg8 rows) cols)) j) = zai n (fun j => el (zjD cost rows) j * pt rows.length (fun k => cols.getD k 0) (fun k => el (za5 (zc3 rows) (zg8 rows) cols) k) j):=zaj fun j hj => by
   rw [cOwn j hj,zvg (by omega),hB.len]
  rw [e2];grind
end
end Go.Proofs.YtdbgbaiekpbaoaaGreatDoor
namespace Go.Proofs.YtdbgbaiekpbaoaaGreatDoor
open Go.RowKit Am
open Lib (hid)
attribute [local go_sem ↓] Go.wp_at_zero Go.wp_at_succ
set_option maxHeartbeats 2000000
set_option maxRecDepth 100000
def zcells (xs:List Int):List Value:=xs.map fun x => .int .i64 x
theorem zmo (xs:List Int):(zcells xs).length = xs.length:=by simp [zcells]
theorem zsA (xs:List Int):∀ u ∈ zcells xs,u.oneCell' = true:=by
 intro u hu;simp only [zcells,List.mem_map] at hu;obtain ⟨x,_,rfl⟩:=hu;rfl
structure IntsZ (w:World) (H:Nat) (v:Value) (xs:List Int):Prop where
  own:w.ownsRow H 3 1 v xs.length (zcells xs)
theorem IntsS.toZ {w:World} {H:Nat} {v:Value} {xs:List Nat} (h:IntsS w H v xs):IntsZ w H v (xs.map fun (x:Nat) => (x:Int)):=⟨by
 have:=h.own;rw [List.length_map];unfold zcells;rw [List.map_map];exact this⟩
theorem IntsZ.toS {w:World} {H:Nat} {v:Value} {xs:List Nat} (h:IntsZ w H v (xs.map fun (x:Nat) => (x:Int))):IntsS w H v xs:=⟨by
 have:=h.own;rw [List.length_map] at this;unfold zcells at this;rw [List.map_map] at this;exact this⟩
namespace IntsZ
variable {w w':World} {H:Nat} {v:Value} {xs:List Int}
theorem keep (h:IntsZ w H v xs) (hk:∀ k,v.ownBlock = some k → w'.heap[k]? = w.heap[k]?):IntsZ w' H v xs:=⟨zc9 h.own hk⟩
theorem below (h:IntsZ w H v xs) (hb:Below w.heap.size w w'):IntsZ w' H v xs:=h.keep fun k hk => hb.block k (h.own.lt k hk).2
theorem alloc (h:IntsZ w H v xs) (o:Obj):IntsZ (w.alloc o) H v xs:=h.below (zae w o)
theorem drew (h:IntsZ w H v xs):IntsZ w.drew H v xs:=h.below (zap w 1)
theorem base {H':Nat} (h:IntsZ w H v xs) (hb:H' ≤ H):IntsZ w H' v xs:=⟨zbu h.own hb⟩
theorem nil (w:World) (H:Nat):IntsZ w H (.slice none 0 0) []:=⟨World.ownsRow_nil _ _ _ _⟩
theorem tk {t:TypeId} (h:IntsZ w H v xs) (hk:TKeep t w w') (h1:3 ≠ t):IntsZ w' H v xs :=
 h.keep fun k hb => hk k (h.own.lt k hb).2 fun cs e => za6 h.own e h1 hb
theorem form {A:Option Addr} {n c:Nat} (h:IntsZ w H (.slice A n c) xs):n = xs.length ∧ n ≤ c ∧ c ≤ maxLen ∧ ((A = none ∧ c = 0 ∧ xs = []) ∨ ∃ g,A = some ⟨g,0,none⟩ ∧ H ≤ g ∧ g < w.heap.size):=by
 rcases h.own.2 with ⟨hv,hn⟩ | ⟨g,cap,cur,hv,hg,hh,hn,hm,_⟩
 ·injection hv with e1 e2 e3
  subst e1 e2 e3
  exact ⟨hn.symm,Nat.le_refl _,Nat.zero_le _, .inl ⟨rfl,rfl,List.length_eq_zero_iff.1 hn⟩⟩
 ·injection hv with e1 e2 e3
  subst e1 e2 e3
  exact ⟨rfl,hn,hm, .inr ⟨g,rfl,hg,(Array.getElem?_eq_some_iff.1 hh).1⟩⟩
theorem len {A:Option Addr} {n c:Nat} (h:IntsZ w H (.slice A n c) xs):n = xs.length:=h.form.1
theorem has {A:Option Addr} {n c:Nat} (h:IntsZ w H (.slice A n c) xs) (hn:0 < n):∃ g,A = some ⟨g,0,none⟩ ∧ H ≤ g ∧ g < w.heap.size:=by
 obtain ⟨h1,h2,h3,h4 | h4⟩:=h.form
 ·omega
 ·exact h4
theorem slice (h:IntsZ w H v xs):∃ A c,v = .slice A xs.length c:=by
 rcases h.own.2 with ⟨hv,hn⟩ | ⟨g,cap,cur,hv,_⟩
 ·exact ⟨_,_,by rw [hv,hn]⟩
 ·exact ⟨_,_,hv⟩
theorem fro {b n c:Nat} (h:IntsZ w H (.slice (some ⟨b,0,none⟩) n c) xs) (j:Nat):w.frozen? ⟨b,j,none⟩ = false:=by
 have hn:=h.len
 subst hn
 exact h.own.frozenAt j
theorem at_ {b n c:Nat} (h:IntsZ w H (.slice (some ⟨b,0,none⟩) n c) xs) {k:Nat} {x:Int} (hk:xs[k]? = some x):w.cell? ⟨b,k,none⟩ = some (.int .i64 x):=by
 have hn:=h.len
 subst hn
 have hk':=(List.getElem?_eq_some_iff.1 hk).1
 rw [h.own.cellAt _ (by omega)]
 simp [zcells,hk]
theorem cut {b n c:Nat} (h:IntsZ w H (.slice (some ⟨b,0,none⟩) n c) xs) {k:Nat} (hk:k ≤ n):IntsZ w H (.slice (some ⟨b,0,none⟩) k c) (xs.take k):=by
 have hn:=h.len
 subst hn
 have hl:(xs.take k).length = k:=by rw [List.length_take];omega
 refine ⟨?_⟩
 rw [hl]
 refine ⟨by rw [zmo,hl];omega,?_⟩
 rcases h.own.2 with ⟨h',_⟩ | ⟨g',cap',cur,h',hb,hg,hnc,hcm,hcs,htake⟩
 ·simp at h'
 ·simp only [Value.slice.injEq,Option.some.injEq,Addr.mk.injEq,and_true,true_and] at h'
  obtain ⟨rfl,rfl⟩:=h'
  refine .inr ⟨b,c,cur,rfl,hb,hg,by omega,hcm,hcs,?_⟩
  have e:zcells (xs.take k) = (zcells xs).take k:=by simp [zcells]
  rw [e, ← htake,List.take_take,Nat.mul_one,Nat.mul_one,Nat.min_eq_left hk]
end IntsZ
def zv3 (w:World) (xs:List Int) (e:Ending) (w':World):Prop := ∃ (A:Option Addr) (c:Nat),e = .returned (.slice A xs.length c) ∧ IntsZ w' w.heap.size (.slice A xs.length c) xs ∧ Below w.heap.size w w'
namespace Sl
theorem clone (A:Option Addr) (n c:Nat) (xs:List Int) (H:Nat) (w:World) (h:IntsZ w H (.slice A n c) xs) (hb:n ≤ 1000000):Calls Tryz.prog 78 #[.slice A n c] w (zv3 w xs):=by
 obtain ⟨hn,hnc,hcm,hf⟩:=h.form
 subst hn
 rcases hf with ⟨rfl,rfl,rfl⟩ | ⟨g,rfl,hg,hlt⟩
 ·clear h hnc hcm hb
  have hq:=fun (w:World) => Lib.run_eql_slice_nil (P:=Tryz.prog) w 48 3 none 0 0 0 0 Tryz.underlying48
  go_enter Tryz.func78,Tryz.ntmps78
  go_wp2
  go_ret
  exact ⟨_,_,rfl,IntsZ.nil _ _,Below.refl _ _⟩
 ·have hcell:∀ j u,(zcells xs)[j]? = some u → w.cell? ((⟨g,0,none⟩:Addr).add j) = some u:=fun j u hu => h.own.cells (g:=g) rfl j u hu
  have hq:=fun (w:World) => Lib.run_eql_slice_nil (P:=Tryz.prog) w 48 3 (some ⟨g,0,none⟩) xs.length c 0 0 Tryz.underlying48
  obtain ⟨i0,hi,hz0,hz1,hz2⟩:=info_parts znF
  have hown:=World.ownsRow_made (e:=3) (size:=1) (base:=w.heap.size) w #[] 0 (Nat.le_refl _) (by unfold maxLen;omega) rfl
  have hnews:∀ j u,(zcells xs)[j]? = some u → (w.alloc (.cells #[] 3)).cell? ((⟨g,0,none⟩:Addr).add j) = some u:=fun j u hu =>
   (World.cell?_alloc_lt w _ _ (World.block_lt_of_cell? w _ (hcell j u hu))).trans (hcell j u hu)
  have HO:=hid hown
  have HN:=hid hnews
  have B1:=hid (show 0 + xs.length ≤ maxLen by unfold maxLen;omega)
  have B2:=hid (show (0 + xs.length) * 8 ≤ 140737488355328 by omega)
  clear hown hnews hb hcell hnc hcm hg hlt h
  go_enter Tryz.func78,Tryz.ntmps78
  go_wp2_with (at_builtin;refine wpList_append_own _ rfl _ _ 48 rfl w.heap.size 3 i0 (.int .i64 0) 1 8 Tryz.underlying48 hi hz0 hz1 hz2 rfl (by decide) _ _ _ rfl HO.out ⟨g,0,none⟩ xs.length c (zcells xs) rfl (by rw [zmo];omega) HN.out (zsA xs) B1.out B2.out (by simp) ?_;intro v' w1 hown' hgrow hnil')
  go_ret
  rw [Nat.zero_add,List.nil_append] at hown'
  have hs':IntsZ w1 w.heap.size v' xs:=⟨hown'⟩
  obtain ⟨A',c',rfl⟩:=hs'.slice
  exact ⟨A',c',rfl,hs',(zae w _).trans ((Below.refl _ _).grown hgrow (by simp) (fun k hk => by cases hk;exact Nat.le_refl _))⟩
theorem index (A:Option Addr) (n c:Nat) (xs:List Int) (x:Int) (H:Nat) (w:World) (h:IntsZ w H (.slice A n c) xs) :
  Calls Tryz.prog 128 #[.slice A n c, .int .i64 x] w fun e w' => (∃ i:Int,e = .returned (.int .i64 i) ∧ ((x ∈ xs ∧ 0 ≤ i) ∨ (x ∉ xs ∧ i = -1))) ∧ Below w.heap.size w w':=by
 have HN:=hid h.len
 have hf:=h.form
 have HV:=hid h
 have hnb:n ≤ 9223372036854775807:=by have h2:=hf.2.2.1;unfold maxLen at h2;omega
 clear h hf
 go_enter Tryz.func128,Tryz.ntmps128
 go_wp2
 go_loopw [8] (fun i wr => ∃ k:Nat,i = .int .i64 k ∧ k ≤ n ∧ Below w.heap.size w wr ∧ ∀ j,j < k → xs[j]? ≠ some x)
  (fun i _ => n - (intOf i).toNat)
 case atStart => exact ⟨0,rfl,Nat.zero_le _,Below.refl _ _,fun j hj => absurd hj (Nat.not_lt_zero _)⟩
 case round =>
  obtain ⟨k,rfl,hk,hB,hT⟩:=hrel
  have HB:=hid hB
  have HT:=hid hT
  by_cases hlt:k < n
  ·have HV2:=hid (HV.out.below hB)
   obtain ⟨b,rfl,hb0,hb1⟩:=HV2.out.has (by omega)
   have hq:xs[k]? = some (xs[k]'(by rw [← HN.out];exact hlt)):=List.getElem?_eq_getElem _
   generalize xs[k]'(by rw [← HN.out];exact hlt) = y at hq
   have k0:=HV2.out.at_ hq
   have HQ:=hid hq
   have hi1:(0:Int) ≤ (k:Int):=Int.natCast_nonneg _
   have hi2:(k:Int) < (n:Int):=by omega
   clear hB hT hq
   by_cases e:x = y
   ·subst e
    have e1:(x == x) = true:=by simp
    have HM:=hid (List.mem_of_getElem? HQ.out)
    go_wp2
    go_ret
    exact ⟨⟨_,rfl, .inl ⟨HM.out,hi1⟩⟩,HB.out⟩
   ·have e1:(x == y) = false:=by simpa using e
    have HF:=hid (show ∀ j,j < k + 1 → xs[j]? ≠ some x from fun j hj => by
     by_cases e2:j = k
     ·rw [e2,HQ.out];intro h;injection h with h;exact e h.symm
     ·exact HT.out j (by omega))
    clear e
    go_wp2
    go_roundw
    case rel => exact ⟨k + 1,by go_num,by omega,HB.out,HF.out⟩
    case measure => simp [intOf];omega
  ·obtain rfl:n = k:=by omega
   have HF:=hid (show x ∉ xs from fun hm => by obtain ⟨j,hj⟩:=List.mem_iff_getElem?.1 hm;exact hT j (by rw [HN.out];exact (List.getElem?_eq_some_iff.1 hj).1) hj)
   clear hB hT
   go_wp2
   go_ret
   exact ⟨⟨_,rfl, .inr ⟨HF.out,rfl⟩⟩,HB.out⟩
theorem has (A:Option Addr) (n c:Nat) (xs:List Int) (x:Int) (H:Nat) (w:World) (h:IntsZ w H (.slice A n c) xs) :
  Calls Tryz.prog 75 #[.slice A n c, .int .i64 x] w fun e w' => e = .returned (.bool (decide (x ∈ xs))) ∧ Below w.heap.size w w':=by
 by_cases hm:x ∈ xs
 ·rw [decide_eq_true hm]
  have HM:=hid hm
  clear hm
  go_enter Tryz.func75,Tryz.ntmps75
  go_wp2_with fail
  refine (index A n c xs x H _ h).mono ?_
  rintro e w1 ⟨⟨i,rfl,hi | hi⟩,hb⟩
  ·have HB:=hid hb
   have h0:=hi.2
   clear hb hi
   go_wp2
   go_ret
   exact ⟨rfl,HB.out⟩
  ·exact absurd HM.out hi.1
 ·rw [decide_eq_false hm]
  have HM:=hid hm
  clear hm
  go_enter Tryz.func75,Tryz.ntmps75
  go_wp2_with fail
  refine (index A n c xs x H _ h).mono ?_
  rintro e w1 ⟨⟨i,rfl,hi | hi⟩,hb⟩
  ·exact absurd hi.1 HM.out
  ·obtain ⟨_,rfl⟩:=hi
   have HB:=hid hb
   clear hb
   go_wp2
   go_ret
   exact ⟨rfl,HB.out⟩
end Sl
end Go.Proofs.YtdbgbaiekpbaoaaGreatDoor
namespace Go.Proofs.YtdbgbaiekpbaoaaGreatDoor
open Go.RowKit Am
open Lib (hid)
set_option maxHeartbeats 1000000
set_option maxRecDepth 100000
structure StdP (w:World) (rA:Option Addr) (rc:Nat) (lA:List Value) (bA:Option Addr) (bc_:Nat) (kA:Option Addr) (kc:Nat) (eA:Option Addr) (ec:Nat) (m N S:Nat) (A:List (List Rat)) (b c:List Rat) (left:List Int):Prop where
  rows:VecsL w 0 (.slice rA m rc) lA A
  rl:∀ r ∈ A,r.length = N
  B:VecS w 0 (.slice bA m bc_) b
  C:VecS w 0 (.slice kA N kc) c
  left:IntsZ w 0 (.slice eA m ec) left
  hm:m ≤ 64
  hN:N ≤ 64
  zA:∀ r ∈ A, ∀ q ∈ r,mw q ≤ S
  zb:∀ q ∈ b,mw q ≤ S
  zc:∀ q ∈ c,mw q ≤ S
  hS:1 ≤ S
namespace StdP
variable {w w':World} {rA:Option Addr} {rc:Nat} {lA:List Value} {bA:Option Addr} {bc_:Nat} {kA:Option Addr} {kc:Nat} {eA:Option Addr} {ec m N S:Nat} {A:List (List Rat)} {b c:List Rat} {left:List Int}
theorem below (h:StdP w rA rc lA bA bc_ kA kc eA ec m N S A b c left) (hb:Below w.heap.size w w'):StdP w' rA rc lA bA bc_ kA kc eA ec m N S A b c left :=
 ⟨h.rows.below hb,h.rl,h.B.below hb,h.C.below hb,h.left.below hb,h.hm,h.hN,h.zA,h.zb,h.zc,h.hS⟩
theorem alloc (h:StdP w rA rc lA bA bc_ kA kc eA ec m N S A b c left) (o:Obj):StdP (w.alloc o) rA rc lA bA bc_ kA kc eA ec m N S A b c left:=h.below (zae w o)
theorem drew (h:StdP w rA rc lA bA bc_ kA kc eA ec m N S A b c left):StdP w.drew rA rc lA bA bc_ kA kc eA ec m N S A b c left:=h.below (zap w 1)
theorem rect (h:StdP w rA rc lA bA bc_ kA kc eA ec m N S A b c left):Rect m N A :=
 ⟨h.rows.nlen.symm,fun i hi => h.rl _ (List.mem_of_getElem? (zaO (by rw [← h.rows.nlen];exact hi)))⟩
theorem blen (h:StdP w rA rc lA bA bc_ kA kc eA ec m N S A b c left):b.length = m:=h.B.len.symm
theorem clen (h:StdP w rA rc lA bA bc_ kA kc eA ec m N S A b c left):c.length = N:=h.C.len.symm
theorem zen (h:StdP w rA rc lA bA bc_ kA kc eA ec m N S A b c left) {i j:Nat} (hi:i < m) (hj:j < N):mw (en A i j) ≤ S:=by
 have e:=zaO (L:=A) (i:=i) (d:=[]) (by rw [← h.rows.nlen];exact hi)
 have hm:=List.mem_of_getElem? e
 have h2:=h.rl _ hm
 exact h.zA _ hm _ (List.mem_of_getElem? (zaH (by rw [h2];exact hj)))
theorem zcol (h:StdP w rA rc lA bA bc_ kA kc eA ec m N S A b c left) {j:Nat} (hj:j < N):∀ q ∈ zb4 A j,mw q ≤ S:=fun q hq => by
 obtain ⟨r,hr,rfl⟩:=List.mem_map.1 hq
 exact h.zA r hr _ (List.mem_of_getElem? (zaH (by rw [h.rl r hr];exact hj)))
end StdP
structure TabP (W0 w:World) (H q:Nat) (rA:Option Addr) (rc:Nat) (lA:List Value) (bA:Option Addr) (bc_:Nat) (kA:Option Addr) (kc:Nat) (eA:Option Addr) (ec m N S own:Nat) (A:List (List Rat)) (b c:List Rat) (left:List Int)
    (tA:Option Addr) (tc qb:Nat) (xA:Option Addr) (xc:Nat) (cols:List Nat):Prop where
  blk:w.heap[q]? = some (.cells #[.slice rA m rc, .int .i64 (N:Int), .slice bA m bc_, .slice kA N kc, .int .i64 (own:Int), .slice eA m ec, .slice tA m tc, .pointer (some ⟨qb,0,none⟩), .slice xA m xc] 147 (0,0))
  std:StdP W0 rA rc lA bA bc_ kA kc eA ec m N S A b c left
  bel:Below W0.heap.size W0 w
  base:W0.heap.size ≤ H
  colsI:IntsS w H (.slice tA m tc) cols
  basO:zhf w H qb m S (bc A cols) (Value.slice tA m tc).ownBlock
  x:VecS w H (.slice xA m xc) (za5 A b cols)
  basis:Basis m N A cols
  own_:H ≤ q
def zhi (W0 w:World) (H q:Nat) (rA:Option Addr) (rc:Nat) (lA:List Value) (bA:Option Addr) (bc_:Nat) (kA:Option Addr) (kc:Nat) (eA:Option Addr) (ec m N S own:Nat) (A:List (List Rat)) (b c:List Rat) (left:List Int)
    (tA:Option Addr) (tc:Nat) (cols:List Nat):Prop := ∃ qb xA xc,TabP W0 w H q rA rc lA bA bc_ kA kc eA ec m N S own A b c left tA tc qb xA xc cols
section
variable {W0 w w':World} {H q:Nat} {rA:Option Addr} {rc:Nat} {lA:List Value} {bA:Option Addr} {bc_:Nat} {kA:Option Addr} {kc:Nat} {eA:Option Addr} {ec m N S own:Nat} {A:List (List Rat)} {b c:List Rat} {left:List Int}
  {tA:Option Addr} {tc qb:Nat} {xA:Option Addr} {xc:Nat} {cols:List Nat}
namespace TabP
theorem below (h:TabP W0 w H q rA rc lA bA bc_ kA kc eA ec m N S own A b c left tA tc qb xA xc cols) (hb:Below w.heap.size w w'):TabP W0 w' H q rA rc lA bA bc_ kA kc eA ec m N S own A b c left tA tc qb xA xc cols :=
 ⟨zad hb h.blk,h.std,h.bel.trans (hb.mono h.bel.size),h.base,h.colsI.below hb,h.basO.below hb,h.x.below hb,h.basis,h.own_⟩
theorem alloc (h:TabP W0 w H q rA rc lA bA bc_ kA kc eA ec m N S own A b c left tA tc qb xA xc cols) (o:Obj):TabP W0 (w.alloc o) H q rA rc lA bA bc_ kA kc eA ec m N S own A b c left tA tc qb xA xc cols:=h.below (zae w o)
theorem drew (h:TabP W0 w H q rA rc lA bA bc_ kA kc eA ec m N S own A b c left tA tc qb xA xc cols):TabP W0 w.drew H q rA rc lA bA bc_ kA kc eA ec m N S own A b c left tA tc qb xA xc cols:=h.below (zap w 1)
theorem bas (h:TabP W0 w H q rA rc lA bA bc_ kA kc eA ec m N S own A b c left tA tc qb xA xc cols):zjE w H qb m S (bc A cols):=h.basO.toS
theorem stdN (h:TabP W0 w H q rA rc lA bA bc_ kA kc eA ec m N S own A b c left tA tc qb xA xc cols):StdP w rA rc lA bA bc_ kA kc eA ec m N S A b c left:=h.std.below h.bel
theorem hle (h:TabP W0 w H q rA rc lA bA bc_ kA kc eA ec m N S own A b c left tA tc qb xA xc cols):H ≤ w.heap.size:=h.bas.hle
theorem toS (h:TabP W0 w H q rA rc lA bA bc_ kA kc eA ec m N S own A b c left tA tc qb xA xc cols):zhi W0 w H q rA rc lA bA bc_ kA kc eA ec m N S own A b c left tA tc cols:=⟨qb,xA,xc,h⟩
end TabP
namespace zhi
theorem below (h:zhi W0 w H q rA rc lA bA bc_ kA kc eA ec m N S own A b c left tA tc cols) (hb:Below w.heap.size w w'):zhi W0 w' H q rA rc lA bA bc_ kA kc eA ec m N S own A b c left tA tc cols:=by
 obtain ⟨qb,xA,xc,h⟩:=h;exact ⟨qb,xA,xc,h.below hb⟩
theorem alloc (h:zhi W0 w H q rA rc lA bA bc_ kA kc eA ec m N S own A b c left tA tc cols) (o:Obj):zhi W0 (w.alloc o) H q rA rc lA bA bc_ kA kc eA ec m N S own A b c left tA tc cols:=h.below (zae w o)
theorem drew (h:zhi W0 w H q rA rc lA bA bc_ kA kc eA ec m N S own A b c left tA tc cols):zhi W0 w.drew H q rA rc lA bA bc_ kA kc eA ec m N S own A b c left tA tc cols:=h.below (zap w 1)
theorem hle (h:zhi W0 w H q rA rc lA bA bc_ kA kc eA ec m N S own A b c left tA tc cols):H ≤ w.heap.size:=by obtain ⟨qb,xA,xc,h⟩:=h;exact h.hle
theorem basis (h:zhi W0 w H q rA rc lA bA bc_ kA kc eA ec m N S own A b c left tA tc cols):Basis m N A cols:=by obtain ⟨qb,xA,xc,h⟩:=h;exact h.basis
theorem std (h:zhi W0 w H q rA rc lA bA bc_ kA kc eA ec m N S own A b c left tA tc cols):StdP W0 rA rc lA bA bc_ kA kc eA ec m N S A b c left:=by obtain ⟨qb,xA,xc,h⟩:=h;exact h.std
end zhi
end
theorem zrM {w:World} {H b kl lc ku uc:Nat} {ll ul:List Value} {L U:List (List Rat)} (h1:VecsL w H (.slice (some ⟨b,0,none⟩) kl lc) ll L) (h2:VecsL w H (.slice (some ⟨b,0,none⟩) ku uc) ul U) (k1:0 < kl) (k2:0 < ku)
  (hr:∀ r ∈ L,0 < r.length) (rows:∀ a ∈ ll, ∀ b ∈ ul, ∀ g,a.ownBlock = some g → b.ownBlock ≠ some g):False:=by
 have e1:=h1.nlen
 have e2:=h2.nlen
 obtain ⟨r,hr1⟩:∃ r,L[0]? = some r:=⟨L[0]'(by omega),List.getElem?_eq_getElem _⟩
 obtain ⟨u,hu1⟩:∃ u,U[0]? = some u:=⟨U[0]'(by omega),List.getElem?_eq_getElem _⟩
 obtain ⟨A,c,a1,a2,a3⟩:=h1.at_ hr1
 obtain ⟨B,d,b1,b2,_⟩:=h2.at_ hu1
 rw [a2] at b2
 injection b2 with b2
 obtain ⟨g,rfl,_,_⟩:=a3.has (hr r (List.mem_of_getElem? hr1))
 exact rows _ (List.mem_of_getElem? a1) _ (List.mem_of_getElem? b1) g rfl (by rw [← b2];rfl)
theorem zgr {o:Oper} {a:Act} {w:World} {K:Act → World → Prop} {Q:Exit → Act → World → Prop} (s x:Operand)
  (hop:o.op = .call { callee := .builtin .append,args := #[s,x],argTypes := #[62,62] }) {H:Nat} {v:Value} {l:List Value} {L:List (List Rat)} (hs:a.eval s = v) (hv:VecsL w H v l L) {b:Nat} (hx:a.eval x = .slice (some ⟨b,0,none⟩) 1 1)
  {sl:Value} {r:List Rat} (hb:w.heap[b]? = some (.cells #[sl] 26 (0,0))) (hr:VecS w H sl r) {n:Nat} (hn:L.length = n) (hlen:n + 1 ≤ 1000000) (hH:H ≤ w.heap.size)
  (hK:∀ A' c' w',VecsL w' H (.slice A' (n + 1) c') (l ++ [sl]) (L ++ [r]) → TKeep 26 w w' → Below H w w' → (∀ j,j < w.heap.size → v.ownBlock ≠ some j → w'.heap[j]? = w.heap[j]?) → K (a.put o.dst (.slice A' (n + 1) c')) w') :
  Oper.wp Tryz.prog o a w K Q:=by
 subst hn
 obtain ⟨i0,hi,hz0,hz1,hz2⟩:=info_parts zrA
 refine wp_append_own w s x 62 hop H 26 i0 _ 1 24 Tryz.underlying62 hi hz0 hz1 hz2 rfl (by decide) v L.length l hs hv.own ⟨b,0,none⟩ 1 1 [sl] hx rfl (zrj hb)
  (by intro u hu;simp at hu;subst hu;exact hr.one) (by unfold maxLen;omega) (by omega) hH ?_
 intro v' w' hown hgrow _
 have hL:=hv.append hr hown hgrow
 obtain ⟨A',c',rfl⟩:=hL.slice
 rw [List.length_append] at hL
 have hh:=hK A' c' w' hL (TKeep.grown hv.own hgrow) ((Below.refl _ _).grown hgrow hH (fun k hk => (hv.own.lt k hk).1)) (fun j hj hne => hgrow.block j hj (fun e => hne e.symm))
 simpa using hh
theorem zbW {w:World} {ops:Array Oper} {rest:List Oper} {o:Oper} {a:Act} {Q:Exit → Act → World → Prop} (hgd:o.guard = none) (s x:Operand)
  (hop:o.op = .call { callee := .builtin .append,args := #[s,x],argTypes := #[62,62] }) {H:Nat} {v:Value} {l:List Value} {L:List (List Rat)} (hs:a.eval s = v) (hv:VecsL w H v l L) {b:Nat} (hx:a.eval x = .slice (some ⟨b,0,none⟩) 1 1)
  {sl:Value} {r:List Rat} (hb:w.heap[b]? = some (.cells #[sl] 26 (0,0))) (hr:VecS w H sl r) {n:Nat} (hn:L.length = n) (hlen:n + 1 ≤ 1000000) (hH:H ≤ w.heap.size)
  (hK:∀ A' c' w',VecsL w' H (.slice A' (n + 1) c') (l ++ [sl]) (L ++ [r]) → TKeep 26 w w' → Below H w w' → (∀ j,j < w.heap.size → v.ownBlock ≠ some j → w'.heap[j]? = w.heap[j]?) → wpList Tryz.prog ops Q rest (a.put o.dst (.slice A' (n + 1) c')) w') :
  wpList Tryz.prog ops Q (o :: rest) a w :=
 wpList_plain hgd fun _ hK' => zgr s x hop hs hv hx hb hr hn hlen hH fun A' c' w' h1 h2 h3 h4 => hK' _ _ (hK A' c' w' h1 h2 h3 h4)
theorem zet {ops:Array Oper} {o:Oper} {a:Act} {w:World} {K:Act → World → Prop} {Q:Exit → Act → World → Prop} {E:Prop} (hg:o.guard = none) (s x:Operand)
  (hop:o.op = .call { callee := .builtin .append,args := #[s,x],argTypes := #[62,62] }) {H:Nat} {v:Value} {l:List Value} {L:List (List Rat)} (hs:a.eval s = v) (hv:VecsL w H v l L) {b:Nat} (hx:a.eval x = .slice (some ⟨b,0,none⟩) 1 1)
  {sl:Value} {r:List Rat} (hb:w.heap[b]? = some (.cells #[sl] 26 (0,0))) (hr:VecS w H sl r) {n:Nat} (hn:L.length = n) (hlen:n + 1 ≤ 1000000) (hH:H ≤ w.heap.size)
  (hK:∀ A' c' w',VecsL w' H (.slice A' (n + 1) c') (l ++ [sl]) (L ++ [r]) → TKeep 26 w w' → Below H w w' → (∀ j,j < w.heap.size → v.ownBlock ≠ some j → w'.heap[j]? = w.heap[j]?) → K (a.put o.dst (.slice A' (n + 1) c')) w') :
  if Region.wanted o (yielded ops a.tmps) = true then Oper.wp Tryz.prog o a w K Q else E:=by
 have hw:Region.wanted o (yielded ops a.tmps) = true:=by simp [Region.wanted,hg]
 rw [if_pos hw]
 exact zgr s x hop hs hv hx hb hr hn hlen hH hK
theorem ziP {w:World} {ops:Array Oper} {rest:List Oper} {o:Oper} {a:Act} {Q:Exit → Act → World → Prop} (hgd:o.guard = none) (s x:Operand)
  (hop:o.op = .call { callee := .builtin .append,args := #[s,x],argTypes := #[48,48] }) {H:Nat} {v:Value} {xs:List Nat} (hs:a.eval s = v) (hv:IntsS w H v xs) {b:Nat} (hx:a.eval x = .slice (some ⟨b,0,none⟩) 1 1)
  {z:Nat} (hb:w.heap[b]? = some (.cells #[.int .i64 (z:Int)] 3 (0,0))) {n:Nat} (hn:xs.length = n) (hlen:n + 1 ≤ 1000000) (hH:H ≤ w.heap.size)
  (hK:∀ A' c' w',IntsS w' H (.slice A' (n + 1) c') (xs ++ [z]) → TKeep 3 w w' → Below H w w' → wpList Tryz.prog ops Q rest (a.put o.dst (.slice A' (n + 1) c')) w') :
  wpList Tryz.prog ops Q (o :: rest) a w:=by
 refine wpList_plain hgd fun K hK' => ?_
 have h:=zll (ops:=ops) (K:=K) (Q:=Q) (E:=True) hgd s x hop hs hv hx hb hn hlen hH fun A' c' w' h1 h2 h3 => hK' _ _ (hK A' c' w' h1 h2 h3)
 have hw:Region.wanted o (yielded ops a.tmps) = true:=by simp [Region.wanted,hgd]
 rw [if_pos hw] at h
 exact h
structure LuG (w:World) (H q n kl ku kp:Nat) (lA:Option Addr) (lc:Nat) (ll:List Value) (uA:Option Addr) (uc:Nat) (ul:List Value) (pA:Option Addr) (pc:Nat) (F:LUv):Prop where
  blk:w.heap[q]? = some (.cells #[.slice lA kl lc, .slice uA ku uc, .slice pA kp pc, .bool F.odd] 263 (0,0))
  lo:VecsL w H (.slice lA kl lc) ll F.lo
  la:zbG ll
  up:VecsL w H (.slice uA ku uc) ul F.up
  ua:zbG ul
  rows:∀ a ∈ ll, ∀ b ∈ ul, ∀ g,a.ownBlock = some g → b.ownBlock ≠ some g
  perm:IntsS w H (.slice pA kp pc) F.perm
  own:H ≤ q
  l0:kl = 0 → lA = none
  lr:∀ r ∈ F.lo,r.length = n
  ur:∀ r ∈ F.up,r.length = n
  sep:∀ g,(Value.slice lA kl lc).ownBlock = some g → (Value.slice uA ku uc).ownBlock ≠ some g
theorem zxu {A:Option Addr} {n c g:Nat} (h:(Value.slice A n c).ownBlock = some g) {b:Nat} (hA:A = none ∨ A = some ⟨b,0,none⟩):A = some ⟨g,0,none⟩:=by
 rcases hA with rfl | rfl
 ·cases h
 ·have : b = g:=by injection h
  rw [this]
namespace LuG
variable {w w':World} {H q n kl ku kp:Nat} {lA:Option Addr} {lc:Nat} {ll:List Value} {uA:Option Addr} {uc:Nat} {ul:List Value} {pA:Option Addr} {pc:Nat} {F:LUv}
theorem below (h:LuG w H q n kl ku kp lA lc ll uA uc ul pA pc F) (hb:Below w.heap.size w w'):LuG w' H q n kl ku kp lA lc ll uA uc ul pA pc F :=
 ⟨by rw [hb.block q (Array.getElem?_eq_some_iff.1 h.blk).1];exact h.blk,h.lo.below hb,h.la,h.up.below hb,h.ua,h.rows,h.perm.below hb,h.own,h.l0,h.lr,h.ur,h.sep⟩
theorem alloc (h:LuG w H q n kl ku kp lA lc ll uA uc ul pA pc F) (o:Obj):LuG (w.alloc o) H q n kl ku kp lA lc ll uA uc ul pA pc F:=h.below (zae w o)
theorem drew (h:LuG w H q n kl ku kp lA lc ll uA uc ul pA pc F):LuG w.drew H q n kl ku kp lA lc ll uA uc ul pA pc F:=h.below (zap w 1)
theorem qlt (h:LuG w H q n kl ku kp lA lc ll uA uc ul pA pc F):q < w.heap.size:=(Array.getElem?_eq_some_iff.1 h.blk).1
theorem addr {H:Nat} {v:Value} {l:List Value} {L:List (List Rat)} {A:Option Addr} {k c:Nat} (h:VecsL w H v l L) (e:v = .slice A k c):A = none ∨ ∃ b,A = some ⟨b,0,none⟩:=by
 subst e
 obtain ⟨_,_,_,h1 | ⟨g,h1,_⟩⟩:=h.form
 ·exact .inl h1.1
 ·exact .inr ⟨g,h1⟩
theorem shape {H:Nat} {l:List Value} {L:List (List Rat)} {A:Option Addr} {k c g:Nat} (h:VecsL w H (.slice A k c) l L) (e:(Value.slice A k c).ownBlock = some g):A = some ⟨g,0,none⟩:=by
 rcases addr h rfl with h1 | ⟨b,h1⟩
 ·subst h1;cases e
 ·exact zxu e (.inr h1)
theorem pushU (h:LuG w H q n kl ku kp lA lc ll uA uc ul pA pc F) (hn:0 < n) {A':Option Addr} {c':Nat} {sl:Value} {r:List Rat} (hU:VecsL w' H (.slice A' (ku + 1) c') (ul ++ [sl]) (F.up ++ [r])) (hk:TKeep 26 w w')
  (far:∀ j,j < w.heap.size → (Value.slice uA ku uc).ownBlock ≠ some j → w'.heap[j]? = w.heap[j]?) (hr:r.length = n) (fresh:∀ g,sl.ownBlock = some g → (∀ a ∈ ll,a.ownBlock ≠ some g) ∧ ∀ a ∈ ul,a.ownBlock ≠ some g) :
  LuG (w'.setCell ⟨q,1,none⟩ (.slice A' (ku + 1) c')) H q n kl (ku + 1) kp lA lc ll A' c' (ul ++ [sl]) pA pc { F with up:=F.up ++ [r] }:=by
 have hq:=hk.blk h.blk (by decide)
 have k1:TKeep 263 w' (w'.setCell ⟨q,1,none⟩ (.slice A' (ku + 1) c')):=TKeep.set hq _
 have hlo:VecsL w' H (.slice lA kl lc) ll F.lo:=h.lo.keepAll (fun j hj => far j (h.lo.own.lt j hj).2 (h.sep j hj)) fun _ _ _ v => v.tk hk (by decide) (by decide)
 have rows':∀ a ∈ ll, ∀ b ∈ ul ++ [sl], ∀ g,a.ownBlock = some g → b.ownBlock ≠ some g:=fun a ha b hb g hg => by
  rcases List.mem_append.1 hb with hb | hb
  ·exact h.rows a ha b hb g hg
  ·rw [List.mem_singleton.1 hb];intro e;exact (fresh g e).1 a ha hg
 refine ⟨?_,hlo.tk k1 (by decide) (by decide) (by decide),h.la,hU.tk k1 (by decide) (by decide) (by decide),h.ua.push fun g b hg hb => (fresh g hg).2 b hb,rows',(h.perm.tk hk (by decide)).tk k1 (by decide),h.own,h.l0,h.lr,fun r' hr' => ?_,fun g h1 h2 => ?_⟩
 ·have:=zar (o:=1) (.slice A' (ku + 1) c') hq
  simpa using this
 ·rcases List.mem_append.1 hr' with h1 | h1
  ·exact h.ur r' h1
  ·rw [List.mem_singleton.1 h1];exact hr
 ·have e1:=shape hlo h1
  have e2:=shape hU h2
  by_cases k0:kl = 0
  ·rw [h.l0 k0] at h1;cases h1
  ·rw [e1] at hlo
   rw [e2] at hU
   exact zrM hlo hU (by omega) (by omega) (fun r hr => by rw [h.lr r hr];exact hn) rows'
theorem pushL (h:LuG w H q n kl ku kp lA lc ll uA uc ul pA pc F) (hn:0 < n) (hku:0 < ku) {A':Option Addr} {c':Nat} {sl:Value} {r:List Rat} (hU:VecsL w' H (.slice A' (kl + 1) c') (ll ++ [sl]) (F.lo ++ [r])) (hk:TKeep 26 w w')
  (far:∀ j,j < w.heap.size → (Value.slice lA kl lc).ownBlock ≠ some j → w'.heap[j]? = w.heap[j]?) (hr:r.length = n) (fresh:∀ g,sl.ownBlock = some g → (∀ a ∈ ll,a.ownBlock ≠ some g) ∧ ∀ a ∈ ul,a.ownBlock ≠ some g) :
  LuG (w'.setCell ⟨q,0,none⟩ (.slice A' (kl + 1) c')) H q n (kl + 1) ku kp A' c' (ll ++ [sl]) uA uc ul pA pc { F with lo:=F.lo ++ [r] }:=by
 have hq:=hk.blk h.blk (by decide)
 have k1:TKeep 263 w' (w'.setCell ⟨q,0,none⟩ (.slice A' (kl + 1) c')):=TKeep.set hq _
 have hup:VecsL w' H (.slice uA ku uc) ul F.up:=h.up.keepAll (fun j hj => far j (h.up.own.lt j hj).2 (fun e => h.sep j e hj)) fun _ _ _ v => v.tk hk (by decide) (by decide)
 have rows':∀ a ∈ ll ++ [sl], ∀ b ∈ ul, ∀ g,a.ownBlock = some g → b.ownBlock ≠ some g:=fun a ha b hb g hg => by
  rcases List.mem_append.1 ha with ha | ha
  ·exact h.rows a ha b hb g hg
  ·rw [List.mem_singleton.1 ha] at hg;exact (fresh g hg).2 b hb
 have lr':∀ r' ∈ F.lo ++ [r],r'.length = n:=fun r' hr' => by
  rcases List.mem_append.1 hr' with h1 | h1
  ·exact h.lr r' h1
  ·rw [List.mem_singleton.1 h1];exact hr
 refine ⟨?_,hU.tk k1 (by decide) (by decide) (by decide),h.la.push fun g b hg hb => (fresh g hg).1 b hb,hup.tk k1 (by decide) (by decide) (by decide),h.ua,rows',(h.perm.tk hk (by decide)).tk k1 (by decide),h.own,fun e => absurd e (by omega),lr',h.ur,fun g h1 h2 => ?_⟩
 ·have:=zar (o:=0) (.slice A' (kl + 1) c') hq
  simpa using this
 ·have e1:=shape hU h1
  have e2:=shape hup h2
  rw [e1] at hU
  rw [e2] at hup
  exact zrM hU hup (by omega) hku (fun r hr => by rw [lr' r hr];exact hn) rows'
theorem pushP (h:LuG w H q n kl ku kp lA lc ll uA uc ul pA pc F) {A':Option Addr} {c' z:Nat} (hP:IntsS w' H (.slice A' (kp + 1) c') (F.perm ++ [z])) (hk:TKeep 3 w w') :
  LuG (w'.setCell ⟨q,2,none⟩ (.slice A' (kp + 1) c')) H q n kl ku (kp + 1) lA lc ll uA uc ul A' c' { F with perm:=F.perm ++ [z] }:=by
 have hq:=hk.blk h.blk (by decide)
 have k1:TKeep 263 w' (w'.setCell ⟨q,2,none⟩ (.slice A' (kp + 1) c')):=TKeep.set hq _
 refine ⟨?_,(h.lo.tk hk (by decide) (by decide) (by decide)).tk k1 (by decide) (by decide) (by decide),h.la,(h.up.tk hk (by decide) (by decide) (by decide)).tk k1 (by decide) (by decide) (by decide),h.ua,h.rows,hP.tk k1 (by decide),h.own,h.l0,h.lr,h.ur,h.sep⟩
 have:=zar (o:=2) (.slice A' (kp + 1) c') hq
 simpa using this
theorem toS (h:LuG w H q n n n n lA lc ll uA uc ul pA pc F) (hs:Sq n F):LuS w H q n F :=
 ⟨⟨lA,lc,ll,uA,uc,ul,pA,pc,h.blk,h.lo,h.la,h.up,h.ua,h.rows,h.perm⟩,h.own,hs⟩
theorem toQ (h:LuG w H q n n n n lA lc ll uA uc ul pA pc F) (hn:0 < n):LuQ w H q n F:=by
 obtain ⟨lb,rfl,_,_⟩:=h.lo.has hn
 obtain ⟨ub,rfl,_,_⟩:=h.up.has hn
 obtain ⟨pb,rfl,_,_⟩:=h.perm.has hn
 exact ⟨lb,lc,ll,ub,uc,ul,pb,pc,h.blk,h.lo,h.la,h.up,h.ua,h.rows,fun e => h.sep lb rfl (by rw [e];rfl),h.perm,h.own⟩
end LuG
def laid (n:Nat) (L:List (List Rat)) (k:Nat):LUv:=⟨List.replicate k (List.replicate n 0),L.take k,List.range k,false⟩
theorem zuY {n:Nat} {L:List (List Rat)} {k:Nat} {r:List Rat} (h:L[k]? = some r):(⟨(laid n L k).lo ++ [List.replicate n 0],(laid n L k).up ++ [r],(laid n L k).perm ++ [k],false⟩:LUv) = laid n L (k + 1):=by
 unfold laid
 rw [List.take_add_one,h,List.range_succ,List.replicate_succ'];rfl
theorem LuG.start (w:World) (n:Nat) (L:List (List Rat)):LuG (w.alloc (.cells #[.slice none 0 0, .slice none 0 0, .slice none 0 0, .bool false] 263)) w.heap.size w.heap.size n 0 0 0 none 0 [] none 0 [] none 0 (laid n L 0):=by
 refine ⟨zal _ _ _,VecsL.nil _ _,zbG.nil,?_,zbG.nil,fun a ha => (List.not_mem_nil ha).elim,IntsS.nil _ _,Nat.le_refl _,fun _ => rfl,fun r hr => ?_,fun r hr => ?_,fun g h => by cases h⟩
 ·show VecsL _ _ _ _ (L.take 0);rw [List.take_zero];exact VecsL.nil _ _
 ·exact (List.not_mem_nil hr).elim
 ·have : r ∈ L.take 0:=hr
  rw [List.take_zero] at this;exact (List.not_mem_nil this).elim
def LuW (w:World) (H q n:Nat) (F:LUv):Prop:=(0 < n → LuQ w H q n F) ∧ (n = 0 → LuS w H q n F)
theorem LuG.toW {w:World} {H q n:Nat} {lA:Option Addr} {lc:Nat} {ll:List Value} {uA:Option Addr} {uc:Nat} {ul:List Value} {pA:Option Addr} {pc:Nat} {F:LUv} (h:LuG w H q n n n n lA lc ll uA uc ul pA pc F) (hs:Sq n F):LuW w H q n F :=
 ⟨fun hn => h.toQ hn,fun _ => h.toS hs⟩
theorem LuW.toS {w:World} {H q n:Nat} {F:LUv} (h:LuW w H q n F) (hs:Sq n F):LuS w H q n F:=by
 by_cases e:n = 0
 ·exact h.2 e
 ·exact (h.1 (by omega)).toS hs
theorem zrB {n:Nat} {L:List (List Rat)} (h:L.length = n):laid n L n = zg4 n L:=by
 unfold laid zg4;rw [← h,List.take_length]
end Go.Proofs.YtdbgbaiekpbaoaaGreatDoor
namespace Go.Proofs.YtdbgbaiekpbaoaaGreatDoor
open Go.RowKit Am
open Lib (hid)
attribute [local go_sem ↓] Go.wp_at_zero Go.wp_at_succ
set_option maxHeartbeats 1000000
set_option maxRecDepth 100000
def zKt (q:Rat):Rat:=if q.num < 0 then -q else q
theorem zKW (q:Rat):(zKt q).num = (q.num.natAbs:Int):=by
 unfold zKt;split
 ·rw [Rat.neg_num];omega
 ·omega
theorem zLp (q:Rat):(zKt q).den = q.den:=by unfold zKt;split <;> first | exact Rat.neg_den | rfl
theorem zLK (q:Rat):0 ≤ zKt q:=by rw [← Rat.num_nonneg,zKW];exact Int.natCast_nonneg _
theorem zLJ (q:Rat):mw (zKt q) = mw q:=by unfold zKt;split <;> first | exact zhY q | rfl
theorem zLI (q:Rat):dn (zKt q) = dn q:=by unfold dn;rw [zLp]
namespace Rt
theorem abs (g:Bool) (A:Option Addr) (m c:Nat) (D:Option Addr) (md cd:Nat) (q:Rat) (w:World) (h:RatS w g (.slice A m c) (.slice D md cd) q):Calls Tryz.prog 62 #[.agg #[.bool g, .slice A m c, .slice D md cd]] w (ze4 w (zKt q)):=by
 obtain ⟨W,hW⟩:∃ W,((w.alloc (.cells #[.bool g, .slice A m c, .slice D md cd] 35)).alloc (.cells #[.bool false, .slice none 0 0, .slice none 0 0] 35)) = W:=⟨_,rfl⟩
 have KB0:=hid (show W.heap[w.heap.size]? = some (.cells #[.bool g, .slice A m c, .slice D md cd] 35 (0,0)) by rw [← hW];exact zak (zam (by simp)))
 have KB1:=hid (show W.heap[w.heap.size + 1]? = some (.cells #[.bool false, .slice none 0 0, .slice none 0 0] 35 (0,0)) by rw [← hW];exact zam (by simp))
 have BB:=hid (show Below w.heap.size w W by rw [← hW];exact (zae w _).alloc (by simp) _)
 have HX:=hid (show RatS W g (.slice A m c) (.slice D md cd) q by rw [← hW];exact ((h).alloc _).alloc _)
 obtain ⟨zaK,zaz,zaL,zaA,zbO,zbx⟩:=bc3 KB0.out
 obtain ⟨zbr,zbd,zcw,zbF,zbP,zby,zc6,zb5,zcJ,zce,zee,zdd⟩:=bf3 KB1.out
 clear h
 go_enter Tryz.func62,Tryz.ntmps62
 go_wp2_with fail
 clear hW
 go_region_with (first
  | (go_at_call 114;(with_reducible refine (It.abs g A m c _).mono ?_);rintro e w1 ⟨rfl,hb⟩;have zaq:=hid (zad hb KB0.out);have za0:=hid (zad hb KB1.out);have zif:=hid (HX.out.drew.below hb);have zaQ:=hid (BB.out.trans ((It.bdrew0' hb).mono BB.out.size));obtain ⟨zaI,zat,zaJ,zau,zbC,zbg⟩:=bc3 zaq.out;obtain ⟨zbe,zaW,zcf,zbA,zbs,za9,zcR,zbS,zb9,zbz,zdG,zcT⟩:=bf3 za0.out;clear hb)
  | (go_at_call 57;(with_reducible refine (It.new false A m c q.num.natAbs _ zif.out.num.abs).mono ?_);rintro e w2 ⟨g3,A3,m3,c3,rfl,hn,hb⟩;have zaD:=hid (zad hb zaq.out);have zbb:=hid (zad hb za0.out);have zza:=hid (zif.out.below hb);have HI:=hid (show IntS w2 g3 (.slice A3 m3 c3) (if false then -(q.num.natAbs:Int) else (q.num.natAbs:Int)) from hn);have zbj:=hid (zaQ.out.trans ((hb).mono zaQ.out.size));obtain ⟨zaU,zaE,zaV,zaF,zdr,zcv⟩:=bc3 zaD.out;obtain ⟨zbi,zaX,zb2,zbt,zbp,za3,zcg,zbB,zc2,zbL,zef,zde⟩:=bf3 zbb.out;clear hn hb))
 all_goals
  go_wp2
  refine bodyPost_ret (v := .agg #[.bool g3, .slice A3 m3 c3, .slice D md cd]) (by simp [results,Tryz.results62,go_sem,zbi,zaX,zbp,za3,zc2,zbL]) rfl ?_
  have hi:RatS w2 g3 (.slice A3 m3 c3) (.slice D md cd) (zKt q):=⟨by have h:=HI.out;rwa [if_neg (by decide), ← zKW] at h,by rw [zLI];exact zza.out.den⟩
  exact ⟨g3,A3,m3,c3,D,md,cd,rfl,hi.set3 zbb.out (by decide) _ _ _,Below.setCell (Below.setCell (Below.setCell (zbj.out) (p:=⟨w.heap.size + 1,0,none⟩) (by show w.heap.size ≤ w.heap.size + 1;omega) _) (p:=⟨w.heap.size + 1,1,none⟩) (by show w.heap.size ≤ w.heap.size + 1;omega) _) (p:=⟨w.heap.size + 1,2,none⟩) (by show w.heap.size ≤ w.heap.size + 1;omega) _⟩
end Rt
end Go.Proofs.YtdbgbaiekpbaoaaGreatDoor
