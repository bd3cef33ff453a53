/- Contracts and lemmas: Law4. Conditions: as each says. -/
import Derived.Test.YtbdhheepakmgkaaGreatCert5Zc
set_option linter.all false
set_option maxHeartbeats 4000000
set_option maxRecDepth 100000
namespace Go.Proofs.YtbdhheepakmgkaaGreat
open Ct (yeC)
open Go.RowKit Am
attribute [local go_sem ↓] Go.wp_at_zero Go.wp_at_succ
def yeZ:List Rat:=rats [1,1]
def yeY:List PRow:=[⟨rats [1,2],2,((4:Int):Rat)⟩,⟨rats [3,1],1,((9:Int):Rat)⟩]
abbrev aQ:List Rat:=[Rat.divInt 1 4,((0:Int):Rat)]
abbrev aH:List Rat:=[Rat.divInt 1 2,((0:Int):Rat)]
theorem aCl:yeZ.length=2:=rfl
theorem aQl:aQ.length=yeY.length:=rfl
theorem aHl:aH.length=yeY.length:=rfl
theorem aNl:(rats [1,0]).length=yeY.length:=rfl
theorem aXl:yeZ.length=(rats [0,2]).length:=rfl
theorem yhX:(rats [0,2]).length=yeZ.length:=rfl
theorem a1:ydS 2 yeZ yeY aQ=true:=by kernel_rfl
theorem a2:ydS 2 yeZ yeY (rats [1,0])=false:=by kernel_rfl
theorem a3:sb aQ yeY=Rat.divInt 1 1:=by kernel_rfl
theorem a4:ydS 2 yeZ yeY aH=true:=by kernel_rfl
theorem a5:znD yeZ yeY (rats [0,2])=true:=by kernel_rfl
theorem a6:sb aH yeY=dot yeZ (rats [0,2]):=by kernel_rfl
theorem ye0{xs:List Int}(h:∀x∈xs,I64 x):Sm (rats xs):=by
 intro q a;obtain⟨x,b,rfl⟩:=List.mem_map.1 a;exact Nat.le_trans (zu9 x (h x b)) (by decide)
theorem yfF:Good 2 2 yeZ yeY:=by
 have h1:I64 4:=by constructor<;>decide
 have b:I64 9:=by constructor<;>decide
 refine⟨by decide,by decide,ye0 (by decide),?_,?_⟩
 ·intro p a;simp only[yeY,List.mem_cons,List.not_mem_nil,or_false]at a;rcases a with rfl | rfl
  ·exact⟨rfl,ye0 (by decide),Nat.le_trans (zu9 4 h1) (by decide)⟩
  ·exact⟨rfl,ye0 (by decide),Nat.le_trans (zu9 9 b) (by decide)⟩
 ·intro p a;simp only[yeY,List.mem_cons,List.not_mem_nil,or_false]at a;rcases a with rfl | rfl<;>decide
theorem aSm(p d:Int)(f:I64 p)(e:I64 d)(b:d≠0):Sm [Rat.divInt p d,((0:Int):Rat)]:=by
 intro q a;simp only[List.mem_cons,List.not_mem_nil,or_false]at a;rcases a with rfl | rfl
 ·have h:=zhX p d b;have h1:=zdl (n:=p.natAbs) (by unfold B64;omega);have c:=zdl (n:=d.natAbs) (by unfold B64;omega);omega
 ·exact Nat.le_trans (zu9 0 (by constructor<;>decide)) (by decide)
theorem Ct.bounds_nope(C:OA)(nc cc:Nat)(R:OA)(nr a:Nat)(cost:List Rat)(rows:List PRow)(Y:OA)(c b:Nat)(y:List Rat)(w:World)(hc:VecS w 0 (.slice C nc cc) cost)(hr:RowsS w 0 (.slice R nr a) rows)(g:VecS w 0 (.slice Y c b) y)
  (f:y.length=rows.length) (hg:Good nc nr cost rows) (zy:Sm y) (e:cost.length=nc) (d:ydS nc cost rows y=false):Calls Tryz.prog 11 #[.agg #[.slice C nc cc,.slice R nr a],.slice Y c b] w (zii w 0 false):=by
 have h:=yeC C nc cc R nr a cost rows Y c b y w hc hr g f hg zy e;rw[d]at h;exact h
theorem a7:mw (sb aQ yeY)≤1000000:=by
 rw[a3];have h:=zhX 1 1 (by decide);have h1:=zdl (n:=(1:Int).natAbs) (by decide);omega
theorem yg8:I64 1:=by constructor<;>decide
theorem yhY:(1:Int)≠0:=by decide
theorem aQs:Sm aQ:=aSm 1 4 (by constructor<;>decide) (by constructor<;>decide) (by decide)
theorem aHs:Sm aH:=aSm 1 2 (by constructor<;>decide) (by constructor<;>decide) (by decide)
theorem aNs:Sm (rats [1,0]):=ye0 (by decide)
theorem aXs:Sm (rats [0,2]):=ye0 (by decide)
def yf5:List Rat:=rats [0]
def ye5:List PRow:=[⟨rats [1],1,((-1:Int):Rat)⟩]
theorem i1:zId ye5 (rats [-1])=true:=by kernel_rfl
theorem i2:((scale ((-1:Int):Rat) (sv 1 (rats [-1]) ye5)).any fun q=>decide (q<0))=false:=by kernel_rfl
theorem i3:decide (0<sb (rats [-1]) ye5)=true:=by kernel_rfl
theorem i4:0<sb (rats [-1]) ye5:=of_decide_eq_true i3
theorem iYl:(rats [-1]).length=ye5.length:=rfl
theorem iYs:Sm (rats [-1]):=ye0 (by decide)
theorem yhP:Good 1 1 yf5 ye5:=by
 have h1:I64 (-1):=by constructor<;>decide
 refine⟨by decide,by decide,ye0 (by decide),?_,?_⟩
 ·intro p a;simp only[ye5,List.mem_cons,List.not_mem_nil,or_false]at a;subst a;exact⟨rfl,ye0 (by decide),Nat.le_trans (zu9 (-1) h1) (by decide)⟩
 ·intro p a;simp only[ye5,List.mem_cons,List.not_mem_nil,or_false]at a;subst a;decide
theorem s1:∀(j:Nat) (a s c:Rat),(rats [0,2])[j]? = some a→(sv 2 aH yeY)[j]? = some s→yeZ[j]? = some c→a=0∨s=c:=by
 intro j a s c h1 b d
 match j,h1,b,d with
 | 0,h1,_,_=>left;exact(Option.some.inj h1).symm
 | 1,_,b,d=>right;rw[←Option.some.inj b,←Option.some.inj d];kernel_rfl
 | j+2,h1,_,_=>cases h1
theorem s2:∀(k:Nat) (p:PRow) (q:Rat),yeY[k]? = some p→aH[k]? = some q→zdp p (rats [0,2])=0∨q=0:=by
 intro k p q h1 a
 match k,h1,a with
 | 0,h1,_=>left;rw[←Option.some.inj h1];kernel_rfl
 | 1,_,a=>right;exact(Option.some.inj a).symm
 | k+2,h1,_=>cases h1
