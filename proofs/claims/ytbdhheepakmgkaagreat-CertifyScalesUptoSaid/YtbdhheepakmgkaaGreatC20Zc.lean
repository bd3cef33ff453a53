/- Contracts and lemmas: C20. Conditions: as each says. -/
import Derived.Test.YtbdhheepakmgkaaGreatShpZc
set_option linter.all false
set_option maxRecDepth 100000
namespace Go.Proofs.YtbdhheepakmgkaaGreat
open Go.RowKit Am
theorem Good1.good{nc nr:Nat}{cost:List Rat}{rows:List PRow}(h:Good1 nc nr cost rows):Good nc nr cost rows :=
 ⟨Nat.le_trans h.hc (by decide),h.hr,fun q b=>Nat.le_trans (h.sc q b) (by decide),fun p a=>⟨(h.rw_ p a).1,fun q b=>Nat.le_trans ((h.rw_ p a).2.1 q b) (by decide),Nat.le_trans (h.rw_ p a).2.2 (by decide)⟩,h.kd⟩
theorem yfb{ps:List (Int × Int)}(h:∀q∈frs ps,mw q≤1):Sm (frs ps):=fun q a=>Nat.le_trans (h q a) (by decide)
theorem Sol.sx{nC m:Nat}{cost:List Rat}{rows:List PRow}{o:Int}{X Y Z:List Rat}(h:Sol nC m cost rows o X Y Z)(hm:m≤4):∀q∈X,mw q≤1000000:=fun q a=>Nat.le_trans (h.zx q a) (zVF m hm)
theorem Sol.sy{nC m:Nat}{cost:List Rat}{rows:List PRow}{o:Int}{X Y Z:List Rat}(h:Sol nC m cost rows o X Y Z)(hm:m≤4):∀q∈Y,mw q≤1000000:=fun q a=>Nat.le_trans (h.zy q a) (zVF m hm)
theorem Sol.sz{nC m:Nat}{cost:List Rat}{rows:List PRow}{o:Int}{X Y Z:List Rat}(h:Sol nC m cost rows o X Y Z)(hm:m≤4):∀q∈Z,mw q≤1000002:=fun q a=>Nat.le_trans (h.zz q a) (by have:=zVF m hm;omega)
theorem yfg{xs:List Rat}(h:∀q∈xs,mw q≤1000002):Sm xs:=fun q a=>Nat.le_trans (h q a) (by decide)
