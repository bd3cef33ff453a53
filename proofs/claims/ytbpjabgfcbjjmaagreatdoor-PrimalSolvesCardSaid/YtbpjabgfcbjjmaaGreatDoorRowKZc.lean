/- What the cards' conditions give a walk,for each law of the seat: the variable errors.errorType's one cell;a problem that is handed in. Conditions: as each says. -/
import Derived.Test.YtbpjabgfcbjjmaaGreatDoorCards
import Derived.Test.YtbpjabgfcbjjmaaGreatDoorTie
import Derived.Test.YtbpjabgfcbjjmaaGreatDoorDuBZc
import Derived.Test.YtbpjabgfcbjjmaaGreatDoorErrZc
import Derived.ChangeSame
import Derived.ChangeVars
import Derived.LaidLaws
import Derived.LaidHandle
import Derived.Stop.Joined
import Derived.Deep.DeepHandedRow
import Derived.SevenTiedAt
set_option linter.all false
set_option maxRecDepth 100000
namespace Go.Proofs.YtbpjabgfcbjjmaaGreatDoor
open Err (z4a)
open Go.ChangeShapes Go.WideShapes Go.ChangeAt Go.RowKit Go.Deep
theorem et:Tryz.prog.globalNamed "errors.errorType" = some 0:=by kernel_rfl
theorem rt:(Tryz.prog.cutTypes.find? (·.1 == "internal/reflectlite.rtype")).map (·.2)=some 154:=by kernel_rfl
theorem size:Tryz.prog.types.size=302:=by kernel_rfl
theorem zDL:((List.range 302).filter fun t=>Tryz.prog.rowNamed t [101,114,114,111,114])=[49]:=by kernel_rfl
theorem zlF{W:World}(h:laidMetH Tryz.prog Rows.dualSolvesUptoRow.laid W):W.cell? ⟨0,0,none⟩=some z4a:=by
 have f:laidMet Tryz.prog [] W∧handlesMet Tryz.prog Rows.dualSolvesUptoRow.laid W:=h;obtain⟨i,u,j,b,c,d,e,a⟩:=f.2 _ (Xv.2 rfl);have en:i=[101,114,114,111,114]:=(Option.some.inj b).symm;subst en;obtain rfl:=Option.some.inj (rt.symm.trans c);have hm:j∈(List.range 302).filter fun t=>Tryz.prog.rowNamed t [101,114,114,111,114]:=Vz.2 ⟨Xh.2 (by rw[←size];exact d),e⟩
 rw[zDL]at hm;obtain rfl:=Xv.1 hm;have g:typeHandle Tryz.prog 49=.pointer (some ⟨1,49,none⟩):=by kernel_rfl
 rw[g]at a;simpa using World.var?_cell et a 0
noncomputable def laidWorld (os:Os):World :=
 let w0:=World.holding Tryz.prog os ⟨#[],#[],[]⟩
 { w0 with heap:=w0.heap.modify 0 fun
   | .cells _ t frozen=>.cells #[z4a] t frozen
   | o=>o }
theorem znG(os:Os)(args:Array Value):laidMetH Tryz.prog Rows.dualSolvesUptoRow.laid ((laidWorld os).forCall (fun _ _=>0) ⟨#[],args,[]⟩).memory :=
 laidMetH_of_parts (laidMet_nil _ _) (by kernel_rfl)
