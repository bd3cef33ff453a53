/- Contracts and lemmas: Wrap. Conditions: as each says. -/
import Derived.Test.YtmflbanlgkdgeaaGreatDoorWord3Zr
set_option linter.all false
set_option maxHeartbeats 4000000
set_option maxRecDepth 100000
namespace Go.Proofs.YtmflbanlgkdgeaaGreatDoor
open Go.RowKit
attribute [local go_sem ↓] Go.wp_at_zero Go.wp_at_succ
namespace Err
theorem wrap(y:Int)(S:ByteArray)(k:Int)(w:World):Calls Tryz.prog 63 #[.iface 90 (.int .i64 y),.string S,.int .i64 k] w fun a w'=>a=.returned (.iface 150 (.pointer (some ⟨w.heap.size,0,none⟩)))∧w'=w.alloc (.cells #[.string S,.int .i64 k,.iface 90 (.int .i64 y)] 154):=by
 go_enter Tryz.func63,Tryz.ntmps63;go_wp2;go_ret
 exact⟨rfl,rfl⟩
