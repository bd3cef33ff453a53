/- Contracts and lemmas: Wrap. Conditions: as each says. -/
import Derived.Test.YtbhfhkcdfmmmiaaGreatWord3Zu
set_option linter.all false
set_option maxHeartbeats 4000000
set_option maxRecDepth 100000
namespace Go.Proofs.YtbhfhkcdfmmmiaaGreat
open Go.RowKit
attribute [local go_sem ↓] Go.wp_at_zero Go.wp_at_succ
namespace Err
theorem wrap(y:Int)(S:ByteArray)(k:Int)(w:World):Calls Tryz.prog 115 #[.iface 73 (.int .i64 y),.string S,.int .i64 k] w fun a w'=>a=.returned (.iface 224 (.pointer (some ⟨w.heap.size,0,none⟩)))∧w'=w.alloc (.cells #[.string S,.int .i64 k,.iface 73 (.int .i64 y)] 226):=by
 go_enter Tryz.func115,Tryz.ntmps115;go_wp2;go_ret
 exact⟨rfl,rfl⟩
