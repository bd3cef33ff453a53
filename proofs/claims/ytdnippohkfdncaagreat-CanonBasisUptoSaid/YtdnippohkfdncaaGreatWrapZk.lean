/- Contracts and lemmas: Wrap ErrI. Conditions: as each says. -/
import Derived.Test.YtdnippohkfdncaaGreatWord3Zk
import Derived.LaidEql
import Derived.Stop.Asserts
import Derived.RowKitTokens
set_option linter.all false
set_option maxHeartbeats 4000000
set_option maxRecDepth 100000
namespace Go.Proofs.YtdnippohkfdncaaGreat
open Go.RowKit
attribute [local go_sem ↓] Go.wp_at_zero Go.wp_at_succ
namespace Err
theorem wrap(y:Int)(S:ByteArray)(k:Int)(w:World):Calls Tryz.prog 99 #[.iface 89 (.int .i64 y),.string S,.int .i64 k] w fun a w'=>a=.returned (.iface 232 (.pointer (some ⟨w.heap.size,0,none⟩)))∧w'=w.alloc (.cells #[.string S,.int .i64 k,.iface 89 (.int .i64 y)] 234):=by
 go_enter Tryz.func99,Tryz.ntmps99;go_wp2;go_ret
 exact⟨rfl,rfl⟩
end Err
end Go.Proofs.YtdnippohkfdncaaGreat
namespace Go.Proofs.YtdnippohkfdncaaGreat
open Go.RowKit Go.Extern.Stop Go.Stop Go.Extern
namespace Err
theorem ysZ(b:Nat)(x:Value)(w:World)(a:w.cell? ⟨b,2,none⟩=some x):Calls Tryz.prog 226 #[.pointer (some ⟨b,0,none⟩)] w fun e w'=>e=.returned x∧w'=w:=by
 go_enter Tryz.func226,Tryz.ntmps226;go_wp2;go_ret
 exact⟨rfl,rfl⟩
theorem z6e(b:Nat)(w:World)(f:w.cell? ⟨b,2,none⟩=some (.iface 89 (.int .i64 180))):Calls Tryz.prog 26 #[.iface 232 (.pointer (some ⟨b,0,none⟩)),.iface 89 (.int .i64 180)] w fun d w'=>d=.returned (.bool true)∧w'=w:=by
 have j := @run_callFunc_extern Tryz.prog 70 _ ReflectliteType.typeOf Tryz.func70 (by kernel_rfl) (by kernel_rfl) (by kernel_rfl) (by kernel_rfl);have k := @run_callFunc_extern Tryz.prog 216 _ (ReflectliteType.method (fun t=>do Rtype.noPackHeld "Comparable" t;pure (.bool (←typeInfo t).comparable))) Tryz.func216 (by kernel_rfl) (by kernel_rfl) (by kernel_rfl) (by kernel_rfl)
 have m:∀(h:Value) (w:World),(Go.method 413 214 (.agg #[h]) "Comparable").run Tryz.prog w=.ok (216,.agg #[h]) w:=fun _ _=>by kernel_rfl
 have q:∀(v:Value) (w:World),(ReflectliteType.typeOf #[.iface 89 v]).run Tryz.prog w=.ok (.iface 214 (.agg #[.pointer (some ⟨0,89,none⟩)])) w:=fun _ _=>by kernel_rfl
 have g:∀w:World,(ReflectliteType.method (fun t=>do Rtype.noPackHeld "Comparable" t;(fun a=>Value.bool a.comparable) <$> typeInfo t) #[.agg #[.pointer (some ⟨0,89,none⟩)]]).run Tryz.prog w=.ok (.bool true) w:=fun _=>by kernel_rfl
 have o:∀(v u:Value) (w:World),(binOp .eql 42 (.iface 232 v) (.iface 89 u)).run Tryz.prog w=.ok (.bool false) w:=fun v u w=>run_eql_iface_types 232 89 v u Tryz.underlying42 (by decide) w
 have i:∀w:World,(binOp .eql 42 (.iface 89 (.int .i64 180)) (.iface 89 (.int .i64 180))).run Tryz.prog w=.ok (.bool true) w:=fun _=>by kernel_rfl
 have p:∀(v:Value) (c:TypeId) (w:World),(Instr.typeAssert (.iface 232 v) c 216 true).run Tryz.prog w=.ok (.tuple #[.nilIface,.bool false]) w:=fun v c w=>run_typeAssert_lacksB Tryz.underlying216 (by kernel_rfl) (by kernel_rfl) v c w
 have l:∀(v:Value) (c:TypeId) (w:World),(Instr.typeAssert (.iface 232 v) c 219 true).run Tryz.prog w=.ok (.tuple #[.iface 232 v,.bool true]) w:=fun v c w=>run_typeAssert_hasB Tryz.underlying219 (by kernel_rfl) v c w
 have n:∀(h:Value) (w:World),(Go.method 413 232 h "Unwrap").run Tryz.prog w=.ok (226,h) w:=fun _ _=>by kernel_rfl
 go_enter Tryz.func26,Tryz.ntmps26;go_wp2;refine wp_loop_rounds 2 ?_;rw[rounds_succ];go_wp2_with (go_at_call 226;refine(ysZ b _ _ f).mono ?_;rintro e w' ⟨rfl,rfl⟩)
 rw[rounds_succ];go_wp2;go_ret
 exact⟨rfl,rfl⟩
