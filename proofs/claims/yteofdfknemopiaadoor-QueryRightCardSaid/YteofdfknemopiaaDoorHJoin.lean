/- Of the program as a whole, once for all rows: three facts that the rows' claims ask (each costs the kernel most of a minute). -/
import Derived.Test.YteofdfknemopiaaDoorRows
import Derived.JoinedCond
import Derived.KernelRfl
namespace Go.Proofs.YteofdfknemopiaaDoor.HJoin
set_option maxRecDepth 100000 in
theorem enter : Tryd.pinned.checked.prog.mayEnter = true := by kernel_rfl
set_option maxRecDepth 100000 in
theorem lifts : (Rows.queryRightRow.lifted == Tryd.pinned.checked.prog.liftsFinal) = true := by kernel_rfl
set_option maxRecDepth 100000 in
theorem makes : (Tryd.pinned.checked.prog.make == some Rows.queryRightRow.make) = true := by kernel_rfl
end Go.Proofs.YteofdfknemopiaaDoor.HJoin
