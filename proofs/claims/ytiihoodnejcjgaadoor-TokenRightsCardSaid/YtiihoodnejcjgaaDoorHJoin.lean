/- Of the program as a whole, once for all rows: three facts that the rows' claims ask (each costs the kernel most of a minute). -/
import Derived.Test.YtiihoodnejcjgaaDoorRows
import Derived.JoinedCond
import Derived.KernelRfl
namespace Go.Proofs.YtiihoodnejcjgaaDoor.HJoin
set_option maxRecDepth 100000 in
theorem enter : Tryd.pinned.checked.prog.mayEnter = true := by kernel_rfl
set_option maxRecDepth 100000 in
theorem lifts : (Rows.utfDecodesRow.lifted == Tryd.pinned.checked.prog.liftsFinal) = true := by kernel_rfl
set_option maxRecDepth 100000 in
theorem makes : (Tryd.pinned.checked.prog.make == some Rows.utfDecodesRow.make) = true := by kernel_rfl
end Go.Proofs.YtiihoodnejcjgaaDoor.HJoin
