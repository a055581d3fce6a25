/- How the arguments of layer 22's statements are read. -/
import Derived.Test.YtiplneodkcjkmaaHOpen
import Derived.Test.YtiplneodkcjkmaaPx0
set_option linter.unusedVariables false
namespace Go.Proofs.Ytiplneodkcjkmaa.P
open Go.RowKit Go.Proofs.YtiplneodkcjkmaaW.PrintWords Go.Proofs.YtiplneodkcjkmaaW.PrintLast Go.Proofs.YtiplneodkcjkmaaW.PrintMore
section
variable {H : Type} {enc : TypeId × Value → H} {w : World} {spare : Nat → Bool} {held : Bool}
theorem o_bytes : Opens Try.prog enc w spare held (Kd.slice 5 (Kd.int .u8)) 28 (fun l => l.length ≤ maxLen ∧ ∀ x ∈ l, (Lit.int .u8 x).wf = true) := opens_slice _ Try.underlying28 (by kernel_rfl) (opens_int Try.underlying5)
theorem o_ints : Opens Try.prog enc w spare held (Kd.slice 3 (Kd.int .i64)) 47 (fun l => l.length ≤ maxLen ∧ ∀ x ∈ l, (Lit.int .i64 x).wf = true) := opens_slice _ Try.underlying47 (by kernel_rfl) (opens_int Try.underlying3)
theorem o_wait : Opens Try.prog enc w spare held k57 57 (fun _ => True) := Opens.any (opens_struct2 (d0 := Kd.int .i64) (d1 := Kd.slice 5 (Kd.int .u8)) (fun x : S57 => (x.f0, x.f1)) (fun a b => ⟨a, b⟩) (fun _ _ => rfl) Try.underlying57 rfl rfl (by kernel_rfl) (by kernel_rfl) (by kernel_rfl) (opens_int Try.underlying3) o_bytes)
theorem o_disk : Opens Try.prog enc w spare held k25 25 (fun _ => True) := Opens.any (opens_struct2 (d0 := Kd.slice 28 (Kd.slice 5 (Kd.int .u8))) (d1 := Kd.slice 57 k57) (fun x : S25 => (x.f0, x.f1)) (fun a b => ⟨a, b⟩) (fun _ _ => rfl) Try.underlying25 rfl rfl (by kernel_rfl) (by kernel_rfl) (by kernel_rfl) (opens_slice _ Try.underlying22 (by kernel_rfl) o_bytes) (opens_slice _ Try.underlying23 (by kernel_rfl) o_wait))
theorem o_act : Opens Try.prog enc w spare held k50 50 (fun _ => True) := Opens.any (opens_struct4 (d0 := Kd.int .i64) (d1 := Kd.int .i64) (d2 := Kd.slice 5 (Kd.int .u8)) (d3 := Kd.slice 3 (Kd.int .i64)) (fun x : S50 => (x.f0, x.f1, x.f2, x.f3)) (fun a b c d => ⟨a, b, c, d⟩) (fun _ _ _ _ => rfl) Try.underlying50 rfl rfl rfl rfl (by kernel_rfl) (by kernel_rfl) (by kernel_rfl) (by kernel_rfl) (by kernel_rfl) (opens_int Try.underlying3) (opens_int Try.underlying3) o_bytes o_ints)
theorem o_acts : Opens Try.prog enc w spare held (Kd.slice 50 k50) 46 (fun _ => True) := Opens.any (opens_slice _ Try.underlying46 (by kernel_rfl) o_act)
end
end Go.Proofs.Ytiplneodkcjkmaa.P
