/-
  No cell of these rows narrows 'for every input' (looked for: loops, veiled, ifaces, maps, wideKeys, modest, calm, conditions, laid).
  DERIVED. THE GIVEN ROWS OF THIS SEAT. 6 by the template 'for every input the law returns true; each argument reads behind the call as it read before'; 0 by the template 'total and deterministic' (their statements: YtiplneodkcjkmaaTotals.lean).
  GIVEN WITH THE SEED: the statements are not yours to turn. If you find one false, say at which input.
  Laid BY PROGRAM, IN A SANDBOX (cutbox-rows.mjs): the forced cells as the released guide's own fill.sh prints them over the translation b08852f5484ff7d9… (all of the seat's roots in one cut). By AI agents, Wed Nov 11 2026. No macro, syntax, notation, axiom, sorry.
-/
import Derived.Test.YtiplneodkcjkmaaChecked
import GoSem.Claim
import GoSem.ClaimJoined
import GoSem.ClaimMapViews
import Derived.JoinedTies
import Derived.KernelRfl
namespace Go.Proofs.Ytiplneodkcjkmaa
/- THE CELL 'sum', in the pinned program and in every row, IS THE sha256 OF THE DUMP (.gsa) THAT YtiplneodkcjkmaaProg.lean LOADS. Nothing in Lean hashes anything: it is a label: what it is worth is what the hold of that sum in a sandbox is worth. -/
noncomputable def Try.pinned : Pinned := { name := "ytiplneodkcjkmaa", sum := "b08852f5484ff7d9325930de0b1596de4763a5ad5dc3fc4858d2ed512bab598d", checked := Try.checked }
namespace Rows
def none {H : Type} : Left H := { results := [], args := [] }

/-- 'rubricklaw22.BlockReads': WHATEVER THE INPUT: true; the input reads as it did. -/
def blockReadsSpec : ChangeSpec := { name := "blockReads", fn := fun _ => fun
  | [d1, d2] => { results := [.lit (.bool true)], args := [d1, d2] }
  | _ => none }
def blockReadsRow : OpenClaim := { program := "ytiplneodkcjkmaa", sum := "b08852f5484ff7d9325930de0b1596de4763a5ad5dc3fc4858d2ed512bab598d", func := "rubrick/rubricklaw22.BlockReads", spec := "blockReads", unfollowed := true, recurses := true, apart := false }
def BlockReadsSaid : Prop := blockReadsRow.holds Try.pinned (OpenSpec.ofChange blockReadsSpec)

/-- ITS FALSE NEIGHBOUR: 'it returns false'. Refute it at one input. -/
def blockReadsWrong : ChangeSpec := { name := "blockReads", fn := fun _ => fun
  | [d1, d2] => { results := [.lit (.bool false)], args := [d1, d2] }
  | _ => none }
def BlockReadsWrongFalsely : Prop := blockReadsRow.holds Try.pinned (OpenSpec.ofChange blockReadsWrong)

/-- 'rubricklaw22.BlockNews': WHATEVER THE INPUT: true; the input reads as it did. -/
def blockNewsSpec : ChangeSpec := { name := "blockNews", fn := fun _ => fun
  | [d] => { results := [.lit (.bool true)], args := [d] }
  | _ => none }
def blockNewsRow : OpenClaim := { program := "ytiplneodkcjkmaa", sum := "b08852f5484ff7d9325930de0b1596de4763a5ad5dc3fc4858d2ed512bab598d", func := "rubrick/rubricklaw22.BlockNews", spec := "blockNews", unfollowed := true, recurses := true, apart := false }
def BlockNewsSaid : Prop := blockNewsRow.holds Try.pinned (OpenSpec.ofChange blockNewsSpec)

/-- ITS FALSE NEIGHBOUR: 'it returns false'. Refute it at one input. -/
def blockNewsWrong : ChangeSpec := { name := "blockNews", fn := fun _ => fun
  | [d] => { results := [.lit (.bool false)], args := [d] }
  | _ => none }
def BlockNewsWrongFalsely : Prop := blockNewsRow.holds Try.pinned (OpenSpec.ofChange blockNewsWrong)

/-- 'rubricklaw22.BlockLasts': WHATEVER THE INPUT: true; the input reads as it did. -/
def blockLastsSpec : ChangeSpec := { name := "blockLasts", fn := fun _ => fun
  | [d1, d2, d3, d4] => { results := [.lit (.bool true)], args := [d1, d2, d3, d4] }
  | _ => none }
def blockLastsRow : OpenClaim := { program := "ytiplneodkcjkmaa", sum := "b08852f5484ff7d9325930de0b1596de4763a5ad5dc3fc4858d2ed512bab598d", func := "rubrick/rubricklaw22.BlockLasts", spec := "blockLasts", unfollowed := true, recurses := true, apart := false }
def BlockLastsSaid : Prop := blockLastsRow.holds Try.pinned (OpenSpec.ofChange blockLastsSpec)

/-- ITS FALSE NEIGHBOUR: 'it returns false'. Refute it at one input. -/
def blockLastsWrong : ChangeSpec := { name := "blockLasts", fn := fun _ => fun
  | [d1, d2, d3, d4] => { results := [.lit (.bool false)], args := [d1, d2, d3, d4] }
  | _ => none }
def BlockLastsWrongFalsely : Prop := blockLastsRow.holds Try.pinned (OpenSpec.ofChange blockLastsWrong)

/-- 'rubricklaw22.BlockTears': WHATEVER THE INPUT: true; the input reads as it did. -/
def blockTearsSpec : ChangeSpec := { name := "blockTears", fn := fun _ => fun
  | [d1, d2, d3, d4, d5] => { results := [.lit (.bool true)], args := [d1, d2, d3, d4, d5] }
  | _ => none }
def blockTearsRow : OpenClaim := { program := "ytiplneodkcjkmaa", sum := "b08852f5484ff7d9325930de0b1596de4763a5ad5dc3fc4858d2ed512bab598d", func := "rubrick/rubricklaw22.BlockTears", spec := "blockTears", unfollowed := true, recurses := true, apart := false }
def BlockTearsSaid : Prop := blockTearsRow.holds Try.pinned (OpenSpec.ofChange blockTearsSpec)

/-- ITS FALSE NEIGHBOUR: 'it returns false'. Refute it at one input. -/
def blockTearsWrong : ChangeSpec := { name := "blockTears", fn := fun _ => fun
  | [d1, d2, d3, d4, d5] => { results := [.lit (.bool false)], args := [d1, d2, d3, d4, d5] }
  | _ => none }
def BlockTearsWrongFalsely : Prop := blockTearsRow.holds Try.pinned (OpenSpec.ofChange blockTearsWrong)

/-- 'rubricklaw22.BlockLike': WHATEVER THE INPUT: true; the input reads as it did. -/
def blockLikeSpec : ChangeSpec := { name := "blockLike", fn := fun _ => fun
  | [d1, d2] => { results := [.lit (.bool true)], args := [d1, d2] }
  | _ => none }
def blockLikeRow : OpenClaim := { program := "ytiplneodkcjkmaa", sum := "b08852f5484ff7d9325930de0b1596de4763a5ad5dc3fc4858d2ed512bab598d", func := "rubrick/rubricklaw22.BlockLike", spec := "blockLike", unfollowed := true, recurses := true, apart := false }
def BlockLikeSaid : Prop := blockLikeRow.holds Try.pinned (OpenSpec.ofChange blockLikeSpec)

/-- ITS FALSE NEIGHBOUR: 'it returns false'. Refute it at one input. -/
def blockLikeWrong : ChangeSpec := { name := "blockLike", fn := fun _ => fun
  | [d1, d2] => { results := [.lit (.bool false)], args := [d1, d2] }
  | _ => none }
def BlockLikeWrongFalsely : Prop := blockLikeRow.holds Try.pinned (OpenSpec.ofChange blockLikeWrong)

/-- 'rubricklaw22.BlockTwice': WHATEVER THE INPUT: true; the input reads as it did. -/
def blockTwiceSpec : ChangeSpec := { name := "blockTwice", fn := fun _ => fun
  | [d1, d2] => { results := [.lit (.bool true)], args := [d1, d2] }
  | _ => none }
def blockTwiceRow : OpenClaim := { program := "ytiplneodkcjkmaa", sum := "b08852f5484ff7d9325930de0b1596de4763a5ad5dc3fc4858d2ed512bab598d", func := "rubrick/rubricklaw22.BlockTwice", spec := "blockTwice", unfollowed := true, recurses := true, apart := false }
def BlockTwiceSaid : Prop := blockTwiceRow.holds Try.pinned (OpenSpec.ofChange blockTwiceSpec)

/-- ITS FALSE NEIGHBOUR: 'it returns false'. Refute it at one input. -/
def blockTwiceWrong : ChangeSpec := { name := "blockTwice", fn := fun _ => fun
  | [d1, d2] => { results := [.lit (.bool false)], args := [d1, d2] }
  | _ => none }
def BlockTwiceWrongFalsely : Prop := blockTwiceRow.holds Try.pinned (OpenSpec.ofChange blockTwiceWrong)

/- THE SECOND FORM. 'bulk': how many values and letters a reading holds, each counted each time it is reached (what is shared counts as often as it is met; a slice's spare places count too). A statement '..UptoSaid' is the law's where the arguments, and the package variables that the reading takes, are together of bulk at most 1048576: NARROWER than '..Said'. Prove '..Said' where nothing that the law and all that it calls make is longer than what came in: it says more and counts as full. Else prove '..UptoSaid'. A law counts once. -/
mutual
def uptoBulk {H : Type} : DataW H → Nat
  | .lit (.string bytes) => bytes.length + 1
  | .lit _ => 1
  | .nil => 1
  | .ptr d => uptoBulk d + 1
  | .slice elems spare => uptoBulkAll elems + uptoBulkAll spare + 1
  | .agg parts => uptoBulkAll parts + 1
  | .iface _ d => uptoBulk d + 1
  | .map entries => uptoBulkEntries entries + 1
  | .held _ => 1
def uptoBulkAll {H : Type} : List (DataW H) → Nat
  | [] => 0
  | d :: r => uptoBulk d + uptoBulkAll r
def uptoBulkEntries {H : Type} : List (Lit × DataW H) → Nat
  | [] => 0
  | x :: r => uptoBulkEntry x + uptoBulkEntries r
def uptoBulkEntry {H : Type} : Lit × DataW H → Nat
  | (.string bytes, d) => bytes.length + uptoBulk d + 1
  | (_, d) => uptoBulk d + 1
 end
def uptoSmall : (H : Type) → List (DataW H) → Bool := fun _ ds => decide (uptoBulkAll ds ≤ 1048576)
def OpenSpec.upto (s : _root_.Go.ChangeSpec) : _root_.Go.OpenSpec := { _root_.Go.OpenSpec.ofChange s with cond := some uptoSmall }

/-- 'rubricklaw22.BlockReads', WHERE WHAT IT READS IS OF BULK AT MOST 1048576: true; the input reads as it did. -/
def blockReadsUptoRow : OpenClaim := { program := "ytiplneodkcjkmaa", sum := "b08852f5484ff7d9325930de0b1596de4763a5ad5dc3fc4858d2ed512bab598d", func := "rubrick/rubricklaw22.BlockReads", spec := "blockReads", unfollowed := true, recurses := true, apart := false, narrowed := true }
def BlockReadsUptoSaid : Prop := blockReadsUptoRow.holds Try.pinned (OpenSpec.upto blockReadsSpec)

/-- 'rubricklaw22.BlockNews', WHERE WHAT IT READS IS OF BULK AT MOST 1048576: true; the input reads as it did. -/
def blockNewsUptoRow : OpenClaim := { program := "ytiplneodkcjkmaa", sum := "b08852f5484ff7d9325930de0b1596de4763a5ad5dc3fc4858d2ed512bab598d", func := "rubrick/rubricklaw22.BlockNews", spec := "blockNews", unfollowed := true, recurses := true, apart := false, narrowed := true }
def BlockNewsUptoSaid : Prop := blockNewsUptoRow.holds Try.pinned (OpenSpec.upto blockNewsSpec)

/-- 'rubricklaw22.BlockLasts', WHERE WHAT IT READS IS OF BULK AT MOST 1048576: true; the input reads as it did. -/
def blockLastsUptoRow : OpenClaim := { program := "ytiplneodkcjkmaa", sum := "b08852f5484ff7d9325930de0b1596de4763a5ad5dc3fc4858d2ed512bab598d", func := "rubrick/rubricklaw22.BlockLasts", spec := "blockLasts", unfollowed := true, recurses := true, apart := false, narrowed := true }
def BlockLastsUptoSaid : Prop := blockLastsUptoRow.holds Try.pinned (OpenSpec.upto blockLastsSpec)

/-- 'rubricklaw22.BlockTears', WHERE WHAT IT READS IS OF BULK AT MOST 1048576: true; the input reads as it did. -/
def blockTearsUptoRow : OpenClaim := { program := "ytiplneodkcjkmaa", sum := "b08852f5484ff7d9325930de0b1596de4763a5ad5dc3fc4858d2ed512bab598d", func := "rubrick/rubricklaw22.BlockTears", spec := "blockTears", unfollowed := true, recurses := true, apart := false, narrowed := true }
def BlockTearsUptoSaid : Prop := blockTearsUptoRow.holds Try.pinned (OpenSpec.upto blockTearsSpec)

/-- 'rubricklaw22.BlockLike', WHERE WHAT IT READS IS OF BULK AT MOST 1048576: true; the input reads as it did. -/
def blockLikeUptoRow : OpenClaim := { program := "ytiplneodkcjkmaa", sum := "b08852f5484ff7d9325930de0b1596de4763a5ad5dc3fc4858d2ed512bab598d", func := "rubrick/rubricklaw22.BlockLike", spec := "blockLike", unfollowed := true, recurses := true, apart := false, narrowed := true }
def BlockLikeUptoSaid : Prop := blockLikeUptoRow.holds Try.pinned (OpenSpec.upto blockLikeSpec)

/-- 'rubricklaw22.BlockTwice', WHERE WHAT IT READS IS OF BULK AT MOST 1048576: true; the input reads as it did. -/
def blockTwiceUptoRow : OpenClaim := { program := "ytiplneodkcjkmaa", sum := "b08852f5484ff7d9325930de0b1596de4763a5ad5dc3fc4858d2ed512bab598d", func := "rubrick/rubricklaw22.BlockTwice", spec := "blockTwice", unfollowed := true, recurses := true, apart := false, narrowed := true }
def BlockTwiceUptoSaid : Prop := blockTwiceUptoRow.holds Try.pinned (OpenSpec.upto blockTwiceSpec)

end Rows
end Go.Proofs.Ytiplneodkcjkmaa
