/-
  No cell of these rows narrows 'for every input' (looked for: loops, veiled, ifaces, maps, wideKeys, modest, calm, conditions, laid).
  DERIVED. THE GIVEN ROWS OF THIS SEAT. 6 by the template 'for every input the law returns true; each argument reads behind the call as it read before'; 0 by the template 'total and deterministic' (their statements: YtcpeehkeilfbfaaGreatTotals.lean).
  GIVEN WITH THE SEED: the statements are not yours to turn. If you find one false, say at which input.
  Laid BY PROGRAM, IN A SANDBOX (cutbox-rows.mjs): the forced cells as the released guide's own fill.sh prints them over the translation a3781d6388dcb1d9… (all of the seat's roots in one cut). By AI agents, Wed Nov 11 2026. No macro, syntax, notation, axiom, sorry.
-/
import Derived.Test.YtcpeehkeilfbfaaGreatChecked
import GoSem.Claim
import GoSem.ClaimJoined
import GoSem.ClaimMapViews
import Derived.JoinedTies
import Derived.KernelRfl
namespace Go.Proofs.YtcpeehkeilfbfaaGreat
/- THE CELL 'sum', in the pinned program and in every row, IS THE sha256 OF THE DUMP (.gsa) THAT YtcpeehkeilfbfaaGreatProg.lean LOADS. Nothing in Lean hashes anything: it is a label: what it is worth is what the hold of that sum in a sandbox is worth. -/
noncomputable def Tryz.pinned : Pinned := { name := "ytcpeehkeilfbfaagreat", sum := "a3781d6388dcb1d911c072979304a198210f1f81271426da841b8d1608af5937", checked := Tryz.checked }
namespace Rows
def none {H : Type} : Left H := { results := [], args := [] }

/-- 'backstaylaw25.FuzzMakes': WHATEVER THE INPUT: true; the input reads as it did. -/
def fuzzMakesSpec : ChangeSpec := { name := "fuzzMakes", fn := fun _ => fun
  | [d] => { results := [.lit (.bool true)], args := [d] }
  | _ => none }
def fuzzMakesRow : OpenClaim := { program := "ytcpeehkeilfbfaagreat", sum := "a3781d6388dcb1d911c072979304a198210f1f81271426da841b8d1608af5937", func := "backstay/backstaylaw25.FuzzMakes", spec := "fuzzMakes", unfollowed := true, recurses := true, apart := false }
def FuzzMakesSaid : Prop := fuzzMakesRow.holds Tryz.pinned (OpenSpec.ofChange fuzzMakesSpec)

/-- ITS FALSE NEIGHBOUR: 'it returns false'. Refute it at one input. -/
def fuzzMakesWrong : ChangeSpec := { name := "fuzzMakes", fn := fun _ => fun
  | [d] => { results := [.lit (.bool false)], args := [d] }
  | _ => none }
def FuzzMakesWrongFalsely : Prop := fuzzMakesRow.holds Tryz.pinned (OpenSpec.ofChange fuzzMakesWrong)

/-- 'backstaylaw25.FuzzInputs': WHATEVER THE INPUT: true; the input reads as it did. -/
def fuzzInputsSpec : ChangeSpec := { name := "fuzzInputs", fn := fun _ => fun
  | [d1, d2] => { results := [.lit (.bool true)], args := [d1, d2] }
  | _ => none }
def fuzzInputsRow : OpenClaim := { program := "ytcpeehkeilfbfaagreat", sum := "a3781d6388dcb1d911c072979304a198210f1f81271426da841b8d1608af5937", func := "backstay/backstaylaw25.FuzzInputs", spec := "fuzzInputs", unfollowed := true, recurses := true, apart := false }
def FuzzInputsSaid : Prop := fuzzInputsRow.holds Tryz.pinned (OpenSpec.ofChange fuzzInputsSpec)

/-- ITS FALSE NEIGHBOUR: 'it returns false'. Refute it at one input. -/
def fuzzInputsWrong : ChangeSpec := { name := "fuzzInputs", fn := fun _ => fun
  | [d1, d2] => { results := [.lit (.bool false)], args := [d1, d2] }
  | _ => none }
def FuzzInputsWrongFalsely : Prop := fuzzInputsRow.holds Tryz.pinned (OpenSpec.ofChange fuzzInputsWrong)

/-- 'backstaylaw25.FuzzMutates': WHATEVER THE INPUT: true; the input reads as it did. -/
def fuzzMutatesSpec : ChangeSpec := { name := "fuzzMutates", fn := fun _ => fun
  | [d1, d2] => { results := [.lit (.bool true)], args := [d1, d2] }
  | _ => none }
def fuzzMutatesRow : OpenClaim := { program := "ytcpeehkeilfbfaagreat", sum := "a3781d6388dcb1d911c072979304a198210f1f81271426da841b8d1608af5937", func := "backstay/backstaylaw25.FuzzMutates", spec := "fuzzMutates", unfollowed := true, recurses := true, apart := false }
def FuzzMutatesSaid : Prop := fuzzMutatesRow.holds Tryz.pinned (OpenSpec.ofChange fuzzMutatesSpec)

/-- ITS FALSE NEIGHBOUR: 'it returns false'. Refute it at one input. -/
def fuzzMutatesWrong : ChangeSpec := { name := "fuzzMutates", fn := fun _ => fun
  | [d1, d2] => { results := [.lit (.bool false)], args := [d1, d2] }
  | _ => none }
def FuzzMutatesWrongFalsely : Prop := fuzzMutatesRow.holds Tryz.pinned (OpenSpec.ofChange fuzzMutatesWrong)

/-- 'backstaylaw25.FuzzNarrows': WHATEVER THE INPUT: true; the input reads as it did. -/
def fuzzNarrowsSpec : ChangeSpec := { name := "fuzzNarrows", fn := fun _ => fun
  | [d1, d2] => { results := [.lit (.bool true)], args := [d1, d2] }
  | _ => none }
def fuzzNarrowsRow : OpenClaim := { program := "ytcpeehkeilfbfaagreat", sum := "a3781d6388dcb1d911c072979304a198210f1f81271426da841b8d1608af5937", func := "backstay/backstaylaw25.FuzzNarrows", spec := "fuzzNarrows", inPlace := ["slices.overlaps[backstay/api.Outcome]"], unfollowed := true, recurses := true, apart := false }
def FuzzNarrowsSaid : Prop := fuzzNarrowsRow.holds Tryz.pinned (OpenSpec.ofChange fuzzNarrowsSpec)

/-- ITS FALSE NEIGHBOUR: 'it returns false'. Refute it at one input. -/
def fuzzNarrowsWrong : ChangeSpec := { name := "fuzzNarrows", fn := fun _ => fun
  | [d1, d2] => { results := [.lit (.bool false)], args := [d1, d2] }
  | _ => none }
def FuzzNarrowsWrongFalsely : Prop := fuzzNarrowsRow.holds Tryz.pinned (OpenSpec.ofChange fuzzNarrowsWrong)

/-- 'backstaylaw25.FuzzCatches': WHATEVER THE INPUT: true; the input reads as it did. -/
def fuzzCatchesSpec : ChangeSpec := { name := "fuzzCatches", fn := fun _ => fun
  | [d1, d2] => { results := [.lit (.bool true)], args := [d1, d2] }
  | _ => none }
def fuzzCatchesRow : OpenClaim := { program := "ytcpeehkeilfbfaagreat", sum := "a3781d6388dcb1d911c072979304a198210f1f81271426da841b8d1608af5937", func := "backstay/backstaylaw25.FuzzCatches", spec := "fuzzCatches", inPlace := ["slices.overlaps[backstay/api.Outcome]"], unfollowed := true, recurses := true, apart := false }
def FuzzCatchesSaid : Prop := fuzzCatchesRow.holds Tryz.pinned (OpenSpec.ofChange fuzzCatchesSpec)

/-- ITS FALSE NEIGHBOUR: 'it returns false'. Refute it at one input. -/
def fuzzCatchesWrong : ChangeSpec := { name := "fuzzCatches", fn := fun _ => fun
  | [d1, d2] => { results := [.lit (.bool false)], args := [d1, d2] }
  | _ => none }
def FuzzCatchesWrongFalsely : Prop := fuzzCatchesRow.holds Tryz.pinned (OpenSpec.ofChange fuzzCatchesWrong)

/-- 'backstaylaw25.FuzzReduces': WHATEVER THE INPUT: true; the input reads as it did. -/
def fuzzReducesSpec : ChangeSpec := { name := "fuzzReduces", fn := fun _ => fun
  | [d1, d2] => { results := [.lit (.bool true)], args := [d1, d2] }
  | _ => none }
def fuzzReducesRow : OpenClaim := { program := "ytcpeehkeilfbfaagreat", sum := "a3781d6388dcb1d911c072979304a198210f1f81271426da841b8d1608af5937", func := "backstay/backstaylaw25.FuzzReduces", spec := "fuzzReduces", inPlace := ["slices.overlaps[backstay/api.Outcome]"], unfollowed := true, recurses := true, apart := false }
def FuzzReducesSaid : Prop := fuzzReducesRow.holds Tryz.pinned (OpenSpec.ofChange fuzzReducesSpec)

/-- ITS FALSE NEIGHBOUR: 'it returns false'. Refute it at one input. -/
def fuzzReducesWrong : ChangeSpec := { name := "fuzzReduces", fn := fun _ => fun
  | [d1, d2] => { results := [.lit (.bool false)], args := [d1, d2] }
  | _ => none }
def FuzzReducesWrongFalsely : Prop := fuzzReducesRow.holds Tryz.pinned (OpenSpec.ofChange fuzzReducesWrong)

/- THE SECOND FORM. 'bulk': how many values and letters a reading holds, each counted each time it is reached (what is shared counts as often as it is met; a slice's spare places count too). A statement '..UptoSaid' is the law's where the arguments, and the package variables that the reading takes, are together of bulk at most 1048576: NARROWER than '..Said'. Prove '..Said' where nothing that the law and all that it calls make is longer than what came in: it says more and counts as full. Else prove '..UptoSaid'. A law counts once. -/
mutual
def uptoBulk {H : Type} : DataW H → Nat
  | .lit (.string bytes) => bytes.length + 1
  | .lit _ => 1
  | .nil => 1
  | .ptr d => uptoBulk d + 1
  | .slice elems spare => uptoBulkAll elems + uptoBulkAll spare + 1
  | .agg parts => uptoBulkAll parts + 1
  | .iface _ d => uptoBulk d + 1
  | .map entries => uptoBulkEntries entries + 1
  | .held _ => 1
def uptoBulkAll {H : Type} : List (DataW H) → Nat
  | [] => 0
  | d :: r => uptoBulk d + uptoBulkAll r
def uptoBulkEntries {H : Type} : List (Lit × DataW H) → Nat
  | [] => 0
  | x :: r => uptoBulkEntry x + uptoBulkEntries r
def uptoBulkEntry {H : Type} : Lit × DataW H → Nat
  | (.string bytes, d) => bytes.length + uptoBulk d + 1
  | (_, d) => uptoBulk d + 1
 end
def uptoSmall : (H : Type) → List (DataW H) → Bool := fun _ ds => decide (uptoBulkAll ds ≤ 1048576)
def OpenSpec.upto (s : _root_.Go.ChangeSpec) : _root_.Go.OpenSpec := { _root_.Go.OpenSpec.ofChange s with cond := some uptoSmall }

/-- 'backstaylaw25.FuzzMakes', WHERE WHAT IT READS IS OF BULK AT MOST 1048576: true; the input reads as it did. -/
def fuzzMakesUptoRow : OpenClaim := { program := "ytcpeehkeilfbfaagreat", sum := "a3781d6388dcb1d911c072979304a198210f1f81271426da841b8d1608af5937", func := "backstay/backstaylaw25.FuzzMakes", spec := "fuzzMakes", unfollowed := true, recurses := true, apart := false, narrowed := true }
def FuzzMakesUptoSaid : Prop := fuzzMakesUptoRow.holds Tryz.pinned (OpenSpec.upto fuzzMakesSpec)

/-- 'backstaylaw25.FuzzInputs', WHERE WHAT IT READS IS OF BULK AT MOST 1048576: true; the input reads as it did. -/
def fuzzInputsUptoRow : OpenClaim := { program := "ytcpeehkeilfbfaagreat", sum := "a3781d6388dcb1d911c072979304a198210f1f81271426da841b8d1608af5937", func := "backstay/backstaylaw25.FuzzInputs", spec := "fuzzInputs", unfollowed := true, recurses := true, apart := false, narrowed := true }
def FuzzInputsUptoSaid : Prop := fuzzInputsUptoRow.holds Tryz.pinned (OpenSpec.upto fuzzInputsSpec)

/-- 'backstaylaw25.FuzzMutates', WHERE WHAT IT READS IS OF BULK AT MOST 1048576: true; the input reads as it did. -/
def fuzzMutatesUptoRow : OpenClaim := { program := "ytcpeehkeilfbfaagreat", sum := "a3781d6388dcb1d911c072979304a198210f1f81271426da841b8d1608af5937", func := "backstay/backstaylaw25.FuzzMutates", spec := "fuzzMutates", unfollowed := true, recurses := true, apart := false, narrowed := true }
def FuzzMutatesUptoSaid : Prop := fuzzMutatesUptoRow.holds Tryz.pinned (OpenSpec.upto fuzzMutatesSpec)

/-- 'backstaylaw25.FuzzNarrows', WHERE WHAT IT READS IS OF BULK AT MOST 1048576: true; the input reads as it did. -/
def fuzzNarrowsUptoRow : OpenClaim := { program := "ytcpeehkeilfbfaagreat", sum := "a3781d6388dcb1d911c072979304a198210f1f81271426da841b8d1608af5937", func := "backstay/backstaylaw25.FuzzNarrows", spec := "fuzzNarrows", inPlace := ["slices.overlaps[backstay/api.Outcome]"], unfollowed := true, recurses := true, apart := false, narrowed := true }
def FuzzNarrowsUptoSaid : Prop := fuzzNarrowsUptoRow.holds Tryz.pinned (OpenSpec.upto fuzzNarrowsSpec)

/-- 'backstaylaw25.FuzzCatches', WHERE WHAT IT READS IS OF BULK AT MOST 1048576: true; the input reads as it did. -/
def fuzzCatchesUptoRow : OpenClaim := { program := "ytcpeehkeilfbfaagreat", sum := "a3781d6388dcb1d911c072979304a198210f1f81271426da841b8d1608af5937", func := "backstay/backstaylaw25.FuzzCatches", spec := "fuzzCatches", inPlace := ["slices.overlaps[backstay/api.Outcome]"], unfollowed := true, recurses := true, apart := false, narrowed := true }
def FuzzCatchesUptoSaid : Prop := fuzzCatchesUptoRow.holds Tryz.pinned (OpenSpec.upto fuzzCatchesSpec)

/-- 'backstaylaw25.FuzzReduces', WHERE WHAT IT READS IS OF BULK AT MOST 1048576: true; the input reads as it did. -/
def fuzzReducesUptoRow : OpenClaim := { program := "ytcpeehkeilfbfaagreat", sum := "a3781d6388dcb1d911c072979304a198210f1f81271426da841b8d1608af5937", func := "backstay/backstaylaw25.FuzzReduces", spec := "fuzzReduces", inPlace := ["slices.overlaps[backstay/api.Outcome]"], unfollowed := true, recurses := true, apart := false, narrowed := true }
def FuzzReducesUptoSaid : Prop := fuzzReducesUptoRow.holds Tryz.pinned (OpenSpec.upto fuzzReducesSpec)

end Rows
end Go.Proofs.YtcpeehkeilfbfaaGreat
