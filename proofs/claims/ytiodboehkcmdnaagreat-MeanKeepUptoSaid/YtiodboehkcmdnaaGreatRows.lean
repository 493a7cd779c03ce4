/-
  No cell of these rows narrows 'for every input' (looked for: loops, veiled, ifaces, maps, wideKeys, modest, calm, conditions, laid).
  DERIVED. THE GIVEN ROWS OF THIS SEAT. 7 by the template 'for every input the law returns true; each argument reads behind the call as it read before'; 0 by the template 'total and deterministic' (their statements: YtiodboehkcmdnaaGreatTotals.lean).
  GIVEN WITH THE SEED: the statements are not yours to turn. If you find one false, say at which input.
  Laid BY PROGRAM, IN A SANDBOX (cutbox-rows.mjs): the forced cells as the released guide's own fill.sh prints them over the translation 5928cac422d0b391… (all of the seat's roots in one cut). By AI agents, Wed Nov 11 2026. No macro, syntax, notation, axiom, sorry.
-/
import Derived.Test.YtiodboehkcmdnaaGreatChecked
import GoSem.Claim
import GoSem.ClaimJoined
import GoSem.ClaimMapViews
import Derived.JoinedTies
import Derived.KernelRfl
namespace Go.Proofs.YtiodboehkcmdnaaGreat
/- THE CELL 'sum', in the pinned program and in every row, IS THE sha256 OF THE DUMP (.gsa) THAT YtiodboehkcmdnaaGreatProg.lean LOADS. Nothing in Lean hashes anything: it is a label: what it is worth is what the hold of that sum in a sandbox is worth. -/
noncomputable def Tryz.pinned : Pinned := { name := "ytiodboehkcmdnaagreat", sum := "5928cac422d0b39161a6fd0399f0603439caeb1209700e29ac1c987252342434", checked := Tryz.checked }
namespace Rows
def none {H : Type} : Left H := { results := [], args := [] }

/-- 'fathomlaw11.MeanCalls': WHATEVER THE INPUT: true; the input reads as it did. -/
def meanCallsSpec : ChangeSpec := { name := "meanCalls", fn := fun _ => fun
  | [d1, d2] => { results := [.lit (.bool true)], args := [d1, d2] }
  | _ => none }
def meanCallsRow : OpenClaim := { program := "ytiodboehkcmdnaagreat", sum := "5928cac422d0b39161a6fd0399f0603439caeb1209700e29ac1c987252342434", func := "fathom/fathomlaw11.MeanCalls", spec := "meanCalls", inPlace := ["math.Float64bits", "math.archTrunc", "math.Float64frombits"], unfollowed := true, recurses := true, apart := false }
def MeanCallsSaid : Prop := meanCallsRow.holds Tryz.pinned (OpenSpec.ofChange meanCallsSpec)

/-- ITS FALSE NEIGHBOUR: 'it returns false'. Refute it at one input. -/
def meanCallsWrong : ChangeSpec := { name := "meanCalls", fn := fun _ => fun
  | [d1, d2] => { results := [.lit (.bool false)], args := [d1, d2] }
  | _ => none }
def MeanCallsWrongFalsely : Prop := meanCallsRow.holds Tryz.pinned (OpenSpec.ofChange meanCallsWrong)

/-- 'fathomlaw11.MeanRaw': WHATEVER THE INPUT: true; the input reads as it did. -/
def meanRawSpec : ChangeSpec := { name := "meanRaw", fn := fun _ => fun
  | [d1, d2, d3] => { results := [.lit (.bool true)], args := [d1, d2, d3] }
  | _ => none }
def meanRawRow : OpenClaim := { program := "ytiodboehkcmdnaagreat", sum := "5928cac422d0b39161a6fd0399f0603439caeb1209700e29ac1c987252342434", func := "fathom/fathomlaw11.MeanRaw", spec := "meanRaw", inPlace := ["math.Float64bits", "math.archTrunc", "math.Float64frombits"], unfollowed := true, recurses := true, apart := false }
def MeanRawSaid : Prop := meanRawRow.holds Tryz.pinned (OpenSpec.ofChange meanRawSpec)

/-- ITS FALSE NEIGHBOUR: 'it returns false'. Refute it at one input. -/
def meanRawWrong : ChangeSpec := { name := "meanRaw", fn := fun _ => fun
  | [d1, d2, d3] => { results := [.lit (.bool false)], args := [d1, d2, d3] }
  | _ => none }
def MeanRawWrongFalsely : Prop := meanRawRow.holds Tryz.pinned (OpenSpec.ofChange meanRawWrong)

/-- 'fathomlaw11.MeanMore': WHATEVER THE INPUT: true; the input reads as it did. -/
def meanMoreSpec : ChangeSpec := { name := "meanMore", fn := fun _ => fun
  | [d1, d2, d3] => { results := [.lit (.bool true)], args := [d1, d2, d3] }
  | _ => none }
def meanMoreRow : OpenClaim := { program := "ytiodboehkcmdnaagreat", sum := "5928cac422d0b39161a6fd0399f0603439caeb1209700e29ac1c987252342434", func := "fathom/fathomlaw11.MeanMore", spec := "meanMore", inPlace := ["math.Float64bits", "math.archTrunc", "math.Float64frombits"], unfollowed := true, recurses := true, apart := false }
def MeanMoreSaid : Prop := meanMoreRow.holds Tryz.pinned (OpenSpec.ofChange meanMoreSpec)

/-- ITS FALSE NEIGHBOUR: 'it returns false'. Refute it at one input. -/
def meanMoreWrong : ChangeSpec := { name := "meanMore", fn := fun _ => fun
  | [d1, d2, d3] => { results := [.lit (.bool false)], args := [d1, d2, d3] }
  | _ => none }
def MeanMoreWrongFalsely : Prop := meanMoreRow.holds Tryz.pinned (OpenSpec.ofChange meanMoreWrong)

/-- 'fathomlaw11.MeanTypes': WHATEVER THE INPUT: true; the input reads as it did. -/
def meanTypesSpec : ChangeSpec := { name := "meanTypes", fn := fun _ => fun
  | [d] => { results := [.lit (.bool true)], args := [d] }
  | _ => none }
def meanTypesRow : OpenClaim := { program := "ytiodboehkcmdnaagreat", sum := "5928cac422d0b39161a6fd0399f0603439caeb1209700e29ac1c987252342434", func := "fathom/fathomlaw11.MeanTypes", spec := "meanTypes", inPlace := ["math.Float64bits", "math.archTrunc", "math.Float64frombits"], unfollowed := true, recurses := true, apart := false }
def MeanTypesSaid : Prop := meanTypesRow.holds Tryz.pinned (OpenSpec.ofChange meanTypesSpec)

/-- ITS FALSE NEIGHBOUR: 'it returns false'. Refute it at one input. -/
def meanTypesWrong : ChangeSpec := { name := "meanTypes", fn := fun _ => fun
  | [d] => { results := [.lit (.bool false)], args := [d] }
  | _ => none }
def MeanTypesWrongFalsely : Prop := meanTypesRow.holds Tryz.pinned (OpenSpec.ofChange meanTypesWrong)

/-- 'fathomlaw11.MeanTurns': WHATEVER THE INPUT: true; the input reads as it did. -/
def meanTurnsSpec : ChangeSpec := { name := "meanTurns", fn := fun _ => fun
  | [d1, d2] => { results := [.lit (.bool true)], args := [d1, d2] }
  | _ => none }
def meanTurnsRow : OpenClaim := { program := "ytiodboehkcmdnaagreat", sum := "5928cac422d0b39161a6fd0399f0603439caeb1209700e29ac1c987252342434", func := "fathom/fathomlaw11.MeanTurns", spec := "meanTurns", inPlace := ["math.Float64bits", "math.archTrunc", "math.Float64frombits"], unfollowed := true, recurses := true, apart := false }
def MeanTurnsSaid : Prop := meanTurnsRow.holds Tryz.pinned (OpenSpec.ofChange meanTurnsSpec)

/-- ITS FALSE NEIGHBOUR: 'it returns false'. Refute it at one input. -/
def meanTurnsWrong : ChangeSpec := { name := "meanTurns", fn := fun _ => fun
  | [d1, d2] => { results := [.lit (.bool false)], args := [d1, d2] }
  | _ => none }
def MeanTurnsWrongFalsely : Prop := meanTurnsRow.holds Tryz.pinned (OpenSpec.ofChange meanTurnsWrong)

/-- 'fathomlaw11.MeanKeep': WHATEVER THE INPUT: true; the input reads as it did. -/
def meanKeepSpec : ChangeSpec := { name := "meanKeep", fn := fun _ => fun
  | [d] => { results := [.lit (.bool true)], args := [d] }
  | _ => none }
def meanKeepRow : OpenClaim := { program := "ytiodboehkcmdnaagreat", sum := "5928cac422d0b39161a6fd0399f0603439caeb1209700e29ac1c987252342434", func := "fathom/fathomlaw11.MeanKeep", spec := "meanKeep", inPlace := ["math.Float64bits", "math.archTrunc", "math.Float64frombits"], unfollowed := true, recurses := true, apart := false }
def MeanKeepSaid : Prop := meanKeepRow.holds Tryz.pinned (OpenSpec.ofChange meanKeepSpec)

/-- ITS FALSE NEIGHBOUR: 'it returns false'. Refute it at one input. -/
def meanKeepWrong : ChangeSpec := { name := "meanKeep", fn := fun _ => fun
  | [d] => { results := [.lit (.bool false)], args := [d] }
  | _ => none }
def MeanKeepWrongFalsely : Prop := meanKeepRow.holds Tryz.pinned (OpenSpec.ofChange meanKeepWrong)

/-- 'fathomlaw11.MeanGiven': WHATEVER THE INPUT: true; the input reads as it did. -/
def meanGivenSpec : ChangeSpec := { name := "meanGiven", fn := fun _ => fun
  | [d] => { results := [.lit (.bool true)], args := [d] }
  | _ => none }
def meanGivenRow : OpenClaim := { program := "ytiodboehkcmdnaagreat", sum := "5928cac422d0b39161a6fd0399f0603439caeb1209700e29ac1c987252342434", func := "fathom/fathomlaw11.MeanGiven", spec := "meanGiven", inPlace := ["math.Float64bits", "math.archTrunc", "math.Float64frombits"], unfollowed := true, recurses := true, apart := false }
def MeanGivenSaid : Prop := meanGivenRow.holds Tryz.pinned (OpenSpec.ofChange meanGivenSpec)

/-- ITS FALSE NEIGHBOUR: 'it returns false'. Refute it at one input. -/
def meanGivenWrong : ChangeSpec := { name := "meanGiven", fn := fun _ => fun
  | [d] => { results := [.lit (.bool false)], args := [d] }
  | _ => none }
def MeanGivenWrongFalsely : Prop := meanGivenRow.holds Tryz.pinned (OpenSpec.ofChange meanGivenWrong)

/- THE SECOND FORM. 'bulk': how many values and letters a reading holds, each counted each time it is reached (what is shared counts as often as it is met; a slice's spare places count too). A statement '..UptoSaid' is the law's where the arguments, and the package variables that the reading takes, are together of bulk at most 1048576: NARROWER than '..Said'. Prove '..Said' where nothing that the law and all that it calls make is longer than what came in: it says more and counts as full. Else prove '..UptoSaid'. A law counts once. -/
mutual
def uptoBulk {H : Type} : DataW H → Nat
  | .lit (.string bytes) => bytes.length + 1
  | .lit _ => 1
  | .nil => 1
  | .ptr d => uptoBulk d + 1
  | .slice elems spare => uptoBulkAll elems + uptoBulkAll spare + 1
  | .agg parts => uptoBulkAll parts + 1
  | .iface _ d => uptoBulk d + 1
  | .map entries => uptoBulkEntries entries + 1
  | .held _ => 1
def uptoBulkAll {H : Type} : List (DataW H) → Nat
  | [] => 0
  | d :: r => uptoBulk d + uptoBulkAll r
def uptoBulkEntries {H : Type} : List (Lit × DataW H) → Nat
  | [] => 0
  | x :: r => uptoBulkEntry x + uptoBulkEntries r
def uptoBulkEntry {H : Type} : Lit × DataW H → Nat
  | (.string bytes, d) => bytes.length + uptoBulk d + 1
  | (_, d) => uptoBulk d + 1
 end
def uptoSmall : (H : Type) → List (DataW H) → Bool := fun _ ds => decide (uptoBulkAll ds ≤ 1048576)
def OpenSpec.upto (s : _root_.Go.ChangeSpec) : _root_.Go.OpenSpec := { _root_.Go.OpenSpec.ofChange s with cond := some uptoSmall }

/-- 'fathomlaw11.MeanCalls', WHERE WHAT IT READS IS OF BULK AT MOST 1048576: true; the input reads as it did. -/
def meanCallsUptoRow : OpenClaim := { program := "ytiodboehkcmdnaagreat", sum := "5928cac422d0b39161a6fd0399f0603439caeb1209700e29ac1c987252342434", func := "fathom/fathomlaw11.MeanCalls", spec := "meanCalls", inPlace := ["math.Float64bits", "math.archTrunc", "math.Float64frombits"], unfollowed := true, recurses := true, apart := false, narrowed := true }
def MeanCallsUptoSaid : Prop := meanCallsUptoRow.holds Tryz.pinned (OpenSpec.upto meanCallsSpec)

/-- 'fathomlaw11.MeanRaw', WHERE WHAT IT READS IS OF BULK AT MOST 1048576: true; the input reads as it did. -/
def meanRawUptoRow : OpenClaim := { program := "ytiodboehkcmdnaagreat", sum := "5928cac422d0b39161a6fd0399f0603439caeb1209700e29ac1c987252342434", func := "fathom/fathomlaw11.MeanRaw", spec := "meanRaw", inPlace := ["math.Float64bits", "math.archTrunc", "math.Float64frombits"], unfollowed := true, recurses := true, apart := false, narrowed := true }
def MeanRawUptoSaid : Prop := meanRawUptoRow.holds Tryz.pinned (OpenSpec.upto meanRawSpec)

/-- 'fathomlaw11.MeanMore', WHERE WHAT IT READS IS OF BULK AT MOST 1048576: true; the input reads as it did. -/
def meanMoreUptoRow : OpenClaim := { program := "ytiodboehkcmdnaagreat", sum := "5928cac422d0b39161a6fd0399f0603439caeb1209700e29ac1c987252342434", func := "fathom/fathomlaw11.MeanMore", spec := "meanMore", inPlace := ["math.Float64bits", "math.archTrunc", "math.Float64frombits"], unfollowed := true, recurses := true, apart := false, narrowed := true }
def MeanMoreUptoSaid : Prop := meanMoreUptoRow.holds Tryz.pinned (OpenSpec.upto meanMoreSpec)

/-- 'fathomlaw11.MeanTypes', WHERE WHAT IT READS IS OF BULK AT MOST 1048576: true; the input reads as it did. -/
def meanTypesUptoRow : OpenClaim := { program := "ytiodboehkcmdnaagreat", sum := "5928cac422d0b39161a6fd0399f0603439caeb1209700e29ac1c987252342434", func := "fathom/fathomlaw11.MeanTypes", spec := "meanTypes", inPlace := ["math.Float64bits", "math.archTrunc", "math.Float64frombits"], unfollowed := true, recurses := true, apart := false, narrowed := true }
def MeanTypesUptoSaid : Prop := meanTypesUptoRow.holds Tryz.pinned (OpenSpec.upto meanTypesSpec)

/-- 'fathomlaw11.MeanTurns', WHERE WHAT IT READS IS OF BULK AT MOST 1048576: true; the input reads as it did. -/
def meanTurnsUptoRow : OpenClaim := { program := "ytiodboehkcmdnaagreat", sum := "5928cac422d0b39161a6fd0399f0603439caeb1209700e29ac1c987252342434", func := "fathom/fathomlaw11.MeanTurns", spec := "meanTurns", inPlace := ["math.Float64bits", "math.archTrunc", "math.Float64frombits"], unfollowed := true, recurses := true, apart := false, narrowed := true }
def MeanTurnsUptoSaid : Prop := meanTurnsUptoRow.holds Tryz.pinned (OpenSpec.upto meanTurnsSpec)

/-- 'fathomlaw11.MeanKeep', WHERE WHAT IT READS IS OF BULK AT MOST 1048576: true; the input reads as it did. -/
def meanKeepUptoRow : OpenClaim := { program := "ytiodboehkcmdnaagreat", sum := "5928cac422d0b39161a6fd0399f0603439caeb1209700e29ac1c987252342434", func := "fathom/fathomlaw11.MeanKeep", spec := "meanKeep", inPlace := ["math.Float64bits", "math.archTrunc", "math.Float64frombits"], unfollowed := true, recurses := true, apart := false, narrowed := true }
def MeanKeepUptoSaid : Prop := meanKeepUptoRow.holds Tryz.pinned (OpenSpec.upto meanKeepSpec)

/-- 'fathomlaw11.MeanGiven', WHERE WHAT IT READS IS OF BULK AT MOST 1048576: true; the input reads as it did. -/
def meanGivenUptoRow : OpenClaim := { program := "ytiodboehkcmdnaagreat", sum := "5928cac422d0b39161a6fd0399f0603439caeb1209700e29ac1c987252342434", func := "fathom/fathomlaw11.MeanGiven", spec := "meanGiven", inPlace := ["math.Float64bits", "math.archTrunc", "math.Float64frombits"], unfollowed := true, recurses := true, apart := false, narrowed := true }
def MeanGivenUptoSaid : Prop := meanGivenUptoRow.holds Tryz.pinned (OpenSpec.upto meanGivenSpec)

end Rows
end Go.Proofs.YtiodboehkcmdnaaGreat
