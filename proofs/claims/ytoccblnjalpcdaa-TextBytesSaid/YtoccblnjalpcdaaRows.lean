/-
  No cell of these rows narrows 'for every input' (looked for: loops, veiled, ifaces, maps, wideKeys, modest, calm, conditions, laid).
  DERIVED. THE GIVEN ROWS OF THIS SEAT. 5 by the template 'for every input the law returns true; each argument reads behind the call as it read before'; 0 by the template 'total and deterministic' (their statements: YtoccblnjalpcdaaTotals.lean).
  GIVEN WITH THE SEED: the statements are not yours to turn. If you find one false, say at which input.
  Laid BY PROGRAM, IN A SANDBOX (cutbox-rows.mjs): the forced cells as the released guide's own fill.sh prints them over the translation 2242cb1b8383a62d… (all of the seat's roots in one cut). By AI agents, Wed Nov 11 2026. No macro, syntax, notation, axiom, sorry.
-/
import Derived.Test.YtoccblnjalpcdaaChecked
import GoSem.Claim
import GoSem.ClaimJoined
import GoSem.ClaimMapViews
import Derived.JoinedTies
import Derived.KernelRfl
namespace Go.Proofs.Ytoccblnjalpcdaa
/- THE CELL 'sum', in the pinned program and in every row, IS THE sha256 OF THE DUMP (.gsa) THAT YtoccblnjalpcdaaProg.lean LOADS. Nothing in Lean hashes anything: it is a label: what it is worth is what the hold of that sum in a sandbox is worth. -/
noncomputable def Try.pinned : Pinned := { name := "ytoccblnjalpcdaa", sum := "2242cb1b8383a62d7b549adcabf09986384a2116f529dcb4c7dc038c88d37daf", checked := Try.checked }
namespace Rows
def none {H : Type} : Left H := { results := [], args := [] }

/-- 'certpathlaw06.TextValid': WHATEVER THE INPUT: true; the input reads as it did. -/
def textValidSpec : ChangeSpec := { name := "textValid", fn := fun _ => fun
  | [d1, d2, d3] => { results := [.lit (.bool true)], args := [d1, d2, d3] }
  | _ => none }
def textValidRow : OpenClaim := { program := "ytoccblnjalpcdaa", sum := "2242cb1b8383a62d7b549adcabf09986384a2116f529dcb4c7dc038c88d37daf", func := "certpath/certpathlaw06.TextValid", spec := "textValid", inPlace := ["internal/bytealg.IndexByteString"], unfollowed := true, recurses := true, apart := false }
def TextValidSaid : Prop := textValidRow.holds Try.pinned (OpenSpec.ofChange textValidSpec)

/-- ITS FALSE NEIGHBOUR: 'it returns false'. Refute it at one input. -/
def textValidWrong : ChangeSpec := { name := "textValid", fn := fun _ => fun
  | [d1, d2, d3] => { results := [.lit (.bool false)], args := [d1, d2, d3] }
  | _ => none }
def TextValidWrongFalsely : Prop := textValidRow.holds Try.pinned (OpenSpec.ofChange textValidWrong)

/-- 'certpathlaw06.TextBytes': WHATEVER THE INPUT: true; the input reads as it did. -/
def textBytesSpec : ChangeSpec := { name := "textBytes", fn := fun _ => fun
  | [d] => { results := [.lit (.bool true)], args := [d] }
  | _ => none }
def textBytesRow : OpenClaim := { program := "ytoccblnjalpcdaa", sum := "2242cb1b8383a62d7b549adcabf09986384a2116f529dcb4c7dc038c88d37daf", func := "certpath/certpathlaw06.TextBytes", spec := "textBytes", inPlace := ["internal/bytealg.IndexByteString"], unfollowed := true, recurses := true, apart := false }
def TextBytesSaid : Prop := textBytesRow.holds Try.pinned (OpenSpec.ofChange textBytesSpec)

/-- ITS FALSE NEIGHBOUR: 'it returns false'. Refute it at one input. -/
def textBytesWrong : ChangeSpec := { name := "textBytes", fn := fun _ => fun
  | [d] => { results := [.lit (.bool false)], args := [d] }
  | _ => none }
def TextBytesWrongFalsely : Prop := textBytesRow.holds Try.pinned (OpenSpec.ofChange textBytesWrong)

/-- 'certpathlaw06.TextFold': WHATEVER THE INPUT: true; the input reads as it did. -/
def textFoldSpec : ChangeSpec := { name := "textFold", fn := fun _ => fun
  | [d1, d2, d3, d4] => { results := [.lit (.bool true)], args := [d1, d2, d3, d4] }
  | _ => none }
def textFoldRow : OpenClaim := { program := "ytoccblnjalpcdaa", sum := "2242cb1b8383a62d7b549adcabf09986384a2116f529dcb4c7dc038c88d37daf", func := "certpath/certpathlaw06.TextFold", spec := "textFold", inPlace := ["internal/bytealg.IndexByteString"], unfollowed := true, recurses := true, apart := false }
def TextFoldSaid : Prop := textFoldRow.holds Try.pinned (OpenSpec.ofChange textFoldSpec)

/-- ITS FALSE NEIGHBOUR: 'it returns false'. Refute it at one input. -/
def textFoldWrong : ChangeSpec := { name := "textFold", fn := fun _ => fun
  | [d1, d2, d3, d4] => { results := [.lit (.bool false)], args := [d1, d2, d3, d4] }
  | _ => none }
def TextFoldWrongFalsely : Prop := textFoldRow.holds Try.pinned (OpenSpec.ofChange textFoldWrong)

/-- 'certpathlaw06.TextMatch': WHATEVER THE INPUT: true; the input reads as it did. -/
def textMatchSpec : ChangeSpec := { name := "textMatch", fn := fun _ => fun
  | [d1, d2, d3] => { results := [.lit (.bool true)], args := [d1, d2, d3] }
  | _ => none }
def textMatchRow : OpenClaim := { program := "ytoccblnjalpcdaa", sum := "2242cb1b8383a62d7b549adcabf09986384a2116f529dcb4c7dc038c88d37daf", func := "certpath/certpathlaw06.TextMatch", spec := "textMatch", inPlace := ["internal/bytealg.IndexByteString"], unfollowed := true, recurses := true, apart := false }
def TextMatchSaid : Prop := textMatchRow.holds Try.pinned (OpenSpec.ofChange textMatchSpec)

/-- ITS FALSE NEIGHBOUR: 'it returns false'. Refute it at one input. -/
def textMatchWrong : ChangeSpec := { name := "textMatch", fn := fun _ => fun
  | [d1, d2, d3] => { results := [.lit (.bool false)], args := [d1, d2, d3] }
  | _ => none }
def TextMatchWrongFalsely : Prop := textMatchRow.holds Try.pinned (OpenSpec.ofChange textMatchWrong)

/-- 'certpathlaw06.TextEscape': WHATEVER THE INPUT: true; the input reads as it did. -/
def textEscapeSpec : ChangeSpec := { name := "textEscape", fn := fun _ => fun
  | [d1, d2] => { results := [.lit (.bool true)], args := [d1, d2] }
  | _ => none }
def textEscapeRow : OpenClaim := { program := "ytoccblnjalpcdaa", sum := "2242cb1b8383a62d7b549adcabf09986384a2116f529dcb4c7dc038c88d37daf", func := "certpath/certpathlaw06.TextEscape", spec := "textEscape", inPlace := ["internal/bytealg.IndexByteString"], unfollowed := true, recurses := true, apart := false }
def TextEscapeSaid : Prop := textEscapeRow.holds Try.pinned (OpenSpec.ofChange textEscapeSpec)

/-- ITS FALSE NEIGHBOUR: 'it returns false'. Refute it at one input. -/
def textEscapeWrong : ChangeSpec := { name := "textEscape", fn := fun _ => fun
  | [d1, d2] => { results := [.lit (.bool false)], args := [d1, d2] }
  | _ => none }
def TextEscapeWrongFalsely : Prop := textEscapeRow.holds Try.pinned (OpenSpec.ofChange textEscapeWrong)

/- THE SECOND FORM. 'bulk': how many values and letters a reading holds, each counted each time it is reached (what is shared counts as often as it is met; a slice's spare places count too). A statement '..UptoSaid' is the law's where the arguments, and the package variables that the reading takes, are together of bulk at most 1048576: NARROWER than '..Said'. Prove '..Said' where nothing that the law and all that it calls make is longer than what came in: it says more and counts as full. Else prove '..UptoSaid'. A law counts once. -/
mutual
def uptoBulk {H : Type} : DataW H → Nat
  | .lit (.string bytes) => bytes.length + 1
  | .lit _ => 1
  | .nil => 1
  | .ptr d => uptoBulk d + 1
  | .slice elems spare => uptoBulkAll elems + uptoBulkAll spare + 1
  | .agg parts => uptoBulkAll parts + 1
  | .iface _ d => uptoBulk d + 1
  | .map entries => uptoBulkEntries entries + 1
  | .held _ => 1
def uptoBulkAll {H : Type} : List (DataW H) → Nat
  | [] => 0
  | d :: r => uptoBulk d + uptoBulkAll r
def uptoBulkEntries {H : Type} : List (Lit × DataW H) → Nat
  | [] => 0
  | x :: r => uptoBulkEntry x + uptoBulkEntries r
def uptoBulkEntry {H : Type} : Lit × DataW H → Nat
  | (.string bytes, d) => bytes.length + uptoBulk d + 1
  | (_, d) => uptoBulk d + 1
 end
def uptoSmall : (H : Type) → List (DataW H) → Bool := fun _ ds => decide (uptoBulkAll ds ≤ 1048576)
def OpenSpec.upto (s : _root_.Go.ChangeSpec) : _root_.Go.OpenSpec := { _root_.Go.OpenSpec.ofChange s with cond := some uptoSmall }

/-- 'certpathlaw06.TextValid', WHERE WHAT IT READS IS OF BULK AT MOST 1048576: true; the input reads as it did. -/
def textValidUptoRow : OpenClaim := { program := "ytoccblnjalpcdaa", sum := "2242cb1b8383a62d7b549adcabf09986384a2116f529dcb4c7dc038c88d37daf", func := "certpath/certpathlaw06.TextValid", spec := "textValid", inPlace := ["internal/bytealg.IndexByteString"], unfollowed := true, recurses := true, apart := false, narrowed := true }
def TextValidUptoSaid : Prop := textValidUptoRow.holds Try.pinned (OpenSpec.upto textValidSpec)

/-- 'certpathlaw06.TextBytes', WHERE WHAT IT READS IS OF BULK AT MOST 1048576: true; the input reads as it did. -/
def textBytesUptoRow : OpenClaim := { program := "ytoccblnjalpcdaa", sum := "2242cb1b8383a62d7b549adcabf09986384a2116f529dcb4c7dc038c88d37daf", func := "certpath/certpathlaw06.TextBytes", spec := "textBytes", inPlace := ["internal/bytealg.IndexByteString"], unfollowed := true, recurses := true, apart := false, narrowed := true }
def TextBytesUptoSaid : Prop := textBytesUptoRow.holds Try.pinned (OpenSpec.upto textBytesSpec)

/-- 'certpathlaw06.TextFold', WHERE WHAT IT READS IS OF BULK AT MOST 1048576: true; the input reads as it did. -/
def textFoldUptoRow : OpenClaim := { program := "ytoccblnjalpcdaa", sum := "2242cb1b8383a62d7b549adcabf09986384a2116f529dcb4c7dc038c88d37daf", func := "certpath/certpathlaw06.TextFold", spec := "textFold", inPlace := ["internal/bytealg.IndexByteString"], unfollowed := true, recurses := true, apart := false, narrowed := true }
def TextFoldUptoSaid : Prop := textFoldUptoRow.holds Try.pinned (OpenSpec.upto textFoldSpec)

/-- 'certpathlaw06.TextMatch', WHERE WHAT IT READS IS OF BULK AT MOST 1048576: true; the input reads as it did. -/
def textMatchUptoRow : OpenClaim := { program := "ytoccblnjalpcdaa", sum := "2242cb1b8383a62d7b549adcabf09986384a2116f529dcb4c7dc038c88d37daf", func := "certpath/certpathlaw06.TextMatch", spec := "textMatch", inPlace := ["internal/bytealg.IndexByteString"], unfollowed := true, recurses := true, apart := false, narrowed := true }
def TextMatchUptoSaid : Prop := textMatchUptoRow.holds Try.pinned (OpenSpec.upto textMatchSpec)

/-- 'certpathlaw06.TextEscape', WHERE WHAT IT READS IS OF BULK AT MOST 1048576: true; the input reads as it did. -/
def textEscapeUptoRow : OpenClaim := { program := "ytoccblnjalpcdaa", sum := "2242cb1b8383a62d7b549adcabf09986384a2116f529dcb4c7dc038c88d37daf", func := "certpath/certpathlaw06.TextEscape", spec := "textEscape", inPlace := ["internal/bytealg.IndexByteString"], unfollowed := true, recurses := true, apart := false, narrowed := true }
def TextEscapeUptoSaid : Prop := textEscapeUptoRow.holds Try.pinned (OpenSpec.upto textEscapeSpec)

end Rows
end Go.Proofs.Ytoccblnjalpcdaa
