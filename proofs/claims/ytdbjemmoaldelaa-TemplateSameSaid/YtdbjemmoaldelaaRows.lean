/-
  No cell of these rows narrows 'for every input' (looked for: loops, veiled, ifaces, maps, wideKeys, modest, calm, conditions, laid).
  DERIVED. THE GIVEN ROWS OF THIS SEAT. 4 by the template 'for every input the law returns true; each argument reads behind the call as it read before'; 0 by the template 'total and deterministic' (their statements: YtdbjemmoaldelaaTotals.lean).
  GIVEN WITH THE SEED: the statements are not yours to turn. If you find one false, say at which input.
  Laid BY PROGRAM, IN A SANDBOX (cutbox-rows.mjs): the forced cells as the released guide's own fill.sh prints them over the translation cda55b3d48e30a43… (all of the seat's roots in one cut). By AI agents, Wed Nov 11 2026. No macro, syntax, notation, axiom, sorry.
-/
import Derived.Test.YtdbjemmoaldelaaChecked
import GoSem.Claim
import GoSem.ClaimJoined
import GoSem.ClaimMapViews
import Derived.JoinedTies
import Derived.KernelRfl
namespace Go.Proofs.Ytdbjemmoaldelaa
/- THE CELL 'sum', in the pinned program and in every row, IS THE sha256 OF THE DUMP (.gsa) THAT YtdbjemmoaldelaaProg.lean LOADS. Nothing in Lean hashes anything: it is a label: what it is worth is what the hold of that sum in a sandbox is worth. -/
noncomputable def Try.pinned : Pinned := { name := "ytdbjemmoaldelaa", sum := "cda55b3d48e30a4360bd3d4765cc29116aad7e019e33927699713965e632dd51", checked := Try.checked }
namespace Rows
def none {H : Type} : Left H := { results := [], args := [] }

/-- 'lurcherlaw21.TemplateQuotes': WHATEVER THE INPUT: true; the input reads as it did. -/
def templateQuotesSpec : ChangeSpec := { name := "templateQuotes", fn := fun _ => fun
  | [d] => { results := [.lit (.bool true)], args := [d] }
  | _ => none }
def templateQuotesRow : OpenClaim := { program := "ytdbjemmoaldelaa", sum := "cda55b3d48e30a4360bd3d4765cc29116aad7e019e33927699713965e632dd51", func := "lurcher/lurcherlaw21.TemplateQuotes", spec := "templateQuotes", inPlace := ["internal/bytealg.IndexByteString", "internal/bytealg.IndexString"], unfollowed := true, recurses := true, named := ["internal/bytealg.MaxLen"], apart := false }
def TemplateQuotesSaid : Prop := templateQuotesRow.holds Try.pinned (OpenSpec.ofChange templateQuotesSpec)

/-- ITS FALSE NEIGHBOUR: 'it returns false'. Refute it at one input. -/
def templateQuotesWrong : ChangeSpec := { name := "templateQuotes", fn := fun _ => fun
  | [d] => { results := [.lit (.bool false)], args := [d] }
  | _ => none }
def TemplateQuotesWrongFalsely : Prop := templateQuotesRow.holds Try.pinned (OpenSpec.ofChange templateQuotesWrong)

/-- 'lurcherlaw21.TemplateJoins': WHATEVER THE INPUT: true; the input reads as it did. -/
def templateJoinsSpec : ChangeSpec := { name := "templateJoins", fn := fun _ => fun
  | [d1, d2, d3, d4, d5] => { results := [.lit (.bool true)], args := [d1, d2, d3, d4, d5] }
  | _ => none }
def templateJoinsRow : OpenClaim := { program := "ytdbjemmoaldelaa", sum := "cda55b3d48e30a4360bd3d4765cc29116aad7e019e33927699713965e632dd51", func := "lurcher/lurcherlaw21.TemplateJoins", spec := "templateJoins", inPlace := ["internal/bytealg.IndexByteString", "internal/bytealg.IndexString"], unfollowed := true, recurses := true, named := ["internal/bytealg.MaxLen"], apart := false }
def TemplateJoinsSaid : Prop := templateJoinsRow.holds Try.pinned (OpenSpec.ofChange templateJoinsSpec)

/-- ITS FALSE NEIGHBOUR: 'it returns false'. Refute it at one input. -/
def templateJoinsWrong : ChangeSpec := { name := "templateJoins", fn := fun _ => fun
  | [d1, d2, d3, d4, d5] => { results := [.lit (.bool false)], args := [d1, d2, d3, d4, d5] }
  | _ => none }
def TemplateJoinsWrongFalsely : Prop := templateJoinsRow.holds Try.pinned (OpenSpec.ofChange templateJoinsWrong)

/-- 'lurcherlaw21.TemplateChoose': WHATEVER THE INPUT: true; the input reads as it did. -/
def templateChooseSpec : ChangeSpec := { name := "templateChoose", fn := fun _ => fun
  | [d1, d2, d3] => { results := [.lit (.bool true)], args := [d1, d2, d3] }
  | _ => none }
def templateChooseRow : OpenClaim := { program := "ytdbjemmoaldelaa", sum := "cda55b3d48e30a4360bd3d4765cc29116aad7e019e33927699713965e632dd51", func := "lurcher/lurcherlaw21.TemplateChoose", spec := "templateChoose", inPlace := ["internal/bytealg.IndexByteString", "internal/bytealg.IndexString"], unfollowed := true, recurses := true, named := ["internal/bytealg.MaxLen"], apart := false }
def TemplateChooseSaid : Prop := templateChooseRow.holds Try.pinned (OpenSpec.ofChange templateChooseSpec)

/-- ITS FALSE NEIGHBOUR: 'it returns false'. Refute it at one input. -/
def templateChooseWrong : ChangeSpec := { name := "templateChoose", fn := fun _ => fun
  | [d1, d2, d3] => { results := [.lit (.bool false)], args := [d1, d2, d3] }
  | _ => none }
def TemplateChooseWrongFalsely : Prop := templateChooseRow.holds Try.pinned (OpenSpec.ofChange templateChooseWrong)

/-- 'lurcherlaw21.TemplateSame': WHATEVER THE INPUT: true; the input reads as it did. -/
def templateSameSpec : ChangeSpec := { name := "templateSame", fn := fun _ => fun
  | [d1, d2, d3] => { results := [.lit (.bool true)], args := [d1, d2, d3] }
  | _ => none }
def templateSameRow : OpenClaim := { program := "ytdbjemmoaldelaa", sum := "cda55b3d48e30a4360bd3d4765cc29116aad7e019e33927699713965e632dd51", func := "lurcher/lurcherlaw21.TemplateSame", spec := "templateSame", inPlace := ["internal/bytealg.IndexByteString", "internal/bytealg.IndexString"], unfollowed := true, recurses := true, named := ["internal/bytealg.MaxLen"], apart := false }
def TemplateSameSaid : Prop := templateSameRow.holds Try.pinned (OpenSpec.ofChange templateSameSpec)

/-- ITS FALSE NEIGHBOUR: 'it returns false'. Refute it at one input. -/
def templateSameWrong : ChangeSpec := { name := "templateSame", fn := fun _ => fun
  | [d1, d2, d3] => { results := [.lit (.bool false)], args := [d1, d2, d3] }
  | _ => none }
def TemplateSameWrongFalsely : Prop := templateSameRow.holds Try.pinned (OpenSpec.ofChange templateSameWrong)

/- THE SECOND FORM. 'bulk': how many values and letters a reading holds, each counted each time it is reached (what is shared counts as often as it is met; a slice's spare places count too). A statement '..UptoSaid' is the law's where the arguments, and the package variables that the reading takes, are together of bulk at most 1048576: NARROWER than '..Said'. Prove '..Said' where nothing that the law and all that it calls make is longer than what came in: it says more and counts as full. Else prove '..UptoSaid'. A law counts once. -/
mutual
def uptoBulk {H : Type} : DataW H → Nat
  | .lit (.string bytes) => bytes.length + 1
  | .lit _ => 1
  | .nil => 1
  | .ptr d => uptoBulk d + 1
  | .slice elems spare => uptoBulkAll elems + uptoBulkAll spare + 1
  | .agg parts => uptoBulkAll parts + 1
  | .iface _ d => uptoBulk d + 1
  | .map entries => uptoBulkEntries entries + 1
  | .held _ => 1
def uptoBulkAll {H : Type} : List (DataW H) → Nat
  | [] => 0
  | d :: r => uptoBulk d + uptoBulkAll r
def uptoBulkEntries {H : Type} : List (Lit × DataW H) → Nat
  | [] => 0
  | x :: r => uptoBulkEntry x + uptoBulkEntries r
def uptoBulkEntry {H : Type} : Lit × DataW H → Nat
  | (.string bytes, d) => bytes.length + uptoBulk d + 1
  | (_, d) => uptoBulk d + 1
 end
def uptoSmall : (H : Type) → List (DataW H) → Bool := fun _ ds => decide (uptoBulkAll ds ≤ 1048576)
def OpenSpec.upto (s : _root_.Go.ChangeSpec) : _root_.Go.OpenSpec := { _root_.Go.OpenSpec.ofChange s with cond := some uptoSmall }

/-- 'lurcherlaw21.TemplateQuotes', WHERE WHAT IT READS IS OF BULK AT MOST 1048576: true; the input reads as it did. -/
def templateQuotesUptoRow : OpenClaim := { program := "ytdbjemmoaldelaa", sum := "cda55b3d48e30a4360bd3d4765cc29116aad7e019e33927699713965e632dd51", func := "lurcher/lurcherlaw21.TemplateQuotes", spec := "templateQuotes", inPlace := ["internal/bytealg.IndexByteString", "internal/bytealg.IndexString"], unfollowed := true, recurses := true, named := ["internal/bytealg.MaxLen"], apart := false, narrowed := true }
def TemplateQuotesUptoSaid : Prop := templateQuotesUptoRow.holds Try.pinned (OpenSpec.upto templateQuotesSpec)

/-- 'lurcherlaw21.TemplateJoins', WHERE WHAT IT READS IS OF BULK AT MOST 1048576: true; the input reads as it did. -/
def templateJoinsUptoRow : OpenClaim := { program := "ytdbjemmoaldelaa", sum := "cda55b3d48e30a4360bd3d4765cc29116aad7e019e33927699713965e632dd51", func := "lurcher/lurcherlaw21.TemplateJoins", spec := "templateJoins", inPlace := ["internal/bytealg.IndexByteString", "internal/bytealg.IndexString"], unfollowed := true, recurses := true, named := ["internal/bytealg.MaxLen"], apart := false, narrowed := true }
def TemplateJoinsUptoSaid : Prop := templateJoinsUptoRow.holds Try.pinned (OpenSpec.upto templateJoinsSpec)

/-- 'lurcherlaw21.TemplateChoose', WHERE WHAT IT READS IS OF BULK AT MOST 1048576: true; the input reads as it did. -/
def templateChooseUptoRow : OpenClaim := { program := "ytdbjemmoaldelaa", sum := "cda55b3d48e30a4360bd3d4765cc29116aad7e019e33927699713965e632dd51", func := "lurcher/lurcherlaw21.TemplateChoose", spec := "templateChoose", inPlace := ["internal/bytealg.IndexByteString", "internal/bytealg.IndexString"], unfollowed := true, recurses := true, named := ["internal/bytealg.MaxLen"], apart := false, narrowed := true }
def TemplateChooseUptoSaid : Prop := templateChooseUptoRow.holds Try.pinned (OpenSpec.upto templateChooseSpec)

/-- 'lurcherlaw21.TemplateSame', WHERE WHAT IT READS IS OF BULK AT MOST 1048576: true; the input reads as it did. -/
def templateSameUptoRow : OpenClaim := { program := "ytdbjemmoaldelaa", sum := "cda55b3d48e30a4360bd3d4765cc29116aad7e019e33927699713965e632dd51", func := "lurcher/lurcherlaw21.TemplateSame", spec := "templateSame", inPlace := ["internal/bytealg.IndexByteString", "internal/bytealg.IndexString"], unfollowed := true, recurses := true, named := ["internal/bytealg.MaxLen"], apart := false, narrowed := true }
def TemplateSameUptoSaid : Prop := templateSameUptoRow.holds Try.pinned (OpenSpec.upto templateSameSpec)

end Rows
end Go.Proofs.Ytdbjemmoaldelaa
