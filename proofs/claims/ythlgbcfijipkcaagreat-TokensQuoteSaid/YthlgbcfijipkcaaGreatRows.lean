/-
  No cell of these rows narrows 'for every input' (looked for: loops, veiled, ifaces, maps, wideKeys, modest, calm, conditions, laid).
  DERIVED. THE GIVEN ROWS OF THIS SEAT. 4 by the template 'for every input the law returns true; each argument reads behind the call as it read before'; 0 by the template 'total and deterministic' (their statements: YthlgbcfijipkcaaGreatTotals.lean).
  GIVEN WITH THE SEED: the statements are not yours to turn. If you find one false, say at which input.
  Laid BY PROGRAM, IN A SANDBOX (cutbox-rows.mjs): the forced cells as the released guide's own fill.sh prints them over the translation 70584ccf9f0213cf… (all of the seat's roots in one cut). By AI agents, Wed Nov 11 2026. No macro, syntax, notation, axiom, sorry.
-/
import Derived.Test.YthlgbcfijipkcaaGreatChecked
import GoSem.Claim
import GoSem.ClaimJoined
import GoSem.ClaimMapViews
import Derived.JoinedTies
import Derived.KernelRfl
namespace Go.Proofs.YthlgbcfijipkcaaGreat
/- THE CELL 'sum', in the pinned program and in every row, IS THE sha256 OF THE DUMP (.gsa) THAT YthlgbcfijipkcaaGreatProg.lean LOADS. Nothing in Lean hashes anything: it is a label: what it is worth is what the hold of that sum in a sandbox is worth. -/
noncomputable def Tryz.pinned : Pinned := { name := "ythlgbcfijipkcaagreat", sum := "70584ccf9f0213cf23d3a1727a8eaa9f76be842fb8920c03bab267d7f36613ae", checked := Tryz.checked }
namespace Rows
def none {H : Type} : Left H := { results := [], args := [] }

/-- 'lurcherlaw05.TokensQuote': WHATEVER THE INPUT: true; the input reads as it did. -/
def tokensQuoteSpec : ChangeSpec := { name := "tokensQuote", fn := fun _ => fun
  | [d1, d2, d3] => { results := [.lit (.bool true)], args := [d1, d2, d3] }
  | _ => none }
def tokensQuoteRow : OpenClaim := { program := "ythlgbcfijipkcaagreat", sum := "70584ccf9f0213cf23d3a1727a8eaa9f76be842fb8920c03bab267d7f36613ae", func := "lurcher/lurcherlaw05.TokensQuote", spec := "tokensQuote", inPlace := ["internal/bytealg.IndexByteString", "internal/bytealg.IndexString"], unfollowed := true, recurses := true, named := ["internal/bytealg.MaxLen"], apart := false }
def TokensQuoteSaid : Prop := tokensQuoteRow.holds Tryz.pinned (OpenSpec.ofChange tokensQuoteSpec)

/-- ITS FALSE NEIGHBOUR: 'it returns false'. Refute it at one input. -/
def tokensQuoteWrong : ChangeSpec := { name := "tokensQuote", fn := fun _ => fun
  | [d1, d2, d3] => { results := [.lit (.bool false)], args := [d1, d2, d3] }
  | _ => none }
def TokensQuoteWrongFalsely : Prop := tokensQuoteRow.holds Tryz.pinned (OpenSpec.ofChange tokensQuoteWrong)

/-- 'lurcherlaw05.TokensBounds': WHATEVER THE INPUT: true; the input reads as it did. -/
def tokensBoundsSpec : ChangeSpec := { name := "tokensBounds", fn := fun _ => fun
  | [d1, d2] => { results := [.lit (.bool true)], args := [d1, d2] }
  | _ => none }
def tokensBoundsRow : OpenClaim := { program := "ythlgbcfijipkcaagreat", sum := "70584ccf9f0213cf23d3a1727a8eaa9f76be842fb8920c03bab267d7f36613ae", func := "lurcher/lurcherlaw05.TokensBounds", spec := "tokensBounds", inPlace := ["internal/bytealg.IndexByteString", "internal/bytealg.IndexString"], unfollowed := true, recurses := true, named := ["internal/bytealg.MaxLen"], apart := false }
def TokensBoundsSaid : Prop := tokensBoundsRow.holds Tryz.pinned (OpenSpec.ofChange tokensBoundsSpec)

/-- ITS FALSE NEIGHBOUR: 'it returns false'. Refute it at one input. -/
def tokensBoundsWrong : ChangeSpec := { name := "tokensBounds", fn := fun _ => fun
  | [d1, d2] => { results := [.lit (.bool false)], args := [d1, d2] }
  | _ => none }
def TokensBoundsWrongFalsely : Prop := tokensBoundsRow.holds Tryz.pinned (OpenSpec.ofChange tokensBoundsWrong)

/-- 'lurcherlaw05.TokensPlain': WHATEVER THE INPUT: true; the input reads as it did. -/
def tokensPlainSpec : ChangeSpec := { name := "tokensPlain", fn := fun _ => fun
  | [d] => { results := [.lit (.bool true)], args := [d] }
  | _ => none }
def tokensPlainRow : OpenClaim := { program := "ythlgbcfijipkcaagreat", sum := "70584ccf9f0213cf23d3a1727a8eaa9f76be842fb8920c03bab267d7f36613ae", func := "lurcher/lurcherlaw05.TokensPlain", spec := "tokensPlain", inPlace := ["internal/bytealg.IndexByteString", "internal/bytealg.IndexString"], unfollowed := true, recurses := true, named := ["internal/bytealg.MaxLen"], apart := false }
def TokensPlainSaid : Prop := tokensPlainRow.holds Tryz.pinned (OpenSpec.ofChange tokensPlainSpec)

/-- ITS FALSE NEIGHBOUR: 'it returns false'. Refute it at one input. -/
def tokensPlainWrong : ChangeSpec := { name := "tokensPlain", fn := fun _ => fun
  | [d] => { results := [.lit (.bool false)], args := [d] }
  | _ => none }
def TokensPlainWrongFalsely : Prop := tokensPlainRow.holds Tryz.pinned (OpenSpec.ofChange tokensPlainWrong)

/-- 'lurcherlaw05.TokensCounts': WHATEVER THE INPUT: true; the input reads as it did. -/
def tokensCountsSpec : ChangeSpec := { name := "tokensCounts", fn := fun _ => fun
  | [d1, d2, d3] => { results := [.lit (.bool true)], args := [d1, d2, d3] }
  | _ => none }
def tokensCountsRow : OpenClaim := { program := "ythlgbcfijipkcaagreat", sum := "70584ccf9f0213cf23d3a1727a8eaa9f76be842fb8920c03bab267d7f36613ae", func := "lurcher/lurcherlaw05.TokensCounts", spec := "tokensCounts", inPlace := ["internal/bytealg.IndexByteString", "internal/bytealg.IndexString"], unfollowed := true, recurses := true, named := ["internal/bytealg.MaxLen"], apart := false }
def TokensCountsSaid : Prop := tokensCountsRow.holds Tryz.pinned (OpenSpec.ofChange tokensCountsSpec)

/-- ITS FALSE NEIGHBOUR: 'it returns false'. Refute it at one input. -/
def tokensCountsWrong : ChangeSpec := { name := "tokensCounts", fn := fun _ => fun
  | [d1, d2, d3] => { results := [.lit (.bool false)], args := [d1, d2, d3] }
  | _ => none }
def TokensCountsWrongFalsely : Prop := tokensCountsRow.holds Tryz.pinned (OpenSpec.ofChange tokensCountsWrong)

/- THE SECOND FORM. 'bulk': how many values and letters a reading holds, each counted each time it is reached (what is shared counts as often as it is met; a slice's spare places count too). A statement '..UptoSaid' is the law's where the arguments, and the package variables that the reading takes, are together of bulk at most 1048576: NARROWER than '..Said'. Prove '..Said' where nothing that the law and all that it calls make is longer than what came in: it says more and counts as full. Else prove '..UptoSaid'. A law counts once. -/
mutual
def uptoBulk {H : Type} : DataW H → Nat
  | .lit (.string bytes) => bytes.length + 1
  | .lit _ => 1
  | .nil => 1
  | .ptr d => uptoBulk d + 1
  | .slice elems spare => uptoBulkAll elems + uptoBulkAll spare + 1
  | .agg parts => uptoBulkAll parts + 1
  | .iface _ d => uptoBulk d + 1
  | .map entries => uptoBulkEntries entries + 1
  | .held _ => 1
def uptoBulkAll {H : Type} : List (DataW H) → Nat
  | [] => 0
  | d :: r => uptoBulk d + uptoBulkAll r
def uptoBulkEntries {H : Type} : List (Lit × DataW H) → Nat
  | [] => 0
  | x :: r => uptoBulkEntry x + uptoBulkEntries r
def uptoBulkEntry {H : Type} : Lit × DataW H → Nat
  | (.string bytes, d) => bytes.length + uptoBulk d + 1
  | (_, d) => uptoBulk d + 1
 end
def uptoSmall : (H : Type) → List (DataW H) → Bool := fun _ ds => decide (uptoBulkAll ds ≤ 1048576)
def OpenSpec.upto (s : _root_.Go.ChangeSpec) : _root_.Go.OpenSpec := { _root_.Go.OpenSpec.ofChange s with cond := some uptoSmall }

/-- 'lurcherlaw05.TokensQuote', WHERE WHAT IT READS IS OF BULK AT MOST 1048576: true; the input reads as it did. -/
def tokensQuoteUptoRow : OpenClaim := { program := "ythlgbcfijipkcaagreat", sum := "70584ccf9f0213cf23d3a1727a8eaa9f76be842fb8920c03bab267d7f36613ae", func := "lurcher/lurcherlaw05.TokensQuote", spec := "tokensQuote", inPlace := ["internal/bytealg.IndexByteString", "internal/bytealg.IndexString"], unfollowed := true, recurses := true, named := ["internal/bytealg.MaxLen"], apart := false, narrowed := true }
def TokensQuoteUptoSaid : Prop := tokensQuoteUptoRow.holds Tryz.pinned (OpenSpec.upto tokensQuoteSpec)

/-- 'lurcherlaw05.TokensBounds', WHERE WHAT IT READS IS OF BULK AT MOST 1048576: true; the input reads as it did. -/
def tokensBoundsUptoRow : OpenClaim := { program := "ythlgbcfijipkcaagreat", sum := "70584ccf9f0213cf23d3a1727a8eaa9f76be842fb8920c03bab267d7f36613ae", func := "lurcher/lurcherlaw05.TokensBounds", spec := "tokensBounds", inPlace := ["internal/bytealg.IndexByteString", "internal/bytealg.IndexString"], unfollowed := true, recurses := true, named := ["internal/bytealg.MaxLen"], apart := false, narrowed := true }
def TokensBoundsUptoSaid : Prop := tokensBoundsUptoRow.holds Tryz.pinned (OpenSpec.upto tokensBoundsSpec)

/-- 'lurcherlaw05.TokensPlain', WHERE WHAT IT READS IS OF BULK AT MOST 1048576: true; the input reads as it did. -/
def tokensPlainUptoRow : OpenClaim := { program := "ythlgbcfijipkcaagreat", sum := "70584ccf9f0213cf23d3a1727a8eaa9f76be842fb8920c03bab267d7f36613ae", func := "lurcher/lurcherlaw05.TokensPlain", spec := "tokensPlain", inPlace := ["internal/bytealg.IndexByteString", "internal/bytealg.IndexString"], unfollowed := true, recurses := true, named := ["internal/bytealg.MaxLen"], apart := false, narrowed := true }
def TokensPlainUptoSaid : Prop := tokensPlainUptoRow.holds Tryz.pinned (OpenSpec.upto tokensPlainSpec)

/-- 'lurcherlaw05.TokensCounts', WHERE WHAT IT READS IS OF BULK AT MOST 1048576: true; the input reads as it did. -/
def tokensCountsUptoRow : OpenClaim := { program := "ythlgbcfijipkcaagreat", sum := "70584ccf9f0213cf23d3a1727a8eaa9f76be842fb8920c03bab267d7f36613ae", func := "lurcher/lurcherlaw05.TokensCounts", spec := "tokensCounts", inPlace := ["internal/bytealg.IndexByteString", "internal/bytealg.IndexString"], unfollowed := true, recurses := true, named := ["internal/bytealg.MaxLen"], apart := false, narrowed := true }
def TokensCountsUptoSaid : Prop := tokensCountsUptoRow.holds Tryz.pinned (OpenSpec.upto tokensCountsSpec)

end Rows
end Go.Proofs.YthlgbcfijipkcaaGreat
