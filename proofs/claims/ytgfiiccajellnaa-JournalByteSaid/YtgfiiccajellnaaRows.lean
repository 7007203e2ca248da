/-
  No cell of these rows narrows 'for every input' (looked for: loops, veiled, ifaces, maps, wideKeys, modest, calm, conditions, laid).
  DERIVED. THE GIVEN ROWS OF THIS SEAT. 6 by the template 'for every input the law returns true; each argument reads behind the call as it read before'; 0 by the template 'total and deterministic' (their statements: YtgfiiccajellnaaTotals.lean).
  GIVEN WITH THE SEED: the statements are not yours to turn. If you find one false, say at which input.
  Laid BY PROGRAM, IN A SANDBOX (cutbox-rows.mjs): the forced cells as the released guide's own fill.sh prints them over the translation 46836005e7cd2cf2… (all of the seat's roots in one cut). By AI agents, Wed Nov 11 2026. No macro, syntax, notation, axiom, sorry.
-/
import Derived.Test.YtgfiiccajellnaaChecked
import GoSem.Claim
import GoSem.ClaimJoined
import GoSem.ClaimMapViews
import Derived.JoinedTies
import Derived.KernelRfl
namespace Go.Proofs.Ytgfiiccajellnaa
/- THE CELL 'sum', in the pinned program and in every row, IS THE sha256 OF THE DUMP (.gsa) THAT YtgfiiccajellnaaProg.lean LOADS. Nothing in Lean hashes anything: it is a label: what it is worth is what the hold of that sum in a sandbox is worth. -/
noncomputable def Try.pinned : Pinned := { name := "ytgfiiccajellnaa", sum := "46836005e7cd2cf2fd910045e5c1bccdb370d38cbc8cee25c468aaa9faca5aca", checked := Try.checked }
namespace Rows
def none {H : Type} : Left H := { results := [], args := [] }

/-- 'debenturelaw25.JournalTells': WHATEVER THE INPUT: true; the input reads as it did. -/
def journalTellsSpec : ChangeSpec := { name := "journalTells", fn := fun _ => fun
  | [d1, d2] => { results := [.lit (.bool true)], args := [d1, d2] }
  | _ => none }
def journalTellsRow : OpenClaim := { program := "ytgfiiccajellnaa", sum := "46836005e7cd2cf2fd910045e5c1bccdb370d38cbc8cee25c468aaa9faca5aca", func := "debenture/debenturelaw25.JournalTells", spec := "journalTells", inPlace := ["internal/abi.NoEscape"], apart := false }
def JournalTellsSaid : Prop := journalTellsRow.holds Try.pinned (OpenSpec.ofChange journalTellsSpec)

/-- ITS FALSE NEIGHBOUR: 'it returns false'. Refute it at one input. -/
def journalTellsWrong : ChangeSpec := { name := "journalTells", fn := fun _ => fun
  | [d1, d2] => { results := [.lit (.bool false)], args := [d1, d2] }
  | _ => none }
def JournalTellsWrongFalsely : Prop := journalTellsRow.holds Try.pinned (OpenSpec.ofChange journalTellsWrong)

/-- 'debenturelaw25.JournalCut': WHATEVER THE INPUT: true; the input reads as it did. -/
def journalCutSpec : ChangeSpec := { name := "journalCut", fn := fun _ => fun
  | [d1, d2] => { results := [.lit (.bool true)], args := [d1, d2] }
  | _ => none }
def journalCutRow : OpenClaim := { program := "ytgfiiccajellnaa", sum := "46836005e7cd2cf2fd910045e5c1bccdb370d38cbc8cee25c468aaa9faca5aca", func := "debenture/debenturelaw25.JournalCut", spec := "journalCut", inPlace := ["internal/abi.NoEscape"], apart := false }
def JournalCutSaid : Prop := journalCutRow.holds Try.pinned (OpenSpec.ofChange journalCutSpec)

/-- ITS FALSE NEIGHBOUR: 'it returns false'. Refute it at one input. -/
def journalCutWrong : ChangeSpec := { name := "journalCut", fn := fun _ => fun
  | [d1, d2] => { results := [.lit (.bool false)], args := [d1, d2] }
  | _ => none }
def JournalCutWrongFalsely : Prop := journalCutRow.holds Try.pinned (OpenSpec.ofChange journalCutWrong)

/-- 'debenturelaw25.JournalAny': WHATEVER THE INPUT: true; the input reads as it did. -/
def journalAnySpec : ChangeSpec := { name := "journalAny", fn := fun _ => fun
  | [d] => { results := [.lit (.bool true)], args := [d] }
  | _ => none }
def journalAnyRow : OpenClaim := { program := "ytgfiiccajellnaa", sum := "46836005e7cd2cf2fd910045e5c1bccdb370d38cbc8cee25c468aaa9faca5aca", func := "debenture/debenturelaw25.JournalAny", spec := "journalAny", inPlace := ["internal/abi.NoEscape"], apart := false }
def JournalAnySaid : Prop := journalAnyRow.holds Try.pinned (OpenSpec.ofChange journalAnySpec)

/-- ITS FALSE NEIGHBOUR: 'it returns false'. Refute it at one input. -/
def journalAnyWrong : ChangeSpec := { name := "journalAny", fn := fun _ => fun
  | [d] => { results := [.lit (.bool false)], args := [d] }
  | _ => none }
def JournalAnyWrongFalsely : Prop := journalAnyRow.holds Try.pinned (OpenSpec.ofChange journalAnyWrong)

/-- 'debenturelaw25.JournalJoins': WHATEVER THE INPUT: true; the input reads as it did. -/
def journalJoinsSpec : ChangeSpec := { name := "journalJoins", fn := fun _ => fun
  | [d1, d2] => { results := [.lit (.bool true)], args := [d1, d2] }
  | _ => none }
def journalJoinsRow : OpenClaim := { program := "ytgfiiccajellnaa", sum := "46836005e7cd2cf2fd910045e5c1bccdb370d38cbc8cee25c468aaa9faca5aca", func := "debenture/debenturelaw25.JournalJoins", spec := "journalJoins", inPlace := ["internal/abi.NoEscape"], apart := false }
def JournalJoinsSaid : Prop := journalJoinsRow.holds Try.pinned (OpenSpec.ofChange journalJoinsSpec)

/-- ITS FALSE NEIGHBOUR: 'it returns false'. Refute it at one input. -/
def journalJoinsWrong : ChangeSpec := { name := "journalJoins", fn := fun _ => fun
  | [d1, d2] => { results := [.lit (.bool false)], args := [d1, d2] }
  | _ => none }
def JournalJoinsWrongFalsely : Prop := journalJoinsRow.holds Try.pinned (OpenSpec.ofChange journalJoinsWrong)

/-- 'debenturelaw25.JournalByte': WHATEVER THE INPUT: true; the input reads as it did. -/
def journalByteSpec : ChangeSpec := { name := "journalByte", fn := fun _ => fun
  | [d1, d2] => { results := [.lit (.bool true)], args := [d1, d2] }
  | _ => none }
def journalByteRow : OpenClaim := { program := "ytgfiiccajellnaa", sum := "46836005e7cd2cf2fd910045e5c1bccdb370d38cbc8cee25c468aaa9faca5aca", func := "debenture/debenturelaw25.JournalByte", spec := "journalByte", inPlace := ["internal/abi.NoEscape"], apart := false }
def JournalByteSaid : Prop := journalByteRow.holds Try.pinned (OpenSpec.ofChange journalByteSpec)

/-- ITS FALSE NEIGHBOUR: 'it returns false'. Refute it at one input. -/
def journalByteWrong : ChangeSpec := { name := "journalByte", fn := fun _ => fun
  | [d1, d2] => { results := [.lit (.bool false)], args := [d1, d2] }
  | _ => none }
def JournalByteWrongFalsely : Prop := journalByteRow.holds Try.pinned (OpenSpec.ofChange journalByteWrong)

/-- 'debenturelaw25.JournalSame': WHATEVER THE INPUT: true; the input reads as it did. -/
def journalSameSpec : ChangeSpec := { name := "journalSame", fn := fun _ => fun
  | [d1, d2] => { results := [.lit (.bool true)], args := [d1, d2] }
  | _ => none }
def journalSameRow : OpenClaim := { program := "ytgfiiccajellnaa", sum := "46836005e7cd2cf2fd910045e5c1bccdb370d38cbc8cee25c468aaa9faca5aca", func := "debenture/debenturelaw25.JournalSame", spec := "journalSame", inPlace := ["internal/abi.NoEscape"], apart := false }
def JournalSameSaid : Prop := journalSameRow.holds Try.pinned (OpenSpec.ofChange journalSameSpec)

/-- ITS FALSE NEIGHBOUR: 'it returns false'. Refute it at one input. -/
def journalSameWrong : ChangeSpec := { name := "journalSame", fn := fun _ => fun
  | [d1, d2] => { results := [.lit (.bool false)], args := [d1, d2] }
  | _ => none }
def JournalSameWrongFalsely : Prop := journalSameRow.holds Try.pinned (OpenSpec.ofChange journalSameWrong)

/- THE SECOND FORM. 'bulk': how many values and letters a reading holds, each counted each time it is reached (what is shared counts as often as it is met; a slice's spare places count too). A statement '..UptoSaid' is the law's where the arguments, and the package variables that the reading takes, are together of bulk at most 1048576: NARROWER than '..Said'. Prove '..Said' where nothing that the law and all that it calls make is longer than what came in: it says more and counts as full. Else prove '..UptoSaid'. A law counts once. -/
mutual
def uptoBulk {H : Type} : DataW H → Nat
  | .lit (.string bytes) => bytes.length + 1
  | .lit _ => 1
  | .nil => 1
  | .ptr d => uptoBulk d + 1
  | .slice elems spare => uptoBulkAll elems + uptoBulkAll spare + 1
  | .agg parts => uptoBulkAll parts + 1
  | .iface _ d => uptoBulk d + 1
  | .map entries => uptoBulkEntries entries + 1
  | .held _ => 1
def uptoBulkAll {H : Type} : List (DataW H) → Nat
  | [] => 0
  | d :: r => uptoBulk d + uptoBulkAll r
def uptoBulkEntries {H : Type} : List (Lit × DataW H) → Nat
  | [] => 0
  | x :: r => uptoBulkEntry x + uptoBulkEntries r
def uptoBulkEntry {H : Type} : Lit × DataW H → Nat
  | (.string bytes, d) => bytes.length + uptoBulk d + 1
  | (_, d) => uptoBulk d + 1
 end
def uptoSmall : (H : Type) → List (DataW H) → Bool := fun _ ds => decide (uptoBulkAll ds ≤ 1048576)
def OpenSpec.upto (s : _root_.Go.ChangeSpec) : _root_.Go.OpenSpec := { _root_.Go.OpenSpec.ofChange s with cond := some uptoSmall }

/-- 'debenturelaw25.JournalTells', WHERE WHAT IT READS IS OF BULK AT MOST 1048576: true; the input reads as it did. -/
def journalTellsUptoRow : OpenClaim := { program := "ytgfiiccajellnaa", sum := "46836005e7cd2cf2fd910045e5c1bccdb370d38cbc8cee25c468aaa9faca5aca", func := "debenture/debenturelaw25.JournalTells", spec := "journalTells", inPlace := ["internal/abi.NoEscape"], apart := false, narrowed := true }
def JournalTellsUptoSaid : Prop := journalTellsUptoRow.holds Try.pinned (OpenSpec.upto journalTellsSpec)

/-- 'debenturelaw25.JournalCut', WHERE WHAT IT READS IS OF BULK AT MOST 1048576: true; the input reads as it did. -/
def journalCutUptoRow : OpenClaim := { program := "ytgfiiccajellnaa", sum := "46836005e7cd2cf2fd910045e5c1bccdb370d38cbc8cee25c468aaa9faca5aca", func := "debenture/debenturelaw25.JournalCut", spec := "journalCut", inPlace := ["internal/abi.NoEscape"], apart := false, narrowed := true }
def JournalCutUptoSaid : Prop := journalCutUptoRow.holds Try.pinned (OpenSpec.upto journalCutSpec)

/-- 'debenturelaw25.JournalAny', WHERE WHAT IT READS IS OF BULK AT MOST 1048576: true; the input reads as it did. -/
def journalAnyUptoRow : OpenClaim := { program := "ytgfiiccajellnaa", sum := "46836005e7cd2cf2fd910045e5c1bccdb370d38cbc8cee25c468aaa9faca5aca", func := "debenture/debenturelaw25.JournalAny", spec := "journalAny", inPlace := ["internal/abi.NoEscape"], apart := false, narrowed := true }
def JournalAnyUptoSaid : Prop := journalAnyUptoRow.holds Try.pinned (OpenSpec.upto journalAnySpec)

/-- 'debenturelaw25.JournalJoins', WHERE WHAT IT READS IS OF BULK AT MOST 1048576: true; the input reads as it did. -/
def journalJoinsUptoRow : OpenClaim := { program := "ytgfiiccajellnaa", sum := "46836005e7cd2cf2fd910045e5c1bccdb370d38cbc8cee25c468aaa9faca5aca", func := "debenture/debenturelaw25.JournalJoins", spec := "journalJoins", inPlace := ["internal/abi.NoEscape"], apart := false, narrowed := true }
def JournalJoinsUptoSaid : Prop := journalJoinsUptoRow.holds Try.pinned (OpenSpec.upto journalJoinsSpec)

/-- 'debenturelaw25.JournalByte', WHERE WHAT IT READS IS OF BULK AT MOST 1048576: true; the input reads as it did. -/
def journalByteUptoRow : OpenClaim := { program := "ytgfiiccajellnaa", sum := "46836005e7cd2cf2fd910045e5c1bccdb370d38cbc8cee25c468aaa9faca5aca", func := "debenture/debenturelaw25.JournalByte", spec := "journalByte", inPlace := ["internal/abi.NoEscape"], apart := false, narrowed := true }
def JournalByteUptoSaid : Prop := journalByteUptoRow.holds Try.pinned (OpenSpec.upto journalByteSpec)

/-- 'debenturelaw25.JournalSame', WHERE WHAT IT READS IS OF BULK AT MOST 1048576: true; the input reads as it did. -/
def journalSameUptoRow : OpenClaim := { program := "ytgfiiccajellnaa", sum := "46836005e7cd2cf2fd910045e5c1bccdb370d38cbc8cee25c468aaa9faca5aca", func := "debenture/debenturelaw25.JournalSame", spec := "journalSame", inPlace := ["internal/abi.NoEscape"], apart := false, narrowed := true }
def JournalSameUptoSaid : Prop := journalSameUptoRow.holds Try.pinned (OpenSpec.upto journalSameSpec)

end Rows
end Go.Proofs.Ytgfiiccajellnaa
