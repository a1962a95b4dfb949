/-
  No cell of these rows narrows 'for every input' (looked for: loops, veiled, ifaces, maps, wideKeys, modest, calm, conditions, laid).
  DERIVED. THE GIVEN ROWS OF THIS SEAT. 8 by the template 'for every input the law returns true; each argument reads behind the call as it read before'; 0 by the template 'total and deterministic' (their statements: YtiflghlhlkabdaaTotals.lean).
  GIVEN WITH THE SEED: the statements are not yours to turn. If you find one false, say at which input.
  Laid BY PROGRAM, IN A SANDBOX (cutbox-rows.mjs): the forced cells as the released guide's own fill.sh prints them over the translation d2a36d5af37c0079… (all of the seat's roots in one cut). By AI agents, Wed Nov 11 2026. No macro, syntax, notation, axiom, sorry.
-/
import Derived.Test.YtiflghlhlkabdaaChecked
import GoSem.Claim
import GoSem.ClaimJoined
import GoSem.ClaimMapViews
import Derived.JoinedTies
import Derived.KernelRfl
namespace Go.Proofs.Ytiflghlhlkabdaa
/- THE CELL 'sum', in the pinned program and in every row, IS THE sha256 OF THE DUMP (.gsa) THAT YtiflghlhlkabdaaProg.lean LOADS. Nothing in Lean hashes anything: it is a label: what it is worth is what the hold of that sum in a sandbox is worth. -/
noncomputable def Try.pinned : Pinned := { name := "ytiflghlhlkabdaa", sum := "d2a36d5af37c0079d7ab434307f7a1cc4a52ff8c23b007e7b382a77eb3ecaaad", checked := Try.checked }
namespace Rows
def none {H : Type} : Left H := { results := [], args := [] }

/-- 'portcullislaw09.WordSigns': WHATEVER THE INPUT: true; the input reads as it did. -/
def wordSignsSpec : ChangeSpec := { name := "wordSigns", fn := fun _ => fun
  | [d1, d2] => { results := [.lit (.bool true)], args := [d1, d2] }
  | _ => none }
def wordSignsRow : OpenClaim := { program := "ytiflghlhlkabdaa", sum := "d2a36d5af37c0079d7ab434307f7a1cc4a52ff8c23b007e7b382a77eb3ecaaad", func := "portcullis/portcullislaw09.WordSigns", spec := "wordSigns", apart := false }
def WordSignsSaid : Prop := wordSignsRow.holds Try.pinned (OpenSpec.ofChange wordSignsSpec)

/-- ITS FALSE NEIGHBOUR: 'it returns false'. Refute it at one input. -/
def wordSignsWrong : ChangeSpec := { name := "wordSigns", fn := fun _ => fun
  | [d1, d2] => { results := [.lit (.bool false)], args := [d1, d2] }
  | _ => none }
def WordSignsWrongFalsely : Prop := wordSignsRow.holds Try.pinned (OpenSpec.ofChange wordSignsWrong)

/-- 'portcullislaw13.FifoSteps': WHATEVER THE INPUT: true; the input reads as it did. -/
def fifoStepsSpec : ChangeSpec := { name := "fifoSteps", fn := fun _ => fun
  | [d1, d2] => { results := [.lit (.bool true)], args := [d1, d2] }
  | _ => none }
def fifoStepsRow : OpenClaim := { program := "ytiflghlhlkabdaa", sum := "d2a36d5af37c0079d7ab434307f7a1cc4a52ff8c23b007e7b382a77eb3ecaaad", func := "portcullis/portcullislaw13.FifoSteps", spec := "fifoSteps", apart := false }
def FifoStepsSaid : Prop := fifoStepsRow.holds Try.pinned (OpenSpec.ofChange fifoStepsSpec)

/-- ITS FALSE NEIGHBOUR: 'it returns false'. Refute it at one input. -/
def fifoStepsWrong : ChangeSpec := { name := "fifoSteps", fn := fun _ => fun
  | [d1, d2] => { results := [.lit (.bool false)], args := [d1, d2] }
  | _ => none }
def FifoStepsWrongFalsely : Prop := fifoStepsRow.holds Try.pinned (OpenSpec.ofChange fifoStepsWrong)

/-- 'portcullislaw13.FifoOrder': WHATEVER THE INPUT: true; the input reads as it did. -/
def fifoOrderSpec : ChangeSpec := { name := "fifoOrder", fn := fun _ => fun
  | [d1, d2] => { results := [.lit (.bool true)], args := [d1, d2] }
  | _ => none }
def fifoOrderRow : OpenClaim := { program := "ytiflghlhlkabdaa", sum := "d2a36d5af37c0079d7ab434307f7a1cc4a52ff8c23b007e7b382a77eb3ecaaad", func := "portcullis/portcullislaw13.FifoOrder", spec := "fifoOrder", apart := false }
def FifoOrderSaid : Prop := fifoOrderRow.holds Try.pinned (OpenSpec.ofChange fifoOrderSpec)

/-- ITS FALSE NEIGHBOUR: 'it returns false'. Refute it at one input. -/
def fifoOrderWrong : ChangeSpec := { name := "fifoOrder", fn := fun _ => fun
  | [d1, d2] => { results := [.lit (.bool false)], args := [d1, d2] }
  | _ => none }
def FifoOrderWrongFalsely : Prop := fifoOrderRow.holds Try.pinned (OpenSpec.ofChange fifoOrderWrong)

/-- 'portcullislaw13.FifoRoom': WHATEVER THE INPUT: true; the input reads as it did. -/
def fifoRoomSpec : ChangeSpec := { name := "fifoRoom", fn := fun _ => fun
  | [d1, d2] => { results := [.lit (.bool true)], args := [d1, d2] }
  | _ => none }
def fifoRoomRow : OpenClaim := { program := "ytiflghlhlkabdaa", sum := "d2a36d5af37c0079d7ab434307f7a1cc4a52ff8c23b007e7b382a77eb3ecaaad", func := "portcullis/portcullislaw13.FifoRoom", spec := "fifoRoom", apart := false }
def FifoRoomSaid : Prop := fifoRoomRow.holds Try.pinned (OpenSpec.ofChange fifoRoomSpec)

/-- ITS FALSE NEIGHBOUR: 'it returns false'. Refute it at one input. -/
def fifoRoomWrong : ChangeSpec := { name := "fifoRoom", fn := fun _ => fun
  | [d1, d2] => { results := [.lit (.bool false)], args := [d1, d2] }
  | _ => none }
def FifoRoomWrongFalsely : Prop := fifoRoomRow.holds Try.pinned (OpenSpec.ofChange fifoRoomWrong)

/-- 'portcullislaw09.WordAnswers': WHATEVER THE INPUT: true; the input reads as it did. -/
def wordAnswersSpec : ChangeSpec := { name := "wordAnswers", fn := fun _ => fun
  | [d1, d2, d3] => { results := [.lit (.bool true)], args := [d1, d2, d3] }
  | _ => none }
def wordAnswersRow : OpenClaim := { program := "ytiflghlhlkabdaa", sum := "d2a36d5af37c0079d7ab434307f7a1cc4a52ff8c23b007e7b382a77eb3ecaaad", func := "portcullis/portcullislaw09.WordAnswers", spec := "wordAnswers", apart := false }
def WordAnswersSaid : Prop := wordAnswersRow.holds Try.pinned (OpenSpec.ofChange wordAnswersSpec)

/-- ITS FALSE NEIGHBOUR: 'it returns false'. Refute it at one input. -/
def wordAnswersWrong : ChangeSpec := { name := "wordAnswers", fn := fun _ => fun
  | [d1, d2, d3] => { results := [.lit (.bool false)], args := [d1, d2, d3] }
  | _ => none }
def WordAnswersWrongFalsely : Prop := wordAnswersRow.holds Try.pinned (OpenSpec.ofChange wordAnswersWrong)

/-- 'portcullislaw09.WordAlgebra': WHATEVER THE INPUT: true; the input reads as it did. -/
def wordAlgebraSpec : ChangeSpec := { name := "wordAlgebra", fn := fun _ => fun
  | [d1, d2] => { results := [.lit (.bool true)], args := [d1, d2] }
  | _ => none }
def wordAlgebraRow : OpenClaim := { program := "ytiflghlhlkabdaa", sum := "d2a36d5af37c0079d7ab434307f7a1cc4a52ff8c23b007e7b382a77eb3ecaaad", func := "portcullis/portcullislaw09.WordAlgebra", spec := "wordAlgebra", apart := false }
def WordAlgebraSaid : Prop := wordAlgebraRow.holds Try.pinned (OpenSpec.ofChange wordAlgebraSpec)

/-- ITS FALSE NEIGHBOUR: 'it returns false'. Refute it at one input. -/
def wordAlgebraWrong : ChangeSpec := { name := "wordAlgebra", fn := fun _ => fun
  | [d1, d2] => { results := [.lit (.bool false)], args := [d1, d2] }
  | _ => none }
def WordAlgebraWrongFalsely : Prop := wordAlgebraRow.holds Try.pinned (OpenSpec.ofChange wordAlgebraWrong)

/-- 'portcullislaw09.WordTruth': WHATEVER THE INPUT: true; the input reads as it did. -/
def wordTruthSpec : ChangeSpec := { name := "wordTruth", fn := fun _ => fun
  | [d1, d2] => { results := [.lit (.bool true)], args := [d1, d2] }
  | _ => none }
def wordTruthRow : OpenClaim := { program := "ytiflghlhlkabdaa", sum := "d2a36d5af37c0079d7ab434307f7a1cc4a52ff8c23b007e7b382a77eb3ecaaad", func := "portcullis/portcullislaw09.WordTruth", spec := "wordTruth", apart := false }
def WordTruthSaid : Prop := wordTruthRow.holds Try.pinned (OpenSpec.ofChange wordTruthSpec)

/-- ITS FALSE NEIGHBOUR: 'it returns false'. Refute it at one input. -/
def wordTruthWrong : ChangeSpec := { name := "wordTruth", fn := fun _ => fun
  | [d1, d2] => { results := [.lit (.bool false)], args := [d1, d2] }
  | _ => none }
def WordTruthWrongFalsely : Prop := wordTruthRow.holds Try.pinned (OpenSpec.ofChange wordTruthWrong)

/-- 'portcullislaw09.WordRows': WHATEVER THE INPUT: true; the input reads as it did. -/
def wordRowsSpec : ChangeSpec := { name := "wordRows", fn := fun _ => fun
  | [d1, d2, d3] => { results := [.lit (.bool true)], args := [d1, d2, d3] }
  | _ => none }
def wordRowsRow : OpenClaim := { program := "ytiflghlhlkabdaa", sum := "d2a36d5af37c0079d7ab434307f7a1cc4a52ff8c23b007e7b382a77eb3ecaaad", func := "portcullis/portcullislaw09.WordRows", spec := "wordRows", apart := false }
def WordRowsSaid : Prop := wordRowsRow.holds Try.pinned (OpenSpec.ofChange wordRowsSpec)

/-- ITS FALSE NEIGHBOUR: 'it returns false'. Refute it at one input. -/
def wordRowsWrong : ChangeSpec := { name := "wordRows", fn := fun _ => fun
  | [d1, d2, d3] => { results := [.lit (.bool false)], args := [d1, d2, d3] }
  | _ => none }
def WordRowsWrongFalsely : Prop := wordRowsRow.holds Try.pinned (OpenSpec.ofChange wordRowsWrong)

/- THE SECOND FORM. 'bulk': how many values and letters a reading holds, each counted each time it is reached (what is shared counts as often as it is met; a slice's spare places count too). A statement '..UptoSaid' is the law's where the arguments, and the package variables that the reading takes, are together of bulk at most 1048576: NARROWER than '..Said'. Prove '..Said' where nothing that the law and all that it calls make is longer than what came in: it says more and counts as full. Else prove '..UptoSaid'. A law counts once. -/
mutual
def uptoBulk {H : Type} : DataW H → Nat
  | .lit (.string bytes) => bytes.length + 1
  | .lit _ => 1
  | .nil => 1
  | .ptr d => uptoBulk d + 1
  | .slice elems spare => uptoBulkAll elems + uptoBulkAll spare + 1
  | .agg parts => uptoBulkAll parts + 1
  | .iface _ d => uptoBulk d + 1
  | .map entries => uptoBulkEntries entries + 1
  | .held _ => 1
def uptoBulkAll {H : Type} : List (DataW H) → Nat
  | [] => 0
  | d :: r => uptoBulk d + uptoBulkAll r
def uptoBulkEntries {H : Type} : List (Lit × DataW H) → Nat
  | [] => 0
  | x :: r => uptoBulkEntry x + uptoBulkEntries r
def uptoBulkEntry {H : Type} : Lit × DataW H → Nat
  | (.string bytes, d) => bytes.length + uptoBulk d + 1
  | (_, d) => uptoBulk d + 1
 end
def uptoSmall : (H : Type) → List (DataW H) → Bool := fun _ ds => decide (uptoBulkAll ds ≤ 1048576)
def OpenSpec.upto (s : _root_.Go.ChangeSpec) : _root_.Go.OpenSpec := { _root_.Go.OpenSpec.ofChange s with cond := some uptoSmall }

/-- 'portcullislaw09.WordSigns', WHERE WHAT IT READS IS OF BULK AT MOST 1048576: true; the input reads as it did. -/
def wordSignsUptoRow : OpenClaim := { program := "ytiflghlhlkabdaa", sum := "d2a36d5af37c0079d7ab434307f7a1cc4a52ff8c23b007e7b382a77eb3ecaaad", func := "portcullis/portcullislaw09.WordSigns", spec := "wordSigns", apart := false, narrowed := true }
def WordSignsUptoSaid : Prop := wordSignsUptoRow.holds Try.pinned (OpenSpec.upto wordSignsSpec)

/-- 'portcullislaw13.FifoSteps', WHERE WHAT IT READS IS OF BULK AT MOST 1048576: true; the input reads as it did. -/
def fifoStepsUptoRow : OpenClaim := { program := "ytiflghlhlkabdaa", sum := "d2a36d5af37c0079d7ab434307f7a1cc4a52ff8c23b007e7b382a77eb3ecaaad", func := "portcullis/portcullislaw13.FifoSteps", spec := "fifoSteps", apart := false, narrowed := true }
def FifoStepsUptoSaid : Prop := fifoStepsUptoRow.holds Try.pinned (OpenSpec.upto fifoStepsSpec)

/-- 'portcullislaw13.FifoOrder', WHERE WHAT IT READS IS OF BULK AT MOST 1048576: true; the input reads as it did. -/
def fifoOrderUptoRow : OpenClaim := { program := "ytiflghlhlkabdaa", sum := "d2a36d5af37c0079d7ab434307f7a1cc4a52ff8c23b007e7b382a77eb3ecaaad", func := "portcullis/portcullislaw13.FifoOrder", spec := "fifoOrder", apart := false, narrowed := true }
def FifoOrderUptoSaid : Prop := fifoOrderUptoRow.holds Try.pinned (OpenSpec.upto fifoOrderSpec)

/-- 'portcullislaw13.FifoRoom', WHERE WHAT IT READS IS OF BULK AT MOST 1048576: true; the input reads as it did. -/
def fifoRoomUptoRow : OpenClaim := { program := "ytiflghlhlkabdaa", sum := "d2a36d5af37c0079d7ab434307f7a1cc4a52ff8c23b007e7b382a77eb3ecaaad", func := "portcullis/portcullislaw13.FifoRoom", spec := "fifoRoom", apart := false, narrowed := true }
def FifoRoomUptoSaid : Prop := fifoRoomUptoRow.holds Try.pinned (OpenSpec.upto fifoRoomSpec)

/-- 'portcullislaw09.WordAnswers', WHERE WHAT IT READS IS OF BULK AT MOST 1048576: true; the input reads as it did. -/
def wordAnswersUptoRow : OpenClaim := { program := "ytiflghlhlkabdaa", sum := "d2a36d5af37c0079d7ab434307f7a1cc4a52ff8c23b007e7b382a77eb3ecaaad", func := "portcullis/portcullislaw09.WordAnswers", spec := "wordAnswers", apart := false, narrowed := true }
def WordAnswersUptoSaid : Prop := wordAnswersUptoRow.holds Try.pinned (OpenSpec.upto wordAnswersSpec)

/-- 'portcullislaw09.WordAlgebra', WHERE WHAT IT READS IS OF BULK AT MOST 1048576: true; the input reads as it did. -/
def wordAlgebraUptoRow : OpenClaim := { program := "ytiflghlhlkabdaa", sum := "d2a36d5af37c0079d7ab434307f7a1cc4a52ff8c23b007e7b382a77eb3ecaaad", func := "portcullis/portcullislaw09.WordAlgebra", spec := "wordAlgebra", apart := false, narrowed := true }
def WordAlgebraUptoSaid : Prop := wordAlgebraUptoRow.holds Try.pinned (OpenSpec.upto wordAlgebraSpec)

/-- 'portcullislaw09.WordTruth', WHERE WHAT IT READS IS OF BULK AT MOST 1048576: true; the input reads as it did. -/
def wordTruthUptoRow : OpenClaim := { program := "ytiflghlhlkabdaa", sum := "d2a36d5af37c0079d7ab434307f7a1cc4a52ff8c23b007e7b382a77eb3ecaaad", func := "portcullis/portcullislaw09.WordTruth", spec := "wordTruth", apart := false, narrowed := true }
def WordTruthUptoSaid : Prop := wordTruthUptoRow.holds Try.pinned (OpenSpec.upto wordTruthSpec)

/-- 'portcullislaw09.WordRows', WHERE WHAT IT READS IS OF BULK AT MOST 1048576: true; the input reads as it did. -/
def wordRowsUptoRow : OpenClaim := { program := "ytiflghlhlkabdaa", sum := "d2a36d5af37c0079d7ab434307f7a1cc4a52ff8c23b007e7b382a77eb3ecaaad", func := "portcullis/portcullislaw09.WordRows", spec := "wordRows", apart := false, narrowed := true }
def WordRowsUptoSaid : Prop := wordRowsUptoRow.holds Try.pinned (OpenSpec.upto wordRowsSpec)

end Rows
end Go.Proofs.Ytiflghlhlkabdaa
