/- The statement WordTruth over numbers alone: of two words just one is below the other or both are the same, and the truths go with each other; no condition. -/
import Derived.Test.YtiflghlhlkabdaaPWordTruthx2
namespace Go.Proofs.Ytiflghlhlkabdaa.Pure
open Go.RowKit Go.Proofs.Ytiflghlhlkabdaa.PWordTruth Go.Proofs.YtiflghlhlkabdaaW.PrintWords Go.Proofs.YtiflghlhlkabdaaW.PrintLast

theorem truth_alive : portcullislaw09_alive.f 20 = some true := by decide +kernel

theorem truth_says (b : Bool) : word_truth.f b = some (if b = true then 1 else 0) := by cases b <;> rfl
theorem truth_and (k : Nat) (a b : Int) : word_Binary.f (k + 1) 6 a b = some (if a = 0 then 0 else if b = 0 then 0 else 1, 0) := by
  simp only [word_Binary.f, word_Binary.j0, word_compare.f, truth_says]
  by_cases h : a = 0 <;> by_cases g : b = 0 <;> simp [h, g]
theorem truth_or (k : Nat) (a b : Int) : word_Binary.f (k + 1) 7 a b = some (if a = 0 then if b = 0 then 0 else 1 else 1, 0) := by
  simp only [word_Binary.f, word_Binary.j0, word_compare.f, truth_says]
  by_cases h : a = 0 <;> by_cases g : b = 0 <;> simp [h, g]
theorem truth_less (k : Nat) (a b : Int) : word_Binary.f (k + 1) 8 a b = some (if a < b then 1 else 0, 0) := by
  simp only [word_Binary.f, word_Binary.j0, word_compare.f, truth_says]
  by_cases h : a < b <;> simp [h]
theorem truth_most (k : Nat) (a b : Int) : word_Binary.f (k + 1) 9 a b = some (if a ≤ b then 1 else 0, 0) := by
  simp only [word_Binary.f, word_Binary.j0, word_compare.f, truth_says]
  by_cases h : a ≤ b <;> simp [h]
theorem truth_same (k : Nat) (a b : Int) : word_Binary.f (k + 1) 10 a b = some (if a = b then 1 else 0, 0) := by
  simp only [word_Binary.f, word_Binary.j0, word_compare.f, truth_says]
  by_cases h : a = b <;> simp [h]
theorem truth_ne (k : Nat) (a b : Int) : word_Binary.f (k + 1) 11 a b = some (if a = b then 0 else 1, 0) := by
  simp only [word_Binary.f, word_Binary.j0, word_compare.f, truth_says]
  by_cases h : a = b <;> simp [h]
theorem truth_not (a : Int) : word_Unary.f 2 a = some (if a = 0 then 1 else 0, true) := by
  simp only [word_Unary.f, truth_says]
  by_cases h : a = 0 <;> simp [h]

theorem WordTruth : portcullislaw09_WordTruth.Pure := by
  intro a b _ _
  have w0 : wrap64 0 = 0 := by decide +kernel
  have w1 : wrap64 1 = 1 := by decide +kernel
  refine ⟨20, ?_⟩
  unfold portcullislaw09_WordTruth.f
  rw [truth_alive]
  simp only [Option.bind_some, if_true, truth_less 19, truth_most 19, truth_same 19, truth_ne 19]
  simp only [portcullislaw09_WordTruth.j0, truth_and 18, truth_or 18, truth_not, Option.bind_some]
  by_cases h1 : a < b
  · have h2 : ¬ b < a := by omega
    have h3 : a ≠ b := by omega
    have h4 : a ≤ b := by omega
    simp only [h1, h2, h3, h4, if_true, if_false]
    clear h1 h2 h3 h4
    by_cases ha : a = 0 <;> by_cases hb : b = 0 <;> simp [ha, hb, w1]
  · by_cases h3 : a = b
    · subst h3
      by_cases ha : a = 0 <;> simp [ha, w0, w1]
    · have h2 : b < a := by omega
      have h4 : ¬ a ≤ b := by omega
      simp only [h1, h2, h3, h4, if_true, if_false]
      clear h1 h2 h3 h4
      by_cases ha : a = 0 <;> by_cases hb : b = 0 <;> simp [ha, hb, w0, w1]

end Go.Proofs.Ytiflghlhlkabdaa.Pure
