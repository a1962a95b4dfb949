/- The statement WordRows over numbers alone: being below is handed on, and sums and products go in any grouping; no condition. -/
import Derived.Test.YtiflghlhlkabdaaPWordRowsx2
namespace Go.Proofs.Ytiflghlhlkabdaa.Pure
open Go.RowKit Go.Proofs.Ytiflghlhlkabdaa.PWordRows Go.Proofs.YtiflghlhlkabdaaW.PrintWords Go.Proofs.YtiflghlhlkabdaaW.PrintLast

theorem rows_alive : portcullislaw09_alive.f 20 = some true := by decide +kernel

theorem rows_says (b : Bool) : word_truth.f b = some (if b = true then 1 else 0) := by cases b <;> rfl
theorem rows_add (k : Nat) (a b : Int) : word_Binary.f (k + 1) 1 a b = some (wrap64 (a + b), 0) := by
  simp [word_Binary.f, word_Binary.j0]
theorem rows_mul (k : Nat) (a b : Int) : word_Binary.f (k + 1) 3 a b = some (wrap64 (a * b), 0) := by
  simp [word_Binary.f, word_Binary.j0]
theorem rows_less (k : Nat) (a b : Int) : word_Binary.f (k + 1) 8 a b = some (if a < b then 1 else 0, 0) := by
  simp only [word_Binary.f, word_Binary.j0, word_compare.f, rows_says]
  by_cases h : a < b <;> simp [h]

theorem rows_wrap_add_l (a b : Int) : wrap64 (wrap64 a + b) = wrap64 (a + b) := by unfold wrap64; omega
theorem rows_wrap_add_r (a b : Int) : wrap64 (a + wrap64 b) = wrap64 (a + b) := by unfold wrap64; omega
theorem rows_wrap_eq (a : Int) : ∃ z, wrap64 a = a + 18446744073709551616 * z := by
  refine ⟨-((a + 9223372036854775808) / 18446744073709551616), ?_⟩
  unfold wrap64; omega
theorem rows_wrap_of (a z : Int) : wrap64 (a + 18446744073709551616 * z) = wrap64 a := by unfold wrap64; omega
theorem rows_wrap_mul_r (a b : Int) : wrap64 (a * wrap64 b) = wrap64 (a * b) := by
  obtain ⟨z, hz⟩ := rows_wrap_eq b
  rw [hz, Int.mul_add, Int.mul_left_comm]
  exact rows_wrap_of _ _

theorem WordRows : portcullislaw09_WordRows.Pure := by
  intro a b c _ _ _
  refine ⟨20, ?_⟩
  unfold portcullislaw09_WordRows.f
  rw [rows_alive]
  simp only [Option.bind_some, if_true, rows_less 19]
  have key : portcullislaw09_WordRows.j0 20 a b c false = some true := by
    simp only [portcullislaw09_WordRows.j0, rows_add 18, rows_mul 18, Option.bind_some]
    simp only [rows_wrap_add_l, rows_wrap_add_r, rows_wrap_mul_r, Int.mul_add, Int.add_assoc]
    simp
  by_cases h1 : a < b
  · by_cases h2 : b < c
    · have h3 : a < c := by omega
      simp [h1, h2, h3, key]
    · simp [h1, h2, key]
  · simp [h1, key]

end Go.Proofs.Ytiflghlhlkabdaa.Pure
