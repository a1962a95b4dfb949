/- The statement WordAlgebra over numbers alone: sums and products in either order, a difference and its second word, a quotient and its remainder; no condition. -/
import Derived.Test.YtiflghlhlkabdaaPWordAlgebrax2
namespace Go.Proofs.Ytiflghlhlkabdaa.Pure
open Go.RowKit Go.Proofs.Ytiflghlhlkabdaa.PWordAlgebra Go.Proofs.YtiflghlhlkabdaaW.PrintWords Go.Proofs.YtiflghlhlkabdaaW.PrintLast

theorem algebra_alive : portcullislaw09_alive.f 20 = some true := by decide +kernel

theorem algebra_add (k : Nat) (a b : Int) : word_Binary.f (k + 1) 1 a b = some (wrap64 (a + b), 0) := by
  simp [word_Binary.f, word_Binary.j0]
theorem algebra_sub (k : Nat) (a b : Int) : word_Binary.f (k + 1) 2 a b = some (wrap64 (a - b), 0) := by
  simp [word_Binary.f, word_Binary.j0]
theorem algebra_mul (k : Nat) (a b : Int) : word_Binary.f (k + 1) 3 a b = some (wrap64 (a * b), 0) := by
  simp [word_Binary.f, word_Binary.j0]
theorem algebra_div (k : Nat) (a b : Int) : word_Binary.f (k + 1) 4 a b = if b = 0 then some (0, 1) else some (wrap64 (a.tdiv b), 0) := by
  simp only [word_Binary.f, word_Binary.j0, word_divide.f]
  by_cases h : b = 0 <;> simp [h]
theorem algebra_rem (k : Nat) (a b : Int) : word_Binary.f (k + 1) 5 a b = if b = 0 then some (0, 1) else some (a.tmod b, 0) := by
  simp only [word_Binary.f, word_Binary.j0, word_divide.f]
  by_cases h : b = 0 <;> simp [h]
theorem algebra_neg (a : Int) : word_Unary.f 1 a = some (wrap64 (-a), true) := by
  simp [word_Unary.f]

theorem wrap_add_l (a b : Int) : wrap64 (wrap64 a + b) = wrap64 (a + b) := by unfold wrap64; omega
theorem wrap_id (a : Int) (h : (Lit.int .i64 a).wf = true) : wrap64 a = a := by
  have h' : IntKind.i64.min ≤ a ∧ a ≤ IntKind.i64.max := by simpa only [Lit.wf, Bool.and_eq_true, decide_eq_true_eq] using h
  have m1 : IntKind.i64.min = -9223372036854775808 := by decide +kernel
  have m2 : IntKind.i64.max = 9223372036854775807 := by decide +kernel
  rw [m1, m2] at h'
  unfold wrap64; omega
theorem wrap_eq (a : Int) : ∃ z, wrap64 a = a + 18446744073709551616 * z := by
  refine ⟨-((a + 9223372036854775808) / 18446744073709551616), ?_⟩
  unfold wrap64; omega
theorem wrap_of (a z : Int) : wrap64 (a + 18446744073709551616 * z) = wrap64 a := by unfold wrap64; omega
theorem wrap_mul_l (a b : Int) : wrap64 (wrap64 a * b) = wrap64 (a * b) := by
  obtain ⟨z, hz⟩ := wrap_eq a
  rw [hz, Int.add_mul, Int.mul_assoc]
  exact wrap_of _ _

theorem WordAlgebra : portcullislaw09_WordAlgebra.Pure := by
  intro a b ha hb
  have hwa := wrap_id a ha
  refine ⟨20, ?_⟩
  unfold portcullislaw09_WordAlgebra.f
  rw [algebra_alive]
  simp only [Option.bind_some, if_true, algebra_add 19, algebra_mul 19, algebra_sub 19, algebra_neg]
  rw [if_pos (by rw [Int.add_comm]), if_pos (by rw [Int.mul_comm]), wrap_add_l, if_pos (by rw [Int.sub_add_cancel]; exact hwa), wrap_add_l]
  rw [show -a + a = 0 from by omega, show ((wrap64 0 != 0) : Bool) = false from by decide +kernel]
  simp only [portcullislaw09_WordAlgebra.j0, algebra_add 18, algebra_mul 18, algebra_div 18, algebra_rem 18]
  by_cases h : b = 0
  · simp [h]
  · simp only [h, if_false, Option.bind_some]
    simp only [wrap_mul_l, wrap_add_l, Int.tdiv_mul_add_tmod, hwa]
    simp

end Go.Proofs.Ytiflghlhlkabdaa.Pure
