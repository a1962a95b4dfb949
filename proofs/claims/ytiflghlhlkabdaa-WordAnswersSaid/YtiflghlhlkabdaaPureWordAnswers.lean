/- The statement WordAnswers over numbers alone: the program's Unary and Binary and the reference's answer the same word and the same fault; no condition. -/
import Derived.Test.YtiflghlhlkabdaaPWordAnswersx2
namespace Go.Proofs.Ytiflghlhlkabdaa.Pure
open Go.RowKit Go.Proofs.Ytiflghlhlkabdaa.PWordAnswers Go.Proofs.YtiflghlhlkabdaaW.PrintWords Go.Proofs.YtiflghlhlkabdaaW.PrintLast

theorem answers_alive : portcullislaw09_alive.f 20 = some true := by decide +kernel

theorem answers_truth (b : Bool) : word_truth.f b = portcullisref09_Truth.f b := by cases b <;> rfl

theorem answers_unary (k a : Int) : word_Unary.f k a = portcullisref09_Unary.f k a := by
  unfold word_Unary.f portcullisref09_Unary.f
  simp only [answers_truth]

theorem some_ite {c : Prop} [Decidable c] {α : Type} {a b : Option α} (ha : a.isSome = true) (hb : b.isSome = true) : (if c then a else b).isSome = true := by
  by_cases h : c
  · rw [if_pos h]; exact ha
  · rw [if_neg h]; exact hb

theorem answers_says (b : Bool) : portcullisref09_Truth.f b = some (if b = true then 1 else 0) := by cases b <;> rfl

theorem answers_unary_some (k a : Int) : ∃ u, portcullisref09_Unary.f k a = some u := by
  apply Option.isSome_iff_exists.mp
  unfold portcullisref09_Unary.f
  simp only [answers_says, Option.bind_some]
  repeat' (first | rfl | refine some_ite ?_ ?_)

theorem answers_binary (k a b : Int) : word_Binary.f 20 k a b = portcullisref09_Binary.f k a b := by
  unfold word_Binary.f
  simp only [word_Binary.j0, portcullisref09_Binary.f, word_divide.f, word_compare.f, answers_truth]
  by_cases h1 : k = 1
  · subst h1; simp
  by_cases h2 : k = 2
  · subst h2; simp
  by_cases h3 : k = 3
  · subst h3; simp
  by_cases h4 : k = 4
  · subst h4; by_cases hb : b = 0 <;> simp [hb]
  by_cases h5 : k = 5
  · subst h5; by_cases hb : b = 0 <;> simp [hb]
  simp only [h1, h2, h3, h4, h5, if_false, beq_iff_eq]
  by_cases h6 : k = 6
  · subst h6; by_cases ha : a = 0 <;> simp [ha]
  by_cases h7 : k = 7
  · subst h7; by_cases ha : a = 0 <;> simp [ha]
  by_cases h8 : k = 8
  · subst h8; simp
  by_cases h9 : k = 9
  · subst h9; simp
  by_cases h10 : k = 10
  · subst h10; simp
  by_cases h11 : k = 11
  · subst h11; simp
  simp [h6, h7, h8, h9, h10, h11]

theorem answers_binary_some (k a b : Int) : ∃ u, portcullisref09_Binary.f k a b = some u := by
  apply Option.isSome_iff_exists.mp
  unfold portcullisref09_Binary.f
  simp only [answers_says, Option.bind_some]
  repeat' (first | rfl | refine some_ite ?_ ?_)

theorem WordAnswers : portcullislaw09_WordAnswers.Pure := by
  intro k a b _ _ _
  refine ⟨20, ?_⟩
  unfold portcullislaw09_WordAnswers.f
  rw [answers_alive, answers_binary, answers_unary]
  obtain ⟨u, hu⟩ := answers_unary_some k a
  obtain ⟨v, hv⟩ := answers_binary_some k a b
  rw [hu, hv]
  simp

end Go.Proofs.Ytiflghlhlkabdaa.Pure
