-- PRINTED BY print.sh 35421559b90ae4d0a3588c463048766b98c2df88dd9212a6774a882060cdf62d: not written by this session
import Derived.Test.YtiflghlhlkabdaaPWordAlgebrax0
import Derived.Test.YtiflghlhlkabdaaPWordAlgebrax1
namespace Go.Proofs.Ytiflghlhlkabdaa.PWordAlgebra
open Go.RowKit Go.Proofs.YtiflghlhlkabdaaW.PrintWords Go.Proofs.YtiflghlhlkabdaaW.PrintLast Go.Proofs.YtiflghlhlkabdaaW.PrintMore
attribute [local go_sem] max2_int min2_int max_two min_two max_three min_three max_four min_four   -- for this text's walks alone
set_option linter.unusedVariables false
set_option linter.unusedSimpArgs false

/-! ### portcullislaw09_WordAlgebra: function 8 -/
def portcullislaw09_WordAlgebra.j0 : Nat → Int → Int → Bool → Option (Bool)
  | 0, _, _, _ => none
  | k + 1, x0, x1, x94 => if x94 = true then (some false) else ((word_Binary.f k 4 x0 x1).bind fun bt147 => ((word_Binary.f k 5 x0 x1).bind fun bt149 => (if x1 = 0 then (if bt147.2 = 1 then (if bt149.2 = 1 then (if bt147.1 = 0 then (some (bt149.1 == 0)) else (some false)) else (some false)) else (some false)) else ((word_Binary.f k 3 bt147.1 x1).bind fun bt151 => ((word_Binary.f k 1 bt151.1 bt149.1).bind fun bt153 => (if bt147.2 = 0 then (if bt149.2 = 0 then (some (bt153.1 == x0)) else (some false)) else (some false)))))))
def portcullislaw09_WordAlgebra.f (k : Nat) (a0 : Int) (a1 : Int) : Option (Bool) := (portcullislaw09_alive.f k).bind fun t130 => (if t130 = true then ((word_Binary.f k 1 a0 a1).bind fun bt131 => ((word_Binary.f k 1 a1 a0).bind fun bt133 => ((word_Binary.f k 3 a0 a1).bind fun bt135 => ((word_Binary.f k 3 a1 a0).bind fun bt137 => ((word_Binary.f k 2 a0 a1).bind fun bt139 => ((word_Binary.f k 1 bt139.1 a1).bind fun bt141 => ((word_Unary.f 1 a0).bind fun bt143 => ((word_Binary.f k 1 bt143.1 a0).bind fun bt145 => (if bt131.1 = bt133.1 then (if bt135.1 = bt137.1 then (if bt141.1 = a0 then (portcullislaw09_WordAlgebra.j0 k a0 a1 (bt145.1 != 0)) else (portcullislaw09_WordAlgebra.j0 k a0 a1 true)) else (portcullislaw09_WordAlgebra.j0 k a0 a1 true)) else (portcullislaw09_WordAlgebra.j0 k a0 a1 true)))))))))) else (some false))
theorem portcullislaw09_WordAlgebra.mono_l : ∀ k, (∀ y0 y1 y2, LeO (portcullislaw09_WordAlgebra.j0 k y0 y1 y2) (portcullislaw09_WordAlgebra.j0 (k + 1) y0 y1 y2))
  | 0 => fun _ _ _ r h => by simp [portcullislaw09_WordAlgebra.j0] at h
  | k + 1 => by
    have ih0 := portcullislaw09_WordAlgebra.mono_l k
    · intro y0 y1 y2
      unfold portcullislaw09_WordAlgebra.j0
      repeat' first
      | (with_reducible exact ih0 _ _ _)
      | (with_reducible exact portcullislaw09_alive.mono _)
      | (with_reducible exact word_Binary.mono _ _ _ _)
      | (with_reducible exact LeO.refl _)
      | (with_reducible exact LeO.none _)
      | (with_reducible refine LeO.ite ?_ ?_)
      | (with_reducible refine LeO.bind ?_ (fun _ => ?_))
      | exact ih0 _ _ _
      | exact portcullislaw09_alive.mono _
      | exact word_Binary.mono _ _ _ _
      | exact LeO.none _
      | refine LeO.ite ?_ ?_
      | refine LeO.bind ?_ (fun _ => ?_)
theorem portcullislaw09_WordAlgebra.mono : ∀ a0 a1 k, LeO (portcullislaw09_WordAlgebra.f k a0 a1) (portcullislaw09_WordAlgebra.f (k + 1) a0 a1) := by
  intro a0 a1 k
  have ih0 := portcullislaw09_WordAlgebra.mono_l k
  unfold portcullislaw09_WordAlgebra.f
  repeat' first
      | (with_reducible exact ih0 _ _ _)
      | (with_reducible exact portcullislaw09_alive.mono _)
      | (with_reducible exact word_Binary.mono _ _ _ _)
      | (with_reducible exact LeO.refl _)
      | (with_reducible exact LeO.none _)
      | (with_reducible refine LeO.ite ?_ ?_)
      | (with_reducible refine LeO.bind ?_ (fun _ => ?_))
      | exact ih0 _ _ _
      | exact portcullislaw09_alive.mono _
      | exact word_Binary.mono _ _ _ _
      | exact LeO.none _
      | refine LeO.ite ?_ ?_
      | refine LeO.bind ?_ (fun _ => ?_)
set_option maxHeartbeats 8000000 in
set_option maxRecDepth 100000 in
theorem portcullislaw09_WordAlgebra.calls (k : Nat) (a0 : Int) (a1 : Int) (r : Bool) (w : World) (h : portcullislaw09_WordAlgebra.f k a0 a1 = some r) :
    Calls Try.prog 8 #[.int .i64 a0, .int .i64 a1] w fun e w' => e = .returned (.bool r) ∧ Below w.heap.size w w' := by
  have HB := Aside0.mk (Below.refl w.heap.size w)
  have H : ((portcullislaw09_alive.f k).bind fun t130 => (if t130 = true then ((word_Binary.f k 1 a0 a1).bind fun bt131 => ((word_Binary.f k 1 a1 a0).bind fun bt133 => ((word_Binary.f k 3 a0 a1).bind fun bt135 => ((word_Binary.f k 3 a1 a0).bind fun bt137 => ((word_Binary.f k 2 a0 a1).bind fun bt139 => ((word_Binary.f k 1 bt139.1 a1).bind fun bt141 => ((word_Unary.f 1 a0).bind fun bt143 => ((word_Binary.f k 1 bt143.1 a0).bind fun bt145 => (if bt131.1 = bt133.1 then (if bt135.1 = bt137.1 then (if bt141.1 = a0 then (portcullislaw09_WordAlgebra.j0 k a0 a1 (bt145.1 != 0)) else (portcullislaw09_WordAlgebra.j0 k a0 a1 true)) else (portcullislaw09_WordAlgebra.j0 k a0 a1 true)) else (portcullislaw09_WordAlgebra.j0 k a0 a1 true)))))))))) else (some false))) = some r := h
  clear h
  replace H := Option.bind_eq_some_iff.mp H
  obtain ⟨t130, A30, H⟩ := H
  replace H : (if t130 = true then ((word_Binary.f k 1 a0 a1).bind fun bt131 => ((word_Binary.f k 1 a1 a0).bind fun bt133 => ((word_Binary.f k 3 a0 a1).bind fun bt135 => ((word_Binary.f k 3 a1 a0).bind fun bt137 => ((word_Binary.f k 2 a0 a1).bind fun bt139 => ((word_Binary.f k 1 bt139.1 a1).bind fun bt141 => ((word_Unary.f 1 a0).bind fun bt143 => ((word_Binary.f k 1 bt143.1 a0).bind fun bt145 => (if bt131.1 = bt133.1 then (if bt135.1 = bt137.1 then (if bt141.1 = a0 then (portcullislaw09_WordAlgebra.j0 k a0 a1 (bt145.1 != 0)) else (portcullislaw09_WordAlgebra.j0 k a0 a1 true)) else (portcullislaw09_WordAlgebra.j0 k a0 a1 true)) else (portcullislaw09_WordAlgebra.j0 k a0 a1 true)))))))))) else (some false)) = some r := H
  have A3 := Aside0.mk A30
  clear A30
  by_cases c4 : t130 = true
  · subst c4
    have H1 : ((word_Binary.f k 1 a0 a1).bind fun bt131 => ((word_Binary.f k 1 a1 a0).bind fun bt133 => ((word_Binary.f k 3 a0 a1).bind fun bt135 => ((word_Binary.f k 3 a1 a0).bind fun bt137 => ((word_Binary.f k 2 a0 a1).bind fun bt139 => ((word_Binary.f k 1 bt139.1 a1).bind fun bt141 => ((word_Unary.f 1 a0).bind fun bt143 => ((word_Binary.f k 1 bt143.1 a0).bind fun bt145 => (if bt131.1 = bt133.1 then (if bt135.1 = bt137.1 then (if bt141.1 = a0 then (portcullislaw09_WordAlgebra.j0 k a0 a1 (bt145.1 != 0)) else (portcullislaw09_WordAlgebra.j0 k a0 a1 true)) else (portcullislaw09_WordAlgebra.j0 k a0 a1 true)) else (portcullislaw09_WordAlgebra.j0 k a0 a1 true)))))))))) = some r := by rw [if_pos rfl] at H; exact H
    clear H
    have H := H1
    clear H1
    replace H := Option.bind_eq_some_iff.mp H
    obtain ⟨⟨t131, t132⟩, A50, H⟩ := H
    replace H : ((word_Binary.f k 1 a1 a0).bind fun bt133 => ((word_Binary.f k 3 a0 a1).bind fun bt135 => ((word_Binary.f k 3 a1 a0).bind fun bt137 => ((word_Binary.f k 2 a0 a1).bind fun bt139 => ((word_Binary.f k 1 bt139.1 a1).bind fun bt141 => ((word_Unary.f 1 a0).bind fun bt143 => ((word_Binary.f k 1 bt143.1 a0).bind fun bt145 => (if t131 = bt133.1 then (if bt135.1 = bt137.1 then (if bt141.1 = a0 then (portcullislaw09_WordAlgebra.j0 k a0 a1 (bt145.1 != 0)) else (portcullislaw09_WordAlgebra.j0 k a0 a1 true)) else (portcullislaw09_WordAlgebra.j0 k a0 a1 true)) else (portcullislaw09_WordAlgebra.j0 k a0 a1 true))))))))) = some r := H
    have A5 := Aside0.mk A50
    clear A50
    replace H := Option.bind_eq_some_iff.mp H
    obtain ⟨⟨t133, t134⟩, A60, H⟩ := H
    replace H : ((word_Binary.f k 3 a0 a1).bind fun bt135 => ((word_Binary.f k 3 a1 a0).bind fun bt137 => ((word_Binary.f k 2 a0 a1).bind fun bt139 => ((word_Binary.f k 1 bt139.1 a1).bind fun bt141 => ((word_Unary.f 1 a0).bind fun bt143 => ((word_Binary.f k 1 bt143.1 a0).bind fun bt145 => (if t131 = t133 then (if bt135.1 = bt137.1 then (if bt141.1 = a0 then (portcullislaw09_WordAlgebra.j0 k a0 a1 (bt145.1 != 0)) else (portcullislaw09_WordAlgebra.j0 k a0 a1 true)) else (portcullislaw09_WordAlgebra.j0 k a0 a1 true)) else (portcullislaw09_WordAlgebra.j0 k a0 a1 true)))))))) = some r := H
    have A6 := Aside0.mk A60
    clear A60
    replace H := Option.bind_eq_some_iff.mp H
    obtain ⟨⟨t135, t136⟩, A70, H⟩ := H
    replace H : ((word_Binary.f k 3 a1 a0).bind fun bt137 => ((word_Binary.f k 2 a0 a1).bind fun bt139 => ((word_Binary.f k 1 bt139.1 a1).bind fun bt141 => ((word_Unary.f 1 a0).bind fun bt143 => ((word_Binary.f k 1 bt143.1 a0).bind fun bt145 => (if t131 = t133 then (if t135 = bt137.1 then (if bt141.1 = a0 then (portcullislaw09_WordAlgebra.j0 k a0 a1 (bt145.1 != 0)) else (portcullislaw09_WordAlgebra.j0 k a0 a1 true)) else (portcullislaw09_WordAlgebra.j0 k a0 a1 true)) else (portcullislaw09_WordAlgebra.j0 k a0 a1 true))))))) = some r := H
    have A7 := Aside0.mk A70
    clear A70
    replace H := Option.bind_eq_some_iff.mp H
    obtain ⟨⟨t137, t138⟩, A80, H⟩ := H
    replace H : ((word_Binary.f k 2 a0 a1).bind fun bt139 => ((word_Binary.f k 1 bt139.1 a1).bind fun bt141 => ((word_Unary.f 1 a0).bind fun bt143 => ((word_Binary.f k 1 bt143.1 a0).bind fun bt145 => (if t131 = t133 then (if t135 = t137 then (if bt141.1 = a0 then (portcullislaw09_WordAlgebra.j0 k a0 a1 (bt145.1 != 0)) else (portcullislaw09_WordAlgebra.j0 k a0 a1 true)) else (portcullislaw09_WordAlgebra.j0 k a0 a1 true)) else (portcullislaw09_WordAlgebra.j0 k a0 a1 true)))))) = some r := H
    have A8 := Aside0.mk A80
    clear A80
    replace H := Option.bind_eq_some_iff.mp H
    obtain ⟨⟨t139, t140⟩, A90, H⟩ := H
    replace H : ((word_Binary.f k 1 t139 a1).bind fun bt141 => ((word_Unary.f 1 a0).bind fun bt143 => ((word_Binary.f k 1 bt143.1 a0).bind fun bt145 => (if t131 = t133 then (if t135 = t137 then (if bt141.1 = a0 then (portcullislaw09_WordAlgebra.j0 k a0 a1 (bt145.1 != 0)) else (portcullislaw09_WordAlgebra.j0 k a0 a1 true)) else (portcullislaw09_WordAlgebra.j0 k a0 a1 true)) else (portcullislaw09_WordAlgebra.j0 k a0 a1 true))))) = some r := H
    have A9 := Aside0.mk A90
    clear A90
    replace H := Option.bind_eq_some_iff.mp H
    obtain ⟨⟨t141, t142⟩, A100, H⟩ := H
    replace H : ((word_Unary.f 1 a0).bind fun bt143 => ((word_Binary.f k 1 bt143.1 a0).bind fun bt145 => (if t131 = t133 then (if t135 = t137 then (if t141 = a0 then (portcullislaw09_WordAlgebra.j0 k a0 a1 (bt145.1 != 0)) else (portcullislaw09_WordAlgebra.j0 k a0 a1 true)) else (portcullislaw09_WordAlgebra.j0 k a0 a1 true)) else (portcullislaw09_WordAlgebra.j0 k a0 a1 true)))) = some r := H
    have A10 := Aside0.mk A100
    clear A100
    replace H := Option.bind_eq_some_iff.mp H
    obtain ⟨⟨t143, t144⟩, A110, H⟩ := H
    replace H : ((word_Binary.f k 1 t143 a0).bind fun bt145 => (if t131 = t133 then (if t135 = t137 then (if t141 = a0 then (portcullislaw09_WordAlgebra.j0 k a0 a1 (bt145.1 != 0)) else (portcullislaw09_WordAlgebra.j0 k a0 a1 true)) else (portcullislaw09_WordAlgebra.j0 k a0 a1 true)) else (portcullislaw09_WordAlgebra.j0 k a0 a1 true))) = some r := H
    have A11 := Aside0.mk A110
    clear A110
    replace H := Option.bind_eq_some_iff.mp H
    obtain ⟨⟨t145, t146⟩, A120, H⟩ := H
    replace H : (if t131 = t133 then (if t135 = t137 then (if t141 = a0 then (portcullislaw09_WordAlgebra.j0 k a0 a1 (t145 != 0)) else (portcullislaw09_WordAlgebra.j0 k a0 a1 true)) else (portcullislaw09_WordAlgebra.j0 k a0 a1 true)) else (portcullislaw09_WordAlgebra.j0 k a0 a1 true)) = some r := H
    have A12 := Aside0.mk A120
    clear A120
    have HC13 := Aside0.mk H
    clear H
    go_enter Try.func8, Try.ntmps8
    go_upto_region 11 with (first | ((with_reducible refine gate_callee (f := 24) rfl ?_); refine goesL_ (some 29) rfl rfl Try.func24 (by kernel_rfl) rfl #[] rfl (by (try simp only [List.map_toArray, List.map_cons, List.map_nil]); first | done | rfl | (simp only [List.length_drop, List.length_take]; rfl)) ?_; (with_reducible refine (portcullislaw09_alive.calls k  true _ A3.out).mono ?_); rintro e w14 ⟨rfl, hb⟩; refine ⟨_, rfl, ?_⟩; have n0_ := Aside0.mk (below_step (by repeat (first | (with_reducible first | exact HB.out | apply below_alloc | apply pw_below_drewN | apply below_drew1) | exact HB.out)) hb); clear HB; have HB := n0_; clear n0_; (try clear hb); (try clear hb2); (try clear hk); (try clear hi)) | ((with_reducible refine gate_callee (f := 25) rfl ?_); refine goesL_ (some 34) rfl rfl Try.func25 (by kernel_rfl) rfl #[.int .i64 1, .int .i64 a0, .int .i64 a1] rfl (by (try simp only [List.map_toArray, List.map_cons, List.map_nil]); first | done | rfl | (simp only [List.length_drop, List.length_take]; rfl)) ?_; (with_reducible refine (word_Binary.calls k 1 a0 a1 t131 t132 _ A5.out).mono ?_); rintro e w' ⟨rfl, ⟨nd, rfl⟩⟩; refine ⟨_, rfl, ?_⟩) | ((with_reducible refine gate_callee (f := 25) rfl ?_); refine goesL_ (some 40) rfl rfl Try.func25 (by kernel_rfl) rfl #[.int .i64 1, .int .i64 a1, .int .i64 a0] rfl (by (try simp only [List.map_toArray, List.map_cons, List.map_nil]); first | done | rfl | (simp only [List.length_drop, List.length_take]; rfl)) ?_; (with_reducible refine (word_Binary.calls k 1 a1 a0 t133 t134 _ A6.out).mono ?_); rintro e w' ⟨rfl, ⟨nd, rfl⟩⟩; refine ⟨_, rfl, ?_⟩) | ((with_reducible refine gate_callee (f := 25) rfl ?_); refine goesL_ (some 46) rfl rfl Try.func25 (by kernel_rfl) rfl #[.int .i64 3, .int .i64 a0, .int .i64 a1] rfl (by (try simp only [List.map_toArray, List.map_cons, List.map_nil]); first | done | rfl | (simp only [List.length_drop, List.length_take]; rfl)) ?_; (with_reducible refine (word_Binary.calls k 3 a0 a1 t135 t136 _ A7.out).mono ?_); rintro e w' ⟨rfl, ⟨nd, rfl⟩⟩; refine ⟨_, rfl, ?_⟩) | ((with_reducible refine gate_callee (f := 25) rfl ?_); refine goesL_ (some 52) rfl rfl Try.func25 (by kernel_rfl) rfl #[.int .i64 3, .int .i64 a1, .int .i64 a0] rfl (by (try simp only [List.map_toArray, List.map_cons, List.map_nil]); first | done | rfl | (simp only [List.length_drop, List.length_take]; rfl)) ?_; (with_reducible refine (word_Binary.calls k 3 a1 a0 t137 t138 _ A8.out).mono ?_); rintro e w' ⟨rfl, ⟨nd, rfl⟩⟩; refine ⟨_, rfl, ?_⟩) | ((with_reducible refine gate_callee (f := 25) rfl ?_); refine goesL_ (some 58) rfl rfl Try.func25 (by kernel_rfl) rfl #[.int .i64 2, .int .i64 a0, .int .i64 a1] rfl (by (try simp only [List.map_toArray, List.map_cons, List.map_nil]); first | done | rfl | (simp only [List.length_drop, List.length_take]; rfl)) ?_; (with_reducible refine (word_Binary.calls k 2 a0 a1 t139 t140 _ A9.out).mono ?_); rintro e w' ⟨rfl, ⟨nd, rfl⟩⟩; refine ⟨_, rfl, ?_⟩) | ((with_reducible refine gate_callee (f := 25) rfl ?_); refine goesL_ (some 64) rfl rfl Try.func25 (by kernel_rfl) rfl #[.int .i64 1, .int .i64 t139, .int .i64 a1] rfl (by (try simp only [List.map_toArray, List.map_cons, List.map_nil]); first | done | rfl | (simp only [List.length_drop, List.length_take]; rfl)) ?_; (with_reducible refine (word_Binary.calls k 1 t139 a1 t141 t142 _ A10.out).mono ?_); rintro e w' ⟨rfl, ⟨nd, rfl⟩⟩; refine ⟨_, rfl, ?_⟩) | ((with_reducible refine gate_callee (f := 27) rfl ?_); refine goesL_ (some 69) rfl rfl Try.func27 (by kernel_rfl) rfl #[.int .i64 1, .int .i64 a0] rfl (by (try simp only [List.map_toArray, List.map_cons, List.map_nil]); first | done | rfl | (simp only [List.length_drop, List.length_take]; rfl)) ?_; (with_reducible refine (word_Unary.calls 1 a0 t143 t144 _ A11.out).mono ?_); rintro e w' ⟨rfl, ⟨nd, rfl⟩⟩; refine ⟨_, rfl, ?_⟩) | ((with_reducible refine gate_callee (f := 25) rfl ?_); refine goesL_ (some 75) rfl rfl Try.func25 (by kernel_rfl) rfl #[.int .i64 1, .int .i64 t143, .int .i64 a0] rfl (by (try simp only [List.map_toArray, List.map_cons, List.map_nil]); first | done | rfl | (simp only [List.length_drop, List.length_take]; rfl)) ?_; (with_reducible refine (word_Binary.calls k 1 t143 a0 t145 t146 _ A12.out).mono ?_); rintro e w' ⟨rfl, ⟨nd, rfl⟩⟩; refine ⟨_, rfl, ?_⟩))
    (try simp only [Act.put, List.setIfInBounds_toArray, List.set_cons_zero, List.set_cons_succ])
    go_cut [94] (fun v94 wc => ∃ (kq : Nat) (x94_12 : Bool), v94 = .bool x94_12 ∧ Aside0 (portcullislaw09_WordAlgebra.j0 kq a0 a1 x94_12 = some r) ∧ Aside0 (kq ≤ k) ∧ Aside0 (Below w.heap.size w wc))
    case first =>
      have H := HC13.out
      clear HC13
      by_cases c15 : t131 = t133
      · rw [if_pos c15] at H
        have c15b0 : (t131 == t133) = true := beq_iff_eq.mpr c15
        have c15b1 : (t131 != t133) = false := bne_eq_false_iff_eq.mpr c15
        clear c15
        (first | rw [c15b0] | (simp only [i64_w, i32_w]; rw [c15b0]) | skip)
        by_cases c16 : t135 = t137
        · rw [if_pos c16] at H
          have c16b0 : (t135 == t137) = true := beq_iff_eq.mpr c16
          have c16b1 : (t135 != t137) = false := bne_eq_false_iff_eq.mpr c16
          clear c16
          by_cases c17 : t141 = a0
          · rw [if_pos c17] at H
            have c17b0 : (t141 == a0) = true := beq_iff_eq.mpr c17
            have c17b1 : (t141 != a0) = false := bne_eq_false_iff_eq.mpr c17
            clear c17
            have H' := Aside0.mk H
            clear H
            go_wp2
            go_meet
            case rel => exact ⟨_, ((t145 != 0)), (by first | rfl | (simp; done) | (simp [*]; done)), H', ⟨by first | omega | exact Nat.le_refl _⟩, ⟨by repeat (first | (with_reducible first | exact HB.out | apply below_alloc | apply pw_below_drewN | apply below_drew1) | exact HB.out)⟩⟩
          · rw [if_neg c17] at H
            have c17b0 : (t141 == a0) = false := beq_eq_false_iff_ne.mpr c17
            have c17b1 : (t141 != a0) = true := bne_iff_ne.mpr c17
            have H' := Aside0.mk H
            clear H
            go_wp2
            go_meet
            case rel => exact ⟨_, (true), (by first | rfl | (simp; done) | (simp [*]; done)), H', ⟨by first | omega | exact Nat.le_refl _⟩, ⟨by repeat (first | (with_reducible first | exact HB.out | apply below_alloc | apply pw_below_drewN | apply below_drew1) | exact HB.out)⟩⟩
        · rw [if_neg c16] at H
          have c16b0 : (t135 == t137) = false := beq_eq_false_iff_ne.mpr c16
          have c16b1 : (t135 != t137) = true := bne_iff_ne.mpr c16
          have H' := Aside0.mk H
          clear H
          go_wp2
          go_meet
          case rel => exact ⟨_, (true), (by first | rfl | (simp; done) | (simp [*]; done)), H', ⟨by first | omega | exact Nat.le_refl _⟩, ⟨by repeat (first | (with_reducible first | exact HB.out | apply below_alloc | apply pw_below_drewN | apply below_drew1) | exact HB.out)⟩⟩
      · rw [if_neg c15] at H
        have c15b0 : (t131 == t133) = false := beq_eq_false_iff_ne.mpr c15
        have c15b1 : (t131 != t133) = true := bne_iff_ne.mpr c15
        (first | rw [c15b0] | (simp only [i64_w, i32_w]; rw [c15b0]) | skip)
        have H' := Aside0.mk H
        clear H
        go_wp2
        go_meet
        case rel => exact ⟨_, (true), (by first | rfl | (simp; done) | (simp [*]; done)), H', ⟨by first | omega | exact Nat.le_refl _⟩, ⟨by repeat (first | (with_reducible first | exact HB.out | apply below_alloc | apply pw_below_drewN | apply below_drew1) | exact HB.out)⟩⟩
    case rest =>
      clear HC13
      try clear c1
      try clear c2
      try clear p2
      try clear c4
      try clear c8
      try clear c15
      try clear c15b0
      try clear c15b1
      try clear c16
      try clear c16b0
      try clear c16b1
      try clear c17
      try clear c17b0
      try clear c17b1
      obtain ⟨kq, x94_12, rfl, HA, HJ12, HB⟩ := hcut
      cases kq with
      | zero => exact absurd HA.out (by simp [portcullislaw09_WordAlgebra.j0])
      | succ kj12 =>
        have H := HA.out
        clear HA
        simp only [portcullislaw09_WordAlgebra.j0] at H
        by_cases c18 : x94_12 = true
        · subst c18
          have H1 : (some false) = some r := by rw [if_pos rfl] at H; exact H
          clear H
          have H := H1
          clear H1
          obtain rfl := Option.some.inj H
          go_wp2
          go_ret
          exact ⟨by first | rfl | (simp [errW_none, errW_some] <;> rfl) | (simp [*, errW_none, errW_some] <;> rfl), by repeat (first | (with_reducible first | exact HB.out | apply below_alloc | apply pw_below_drewN | apply below_drew1) | exact HB.out)⟩
        · replace c18 := Bool.eq_false_iff.mpr c18
          subst c18
          have H1 : ((word_Binary.f kj12 4 a0 a1).bind fun bt147 => ((word_Binary.f kj12 5 a0 a1).bind fun bt149 => (if a1 = 0 then (if bt147.2 = 1 then (if bt149.2 = 1 then (if bt147.1 = 0 then (some (bt149.1 == 0)) else (some false)) else (some false)) else (some false)) else ((word_Binary.f kj12 3 bt147.1 a1).bind fun bt151 => ((word_Binary.f kj12 1 bt151.1 bt149.1).bind fun bt153 => (if bt147.2 = 0 then (if bt149.2 = 0 then (some (bt153.1 == a0)) else (some false)) else (some false))))))) = some r := by rw [if_neg (show ¬ (false = true) by decide)] at H; exact H
          clear H
          have H := H1
          clear H1
          replace H := Option.bind_eq_some_iff.mp H
          obtain ⟨⟨t147, t148⟩, A190, H⟩ := H
          replace H : ((word_Binary.f kj12 5 a0 a1).bind fun bt149 => (if a1 = 0 then (if t148 = 1 then (if bt149.2 = 1 then (if t147 = 0 then (some (bt149.1 == 0)) else (some false)) else (some false)) else (some false)) else ((word_Binary.f kj12 3 t147 a1).bind fun bt151 => ((word_Binary.f kj12 1 bt151.1 bt149.1).bind fun bt153 => (if t148 = 0 then (if bt149.2 = 0 then (some (bt153.1 == a0)) else (some false)) else (some false)))))) = some r := H
          have A19 := Aside0.mk A190
          clear A190
          replace H := Option.bind_eq_some_iff.mp H
          obtain ⟨⟨t149, t150⟩, A200, H⟩ := H
          replace H : (if a1 = 0 then (if t148 = 1 then (if t150 = 1 then (if t147 = 0 then (some (t149 == 0)) else (some false)) else (some false)) else (some false)) else ((word_Binary.f kj12 3 t147 a1).bind fun bt151 => ((word_Binary.f kj12 1 bt151.1 t149).bind fun bt153 => (if t148 = 0 then (if t150 = 0 then (some (bt153.1 == a0)) else (some false)) else (some false))))) = some r := H
          have A20 := Aside0.mk A200
          clear A200
          by_cases c21 : a1 = 0
          · rw [if_pos c21] at H
            have c21b0 : (a1 == 0) = true := beq_iff_eq.mpr c21
            have c21b1 : (a1 != 0) = false := bne_eq_false_iff_eq.mpr c21
            clear c21
            by_cases c22 : t148 = 1
            · rw [if_pos c22] at H
              have c22b0 : (t148 == 1) = true := beq_iff_eq.mpr c22
              have c22b1 : (t148 != 1) = false := bne_eq_false_iff_eq.mpr c22
              clear c22
              by_cases c23 : t150 = 1
              · rw [if_pos c23] at H
                have c23b0 : (t150 == 1) = true := beq_iff_eq.mpr c23
                have c23b1 : (t150 != 1) = false := bne_eq_false_iff_eq.mpr c23
                clear c23
                by_cases c24 : t147 = 0
                · rw [if_pos c24] at H
                  have c24b0 : (t147 == 0) = true := beq_iff_eq.mpr c24
                  have c24b1 : (t147 != 0) = false := bne_eq_false_iff_eq.mpr c24
                  clear c24
                  obtain rfl := Option.some.inj H
                  go_wp2_with (first | ((with_reducible refine gate_callee (f := 25) rfl ?_); refine goesL_ (some 98) rfl rfl Try.func25 (by kernel_rfl) rfl #[.int .i64 4, .int .i64 a0, .int .i64 a1] rfl (by (try simp only [List.map_toArray, List.map_cons, List.map_nil]); first | done | rfl | (simp only [List.length_drop, List.length_take]; rfl)) ?_; (with_reducible refine (word_Binary.calls kj12 4 a0 a1 t147 t148 _ A19.out).mono ?_); rintro e w' ⟨rfl, ⟨nd, rfl⟩⟩; refine ⟨_, rfl, ?_⟩) | ((with_reducible refine gate_callee (f := 25) rfl ?_); refine goesL_ (some 104) rfl rfl Try.func25 (by kernel_rfl) rfl #[.int .i64 5, .int .i64 a0, .int .i64 a1] rfl (by (try simp only [List.map_toArray, List.map_cons, List.map_nil]); first | done | rfl | (simp only [List.length_drop, List.length_take]; rfl)) ?_; (with_reducible refine (word_Binary.calls kj12 5 a0 a1 t149 t150 _ A20.out).mono ?_); rintro e w' ⟨rfl, ⟨nd, rfl⟩⟩; refine ⟨_, rfl, ?_⟩))
                  go_ret
                  exact ⟨by first | rfl | (simp [errW_none, errW_some] <;> rfl) | (simp [*, errW_none, errW_some] <;> rfl), by repeat (first | (with_reducible first | exact HB.out | apply below_alloc | apply pw_below_drewN | apply below_drew1) | exact HB.out)⟩
                · rw [if_neg c24] at H
                  have c24b0 : (t147 == 0) = false := beq_eq_false_iff_ne.mpr c24
                  have c24b1 : (t147 != 0) = true := bne_iff_ne.mpr c24
                  obtain rfl := Option.some.inj H
                  go_wp2_with (first | ((with_reducible refine gate_callee (f := 25) rfl ?_); refine goesL_ (some 98) rfl rfl Try.func25 (by kernel_rfl) rfl #[.int .i64 4, .int .i64 a0, .int .i64 a1] rfl (by (try simp only [List.map_toArray, List.map_cons, List.map_nil]); first | done | rfl | (simp only [List.length_drop, List.length_take]; rfl)) ?_; (with_reducible refine (word_Binary.calls kj12 4 a0 a1 t147 t148 _ A19.out).mono ?_); rintro e w' ⟨rfl, ⟨nd, rfl⟩⟩; refine ⟨_, rfl, ?_⟩) | ((with_reducible refine gate_callee (f := 25) rfl ?_); refine goesL_ (some 104) rfl rfl Try.func25 (by kernel_rfl) rfl #[.int .i64 5, .int .i64 a0, .int .i64 a1] rfl (by (try simp only [List.map_toArray, List.map_cons, List.map_nil]); first | done | rfl | (simp only [List.length_drop, List.length_take]; rfl)) ?_; (with_reducible refine (word_Binary.calls kj12 5 a0 a1 t149 t150 _ A20.out).mono ?_); rintro e w' ⟨rfl, ⟨nd, rfl⟩⟩; refine ⟨_, rfl, ?_⟩))
                  go_ret
                  exact ⟨by first | rfl | (simp [errW_none, errW_some] <;> rfl) | (simp [*, errW_none, errW_some] <;> rfl), by repeat (first | (with_reducible first | exact HB.out | apply below_alloc | apply pw_below_drewN | apply below_drew1) | exact HB.out)⟩
              · rw [if_neg c23] at H
                have c23b0 : (t150 == 1) = false := beq_eq_false_iff_ne.mpr c23
                have c23b1 : (t150 != 1) = true := bne_iff_ne.mpr c23
                obtain rfl := Option.some.inj H
                go_wp2_with (first | ((with_reducible refine gate_callee (f := 25) rfl ?_); refine goesL_ (some 98) rfl rfl Try.func25 (by kernel_rfl) rfl #[.int .i64 4, .int .i64 a0, .int .i64 a1] rfl (by (try simp only [List.map_toArray, List.map_cons, List.map_nil]); first | done | rfl | (simp only [List.length_drop, List.length_take]; rfl)) ?_; (with_reducible refine (word_Binary.calls kj12 4 a0 a1 t147 t148 _ A19.out).mono ?_); rintro e w' ⟨rfl, ⟨nd, rfl⟩⟩; refine ⟨_, rfl, ?_⟩) | ((with_reducible refine gate_callee (f := 25) rfl ?_); refine goesL_ (some 104) rfl rfl Try.func25 (by kernel_rfl) rfl #[.int .i64 5, .int .i64 a0, .int .i64 a1] rfl (by (try simp only [List.map_toArray, List.map_cons, List.map_nil]); first | done | rfl | (simp only [List.length_drop, List.length_take]; rfl)) ?_; (with_reducible refine (word_Binary.calls kj12 5 a0 a1 t149 t150 _ A20.out).mono ?_); rintro e w' ⟨rfl, ⟨nd, rfl⟩⟩; refine ⟨_, rfl, ?_⟩))
                go_ret
                exact ⟨by first | rfl | (simp [errW_none, errW_some] <;> rfl) | (simp [*, errW_none, errW_some] <;> rfl), by repeat (first | (with_reducible first | exact HB.out | apply below_alloc | apply pw_below_drewN | apply below_drew1) | exact HB.out)⟩
            · rw [if_neg c22] at H
              have c22b0 : (t148 == 1) = false := beq_eq_false_iff_ne.mpr c22
              have c22b1 : (t148 != 1) = true := bne_iff_ne.mpr c22
              obtain rfl := Option.some.inj H
              go_wp2_with (first | ((with_reducible refine gate_callee (f := 25) rfl ?_); refine goesL_ (some 98) rfl rfl Try.func25 (by kernel_rfl) rfl #[.int .i64 4, .int .i64 a0, .int .i64 a1] rfl (by (try simp only [List.map_toArray, List.map_cons, List.map_nil]); first | done | rfl | (simp only [List.length_drop, List.length_take]; rfl)) ?_; (with_reducible refine (word_Binary.calls kj12 4 a0 a1 t147 t148 _ A19.out).mono ?_); rintro e w' ⟨rfl, ⟨nd, rfl⟩⟩; refine ⟨_, rfl, ?_⟩) | ((with_reducible refine gate_callee (f := 25) rfl ?_); refine goesL_ (some 104) rfl rfl Try.func25 (by kernel_rfl) rfl #[.int .i64 5, .int .i64 a0, .int .i64 a1] rfl (by (try simp only [List.map_toArray, List.map_cons, List.map_nil]); first | done | rfl | (simp only [List.length_drop, List.length_take]; rfl)) ?_; (with_reducible refine (word_Binary.calls kj12 5 a0 a1 t149 t150 _ A20.out).mono ?_); rintro e w' ⟨rfl, ⟨nd, rfl⟩⟩; refine ⟨_, rfl, ?_⟩))
              go_ret
              exact ⟨by first | rfl | (simp [errW_none, errW_some] <;> rfl) | (simp [*, errW_none, errW_some] <;> rfl), by repeat (first | (with_reducible first | exact HB.out | apply below_alloc | apply pw_below_drewN | apply below_drew1) | exact HB.out)⟩
          · rw [if_neg c21] at H
            have c21b0 : (a1 == 0) = false := beq_eq_false_iff_ne.mpr c21
            have c21b1 : (a1 != 0) = true := bne_iff_ne.mpr c21
            replace H := Option.bind_eq_some_iff.mp H
            obtain ⟨⟨t151, t152⟩, A250, H⟩ := H
            replace H : ((word_Binary.f kj12 1 t151 t149).bind fun bt153 => (if t148 = 0 then (if t150 = 0 then (some (bt153.1 == a0)) else (some false)) else (some false))) = some r := H
            have A25 := Aside0.mk A250
            clear A250
            replace H := Option.bind_eq_some_iff.mp H
            obtain ⟨⟨t153, t154⟩, A260, H⟩ := H
            replace H : (if t148 = 0 then (if t150 = 0 then (some (t153 == a0)) else (some false)) else (some false)) = some r := H
            have A26 := Aside0.mk A260
            clear A260
            by_cases c27 : t148 = 0
            · rw [if_pos c27] at H
              have c27b0 : (t148 == 0) = true := beq_iff_eq.mpr c27
              have c27b1 : (t148 != 0) = false := bne_eq_false_iff_eq.mpr c27
              clear c27
              by_cases c28 : t150 = 0
              · rw [if_pos c28] at H
                have c28b0 : (t150 == 0) = true := beq_iff_eq.mpr c28
                have c28b1 : (t150 != 0) = false := bne_eq_false_iff_eq.mpr c28
                clear c28
                obtain rfl := Option.some.inj H
                go_wp2_with (first | ((with_reducible refine gate_callee (f := 25) rfl ?_); refine goesL_ (some 98) rfl rfl Try.func25 (by kernel_rfl) rfl #[.int .i64 4, .int .i64 a0, .int .i64 a1] rfl (by (try simp only [List.map_toArray, List.map_cons, List.map_nil]); first | done | rfl | (simp only [List.length_drop, List.length_take]; rfl)) ?_; (with_reducible refine (word_Binary.calls kj12 4 a0 a1 t147 t148 _ A19.out).mono ?_); rintro e w' ⟨rfl, ⟨nd, rfl⟩⟩; refine ⟨_, rfl, ?_⟩) | ((with_reducible refine gate_callee (f := 25) rfl ?_); refine goesL_ (some 104) rfl rfl Try.func25 (by kernel_rfl) rfl #[.int .i64 5, .int .i64 a0, .int .i64 a1] rfl (by (try simp only [List.map_toArray, List.map_cons, List.map_nil]); first | done | rfl | (simp only [List.length_drop, List.length_take]; rfl)) ?_; (with_reducible refine (word_Binary.calls kj12 5 a0 a1 t149 t150 _ A20.out).mono ?_); rintro e w' ⟨rfl, ⟨nd, rfl⟩⟩; refine ⟨_, rfl, ?_⟩) | ((with_reducible refine gate_callee (f := 25) rfl ?_); refine goesL_ (some 126) rfl rfl Try.func25 (by kernel_rfl) rfl #[.int .i64 3, .int .i64 t147, .int .i64 a1] rfl (by (try simp only [List.map_toArray, List.map_cons, List.map_nil]); first | done | rfl | (simp only [List.length_drop, List.length_take]; rfl)) ?_; (with_reducible refine (word_Binary.calls kj12 3 t147 a1 t151 t152 _ A25.out).mono ?_); rintro e w' ⟨rfl, ⟨nd, rfl⟩⟩; refine ⟨_, rfl, ?_⟩) | ((with_reducible refine gate_callee (f := 25) rfl ?_); refine goesL_ (some 132) rfl rfl Try.func25 (by kernel_rfl) rfl #[.int .i64 1, .int .i64 t151, .int .i64 t149] rfl (by (try simp only [List.map_toArray, List.map_cons, List.map_nil]); first | done | rfl | (simp only [List.length_drop, List.length_take]; rfl)) ?_; (with_reducible refine (word_Binary.calls kj12 1 t151 t149 t153 t154 _ A26.out).mono ?_); rintro e w' ⟨rfl, ⟨nd, rfl⟩⟩; refine ⟨_, rfl, ?_⟩))
                go_ret
                exact ⟨by first | rfl | (simp [errW_none, errW_some] <;> rfl) | (simp [*, errW_none, errW_some] <;> rfl), by repeat (first | (with_reducible first | exact HB.out | apply below_alloc | apply pw_below_drewN | apply below_drew1) | exact HB.out)⟩
              · rw [if_neg c28] at H
                have c28b0 : (t150 == 0) = false := beq_eq_false_iff_ne.mpr c28
                have c28b1 : (t150 != 0) = true := bne_iff_ne.mpr c28
                obtain rfl := Option.some.inj H
                go_wp2_with (first | ((with_reducible refine gate_callee (f := 25) rfl ?_); refine goesL_ (some 98) rfl rfl Try.func25 (by kernel_rfl) rfl #[.int .i64 4, .int .i64 a0, .int .i64 a1] rfl (by (try simp only [List.map_toArray, List.map_cons, List.map_nil]); first | done | rfl | (simp only [List.length_drop, List.length_take]; rfl)) ?_; (with_reducible refine (word_Binary.calls kj12 4 a0 a1 t147 t148 _ A19.out).mono ?_); rintro e w' ⟨rfl, ⟨nd, rfl⟩⟩; refine ⟨_, rfl, ?_⟩) | ((with_reducible refine gate_callee (f := 25) rfl ?_); refine goesL_ (some 104) rfl rfl Try.func25 (by kernel_rfl) rfl #[.int .i64 5, .int .i64 a0, .int .i64 a1] rfl (by (try simp only [List.map_toArray, List.map_cons, List.map_nil]); first | done | rfl | (simp only [List.length_drop, List.length_take]; rfl)) ?_; (with_reducible refine (word_Binary.calls kj12 5 a0 a1 t149 t150 _ A20.out).mono ?_); rintro e w' ⟨rfl, ⟨nd, rfl⟩⟩; refine ⟨_, rfl, ?_⟩) | ((with_reducible refine gate_callee (f := 25) rfl ?_); refine goesL_ (some 126) rfl rfl Try.func25 (by kernel_rfl) rfl #[.int .i64 3, .int .i64 t147, .int .i64 a1] rfl (by (try simp only [List.map_toArray, List.map_cons, List.map_nil]); first | done | rfl | (simp only [List.length_drop, List.length_take]; rfl)) ?_; (with_reducible refine (word_Binary.calls kj12 3 t147 a1 t151 t152 _ A25.out).mono ?_); rintro e w' ⟨rfl, ⟨nd, rfl⟩⟩; refine ⟨_, rfl, ?_⟩) | ((with_reducible refine gate_callee (f := 25) rfl ?_); refine goesL_ (some 132) rfl rfl Try.func25 (by kernel_rfl) rfl #[.int .i64 1, .int .i64 t151, .int .i64 t149] rfl (by (try simp only [List.map_toArray, List.map_cons, List.map_nil]); first | done | rfl | (simp only [List.length_drop, List.length_take]; rfl)) ?_; (with_reducible refine (word_Binary.calls kj12 1 t151 t149 t153 t154 _ A26.out).mono ?_); rintro e w' ⟨rfl, ⟨nd, rfl⟩⟩; refine ⟨_, rfl, ?_⟩))
                go_ret
                exact ⟨by first | rfl | (simp [errW_none, errW_some] <;> rfl) | (simp [*, errW_none, errW_some] <;> rfl), by repeat (first | (with_reducible first | exact HB.out | apply below_alloc | apply pw_below_drewN | apply below_drew1) | exact HB.out)⟩
            · rw [if_neg c27] at H
              have c27b0 : (t148 == 0) = false := beq_eq_false_iff_ne.mpr c27
              have c27b1 : (t148 != 0) = true := bne_iff_ne.mpr c27
              obtain rfl := Option.some.inj H
              go_wp2_with (first | ((with_reducible refine gate_callee (f := 25) rfl ?_); refine goesL_ (some 98) rfl rfl Try.func25 (by kernel_rfl) rfl #[.int .i64 4, .int .i64 a0, .int .i64 a1] rfl (by (try simp only [List.map_toArray, List.map_cons, List.map_nil]); first | done | rfl | (simp only [List.length_drop, List.length_take]; rfl)) ?_; (with_reducible refine (word_Binary.calls kj12 4 a0 a1 t147 t148 _ A19.out).mono ?_); rintro e w' ⟨rfl, ⟨nd, rfl⟩⟩; refine ⟨_, rfl, ?_⟩) | ((with_reducible refine gate_callee (f := 25) rfl ?_); refine goesL_ (some 104) rfl rfl Try.func25 (by kernel_rfl) rfl #[.int .i64 5, .int .i64 a0, .int .i64 a1] rfl (by (try simp only [List.map_toArray, List.map_cons, List.map_nil]); first | done | rfl | (simp only [List.length_drop, List.length_take]; rfl)) ?_; (with_reducible refine (word_Binary.calls kj12 5 a0 a1 t149 t150 _ A20.out).mono ?_); rintro e w' ⟨rfl, ⟨nd, rfl⟩⟩; refine ⟨_, rfl, ?_⟩) | ((with_reducible refine gate_callee (f := 25) rfl ?_); refine goesL_ (some 126) rfl rfl Try.func25 (by kernel_rfl) rfl #[.int .i64 3, .int .i64 t147, .int .i64 a1] rfl (by (try simp only [List.map_toArray, List.map_cons, List.map_nil]); first | done | rfl | (simp only [List.length_drop, List.length_take]; rfl)) ?_; (with_reducible refine (word_Binary.calls kj12 3 t147 a1 t151 t152 _ A25.out).mono ?_); rintro e w' ⟨rfl, ⟨nd, rfl⟩⟩; refine ⟨_, rfl, ?_⟩) | ((with_reducible refine gate_callee (f := 25) rfl ?_); refine goesL_ (some 132) rfl rfl Try.func25 (by kernel_rfl) rfl #[.int .i64 1, .int .i64 t151, .int .i64 t149] rfl (by (try simp only [List.map_toArray, List.map_cons, List.map_nil]); first | done | rfl | (simp only [List.length_drop, List.length_take]; rfl)) ?_; (with_reducible refine (word_Binary.calls kj12 1 t151 t149 t153 t154 _ A26.out).mono ?_); rintro e w' ⟨rfl, ⟨nd, rfl⟩⟩; refine ⟨_, rfl, ?_⟩))
              go_ret
              exact ⟨by first | rfl | (simp [errW_none, errW_some] <;> rfl) | (simp [*, errW_none, errW_some] <;> rfl), by repeat (first | (with_reducible first | exact HB.out | apply below_alloc | apply pw_below_drewN | apply below_drew1) | exact HB.out)⟩
  · replace c4 := Bool.eq_false_iff.mpr c4
    subst c4
    have H1 : (some false) = some r := by rw [if_neg (show ¬ (false = true) by decide)] at H; exact H
    clear H
    have H := H1
    clear H1
    obtain rfl := Option.some.inj H
    go_enter Try.func8, Try.ntmps8
    go_wp2_with (first | ((with_reducible refine gate_callee (f := 24) rfl ?_); refine goesL_ (some 29) rfl rfl Try.func24 (by kernel_rfl) rfl #[] rfl (by (try simp only [List.map_toArray, List.map_cons, List.map_nil]); first | done | rfl | (simp only [List.length_drop, List.length_take]; rfl)) ?_; (with_reducible refine (portcullislaw09_alive.calls k  false _ A3.out).mono ?_); rintro e w29 ⟨rfl, hb⟩; refine ⟨_, rfl, ?_⟩; have n0_ := Aside0.mk (below_step (by repeat (first | (with_reducible first | exact HB.out | apply below_alloc | apply pw_below_drewN | apply below_drew1) | exact HB.out)) hb); clear HB; have HB := n0_; clear n0_; (try clear hb); (try clear hb2); (try clear hk); (try clear hi)))
    go_ret
    exact ⟨by first | rfl | (simp [errW_none, errW_some] <;> rfl) | (simp [*, errW_none, errW_some] <;> rfl), by repeat (first | (with_reducible first | exact HB.out | apply below_alloc | apply pw_below_drewN | apply below_drew1) | exact HB.out)⟩

/-- THE ONE PURE STATEMENT of portcullislaw09_WordAlgebra: yours. -/
def portcullislaw09_WordAlgebra.Pure : Prop := ∀ (a0 : Int) (a1 : Int), (Lit.int .i64 a0).wf = true → (Lit.int .i64 a1).wf = true → ∃ k, portcullislaw09_WordAlgebra.f k a0 a1 = some true
theorem portcullislaw09_WordAlgebra.walk (P : portcullislaw09_WordAlgebra.Pure) (a0 : Int) (a1 : Int) (w : World) (w0 : (Lit.int .i64 a0).wf = true) (w1 : (Lit.int .i64 a1).wf = true) :
    Calls Try.prog 8 #[.int .i64 a0, .int .i64 a1] w fun e w' => e = .returned (.bool true) ∧ Below w.heap.size w w' := by
  obtain ⟨k, h⟩ := P a0 a1 w0 w1
  refine (portcullislaw09_WordAlgebra.calls k a0 a1 true w h).mono ?_
  rintro e w' ⟨rfl, hd⟩
  exact ⟨rfl, hd⟩

end Go.Proofs.Ytiflghlhlkabdaa.PWordAlgebra
