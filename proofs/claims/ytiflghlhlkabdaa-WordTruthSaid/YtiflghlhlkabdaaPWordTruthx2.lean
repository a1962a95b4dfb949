-- PRINTED BY print.sh 35421559b90ae4d0a3588c463048766b98c2df88dd9212a6774a882060cdf62d: not written by this session
import Derived.Test.YtiflghlhlkabdaaPWordTruthx0
import Derived.Test.YtiflghlhlkabdaaPWordTruthx1
namespace Go.Proofs.Ytiflghlhlkabdaa.PWordTruth
open Go.RowKit Go.Proofs.YtiflghlhlkabdaaW.PrintWords Go.Proofs.YtiflghlhlkabdaaW.PrintLast Go.Proofs.YtiflghlhlkabdaaW.PrintMore
attribute [local go_sem] max2_int min2_int max_two min_two max_three min_three max_four min_four   -- for this text's walks alone
set_option linter.unusedVariables false
set_option linter.unusedSimpArgs false

/-! ### portcullislaw09_WordTruth: function 9 -/
def portcullislaw09_WordTruth.j0 : Nat → Int → Int → Bool → Option (Bool)
  | 0, _, _, _ => none
  | k + 1, x0, x1, x75 => if x75 = true then (some false) else ((word_Binary.f k 6 x0 x1).bind fun bt141 => ((word_Unary.f 2 x0).bind fun bt143 => ((word_Unary.f 2 x1).bind fun bt145 => ((word_Binary.f k 7 bt143.1 bt145.1).bind fun bt147 => ((word_Unary.f 2 bt141.1).bind fun bt149 => (if bt147.1 = bt149.1 then (if bt141.1 = 0 then (some true) else (some (bt141.1 == 1))) else (some false)))))))
def portcullislaw09_WordTruth.f (k : Nat) (a0 : Int) (a1 : Int) : Option (Bool) := (portcullislaw09_alive.f k).bind fun t130 => (if t130 = true then ((word_Binary.f k 8 a0 a1).bind fun bt131 => ((word_Binary.f k 8 a1 a0).bind fun bt133 => ((word_Binary.f k 10 a0 a1).bind fun bt135 => ((word_Binary.f k 11 a0 a1).bind fun bt137 => ((word_Binary.f k 9 a0 a1).bind fun bt139 => (if (wrap64 ((wrap64 (bt131.1 + bt133.1)) + bt135.1)) = 1 then (if bt137.1 = (wrap64 (1 - bt135.1)) then (portcullislaw09_WordTruth.j0 k a0 a1 (bt139.1 != (wrap64 (bt131.1 + bt135.1)))) else (portcullislaw09_WordTruth.j0 k a0 a1 true)) else (portcullislaw09_WordTruth.j0 k a0 a1 true))))))) else (some false))
theorem portcullislaw09_WordTruth.mono_l : ∀ k, (∀ y0 y1 y2, LeO (portcullislaw09_WordTruth.j0 k y0 y1 y2) (portcullislaw09_WordTruth.j0 (k + 1) y0 y1 y2))
  | 0 => fun _ _ _ r h => by simp [portcullislaw09_WordTruth.j0] at h
  | k + 1 => by
    have ih0 := portcullislaw09_WordTruth.mono_l k
    · intro y0 y1 y2
      unfold portcullislaw09_WordTruth.j0
      repeat' first
      | (with_reducible exact ih0 _ _ _)
      | (with_reducible exact portcullislaw09_alive.mono _)
      | (with_reducible exact word_Binary.mono _ _ _ _)
      | (with_reducible exact LeO.refl _)
      | (with_reducible exact LeO.none _)
      | (with_reducible refine LeO.ite ?_ ?_)
      | (with_reducible refine LeO.bind ?_ (fun _ => ?_))
      | exact ih0 _ _ _
      | exact portcullislaw09_alive.mono _
      | exact word_Binary.mono _ _ _ _
      | exact LeO.none _
      | refine LeO.ite ?_ ?_
      | refine LeO.bind ?_ (fun _ => ?_)
theorem portcullislaw09_WordTruth.mono : ∀ a0 a1 k, LeO (portcullislaw09_WordTruth.f k a0 a1) (portcullislaw09_WordTruth.f (k + 1) a0 a1) := by
  intro a0 a1 k
  have ih0 := portcullislaw09_WordTruth.mono_l k
  unfold portcullislaw09_WordTruth.f
  repeat' first
      | (with_reducible exact ih0 _ _ _)
      | (with_reducible exact portcullislaw09_alive.mono _)
      | (with_reducible exact word_Binary.mono _ _ _ _)
      | (with_reducible exact LeO.refl _)
      | (with_reducible exact LeO.none _)
      | (with_reducible refine LeO.ite ?_ ?_)
      | (with_reducible refine LeO.bind ?_ (fun _ => ?_))
      | exact ih0 _ _ _
      | exact portcullislaw09_alive.mono _
      | exact word_Binary.mono _ _ _ _
      | exact LeO.none _
      | refine LeO.ite ?_ ?_
      | refine LeO.bind ?_ (fun _ => ?_)
set_option maxHeartbeats 8000000 in
set_option maxRecDepth 100000 in
theorem portcullislaw09_WordTruth.calls (k : Nat) (a0 : Int) (a1 : Int) (r : Bool) (w : World) (h : portcullislaw09_WordTruth.f k a0 a1 = some r) :
    Calls Try.prog 9 #[.int .i64 a0, .int .i64 a1] w fun e w' => e = .returned (.bool r) ∧ Below w.heap.size w w' := by
  have HB := Aside0.mk (Below.refl w.heap.size w)
  have H : ((portcullislaw09_alive.f k).bind fun t130 => (if t130 = true then ((word_Binary.f k 8 a0 a1).bind fun bt131 => ((word_Binary.f k 8 a1 a0).bind fun bt133 => ((word_Binary.f k 10 a0 a1).bind fun bt135 => ((word_Binary.f k 11 a0 a1).bind fun bt137 => ((word_Binary.f k 9 a0 a1).bind fun bt139 => (if (wrap64 ((wrap64 (bt131.1 + bt133.1)) + bt135.1)) = 1 then (if bt137.1 = (wrap64 (1 - bt135.1)) then (portcullislaw09_WordTruth.j0 k a0 a1 (bt139.1 != (wrap64 (bt131.1 + bt135.1)))) else (portcullislaw09_WordTruth.j0 k a0 a1 true)) else (portcullislaw09_WordTruth.j0 k a0 a1 true))))))) else (some false))) = some r := h
  clear h
  replace H := Option.bind_eq_some_iff.mp H
  obtain ⟨t130, A30, H⟩ := H
  replace H : (if t130 = true then ((word_Binary.f k 8 a0 a1).bind fun bt131 => ((word_Binary.f k 8 a1 a0).bind fun bt133 => ((word_Binary.f k 10 a0 a1).bind fun bt135 => ((word_Binary.f k 11 a0 a1).bind fun bt137 => ((word_Binary.f k 9 a0 a1).bind fun bt139 => (if (wrap64 ((wrap64 (bt131.1 + bt133.1)) + bt135.1)) = 1 then (if bt137.1 = (wrap64 (1 - bt135.1)) then (portcullislaw09_WordTruth.j0 k a0 a1 (bt139.1 != (wrap64 (bt131.1 + bt135.1)))) else (portcullislaw09_WordTruth.j0 k a0 a1 true)) else (portcullislaw09_WordTruth.j0 k a0 a1 true))))))) else (some false)) = some r := H
  have A3 := Aside0.mk A30
  clear A30
  by_cases c4 : t130 = true
  · subst c4
    have H1 : ((word_Binary.f k 8 a0 a1).bind fun bt131 => ((word_Binary.f k 8 a1 a0).bind fun bt133 => ((word_Binary.f k 10 a0 a1).bind fun bt135 => ((word_Binary.f k 11 a0 a1).bind fun bt137 => ((word_Binary.f k 9 a0 a1).bind fun bt139 => (if (wrap64 ((wrap64 (bt131.1 + bt133.1)) + bt135.1)) = 1 then (if bt137.1 = (wrap64 (1 - bt135.1)) then (portcullislaw09_WordTruth.j0 k a0 a1 (bt139.1 != (wrap64 (bt131.1 + bt135.1)))) else (portcullislaw09_WordTruth.j0 k a0 a1 true)) else (portcullislaw09_WordTruth.j0 k a0 a1 true))))))) = some r := by rw [if_pos rfl] at H; exact H
    clear H
    have H := H1
    clear H1
    replace H := Option.bind_eq_some_iff.mp H
    obtain ⟨⟨t131, t132⟩, A50, H⟩ := H
    replace H : ((word_Binary.f k 8 a1 a0).bind fun bt133 => ((word_Binary.f k 10 a0 a1).bind fun bt135 => ((word_Binary.f k 11 a0 a1).bind fun bt137 => ((word_Binary.f k 9 a0 a1).bind fun bt139 => (if (wrap64 ((wrap64 (t131 + bt133.1)) + bt135.1)) = 1 then (if bt137.1 = (wrap64 (1 - bt135.1)) then (portcullislaw09_WordTruth.j0 k a0 a1 (bt139.1 != (wrap64 (t131 + bt135.1)))) else (portcullislaw09_WordTruth.j0 k a0 a1 true)) else (portcullislaw09_WordTruth.j0 k a0 a1 true)))))) = some r := H
    have A5 := Aside0.mk A50
    clear A50
    replace H := Option.bind_eq_some_iff.mp H
    obtain ⟨⟨t133, t134⟩, A60, H⟩ := H
    replace H : ((word_Binary.f k 10 a0 a1).bind fun bt135 => ((word_Binary.f k 11 a0 a1).bind fun bt137 => ((word_Binary.f k 9 a0 a1).bind fun bt139 => (if (wrap64 ((wrap64 (t131 + t133)) + bt135.1)) = 1 then (if bt137.1 = (wrap64 (1 - bt135.1)) then (portcullislaw09_WordTruth.j0 k a0 a1 (bt139.1 != (wrap64 (t131 + bt135.1)))) else (portcullislaw09_WordTruth.j0 k a0 a1 true)) else (portcullislaw09_WordTruth.j0 k a0 a1 true))))) = some r := H
    have A6 := Aside0.mk A60
    clear A60
    replace H := Option.bind_eq_some_iff.mp H
    obtain ⟨⟨t135, t136⟩, A70, H⟩ := H
    replace H : ((word_Binary.f k 11 a0 a1).bind fun bt137 => ((word_Binary.f k 9 a0 a1).bind fun bt139 => (if (wrap64 ((wrap64 (t131 + t133)) + t135)) = 1 then (if bt137.1 = (wrap64 (1 - t135)) then (portcullislaw09_WordTruth.j0 k a0 a1 (bt139.1 != (wrap64 (t131 + t135)))) else (portcullislaw09_WordTruth.j0 k a0 a1 true)) else (portcullislaw09_WordTruth.j0 k a0 a1 true)))) = some r := H
    have A7 := Aside0.mk A70
    clear A70
    replace H := Option.bind_eq_some_iff.mp H
    obtain ⟨⟨t137, t138⟩, A80, H⟩ := H
    replace H : ((word_Binary.f k 9 a0 a1).bind fun bt139 => (if (wrap64 ((wrap64 (t131 + t133)) + t135)) = 1 then (if t137 = (wrap64 (1 - t135)) then (portcullislaw09_WordTruth.j0 k a0 a1 (bt139.1 != (wrap64 (t131 + t135)))) else (portcullislaw09_WordTruth.j0 k a0 a1 true)) else (portcullislaw09_WordTruth.j0 k a0 a1 true))) = some r := H
    have A8 := Aside0.mk A80
    clear A80
    replace H := Option.bind_eq_some_iff.mp H
    obtain ⟨⟨t139, t140⟩, A90, H⟩ := H
    replace H : (if (wrap64 ((wrap64 (t131 + t133)) + t135)) = 1 then (if t137 = (wrap64 (1 - t135)) then (portcullislaw09_WordTruth.j0 k a0 a1 (t139 != (wrap64 (t131 + t135)))) else (portcullislaw09_WordTruth.j0 k a0 a1 true)) else (portcullislaw09_WordTruth.j0 k a0 a1 true)) = some r := H
    have A9 := Aside0.mk A90
    clear A90
    have HC10 := Aside0.mk H
    clear H
    go_enter Try.func9, Try.ntmps9
    go_upto_region 8 with (first | ((with_reducible refine gate_callee (f := 24) rfl ?_); refine goesL_ (some 25) rfl rfl Try.func24 (by kernel_rfl) rfl #[] rfl (by (try simp only [List.map_toArray, List.map_cons, List.map_nil]); first | done | rfl | (simp only [List.length_drop, List.length_take]; rfl)) ?_; (with_reducible refine (portcullislaw09_alive.calls k  true _ A3.out).mono ?_); rintro e w11 ⟨rfl, hb⟩; refine ⟨_, rfl, ?_⟩; have n0_ := Aside0.mk (below_step (by repeat (first | (with_reducible first | exact HB.out | apply below_alloc | apply pw_below_drewN | apply below_drew1) | exact HB.out)) hb); clear HB; have HB := n0_; clear n0_; (try clear hb); (try clear hb2); (try clear hk); (try clear hi)) | ((with_reducible refine gate_callee (f := 25) rfl ?_); refine goesL_ (some 30) rfl rfl Try.func25 (by kernel_rfl) rfl #[.int .i64 8, .int .i64 a0, .int .i64 a1] rfl (by (try simp only [List.map_toArray, List.map_cons, List.map_nil]); first | done | rfl | (simp only [List.length_drop, List.length_take]; rfl)) ?_; (with_reducible refine (word_Binary.calls k 8 a0 a1 t131 t132 _ A5.out).mono ?_); rintro e w' ⟨rfl, ⟨nd, rfl⟩⟩; refine ⟨_, rfl, ?_⟩) | ((with_reducible refine gate_callee (f := 25) rfl ?_); refine goesL_ (some 36) rfl rfl Try.func25 (by kernel_rfl) rfl #[.int .i64 8, .int .i64 a1, .int .i64 a0] rfl (by (try simp only [List.map_toArray, List.map_cons, List.map_nil]); first | done | rfl | (simp only [List.length_drop, List.length_take]; rfl)) ?_; (with_reducible refine (word_Binary.calls k 8 a1 a0 t133 t134 _ A6.out).mono ?_); rintro e w' ⟨rfl, ⟨nd, rfl⟩⟩; refine ⟨_, rfl, ?_⟩) | ((with_reducible refine gate_callee (f := 25) rfl ?_); refine goesL_ (some 42) rfl rfl Try.func25 (by kernel_rfl) rfl #[.int .i64 10, .int .i64 a0, .int .i64 a1] rfl (by (try simp only [List.map_toArray, List.map_cons, List.map_nil]); first | done | rfl | (simp only [List.length_drop, List.length_take]; rfl)) ?_; (with_reducible refine (word_Binary.calls k 10 a0 a1 t135 t136 _ A7.out).mono ?_); rintro e w' ⟨rfl, ⟨nd, rfl⟩⟩; refine ⟨_, rfl, ?_⟩) | ((with_reducible refine gate_callee (f := 25) rfl ?_); refine goesL_ (some 48) rfl rfl Try.func25 (by kernel_rfl) rfl #[.int .i64 11, .int .i64 a0, .int .i64 a1] rfl (by (try simp only [List.map_toArray, List.map_cons, List.map_nil]); first | done | rfl | (simp only [List.length_drop, List.length_take]; rfl)) ?_; (with_reducible refine (word_Binary.calls k 11 a0 a1 t137 t138 _ A8.out).mono ?_); rintro e w' ⟨rfl, ⟨nd, rfl⟩⟩; refine ⟨_, rfl, ?_⟩) | ((with_reducible refine gate_callee (f := 25) rfl ?_); refine goesL_ (some 54) rfl rfl Try.func25 (by kernel_rfl) rfl #[.int .i64 9, .int .i64 a0, .int .i64 a1] rfl (by (try simp only [List.map_toArray, List.map_cons, List.map_nil]); first | done | rfl | (simp only [List.length_drop, List.length_take]; rfl)) ?_; (with_reducible refine (word_Binary.calls k 9 a0 a1 t139 t140 _ A9.out).mono ?_); rintro e w' ⟨rfl, ⟨nd, rfl⟩⟩; refine ⟨_, rfl, ?_⟩))
    (try simp only [Act.put, List.setIfInBounds_toArray, List.set_cons_zero, List.set_cons_succ])
    go_cut [75] (fun v75 wc => ∃ (kq : Nat) (x75_9 : Bool), v75 = .bool x75_9 ∧ Aside0 (portcullislaw09_WordTruth.j0 kq a0 a1 x75_9 = some r) ∧ Aside0 (kq ≤ k) ∧ Aside0 (Below w.heap.size w wc))
    case first =>
      have H := HC10.out
      clear HC10
      by_cases c12 : (wrap64 ((wrap64 (t131 + t133)) + t135)) = 1
      · rw [if_pos c12] at H
        have c12b0 : ((wrap64 ((wrap64 (t131 + t133)) + t135)) == 1) = true := beq_iff_eq.mpr c12
        have c12b1 : ((wrap64 ((wrap64 (t131 + t133)) + t135)) != 1) = false := bne_eq_false_iff_eq.mpr c12
        clear c12
        (first | rw [c12b0] | (simp only [i64_w, i32_w]; rw [c12b0]) | skip)
        by_cases c13 : t137 = (wrap64 (1 - t135))
        · rw [if_pos c13] at H
          have c13b0 : (t137 == (wrap64 (1 - t135))) = true := beq_iff_eq.mpr c13
          have c13b1 : (t137 != (wrap64 (1 - t135))) = false := bne_eq_false_iff_eq.mpr c13
          clear c13
          have H' := Aside0.mk H
          clear H
          go_wp2
          go_meet
          case rel => exact ⟨_, ((t139 != (wrap64 (t131 + t135)))), (by first | rfl | (simp; done) | (simp [*]; done)), H', ⟨by first | omega | exact Nat.le_refl _⟩, ⟨by repeat (first | (with_reducible first | exact HB.out | apply below_alloc | apply pw_below_drewN | apply below_drew1) | exact HB.out)⟩⟩
        · rw [if_neg c13] at H
          have c13b0 : (t137 == (wrap64 (1 - t135))) = false := beq_eq_false_iff_ne.mpr c13
          have c13b1 : (t137 != (wrap64 (1 - t135))) = true := bne_iff_ne.mpr c13
          have H' := Aside0.mk H
          clear H
          go_wp2
          go_meet
          case rel => exact ⟨_, (true), (by first | rfl | (simp; done) | (simp [*]; done)), H', ⟨by first | omega | exact Nat.le_refl _⟩, ⟨by repeat (first | (with_reducible first | exact HB.out | apply below_alloc | apply pw_below_drewN | apply below_drew1) | exact HB.out)⟩⟩
      · rw [if_neg c12] at H
        have c12b0 : ((wrap64 ((wrap64 (t131 + t133)) + t135)) == 1) = false := beq_eq_false_iff_ne.mpr c12
        have c12b1 : ((wrap64 ((wrap64 (t131 + t133)) + t135)) != 1) = true := bne_iff_ne.mpr c12
        (first | rw [c12b0] | (simp only [i64_w, i32_w]; rw [c12b0]) | skip)
        have H' := Aside0.mk H
        clear H
        go_wp2
        go_meet
        case rel => exact ⟨_, (true), (by first | rfl | (simp; done) | (simp [*]; done)), H', ⟨by first | omega | exact Nat.le_refl _⟩, ⟨by repeat (first | (with_reducible first | exact HB.out | apply below_alloc | apply pw_below_drewN | apply below_drew1) | exact HB.out)⟩⟩
    case rest =>
      clear HC10
      try clear c1
      try clear c2
      try clear p2
      try clear c4
      try clear p6
      try clear c9
      try clear c12
      try clear c12b0
      try clear c12b1
      try clear c13
      try clear c13b0
      try clear c13b1
      obtain ⟨kq, x75_9, rfl, HA, HJ9, HB⟩ := hcut
      cases kq with
      | zero => exact absurd HA.out (by simp [portcullislaw09_WordTruth.j0])
      | succ kj9 =>
        have H := HA.out
        clear HA
        simp only [portcullislaw09_WordTruth.j0] at H
        by_cases c14 : x75_9 = true
        · subst c14
          have H1 : (some false) = some r := by rw [if_pos rfl] at H; exact H
          clear H
          have H := H1
          clear H1
          obtain rfl := Option.some.inj H
          go_wp2
          go_ret
          exact ⟨by first | rfl | (simp [errW_none, errW_some] <;> rfl) | (simp [*, errW_none, errW_some] <;> rfl), by repeat (first | (with_reducible first | exact HB.out | apply below_alloc | apply pw_below_drewN | apply below_drew1) | exact HB.out)⟩
        · replace c14 := Bool.eq_false_iff.mpr c14
          subst c14
          have H1 : ((word_Binary.f kj9 6 a0 a1).bind fun bt141 => ((word_Unary.f 2 a0).bind fun bt143 => ((word_Unary.f 2 a1).bind fun bt145 => ((word_Binary.f kj9 7 bt143.1 bt145.1).bind fun bt147 => ((word_Unary.f 2 bt141.1).bind fun bt149 => (if bt147.1 = bt149.1 then (if bt141.1 = 0 then (some true) else (some (bt141.1 == 1))) else (some false))))))) = some r := by rw [if_neg (show ¬ (false = true) by decide)] at H; exact H
          clear H
          have H := H1
          clear H1
          replace H := Option.bind_eq_some_iff.mp H
          obtain ⟨⟨t141, t142⟩, A150, H⟩ := H
          replace H : ((word_Unary.f 2 a0).bind fun bt143 => ((word_Unary.f 2 a1).bind fun bt145 => ((word_Binary.f kj9 7 bt143.1 bt145.1).bind fun bt147 => ((word_Unary.f 2 t141).bind fun bt149 => (if bt147.1 = bt149.1 then (if t141 = 0 then (some true) else (some (t141 == 1))) else (some false)))))) = some r := H
          have A15 := Aside0.mk A150
          clear A150
          replace H := Option.bind_eq_some_iff.mp H
          obtain ⟨⟨t143, t144⟩, A160, H⟩ := H
          replace H : ((word_Unary.f 2 a1).bind fun bt145 => ((word_Binary.f kj9 7 t143 bt145.1).bind fun bt147 => ((word_Unary.f 2 t141).bind fun bt149 => (if bt147.1 = bt149.1 then (if t141 = 0 then (some true) else (some (t141 == 1))) else (some false))))) = some r := H
          have A16 := Aside0.mk A160
          clear A160
          replace H := Option.bind_eq_some_iff.mp H
          obtain ⟨⟨t145, t146⟩, A170, H⟩ := H
          replace H : ((word_Binary.f kj9 7 t143 t145).bind fun bt147 => ((word_Unary.f 2 t141).bind fun bt149 => (if bt147.1 = bt149.1 then (if t141 = 0 then (some true) else (some (t141 == 1))) else (some false)))) = some r := H
          have A17 := Aside0.mk A170
          clear A170
          replace H := Option.bind_eq_some_iff.mp H
          obtain ⟨⟨t147, t148⟩, A180, H⟩ := H
          replace H : ((word_Unary.f 2 t141).bind fun bt149 => (if t147 = bt149.1 then (if t141 = 0 then (some true) else (some (t141 == 1))) else (some false))) = some r := H
          have A18 := Aside0.mk A180
          clear A180
          replace H := Option.bind_eq_some_iff.mp H
          obtain ⟨⟨t149, t150⟩, A190, H⟩ := H
          replace H : (if t147 = t149 then (if t141 = 0 then (some true) else (some (t141 == 1))) else (some false)) = some r := H
          have A19 := Aside0.mk A190
          clear A190
          by_cases c20 : t147 = t149
          · rw [if_pos c20] at H
            have c20b0 : (t147 == t149) = true := beq_iff_eq.mpr c20
            have c20b1 : (t147 != t149) = false := bne_eq_false_iff_eq.mpr c20
            clear c20
            by_cases c21 : t141 = 0
            · rw [if_pos c21] at H
              have c21b0 : (t141 == 0) = true := beq_iff_eq.mpr c21
              have c21b1 : (t141 != 0) = false := bne_eq_false_iff_eq.mpr c21
              clear c21
              obtain rfl := Option.some.inj H
              go_wp2_with (first | ((with_reducible refine gate_callee (f := 25) rfl ?_); refine goesL_ (some 79) rfl rfl Try.func25 (by kernel_rfl) rfl #[.int .i64 6, .int .i64 a0, .int .i64 a1] rfl (by (try simp only [List.map_toArray, List.map_cons, List.map_nil]); first | done | rfl | (simp only [List.length_drop, List.length_take]; rfl)) ?_; (with_reducible refine (word_Binary.calls kj9 6 a0 a1 t141 t142 _ A15.out).mono ?_); rintro e w' ⟨rfl, ⟨nd, rfl⟩⟩; refine ⟨_, rfl, ?_⟩) | ((with_reducible refine gate_callee (f := 27) rfl ?_); refine goesL_ (some 84) rfl rfl Try.func27 (by kernel_rfl) rfl #[.int .i64 2, .int .i64 a0] rfl (by (try simp only [List.map_toArray, List.map_cons, List.map_nil]); first | done | rfl | (simp only [List.length_drop, List.length_take]; rfl)) ?_; (with_reducible refine (word_Unary.calls 2 a0 t143 t144 _ A16.out).mono ?_); rintro e w' ⟨rfl, ⟨nd, rfl⟩⟩; refine ⟨_, rfl, ?_⟩) | ((with_reducible refine gate_callee (f := 27) rfl ?_); refine goesL_ (some 89) rfl rfl Try.func27 (by kernel_rfl) rfl #[.int .i64 2, .int .i64 a1] rfl (by (try simp only [List.map_toArray, List.map_cons, List.map_nil]); first | done | rfl | (simp only [List.length_drop, List.length_take]; rfl)) ?_; (with_reducible refine (word_Unary.calls 2 a1 t145 t146 _ A17.out).mono ?_); rintro e w' ⟨rfl, ⟨nd, rfl⟩⟩; refine ⟨_, rfl, ?_⟩) | ((with_reducible refine gate_callee (f := 25) rfl ?_); refine goesL_ (some 95) rfl rfl Try.func25 (by kernel_rfl) rfl #[.int .i64 7, .int .i64 t143, .int .i64 t145] rfl (by (try simp only [List.map_toArray, List.map_cons, List.map_nil]); first | done | rfl | (simp only [List.length_drop, List.length_take]; rfl)) ?_; (with_reducible refine (word_Binary.calls kj9 7 t143 t145 t147 t148 _ A18.out).mono ?_); rintro e w' ⟨rfl, ⟨nd, rfl⟩⟩; refine ⟨_, rfl, ?_⟩) | ((with_reducible refine gate_callee (f := 27) rfl ?_); refine goesL_ (some 100) rfl rfl Try.func27 (by kernel_rfl) rfl #[.int .i64 2, .int .i64 t141] rfl (by (try simp only [List.map_toArray, List.map_cons, List.map_nil]); first | done | rfl | (simp only [List.length_drop, List.length_take]; rfl)) ?_; (with_reducible refine (word_Unary.calls 2 t141 t149 t150 _ A19.out).mono ?_); rintro e w' ⟨rfl, ⟨nd, rfl⟩⟩; refine ⟨_, rfl, ?_⟩))
              go_ret
              exact ⟨by first | rfl | (simp [errW_none, errW_some] <;> rfl) | (simp [*, errW_none, errW_some] <;> rfl), by repeat (first | (with_reducible first | exact HB.out | apply below_alloc | apply pw_below_drewN | apply below_drew1) | exact HB.out)⟩
            · rw [if_neg c21] at H
              have c21b0 : (t141 == 0) = false := beq_eq_false_iff_ne.mpr c21
              have c21b1 : (t141 != 0) = true := bne_iff_ne.mpr c21
              obtain rfl := Option.some.inj H
              go_wp2_with (first | ((with_reducible refine gate_callee (f := 25) rfl ?_); refine goesL_ (some 79) rfl rfl Try.func25 (by kernel_rfl) rfl #[.int .i64 6, .int .i64 a0, .int .i64 a1] rfl (by (try simp only [List.map_toArray, List.map_cons, List.map_nil]); first | done | rfl | (simp only [List.length_drop, List.length_take]; rfl)) ?_; (with_reducible refine (word_Binary.calls kj9 6 a0 a1 t141 t142 _ A15.out).mono ?_); rintro e w' ⟨rfl, ⟨nd, rfl⟩⟩; refine ⟨_, rfl, ?_⟩) | ((with_reducible refine gate_callee (f := 27) rfl ?_); refine goesL_ (some 84) rfl rfl Try.func27 (by kernel_rfl) rfl #[.int .i64 2, .int .i64 a0] rfl (by (try simp only [List.map_toArray, List.map_cons, List.map_nil]); first | done | rfl | (simp only [List.length_drop, List.length_take]; rfl)) ?_; (with_reducible refine (word_Unary.calls 2 a0 t143 t144 _ A16.out).mono ?_); rintro e w' ⟨rfl, ⟨nd, rfl⟩⟩; refine ⟨_, rfl, ?_⟩) | ((with_reducible refine gate_callee (f := 27) rfl ?_); refine goesL_ (some 89) rfl rfl Try.func27 (by kernel_rfl) rfl #[.int .i64 2, .int .i64 a1] rfl (by (try simp only [List.map_toArray, List.map_cons, List.map_nil]); first | done | rfl | (simp only [List.length_drop, List.length_take]; rfl)) ?_; (with_reducible refine (word_Unary.calls 2 a1 t145 t146 _ A17.out).mono ?_); rintro e w' ⟨rfl, ⟨nd, rfl⟩⟩; refine ⟨_, rfl, ?_⟩) | ((with_reducible refine gate_callee (f := 25) rfl ?_); refine goesL_ (some 95) rfl rfl Try.func25 (by kernel_rfl) rfl #[.int .i64 7, .int .i64 t143, .int .i64 t145] rfl (by (try simp only [List.map_toArray, List.map_cons, List.map_nil]); first | done | rfl | (simp only [List.length_drop, List.length_take]; rfl)) ?_; (with_reducible refine (word_Binary.calls kj9 7 t143 t145 t147 t148 _ A18.out).mono ?_); rintro e w' ⟨rfl, ⟨nd, rfl⟩⟩; refine ⟨_, rfl, ?_⟩) | ((with_reducible refine gate_callee (f := 27) rfl ?_); refine goesL_ (some 100) rfl rfl Try.func27 (by kernel_rfl) rfl #[.int .i64 2, .int .i64 t141] rfl (by (try simp only [List.map_toArray, List.map_cons, List.map_nil]); first | done | rfl | (simp only [List.length_drop, List.length_take]; rfl)) ?_; (with_reducible refine (word_Unary.calls 2 t141 t149 t150 _ A19.out).mono ?_); rintro e w' ⟨rfl, ⟨nd, rfl⟩⟩; refine ⟨_, rfl, ?_⟩))
              go_ret
              exact ⟨by first | rfl | (simp [errW_none, errW_some] <;> rfl) | (simp [*, errW_none, errW_some] <;> rfl), by repeat (first | (with_reducible first | exact HB.out | apply below_alloc | apply pw_below_drewN | apply below_drew1) | exact HB.out)⟩
          · rw [if_neg c20] at H
            have c20b0 : (t147 == t149) = false := beq_eq_false_iff_ne.mpr c20
            have c20b1 : (t147 != t149) = true := bne_iff_ne.mpr c20
            obtain rfl := Option.some.inj H
            go_wp2_with (first | ((with_reducible refine gate_callee (f := 25) rfl ?_); refine goesL_ (some 79) rfl rfl Try.func25 (by kernel_rfl) rfl #[.int .i64 6, .int .i64 a0, .int .i64 a1] rfl (by (try simp only [List.map_toArray, List.map_cons, List.map_nil]); first | done | rfl | (simp only [List.length_drop, List.length_take]; rfl)) ?_; (with_reducible refine (word_Binary.calls kj9 6 a0 a1 t141 t142 _ A15.out).mono ?_); rintro e w' ⟨rfl, ⟨nd, rfl⟩⟩; refine ⟨_, rfl, ?_⟩) | ((with_reducible refine gate_callee (f := 27) rfl ?_); refine goesL_ (some 84) rfl rfl Try.func27 (by kernel_rfl) rfl #[.int .i64 2, .int .i64 a0] rfl (by (try simp only [List.map_toArray, List.map_cons, List.map_nil]); first | done | rfl | (simp only [List.length_drop, List.length_take]; rfl)) ?_; (with_reducible refine (word_Unary.calls 2 a0 t143 t144 _ A16.out).mono ?_); rintro e w' ⟨rfl, ⟨nd, rfl⟩⟩; refine ⟨_, rfl, ?_⟩) | ((with_reducible refine gate_callee (f := 27) rfl ?_); refine goesL_ (some 89) rfl rfl Try.func27 (by kernel_rfl) rfl #[.int .i64 2, .int .i64 a1] rfl (by (try simp only [List.map_toArray, List.map_cons, List.map_nil]); first | done | rfl | (simp only [List.length_drop, List.length_take]; rfl)) ?_; (with_reducible refine (word_Unary.calls 2 a1 t145 t146 _ A17.out).mono ?_); rintro e w' ⟨rfl, ⟨nd, rfl⟩⟩; refine ⟨_, rfl, ?_⟩) | ((with_reducible refine gate_callee (f := 25) rfl ?_); refine goesL_ (some 95) rfl rfl Try.func25 (by kernel_rfl) rfl #[.int .i64 7, .int .i64 t143, .int .i64 t145] rfl (by (try simp only [List.map_toArray, List.map_cons, List.map_nil]); first | done | rfl | (simp only [List.length_drop, List.length_take]; rfl)) ?_; (with_reducible refine (word_Binary.calls kj9 7 t143 t145 t147 t148 _ A18.out).mono ?_); rintro e w' ⟨rfl, ⟨nd, rfl⟩⟩; refine ⟨_, rfl, ?_⟩) | ((with_reducible refine gate_callee (f := 27) rfl ?_); refine goesL_ (some 100) rfl rfl Try.func27 (by kernel_rfl) rfl #[.int .i64 2, .int .i64 t141] rfl (by (try simp only [List.map_toArray, List.map_cons, List.map_nil]); first | done | rfl | (simp only [List.length_drop, List.length_take]; rfl)) ?_; (with_reducible refine (word_Unary.calls 2 t141 t149 t150 _ A19.out).mono ?_); rintro e w' ⟨rfl, ⟨nd, rfl⟩⟩; refine ⟨_, rfl, ?_⟩))
            go_ret
            exact ⟨by first | rfl | (simp [errW_none, errW_some] <;> rfl) | (simp [*, errW_none, errW_some] <;> rfl), by repeat (first | (with_reducible first | exact HB.out | apply below_alloc | apply pw_below_drewN | apply below_drew1) | exact HB.out)⟩
  · replace c4 := Bool.eq_false_iff.mpr c4
    subst c4
    have H1 : (some false) = some r := by rw [if_neg (show ¬ (false = true) by decide)] at H; exact H
    clear H
    have H := H1
    clear H1
    obtain rfl := Option.some.inj H
    go_enter Try.func9, Try.ntmps9
    go_wp2_with (first | ((with_reducible refine gate_callee (f := 24) rfl ?_); refine goesL_ (some 25) rfl rfl Try.func24 (by kernel_rfl) rfl #[] rfl (by (try simp only [List.map_toArray, List.map_cons, List.map_nil]); first | done | rfl | (simp only [List.length_drop, List.length_take]; rfl)) ?_; (with_reducible refine (portcullislaw09_alive.calls k  false _ A3.out).mono ?_); rintro e w22 ⟨rfl, hb⟩; refine ⟨_, rfl, ?_⟩; have n0_ := Aside0.mk (below_step (by repeat (first | (with_reducible first | exact HB.out | apply below_alloc | apply pw_below_drewN | apply below_drew1) | exact HB.out)) hb); clear HB; have HB := n0_; clear n0_; (try clear hb); (try clear hb2); (try clear hk); (try clear hi)))
    go_ret
    exact ⟨by first | rfl | (simp [errW_none, errW_some] <;> rfl) | (simp [*, errW_none, errW_some] <;> rfl), by repeat (first | (with_reducible first | exact HB.out | apply below_alloc | apply pw_below_drewN | apply below_drew1) | exact HB.out)⟩

/-- THE ONE PURE STATEMENT of portcullislaw09_WordTruth: yours. -/
def portcullislaw09_WordTruth.Pure : Prop := ∀ (a0 : Int) (a1 : Int), (Lit.int .i64 a0).wf = true → (Lit.int .i64 a1).wf = true → ∃ k, portcullislaw09_WordTruth.f k a0 a1 = some true
theorem portcullislaw09_WordTruth.walk (P : portcullislaw09_WordTruth.Pure) (a0 : Int) (a1 : Int) (w : World) (w0 : (Lit.int .i64 a0).wf = true) (w1 : (Lit.int .i64 a1).wf = true) :
    Calls Try.prog 9 #[.int .i64 a0, .int .i64 a1] w fun e w' => e = .returned (.bool true) ∧ Below w.heap.size w w' := by
  obtain ⟨k, h⟩ := P a0 a1 w0 w1
  refine (portcullislaw09_WordTruth.calls k a0 a1 true w h).mono ?_
  rintro e w' ⟨rfl, hd⟩
  exact ⟨rfl, hd⟩

end Go.Proofs.Ytiflghlhlkabdaa.PWordTruth
