-- PRINTED BY print.sh 35421559b90ae4d0a3588c463048766b98c2df88dd9212a6774a882060cdf62d: not written by this session
import Derived.Test.YtiflghlhlkabdaaPWordRowsx0
import Derived.Test.YtiflghlhlkabdaaPWordRowsx1
namespace Go.Proofs.Ytiflghlhlkabdaa.PWordRows
open Go.RowKit Go.Proofs.YtiflghlhlkabdaaW.PrintWords Go.Proofs.YtiflghlhlkabdaaW.PrintLast Go.Proofs.YtiflghlhlkabdaaW.PrintMore
attribute [local go_sem] max2_int min2_int max_two min_two max_three min_three max_four min_four   -- for this text's walks alone
set_option linter.unusedVariables false
set_option linter.unusedSimpArgs false

/-! ### portcullislaw09_WordRows: function 10 -/
def portcullislaw09_WordRows.j0 : Nat → Int → Int → Int → Bool → Option (Bool)
  | 0, _, _, _, _ => none
  | k + 1, x0, x1, x2, x58 => if x58 = true then (some false) else ((word_Binary.f k 1 x0 x1).bind fun bt137 => ((word_Binary.f k 1 bt137.1 x2).bind fun bt139 => ((word_Binary.f k 1 x1 x2).bind fun bt141 => ((word_Binary.f k 1 x0 bt141.1).bind fun bt143 => ((word_Binary.f k 3 x0 bt141.1).bind fun bt145 => ((word_Binary.f k 3 x0 x1).bind fun bt147 => ((word_Binary.f k 3 x0 x2).bind fun bt149 => ((word_Binary.f k 1 bt147.1 bt149.1).bind fun bt151 => (if bt139.1 = bt143.1 then (some (bt145.1 == bt151.1)) else (some false))))))))))
def portcullislaw09_WordRows.f (k : Nat) (a0 : Int) (a1 : Int) (a2 : Int) : Option (Bool) := (portcullislaw09_alive.f k).bind fun t130 => (if t130 = true then ((word_Binary.f k 8 a0 a1).bind fun bt131 => ((word_Binary.f k 8 a1 a2).bind fun bt133 => ((word_Binary.f k 8 a0 a2).bind fun bt135 => (if bt131.1 = 1 then (if bt133.1 = 1 then (portcullislaw09_WordRows.j0 k a0 a1 a2 (bt135.1 != 1)) else (portcullislaw09_WordRows.j0 k a0 a1 a2 false)) else (portcullislaw09_WordRows.j0 k a0 a1 a2 false))))) else (some false))
theorem portcullislaw09_WordRows.mono_l : ∀ k, (∀ y0 y1 y2 y3, LeO (portcullislaw09_WordRows.j0 k y0 y1 y2 y3) (portcullislaw09_WordRows.j0 (k + 1) y0 y1 y2 y3))
  | 0 => fun _ _ _ _ r h => by simp [portcullislaw09_WordRows.j0] at h
  | k + 1 => by
    have ih0 := portcullislaw09_WordRows.mono_l k
    · intro y0 y1 y2 y3
      unfold portcullislaw09_WordRows.j0
      repeat' first
      | (with_reducible exact ih0 _ _ _ _)
      | (with_reducible exact portcullislaw09_alive.mono _)
      | (with_reducible exact word_Binary.mono _ _ _ _)
      | (with_reducible exact LeO.refl _)
      | (with_reducible exact LeO.none _)
      | (with_reducible refine LeO.ite ?_ ?_)
      | (with_reducible refine LeO.bind ?_ (fun _ => ?_))
      | exact ih0 _ _ _ _
      | exact portcullislaw09_alive.mono _
      | exact word_Binary.mono _ _ _ _
      | exact LeO.none _
      | refine LeO.ite ?_ ?_
      | refine LeO.bind ?_ (fun _ => ?_)
theorem portcullislaw09_WordRows.mono : ∀ a0 a1 a2 k, LeO (portcullislaw09_WordRows.f k a0 a1 a2) (portcullislaw09_WordRows.f (k + 1) a0 a1 a2) := by
  intro a0 a1 a2 k
  have ih0 := portcullislaw09_WordRows.mono_l k
  unfold portcullislaw09_WordRows.f
  repeat' first
      | (with_reducible exact ih0 _ _ _ _)
      | (with_reducible exact portcullislaw09_alive.mono _)
      | (with_reducible exact word_Binary.mono _ _ _ _)
      | (with_reducible exact LeO.refl _)
      | (with_reducible exact LeO.none _)
      | (with_reducible refine LeO.ite ?_ ?_)
      | (with_reducible refine LeO.bind ?_ (fun _ => ?_))
      | exact ih0 _ _ _ _
      | exact portcullislaw09_alive.mono _
      | exact word_Binary.mono _ _ _ _
      | exact LeO.none _
      | refine LeO.ite ?_ ?_
      | refine LeO.bind ?_ (fun _ => ?_)
set_option maxHeartbeats 8000000 in
set_option maxRecDepth 100000 in
theorem portcullislaw09_WordRows.calls (k : Nat) (a0 : Int) (a1 : Int) (a2 : Int) (r : Bool) (w : World) (h : portcullislaw09_WordRows.f k a0 a1 a2 = some r) :
    Calls Try.prog 10 #[.int .i64 a0, .int .i64 a1, .int .i64 a2] w fun e w' => e = .returned (.bool r) ∧ Below w.heap.size w w' := by
  have HB := Aside0.mk (Below.refl w.heap.size w)
  have H : ((portcullislaw09_alive.f k).bind fun t130 => (if t130 = true then ((word_Binary.f k 8 a0 a1).bind fun bt131 => ((word_Binary.f k 8 a1 a2).bind fun bt133 => ((word_Binary.f k 8 a0 a2).bind fun bt135 => (if bt131.1 = 1 then (if bt133.1 = 1 then (portcullislaw09_WordRows.j0 k a0 a1 a2 (bt135.1 != 1)) else (portcullislaw09_WordRows.j0 k a0 a1 a2 false)) else (portcullislaw09_WordRows.j0 k a0 a1 a2 false))))) else (some false))) = some r := h
  clear h
  replace H := Option.bind_eq_some_iff.mp H
  obtain ⟨t130, A40, H⟩ := H
  replace H : (if t130 = true then ((word_Binary.f k 8 a0 a1).bind fun bt131 => ((word_Binary.f k 8 a1 a2).bind fun bt133 => ((word_Binary.f k 8 a0 a2).bind fun bt135 => (if bt131.1 = 1 then (if bt133.1 = 1 then (portcullislaw09_WordRows.j0 k a0 a1 a2 (bt135.1 != 1)) else (portcullislaw09_WordRows.j0 k a0 a1 a2 false)) else (portcullislaw09_WordRows.j0 k a0 a1 a2 false))))) else (some false)) = some r := H
  have A4 := Aside0.mk A40
  clear A40
  by_cases c5 : t130 = true
  · subst c5
    have H1 : ((word_Binary.f k 8 a0 a1).bind fun bt131 => ((word_Binary.f k 8 a1 a2).bind fun bt133 => ((word_Binary.f k 8 a0 a2).bind fun bt135 => (if bt131.1 = 1 then (if bt133.1 = 1 then (portcullislaw09_WordRows.j0 k a0 a1 a2 (bt135.1 != 1)) else (portcullislaw09_WordRows.j0 k a0 a1 a2 false)) else (portcullislaw09_WordRows.j0 k a0 a1 a2 false))))) = some r := by rw [if_pos rfl] at H; exact H
    clear H
    have H := H1
    clear H1
    replace H := Option.bind_eq_some_iff.mp H
    obtain ⟨⟨t131, t132⟩, A60, H⟩ := H
    replace H : ((word_Binary.f k 8 a1 a2).bind fun bt133 => ((word_Binary.f k 8 a0 a2).bind fun bt135 => (if t131 = 1 then (if bt133.1 = 1 then (portcullislaw09_WordRows.j0 k a0 a1 a2 (bt135.1 != 1)) else (portcullislaw09_WordRows.j0 k a0 a1 a2 false)) else (portcullislaw09_WordRows.j0 k a0 a1 a2 false)))) = some r := H
    have A6 := Aside0.mk A60
    clear A60
    replace H := Option.bind_eq_some_iff.mp H
    obtain ⟨⟨t133, t134⟩, A70, H⟩ := H
    replace H : ((word_Binary.f k 8 a0 a2).bind fun bt135 => (if t131 = 1 then (if t133 = 1 then (portcullislaw09_WordRows.j0 k a0 a1 a2 (bt135.1 != 1)) else (portcullislaw09_WordRows.j0 k a0 a1 a2 false)) else (portcullislaw09_WordRows.j0 k a0 a1 a2 false))) = some r := H
    have A7 := Aside0.mk A70
    clear A70
    replace H := Option.bind_eq_some_iff.mp H
    obtain ⟨⟨t135, t136⟩, A80, H⟩ := H
    replace H : (if t131 = 1 then (if t133 = 1 then (portcullislaw09_WordRows.j0 k a0 a1 a2 (t135 != 1)) else (portcullislaw09_WordRows.j0 k a0 a1 a2 false)) else (portcullislaw09_WordRows.j0 k a0 a1 a2 false)) = some r := H
    have A8 := Aside0.mk A80
    clear A80
    have HC9 := Aside0.mk H
    clear H
    go_enter Try.func10, Try.ntmps10
    go_upto_region 6 with (first | ((with_reducible refine gate_callee (f := 24) rfl ?_); refine goesL_ (some 29) rfl rfl Try.func24 (by kernel_rfl) rfl #[] rfl (by (try simp only [List.map_toArray, List.map_cons, List.map_nil]); first | done | rfl | (simp only [List.length_drop, List.length_take]; rfl)) ?_; (with_reducible refine (portcullislaw09_alive.calls k  true _ A4.out).mono ?_); rintro e w10 ⟨rfl, hb⟩; refine ⟨_, rfl, ?_⟩; have n0_ := Aside0.mk (below_step (by repeat (first | (with_reducible first | exact HB.out | apply below_alloc | apply pw_below_drewN | apply below_drew1) | exact HB.out)) hb); clear HB; have HB := n0_; clear n0_; (try clear hb); (try clear hb2); (try clear hk); (try clear hi)) | ((with_reducible refine gate_callee (f := 25) rfl ?_); refine goesL_ (some 34) rfl rfl Try.func25 (by kernel_rfl) rfl #[.int .i64 8, .int .i64 a0, .int .i64 a1] rfl (by (try simp only [List.map_toArray, List.map_cons, List.map_nil]); first | done | rfl | (simp only [List.length_drop, List.length_take]; rfl)) ?_; (with_reducible refine (word_Binary.calls k 8 a0 a1 t131 t132 _ A6.out).mono ?_); rintro e w' ⟨rfl, ⟨nd, rfl⟩⟩; refine ⟨_, rfl, ?_⟩) | ((with_reducible refine gate_callee (f := 25) rfl ?_); refine goesL_ (some 40) rfl rfl Try.func25 (by kernel_rfl) rfl #[.int .i64 8, .int .i64 a1, .int .i64 a2] rfl (by (try simp only [List.map_toArray, List.map_cons, List.map_nil]); first | done | rfl | (simp only [List.length_drop, List.length_take]; rfl)) ?_; (with_reducible refine (word_Binary.calls k 8 a1 a2 t133 t134 _ A7.out).mono ?_); rintro e w' ⟨rfl, ⟨nd, rfl⟩⟩; refine ⟨_, rfl, ?_⟩) | ((with_reducible refine gate_callee (f := 25) rfl ?_); refine goesL_ (some 46) rfl rfl Try.func25 (by kernel_rfl) rfl #[.int .i64 8, .int .i64 a0, .int .i64 a2] rfl (by (try simp only [List.map_toArray, List.map_cons, List.map_nil]); first | done | rfl | (simp only [List.length_drop, List.length_take]; rfl)) ?_; (with_reducible refine (word_Binary.calls k 8 a0 a2 t135 t136 _ A8.out).mono ?_); rintro e w' ⟨rfl, ⟨nd, rfl⟩⟩; refine ⟨_, rfl, ?_⟩))
    (try simp only [Act.put, List.setIfInBounds_toArray, List.set_cons_zero, List.set_cons_succ])
    go_cut [58] (fun v58 wc => ∃ (kq : Nat) (x58_8 : Bool), v58 = .bool x58_8 ∧ Aside0 (portcullislaw09_WordRows.j0 kq a0 a1 a2 x58_8 = some r) ∧ Aside0 (kq ≤ k) ∧ Aside0 (Below w.heap.size w wc))
    case first =>
      have H := HC9.out
      clear HC9
      by_cases c11 : t131 = 1
      · rw [if_pos c11] at H
        have c11b0 : (t131 == 1) = true := beq_iff_eq.mpr c11
        have c11b1 : (t131 != 1) = false := bne_eq_false_iff_eq.mpr c11
        clear c11
        (first | rw [c11b0] | (simp only [i64_w, i32_w]; rw [c11b0]) | skip)
        by_cases c12 : t133 = 1
        · rw [if_pos c12] at H
          have c12b0 : (t133 == 1) = true := beq_iff_eq.mpr c12
          have c12b1 : (t133 != 1) = false := bne_eq_false_iff_eq.mpr c12
          clear c12
          have H' := Aside0.mk H
          clear H
          go_wp2
          go_meet
          case rel => exact ⟨_, ((t135 != 1)), (by first | rfl | (simp; done) | (simp [*]; done)), H', ⟨by first | omega | exact Nat.le_refl _⟩, ⟨by repeat (first | (with_reducible first | exact HB.out | apply below_alloc | apply pw_below_drewN | apply below_drew1) | exact HB.out)⟩⟩
        · rw [if_neg c12] at H
          have c12b0 : (t133 == 1) = false := beq_eq_false_iff_ne.mpr c12
          have c12b1 : (t133 != 1) = true := bne_iff_ne.mpr c12
          have H' := Aside0.mk H
          clear H
          go_wp2
          go_meet
          case rel => exact ⟨_, (false), (by first | rfl | (simp; done) | (simp [*]; done)), H', ⟨by first | omega | exact Nat.le_refl _⟩, ⟨by repeat (first | (with_reducible first | exact HB.out | apply below_alloc | apply pw_below_drewN | apply below_drew1) | exact HB.out)⟩⟩
      · rw [if_neg c11] at H
        have c11b0 : (t131 == 1) = false := beq_eq_false_iff_ne.mpr c11
        have c11b1 : (t131 != 1) = true := bne_iff_ne.mpr c11
        (first | rw [c11b0] | (simp only [i64_w, i32_w]; rw [c11b0]) | skip)
        have H' := Aside0.mk H
        clear H
        go_wp2
        go_meet
        case rel => exact ⟨_, (false), (by first | rfl | (simp; done) | (simp [*]; done)), H', ⟨by first | omega | exact Nat.le_refl _⟩, ⟨by repeat (first | (with_reducible first | exact HB.out | apply below_alloc | apply pw_below_drewN | apply below_drew1) | exact HB.out)⟩⟩
    case rest =>
      clear HC9
      try clear c1
      try clear c2
      try clear p2
      try clear c5
      try clear c10
      try clear c11
      try clear c11b0
      try clear c11b1
      try clear c12
      try clear c12b0
      try clear c12b1
      obtain ⟨kq, x58_8, rfl, HA, HJ8, HB⟩ := hcut
      cases kq with
      | zero => exact absurd HA.out (by simp [portcullislaw09_WordRows.j0])
      | succ kj8 =>
        have H := HA.out
        clear HA
        simp only [portcullislaw09_WordRows.j0] at H
        by_cases c13 : x58_8 = true
        · subst c13
          have H1 : (some false) = some r := by rw [if_pos rfl] at H; exact H
          clear H
          have H := H1
          clear H1
          obtain rfl := Option.some.inj H
          go_wp2
          go_ret
          exact ⟨by first | rfl | (simp [errW_none, errW_some] <;> rfl) | (simp [*, errW_none, errW_some] <;> rfl), by repeat (first | (with_reducible first | exact HB.out | apply below_alloc | apply pw_below_drewN | apply below_drew1) | exact HB.out)⟩
        · replace c13 := Bool.eq_false_iff.mpr c13
          subst c13
          have H1 : ((word_Binary.f kj8 1 a0 a1).bind fun bt137 => ((word_Binary.f kj8 1 bt137.1 a2).bind fun bt139 => ((word_Binary.f kj8 1 a1 a2).bind fun bt141 => ((word_Binary.f kj8 1 a0 bt141.1).bind fun bt143 => ((word_Binary.f kj8 3 a0 bt141.1).bind fun bt145 => ((word_Binary.f kj8 3 a0 a1).bind fun bt147 => ((word_Binary.f kj8 3 a0 a2).bind fun bt149 => ((word_Binary.f kj8 1 bt147.1 bt149.1).bind fun bt151 => (if bt139.1 = bt143.1 then (some (bt145.1 == bt151.1)) else (some false)))))))))) = some r := by rw [if_neg (show ¬ (false = true) by decide)] at H; exact H
          clear H
          have H := H1
          clear H1
          replace H := Option.bind_eq_some_iff.mp H
          obtain ⟨⟨t137, t138⟩, A140, H⟩ := H
          replace H : ((word_Binary.f kj8 1 t137 a2).bind fun bt139 => ((word_Binary.f kj8 1 a1 a2).bind fun bt141 => ((word_Binary.f kj8 1 a0 bt141.1).bind fun bt143 => ((word_Binary.f kj8 3 a0 bt141.1).bind fun bt145 => ((word_Binary.f kj8 3 a0 a1).bind fun bt147 => ((word_Binary.f kj8 3 a0 a2).bind fun bt149 => ((word_Binary.f kj8 1 bt147.1 bt149.1).bind fun bt151 => (if bt139.1 = bt143.1 then (some (bt145.1 == bt151.1)) else (some false))))))))) = some r := H
          have A14 := Aside0.mk A140
          clear A140
          replace H := Option.bind_eq_some_iff.mp H
          obtain ⟨⟨t139, t140⟩, A150, H⟩ := H
          replace H : ((word_Binary.f kj8 1 a1 a2).bind fun bt141 => ((word_Binary.f kj8 1 a0 bt141.1).bind fun bt143 => ((word_Binary.f kj8 3 a0 bt141.1).bind fun bt145 => ((word_Binary.f kj8 3 a0 a1).bind fun bt147 => ((word_Binary.f kj8 3 a0 a2).bind fun bt149 => ((word_Binary.f kj8 1 bt147.1 bt149.1).bind fun bt151 => (if t139 = bt143.1 then (some (bt145.1 == bt151.1)) else (some false)))))))) = some r := H
          have A15 := Aside0.mk A150
          clear A150
          replace H := Option.bind_eq_some_iff.mp H
          obtain ⟨⟨t141, t142⟩, A160, H⟩ := H
          replace H : ((word_Binary.f kj8 1 a0 t141).bind fun bt143 => ((word_Binary.f kj8 3 a0 t141).bind fun bt145 => ((word_Binary.f kj8 3 a0 a1).bind fun bt147 => ((word_Binary.f kj8 3 a0 a2).bind fun bt149 => ((word_Binary.f kj8 1 bt147.1 bt149.1).bind fun bt151 => (if t139 = bt143.1 then (some (bt145.1 == bt151.1)) else (some false))))))) = some r := H
          have A16 := Aside0.mk A160
          clear A160
          replace H := Option.bind_eq_some_iff.mp H
          obtain ⟨⟨t143, t144⟩, A170, H⟩ := H
          replace H : ((word_Binary.f kj8 3 a0 t141).bind fun bt145 => ((word_Binary.f kj8 3 a0 a1).bind fun bt147 => ((word_Binary.f kj8 3 a0 a2).bind fun bt149 => ((word_Binary.f kj8 1 bt147.1 bt149.1).bind fun bt151 => (if t139 = t143 then (some (bt145.1 == bt151.1)) else (some false)))))) = some r := H
          have A17 := Aside0.mk A170
          clear A170
          replace H := Option.bind_eq_some_iff.mp H
          obtain ⟨⟨t145, t146⟩, A180, H⟩ := H
          replace H : ((word_Binary.f kj8 3 a0 a1).bind fun bt147 => ((word_Binary.f kj8 3 a0 a2).bind fun bt149 => ((word_Binary.f kj8 1 bt147.1 bt149.1).bind fun bt151 => (if t139 = t143 then (some (t145 == bt151.1)) else (some false))))) = some r := H
          have A18 := Aside0.mk A180
          clear A180
          replace H := Option.bind_eq_some_iff.mp H
          obtain ⟨⟨t147, t148⟩, A190, H⟩ := H
          replace H : ((word_Binary.f kj8 3 a0 a2).bind fun bt149 => ((word_Binary.f kj8 1 t147 bt149.1).bind fun bt151 => (if t139 = t143 then (some (t145 == bt151.1)) else (some false)))) = some r := H
          have A19 := Aside0.mk A190
          clear A190
          replace H := Option.bind_eq_some_iff.mp H
          obtain ⟨⟨t149, t150⟩, A200, H⟩ := H
          replace H : ((word_Binary.f kj8 1 t147 t149).bind fun bt151 => (if t139 = t143 then (some (t145 == bt151.1)) else (some false))) = some r := H
          have A20 := Aside0.mk A200
          clear A200
          replace H := Option.bind_eq_some_iff.mp H
          obtain ⟨⟨t151, t152⟩, A210, H⟩ := H
          replace H : (if t139 = t143 then (some (t145 == t151)) else (some false)) = some r := H
          have A21 := Aside0.mk A210
          clear A210
          by_cases c22 : t139 = t143
          · rw [if_pos c22] at H
            have c22b0 : (t139 == t143) = true := beq_iff_eq.mpr c22
            have c22b1 : (t139 != t143) = false := bne_eq_false_iff_eq.mpr c22
            clear c22
            obtain rfl := Option.some.inj H
            go_wp2_with (first | ((with_reducible refine gate_callee (f := 25) rfl ?_); refine goesL_ (some 62) rfl rfl Try.func25 (by kernel_rfl) rfl #[.int .i64 1, .int .i64 a0, .int .i64 a1] rfl (by (try simp only [List.map_toArray, List.map_cons, List.map_nil]); first | done | rfl | (simp only [List.length_drop, List.length_take]; rfl)) ?_; (with_reducible refine (word_Binary.calls kj8 1 a0 a1 t137 t138 _ A14.out).mono ?_); rintro e w' ⟨rfl, ⟨nd, rfl⟩⟩; refine ⟨_, rfl, ?_⟩) | ((with_reducible refine gate_callee (f := 25) rfl ?_); refine goesL_ (some 68) rfl rfl Try.func25 (by kernel_rfl) rfl #[.int .i64 1, .int .i64 t137, .int .i64 a2] rfl (by (try simp only [List.map_toArray, List.map_cons, List.map_nil]); first | done | rfl | (simp only [List.length_drop, List.length_take]; rfl)) ?_; (with_reducible refine (word_Binary.calls kj8 1 t137 a2 t139 t140 _ A15.out).mono ?_); rintro e w' ⟨rfl, ⟨nd, rfl⟩⟩; refine ⟨_, rfl, ?_⟩) | ((with_reducible refine gate_callee (f := 25) rfl ?_); refine goesL_ (some 74) rfl rfl Try.func25 (by kernel_rfl) rfl #[.int .i64 1, .int .i64 a1, .int .i64 a2] rfl (by (try simp only [List.map_toArray, List.map_cons, List.map_nil]); first | done | rfl | (simp only [List.length_drop, List.length_take]; rfl)) ?_; (with_reducible refine (word_Binary.calls kj8 1 a1 a2 t141 t142 _ A16.out).mono ?_); rintro e w' ⟨rfl, ⟨nd, rfl⟩⟩; refine ⟨_, rfl, ?_⟩) | ((with_reducible refine gate_callee (f := 25) rfl ?_); refine goesL_ (some 80) rfl rfl Try.func25 (by kernel_rfl) rfl #[.int .i64 1, .int .i64 a0, .int .i64 t141] rfl (by (try simp only [List.map_toArray, List.map_cons, List.map_nil]); first | done | rfl | (simp only [List.length_drop, List.length_take]; rfl)) ?_; (with_reducible refine (word_Binary.calls kj8 1 a0 t141 t143 t144 _ A17.out).mono ?_); rintro e w' ⟨rfl, ⟨nd, rfl⟩⟩; refine ⟨_, rfl, ?_⟩) | ((with_reducible refine gate_callee (f := 25) rfl ?_); refine goesL_ (some 86) rfl rfl Try.func25 (by kernel_rfl) rfl #[.int .i64 3, .int .i64 a0, .int .i64 t141] rfl (by (try simp only [List.map_toArray, List.map_cons, List.map_nil]); first | done | rfl | (simp only [List.length_drop, List.length_take]; rfl)) ?_; (with_reducible refine (word_Binary.calls kj8 3 a0 t141 t145 t146 _ A18.out).mono ?_); rintro e w' ⟨rfl, ⟨nd, rfl⟩⟩; refine ⟨_, rfl, ?_⟩) | ((with_reducible refine gate_callee (f := 25) rfl ?_); refine goesL_ (some 92) rfl rfl Try.func25 (by kernel_rfl) rfl #[.int .i64 3, .int .i64 a0, .int .i64 a1] rfl (by (try simp only [List.map_toArray, List.map_cons, List.map_nil]); first | done | rfl | (simp only [List.length_drop, List.length_take]; rfl)) ?_; (with_reducible refine (word_Binary.calls kj8 3 a0 a1 t147 t148 _ A19.out).mono ?_); rintro e w' ⟨rfl, ⟨nd, rfl⟩⟩; refine ⟨_, rfl, ?_⟩) | ((with_reducible refine gate_callee (f := 25) rfl ?_); refine goesL_ (some 98) rfl rfl Try.func25 (by kernel_rfl) rfl #[.int .i64 3, .int .i64 a0, .int .i64 a2] rfl (by (try simp only [List.map_toArray, List.map_cons, List.map_nil]); first | done | rfl | (simp only [List.length_drop, List.length_take]; rfl)) ?_; (with_reducible refine (word_Binary.calls kj8 3 a0 a2 t149 t150 _ A20.out).mono ?_); rintro e w' ⟨rfl, ⟨nd, rfl⟩⟩; refine ⟨_, rfl, ?_⟩) | ((with_reducible refine gate_callee (f := 25) rfl ?_); refine goesL_ (some 104) rfl rfl Try.func25 (by kernel_rfl) rfl #[.int .i64 1, .int .i64 t147, .int .i64 t149] rfl (by (try simp only [List.map_toArray, List.map_cons, List.map_nil]); first | done | rfl | (simp only [List.length_drop, List.length_take]; rfl)) ?_; (with_reducible refine (word_Binary.calls kj8 1 t147 t149 t151 t152 _ A21.out).mono ?_); rintro e w' ⟨rfl, ⟨nd, rfl⟩⟩; refine ⟨_, rfl, ?_⟩))
            go_ret
            exact ⟨by first | rfl | (simp [errW_none, errW_some] <;> rfl) | (simp [*, errW_none, errW_some] <;> rfl), by repeat (first | (with_reducible first | exact HB.out | apply below_alloc | apply pw_below_drewN | apply below_drew1) | exact HB.out)⟩
          · rw [if_neg c22] at H
            have c22b0 : (t139 == t143) = false := beq_eq_false_iff_ne.mpr c22
            have c22b1 : (t139 != t143) = true := bne_iff_ne.mpr c22
            obtain rfl := Option.some.inj H
            go_wp2_with (first | ((with_reducible refine gate_callee (f := 25) rfl ?_); refine goesL_ (some 62) rfl rfl Try.func25 (by kernel_rfl) rfl #[.int .i64 1, .int .i64 a0, .int .i64 a1] rfl (by (try simp only [List.map_toArray, List.map_cons, List.map_nil]); first | done | rfl | (simp only [List.length_drop, List.length_take]; rfl)) ?_; (with_reducible refine (word_Binary.calls kj8 1 a0 a1 t137 t138 _ A14.out).mono ?_); rintro e w' ⟨rfl, ⟨nd, rfl⟩⟩; refine ⟨_, rfl, ?_⟩) | ((with_reducible refine gate_callee (f := 25) rfl ?_); refine goesL_ (some 68) rfl rfl Try.func25 (by kernel_rfl) rfl #[.int .i64 1, .int .i64 t137, .int .i64 a2] rfl (by (try simp only [List.map_toArray, List.map_cons, List.map_nil]); first | done | rfl | (simp only [List.length_drop, List.length_take]; rfl)) ?_; (with_reducible refine (word_Binary.calls kj8 1 t137 a2 t139 t140 _ A15.out).mono ?_); rintro e w' ⟨rfl, ⟨nd, rfl⟩⟩; refine ⟨_, rfl, ?_⟩) | ((with_reducible refine gate_callee (f := 25) rfl ?_); refine goesL_ (some 74) rfl rfl Try.func25 (by kernel_rfl) rfl #[.int .i64 1, .int .i64 a1, .int .i64 a2] rfl (by (try simp only [List.map_toArray, List.map_cons, List.map_nil]); first | done | rfl | (simp only [List.length_drop, List.length_take]; rfl)) ?_; (with_reducible refine (word_Binary.calls kj8 1 a1 a2 t141 t142 _ A16.out).mono ?_); rintro e w' ⟨rfl, ⟨nd, rfl⟩⟩; refine ⟨_, rfl, ?_⟩) | ((with_reducible refine gate_callee (f := 25) rfl ?_); refine goesL_ (some 80) rfl rfl Try.func25 (by kernel_rfl) rfl #[.int .i64 1, .int .i64 a0, .int .i64 t141] rfl (by (try simp only [List.map_toArray, List.map_cons, List.map_nil]); first | done | rfl | (simp only [List.length_drop, List.length_take]; rfl)) ?_; (with_reducible refine (word_Binary.calls kj8 1 a0 t141 t143 t144 _ A17.out).mono ?_); rintro e w' ⟨rfl, ⟨nd, rfl⟩⟩; refine ⟨_, rfl, ?_⟩) | ((with_reducible refine gate_callee (f := 25) rfl ?_); refine goesL_ (some 86) rfl rfl Try.func25 (by kernel_rfl) rfl #[.int .i64 3, .int .i64 a0, .int .i64 t141] rfl (by (try simp only [List.map_toArray, List.map_cons, List.map_nil]); first | done | rfl | (simp only [List.length_drop, List.length_take]; rfl)) ?_; (with_reducible refine (word_Binary.calls kj8 3 a0 t141 t145 t146 _ A18.out).mono ?_); rintro e w' ⟨rfl, ⟨nd, rfl⟩⟩; refine ⟨_, rfl, ?_⟩) | ((with_reducible refine gate_callee (f := 25) rfl ?_); refine goesL_ (some 92) rfl rfl Try.func25 (by kernel_rfl) rfl #[.int .i64 3, .int .i64 a0, .int .i64 a1] rfl (by (try simp only [List.map_toArray, List.map_cons, List.map_nil]); first | done | rfl | (simp only [List.length_drop, List.length_take]; rfl)) ?_; (with_reducible refine (word_Binary.calls kj8 3 a0 a1 t147 t148 _ A19.out).mono ?_); rintro e w' ⟨rfl, ⟨nd, rfl⟩⟩; refine ⟨_, rfl, ?_⟩) | ((with_reducible refine gate_callee (f := 25) rfl ?_); refine goesL_ (some 98) rfl rfl Try.func25 (by kernel_rfl) rfl #[.int .i64 3, .int .i64 a0, .int .i64 a2] rfl (by (try simp only [List.map_toArray, List.map_cons, List.map_nil]); first | done | rfl | (simp only [List.length_drop, List.length_take]; rfl)) ?_; (with_reducible refine (word_Binary.calls kj8 3 a0 a2 t149 t150 _ A20.out).mono ?_); rintro e w' ⟨rfl, ⟨nd, rfl⟩⟩; refine ⟨_, rfl, ?_⟩) | ((with_reducible refine gate_callee (f := 25) rfl ?_); refine goesL_ (some 104) rfl rfl Try.func25 (by kernel_rfl) rfl #[.int .i64 1, .int .i64 t147, .int .i64 t149] rfl (by (try simp only [List.map_toArray, List.map_cons, List.map_nil]); first | done | rfl | (simp only [List.length_drop, List.length_take]; rfl)) ?_; (with_reducible refine (word_Binary.calls kj8 1 t147 t149 t151 t152 _ A21.out).mono ?_); rintro e w' ⟨rfl, ⟨nd, rfl⟩⟩; refine ⟨_, rfl, ?_⟩))
            go_ret
            exact ⟨by first | rfl | (simp [errW_none, errW_some] <;> rfl) | (simp [*, errW_none, errW_some] <;> rfl), by repeat (first | (with_reducible first | exact HB.out | apply below_alloc | apply pw_below_drewN | apply below_drew1) | exact HB.out)⟩
  · replace c5 := Bool.eq_false_iff.mpr c5
    subst c5
    have H1 : (some false) = some r := by rw [if_neg (show ¬ (false = true) by decide)] at H; exact H
    clear H
    have H := H1
    clear H1
    obtain rfl := Option.some.inj H
    go_enter Try.func10, Try.ntmps10
    go_wp2_with (first | ((with_reducible refine gate_callee (f := 24) rfl ?_); refine goesL_ (some 29) rfl rfl Try.func24 (by kernel_rfl) rfl #[] rfl (by (try simp only [List.map_toArray, List.map_cons, List.map_nil]); first | done | rfl | (simp only [List.length_drop, List.length_take]; rfl)) ?_; (with_reducible refine (portcullislaw09_alive.calls k  false _ A4.out).mono ?_); rintro e w23 ⟨rfl, hb⟩; refine ⟨_, rfl, ?_⟩; have n0_ := Aside0.mk (below_step (by repeat (first | (with_reducible first | exact HB.out | apply below_alloc | apply pw_below_drewN | apply below_drew1) | exact HB.out)) hb); clear HB; have HB := n0_; clear n0_; (try clear hb); (try clear hb2); (try clear hk); (try clear hi)))
    go_ret
    exact ⟨by first | rfl | (simp [errW_none, errW_some] <;> rfl) | (simp [*, errW_none, errW_some] <;> rfl), by repeat (first | (with_reducible first | exact HB.out | apply below_alloc | apply pw_below_drewN | apply below_drew1) | exact HB.out)⟩

/-- THE ONE PURE STATEMENT of portcullislaw09_WordRows: yours. -/
def portcullislaw09_WordRows.Pure : Prop := ∀ (a0 : Int) (a1 : Int) (a2 : Int), (Lit.int .i64 a0).wf = true → (Lit.int .i64 a1).wf = true → (Lit.int .i64 a2).wf = true → ∃ k, portcullislaw09_WordRows.f k a0 a1 a2 = some true
theorem portcullislaw09_WordRows.walk (P : portcullislaw09_WordRows.Pure) (a0 : Int) (a1 : Int) (a2 : Int) (w : World) (w0 : (Lit.int .i64 a0).wf = true) (w1 : (Lit.int .i64 a1).wf = true) (w2 : (Lit.int .i64 a2).wf = true) :
    Calls Try.prog 10 #[.int .i64 a0, .int .i64 a1, .int .i64 a2] w fun e w' => e = .returned (.bool true) ∧ Below w.heap.size w w' := by
  obtain ⟨k, h⟩ := P a0 a1 a2 w0 w1 w2
  refine (portcullislaw09_WordRows.calls k a0 a1 a2 true w h).mono ?_
  rintro e w' ⟨rfl, hd⟩
  exact ⟨rfl, hd⟩

end Go.Proofs.Ytiflghlhlkabdaa.PWordRows
