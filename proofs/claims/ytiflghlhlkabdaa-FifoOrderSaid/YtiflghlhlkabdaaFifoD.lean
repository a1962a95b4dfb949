/- The law FifoRoom: what waits and what there is room for are always the places; no condition. -/
import Derived.Test.YtiflghlhlkabdaaFifoC
namespace Go.Proofs.Ytiflghlhlkabdaa.FifoD
open Go.RowKit Go.Conc Go.Proofs.Ytiflghlhlkabdaa.FifoA Go.Proofs.Ytiflghlhlkabdaa.FifoB Go.Proofs.Ytiflghlhlkabdaa.FifoC
open Go.Proofs.YtiflghlhlkabdaaW.PrintWords (Drawn0)

def TruePost (w : World) (e : Ending) (w' : World) : Prop := e = .returned (.bool true) ∧ Below w.heap.size w w'

theorem clamp_range (p : Int) : 1 ≤ clampN p ∧ clampN p ≤ 4 := by
  unfold clampN
  by_cases h : p < 1
  · simp [h]
  · by_cases h4 : 4 < p
    · simp [h, h4]
    · rw [if_neg h, if_neg h4]; omega

theorem room_great (w : World) (p : Int) (A : Option Addr) (n c : Nat) (h : 300 < n) (hn : n ≤ 9223372036854775807) : Calls Try.prog 6 #[.int .i64 p, .slice A n c] w (TruePost w) := by
  have hb : decide ((300 : Int) < (n : Int)) = true := by simp; omega
  clear h
  go_enter Try.func6, Try.ntmps6
  go_wp2_with fail
  refine (alive_true _).mono ?_
  rintro e w1 ⟨rfl, hb⟩
  go_wp2
  go_ret
  exact ⟨rfl, hb⟩

/-- The queue as a round of the law's loop finds it. -/
def RoomRel (w : World) (q c N : Nat) (wr : World) : Prop := Below w.heap.size w wr ∧ ∃ ys, ys.length ≤ N ∧ QAt wr q c N ys

theorem room_small (w : World) (p : Int) (v : Value) (xs : List Int) (hv : RInts w v xs) (h : xs.length ≤ 300) : Calls Try.prog 6 #[.int .i64 p, v] w (TruePost w) := by
  obtain ⟨A, cc, hve⟩ := hv.len
  have HV := Lib.hid hv; clear hv
  subst hve
  have hb : decide ((300 : Int) < (xs.length : Int)) = false := by simp; omega
  go_enter Try.func6, Try.ntmps6
  go_wp2_with fail
  refine (alive_true _).mono ?_
  rintro e w1 ⟨rfl, hb⟩
  have HB1 := Lib.hid hb; clear hb
  go_wp2_with fail
  refine (new_any _ _).mono ?_
  rintro e w2 ⟨q, c, rfl, hq, hq1, hc1, hb⟩
  have HQ2 := Lib.hid hq; clear hq
  have HB2 := Lib.hid (HB1.out.trans (hb.mono HB1.out.size)); clear hb
  have hr := clamp_range p
  have hcase : (p < 1) ∨ (4 < p) ∨ (1 ≤ p ∧ p ≤ 4 ∧ (clampN p : Int) = p) := by
    unfold clampN
    by_cases h1 : p < 1
    · exact .inl h1
    · by_cases h4 : 4 < p
      · exact .inr (.inl h4)
      · rw [if_neg h1, if_neg h4]; exact .inr (.inr ⟨by omega, by omega, by omega⟩)
  generalize clampN p = N at HQ2 hr hcase
  obtain ⟨hr1, hr4⟩ := hr
  go_wp2_with fail
  refine (room_any _ _ _ _ _ HQ2.out hr4 (by simp)).mono ?_
  rintro e w3 ⟨rfl, n, rfl⟩
  have HQ3 : Hid (QAt (w2.drewN n) q c N []) := Lib.hid (HQ2.out.move rfl rfl)
  have HB3 : Hid (Below w.heap.size w (w2.drewN n)) := Lib.hid (HB2.out.trans ⟨rfl, rfl, rfl, Nat.le_refl _, fun _ _ => rfl⟩)
  clear HQ2 HB2
  generalize w2.drewN n = w4 at HQ3 HB3
  have g1 : decide ((N : Int) < 1) = false := by simp; omega
  have g2 : decide ((4 : Int) < (N : Int)) = false := by simp; omega
  have hc0 : w.heap.size ≤ c := Nat.le_trans HB1.out.size hc1
  have hsize : ∀ (wr : World) (m : Nat), Below w.heap.size w wr → Below w.heap.size w (wr.drewN m) := fun wr m h => h.trans ⟨rfl, rfl, rfl, Nat.le_refl _, fun _ _ => rfl⟩
  have HSZ := Lib.hid hsize; clear hsize
  have hc0' := Lib.hid hc0
  have HR4 := Lib.hid hr4
  rcases hcase with hp | hp | ⟨hp1, hp4, he⟩
  case' inl =>
    have g3 : decide (1 ≤ p) = false := by simp; omega
    clear hp
    go_upto_region 11 with (fail)
  case' inr.inl =>
    have g3 : decide (1 ≤ p) = true := by simp; omega
    have g4 : decide (p ≤ 4) = false := by simp; omega
    clear hp
    go_upto_region 11 with (fail)
  case' inr.inr =>
    have g3 : decide (1 ≤ p) = true := by simp; omega
    have g4 : decide (p ≤ 4) = true := by simp; omega
    have g5 : ((N : Int) != p) = false := bne_eq_false_iff_eq.mpr he
    clear hp1 hp4 he
    go_upto_region 11 with (fail)
  all_goals
    go_wp2
    go_loopw [7] (fun i wr => ∃ k : Nat, k ≤ xs.length ∧ i = .int .i64 k ∧ RoomRel w q c N wr) (fun i _ => xs.length - (intOf i).toNat)
    case atStart => exact ⟨0, Nat.zero_le _, rfl, HB3.out, [], by simp, HQ3.out⟩
    case round =>
      obtain ⟨k, hk, rfl, hb, ys, hy, hq⟩ := hrel
      have HB := Lib.hid hb; clear hb
      have HQ := Lib.hid hq; clear hq
      clear HB3 HQ3
      by_cases hlt : k < xs.length
      · rcases HV.out with ⟨rfl, _⟩ | ⟨b, off, c2, hv, hp, hcell⟩
        · simp at hlt
        · obtain ⟨rfl, -, rfl⟩ : A = some ⟨b, off, none⟩ ∧ True ∧ cc = c2 := by cases hv; exact ⟨rfl, trivial, rfl⟩
          have hce := hcell k hlt
          have hcr : wr.cell? ⟨b, off + k, none⟩ = some (.int .i64 (xs.getD k 0)) := by
            rw [← hce]; exact HB.out.cell (p := ⟨b, off + k, none⟩) (World.block_lt_of_cell? _ _ hce)
          have hlt' : (k : Int) < (xs.length : Int) := by omega
          have hneg : 0 ≤ (k : Int) := by omega
          clear hce hv hcell
          go_wp2_with fail
          refine (len_any _ _ _ _ _ HQ.out).mono ?_
          rintro e w5 ⟨rfl, rfl⟩
          go_wp2_with fail
          · by_cases hyl : ys.length < N
            · have g6 : decide ((ys.length : Int) < (N : Int)) = true := by simp; omega
              refine (put_room _ _ _ _ _ _ HQ.out hyl).mono ?_
              rintro e w6 ⟨rfl, hq, ho⟩
              have HQ6 := Lib.hid hq; clear hq
              have HB6 := Lib.hid (HB.out.trans (ho.below _ hc0'.out)); clear ho
              go_wp2_with fail
              refine (len_any _ _ _ _ _ HQ6.out).mono ?_
              rintro e w7 ⟨rfl, rfl⟩
              go_wp2_with fail
              refine (room_any _ _ _ _ _ HQ6.out HR4.out (by simp; omega)).mono ?_
              rintro e w7 ⟨rfl, m, rfl⟩
              have g7 : (((ys.length : Int) + 1 + ((N : Int) - ((ys.length : Int) + 1))) != (N : Int)) = false := bne_eq_false_iff_eq.mpr (by omega)
              go_wp2_with fail
              go_roundw
              case measure => simp [intOf]; omega
              case rel => exact ⟨k + 1, by omega, by go_num, HSZ.out _ _ HB6.out, _, by simp; omega, HQ6.out.move rfl rfl⟩
            · have g6 : decide ((ys.length : Int) < (N : Int)) = false := by simp; omega
              refine (put_full _ _ _ _ _ _ HQ.out (by omega)).mono ?_
              rintro e w6 ⟨rfl, rfl⟩
              go_wp2_with fail
              refine (len_any _ _ _ _ _ HQ.out).mono ?_
              rintro e w7 ⟨rfl, rfl⟩
              go_wp2_with fail
              refine (room_any _ _ _ _ _ HQ.out HR4.out hy).mono ?_
              rintro e w7 ⟨rfl, m, rfl⟩
              have g7 : (((ys.length : Int) + ((N : Int) - (ys.length : Int))) != (N : Int)) = false := bne_eq_false_iff_eq.mpr (by omega)
              go_wp2_with fail
              go_roundw
              case measure => simp [intOf]; omega
              case rel => exact ⟨k + 1, by omega, by go_num, HSZ.out _ _ HB.out, _, hy, HQ.out.move rfl rfl⟩
          · cases ys with
            | nil =>
              refine (get_none _ _ _ _ HQ.out).mono ?_
              rintro e w6 ⟨rfl, rfl⟩
              go_wp2_with fail
              refine (len_any _ _ _ _ _ HQ.out).mono ?_
              rintro e w7 ⟨rfl, rfl⟩
              go_wp2_with fail
              refine (room_any _ _ _ _ _ HQ.out HR4.out hy).mono ?_
              rintro e w7 ⟨rfl, m, rfl⟩
              have g7 : ((N : Int) != (N : Int)) = false := bne_eq_false_iff_eq.mpr rfl
              go_wp2_with fail
              go_roundw
              case measure => simp [intOf]; omega
              case rel => exact ⟨k + 1, by omega, by go_num, HSZ.out _ _ HB.out, _, hy, HQ.out.move rfl rfl⟩
            | cons y ys =>
              have g6 : decide ((0 : Int) < (ys.length : Int) + 1) = true := by simp
              refine (get_some _ _ _ _ _ _ HQ.out).mono ?_
              rintro e w6 ⟨rfl, hq, ho⟩
              have HQ6 := Lib.hid hq; clear hq
              have HB6 := Lib.hid (HB.out.trans (ho.below _ hc0'.out)); clear ho
              have hy' : ys.length ≤ N := by simp at hy; omega
              go_wp2_with fail
              refine (len_any _ _ _ _ _ HQ6.out).mono ?_
              rintro e w7 ⟨rfl, rfl⟩
              go_wp2_with fail
              refine (room_any _ _ _ _ _ HQ6.out HR4.out hy').mono ?_
              rintro e w7 ⟨rfl, m, rfl⟩
              have g7 : (((ys.length : Int) + ((N : Int) - (ys.length : Int))) != (N : Int)) = false := bne_eq_false_iff_eq.mpr (by omega)
              go_wp2_with fail
              go_roundw
              case measure => simp [intOf]; omega
              case rel => exact ⟨k + 1, by omega, by go_num, HSZ.out _ _ HB6.out, _, hy', HQ6.out.move rfl rfl⟩
      · go_wp2
        go_ret
        exact ⟨rfl, HB.out⟩

theorem room_law (w : World) (p : Int) (v : Value) (xs : List Int) (hv : RInts w v xs) (hn : xs.length ≤ 9223372036854775807) : Calls Try.prog 6 #[.int .i64 p, v] w (TruePost w) := by
  by_cases h : xs.length ≤ 300
  · exact room_small w p v xs hv h
  · obtain ⟨A, c, rfl⟩ := hv.len
    exact room_great w p A _ c (by omega) hn
end Go.Proofs.Ytiflghlhlkabdaa.FifoD
