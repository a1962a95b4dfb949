/- The reference's Sign computes 'refSign', a plain function of the operator's text and the number of its arguments; no condition. -/
import Derived.Test.YtiflghlhlkabdaaPWordSignsx1
import Derived.Lib.Hide
namespace Go.Proofs.Ytiflghlhlkabdaa.SignRef
open Go.RowKit

def signs : List (List UInt8) := [[43], [45], [42], [47], [37], [38], [124], [60], [60, 61], [61, 61], [33, 61]]
def refTwo (s : List UInt8) : List (List UInt8) → Int → Int
  | [], _ => 0
  | x :: r, i => if s = x then i + 1 else refTwo s r (i + 1)
def refSign (s : ByteArray) (n : Int) : Int :=
  if n = 1 then (if s.toList = [45] then 1 else if s.toList = [33] then 2 else 0)
  else if n = 2 then refTwo s.toList signs 0
  else 0

theorem ret_int {a b : Int} (h : a = b) : Ending.returned (.int .i64 a) = .returned (.int .i64 b) := by rw [h]

theorem ref_one (s : ByteArray) (w : World) :
    Calls Try.prog 12 #[.string s, .int .i64 1] w fun e w' => e = .returned (.int .i64 (refSign s 1)) ∧ Below w.heap.size w w' := by
  by_cases h1 : s.toList = [45]
  · have e1 : refSign s 1 = 1 := by simp [refSign, h1]
    have E1 := Lib.hid e1; clear e1
    have b1 : (s.toList == [45]) = true := by simp [h1]
    clear h1
    go_enter Try.func12, Try.ntmps12
    go_wp2
    go_ret
    exact ⟨ret_int E1.out.symm, Below.refl _ _⟩
  · have b1 : (s.toList == [45]) = false := by simp [h1]
    by_cases h2 : s.toList = [33]
    · have e1 : refSign s 1 = 2 := by simp [refSign, h2]
      have E1 := Lib.hid e1; clear e1
      have b2 : (s.toList == [33]) = true := by simp [h2]
      clear h1 h2
      go_enter Try.func12, Try.ntmps12
      go_wp2
      go_ret
      exact ⟨ret_int E1.out.symm, Below.refl _ _⟩
    · have e1 : refSign s 1 = 0 := by simp [refSign, h1, h2]
      have E1 := Lib.hid e1; clear e1
      have b2 : (s.toList == [33]) = false := by simp [h2]
      clear h1 h2
      go_enter Try.func12, Try.ntmps12
      go_wp2
      go_ret
      exact ⟨ret_int E1.out.symm, Below.refl _ _⟩

def Left (s : ByteArray) (k : Nat) : Prop := refTwo s.toList (signs.drop k) k = refSign s 2
theorem left_start (s : ByteArray) : Left s 0 := by simp [Left, refSign]
theorem left_hit {s : ByteArray} {k : Nat} {x : List UInt8} {r : List (List UInt8)} (h : Left s k) (hx : signs.drop k = x :: r) (e : s.toList = x) : (k : Int) + 1 = refSign s 2 := by
  unfold Left at h; rw [hx, refTwo, if_pos e] at h; exact h
theorem left_next {s : ByteArray} {k : Nat} {x : List UInt8} {r : List (List UInt8)} (h : Left s k) (hx : signs.drop k = x :: r) (hr : signs.drop (k + 1) = r) (e : ¬ s.toList = x) : Left s (k + 1) := by
  unfold Left at h ⊢; rw [hx, refTwo, if_neg e] at h; rw [hr]; exact h

set_option maxHeartbeats 2000000 in
theorem ref_two (s : ByteArray) (w : World) :
    Calls Try.prog 12 #[.string s, .int .i64 2] w fun e w' => e = .returned (.int .i64 (refSign s 2)) ∧ Below w.heap.size w w' := by
  go_enter Try.func12, Try.ntmps12
  go_wp2
  go_loop [6] (fun i => ∃ k : Nat, k ≤ 11 ∧ i = .int .i64 k ∧ Left s k) (fun i => 11 - (intOf i).toNat)
  case atStart => exact ⟨0, by omega, rfl, left_start s⟩
  case round =>
    obtain ⟨k, hk, rfl, hl⟩ := hrel
    have hcases : k = 0 ∨ k = 1 ∨ k = 2 ∨ k = 3 ∨ k = 4 ∨ k = 5 ∨ k = 6 ∨ k = 7 ∨ k = 8 ∨ k = 9 ∨ k = 10 ∨ k = 11 := by omega
    clear hk
    rcases hcases with rfl | rfl | rfl | rfl | rfl | rfl | rfl | rfl | rfl | rfl | rfl | rfl
    · by_cases e : s.toList = [43]
      · have e1 := left_hit (x := [43]) (r := [[45], [42], [47], [37], [38], [124], [60], [60, 61], [61, 61], [33, 61]]) hl rfl e
        have E1 := Lib.hid e1; clear e1 hl
        have b1 : ([43] == s.toList) = true := by simp [e]
        clear e
        go_wp2
        go_ret
        exact ⟨ret_int E1.out, (Below.refl _ _).alloc (Nat.le_refl _) _⟩
      · have hn := left_next (x := [43]) (r := [[45], [42], [47], [37], [38], [124], [60], [60, 61], [61, 61], [33, 61]]) hl rfl rfl e
        have b1 : ([43] == s.toList) = false := by simp; exact fun h => e h.symm
        clear e hl
        go_wp2
        go_round
        case rel => exact ⟨1, by omega, by go_num, hn⟩
        case measure => simp [intOf]
    · by_cases e : s.toList = [45]
      · have e1 := left_hit (x := [45]) (r := [[42], [47], [37], [38], [124], [60], [60, 61], [61, 61], [33, 61]]) hl rfl e
        have E1 := Lib.hid e1; clear e1 hl
        have b1 : ([45] == s.toList) = true := by simp [e]
        clear e
        go_wp2
        go_ret
        exact ⟨ret_int E1.out, (Below.refl _ _).alloc (Nat.le_refl _) _⟩
      · have hn := left_next (x := [45]) (r := [[42], [47], [37], [38], [124], [60], [60, 61], [61, 61], [33, 61]]) hl rfl rfl e
        have b1 : ([45] == s.toList) = false := by simp; exact fun h => e h.symm
        clear e hl
        go_wp2
        go_round
        case rel => exact ⟨2, by omega, by go_num, hn⟩
        case measure => simp [intOf]
    · by_cases e : s.toList = [42]
      · have e1 := left_hit (x := [42]) (r := [[47], [37], [38], [124], [60], [60, 61], [61, 61], [33, 61]]) hl rfl e
        have E1 := Lib.hid e1; clear e1 hl
        have b1 : ([42] == s.toList) = true := by simp [e]
        clear e
        go_wp2
        go_ret
        exact ⟨ret_int E1.out, (Below.refl _ _).alloc (Nat.le_refl _) _⟩
      · have hn := left_next (x := [42]) (r := [[47], [37], [38], [124], [60], [60, 61], [61, 61], [33, 61]]) hl rfl rfl e
        have b1 : ([42] == s.toList) = false := by simp; exact fun h => e h.symm
        clear e hl
        go_wp2
        go_round
        case rel => exact ⟨3, by omega, by go_num, hn⟩
        case measure => simp [intOf]
    · by_cases e : s.toList = [47]
      · have e1 := left_hit (x := [47]) (r := [[37], [38], [124], [60], [60, 61], [61, 61], [33, 61]]) hl rfl e
        have E1 := Lib.hid e1; clear e1 hl
        have b1 : ([47] == s.toList) = true := by simp [e]
        clear e
        go_wp2
        go_ret
        exact ⟨ret_int E1.out, (Below.refl _ _).alloc (Nat.le_refl _) _⟩
      · have hn := left_next (x := [47]) (r := [[37], [38], [124], [60], [60, 61], [61, 61], [33, 61]]) hl rfl rfl e
        have b1 : ([47] == s.toList) = false := by simp; exact fun h => e h.symm
        clear e hl
        go_wp2
        go_round
        case rel => exact ⟨4, by omega, by go_num, hn⟩
        case measure => simp [intOf]
    · by_cases e : s.toList = [37]
      · have e1 := left_hit (x := [37]) (r := [[38], [124], [60], [60, 61], [61, 61], [33, 61]]) hl rfl e
        have E1 := Lib.hid e1; clear e1 hl
        have b1 : ([37] == s.toList) = true := by simp [e]
        clear e
        go_wp2
        go_ret
        exact ⟨ret_int E1.out, (Below.refl _ _).alloc (Nat.le_refl _) _⟩
      · have hn := left_next (x := [37]) (r := [[38], [124], [60], [60, 61], [61, 61], [33, 61]]) hl rfl rfl e
        have b1 : ([37] == s.toList) = false := by simp; exact fun h => e h.symm
        clear e hl
        go_wp2
        go_round
        case rel => exact ⟨5, by omega, by go_num, hn⟩
        case measure => simp [intOf]
    · by_cases e : s.toList = [38]
      · have e1 := left_hit (x := [38]) (r := [[124], [60], [60, 61], [61, 61], [33, 61]]) hl rfl e
        have E1 := Lib.hid e1; clear e1 hl
        have b1 : ([38] == s.toList) = true := by simp [e]
        clear e
        go_wp2
        go_ret
        exact ⟨ret_int E1.out, (Below.refl _ _).alloc (Nat.le_refl _) _⟩
      · have hn := left_next (x := [38]) (r := [[124], [60], [60, 61], [61, 61], [33, 61]]) hl rfl rfl e
        have b1 : ([38] == s.toList) = false := by simp; exact fun h => e h.symm
        clear e hl
        go_wp2
        go_round
        case rel => exact ⟨6, by omega, by go_num, hn⟩
        case measure => simp [intOf]
    · by_cases e : s.toList = [124]
      · have e1 := left_hit (x := [124]) (r := [[60], [60, 61], [61, 61], [33, 61]]) hl rfl e
        have E1 := Lib.hid e1; clear e1 hl
        have b1 : ([124] == s.toList) = true := by simp [e]
        clear e
        go_wp2
        go_ret
        exact ⟨ret_int E1.out, (Below.refl _ _).alloc (Nat.le_refl _) _⟩
      · have hn := left_next (x := [124]) (r := [[60], [60, 61], [61, 61], [33, 61]]) hl rfl rfl e
        have b1 : ([124] == s.toList) = false := by simp; exact fun h => e h.symm
        clear e hl
        go_wp2
        go_round
        case rel => exact ⟨7, by omega, by go_num, hn⟩
        case measure => simp [intOf]
    · by_cases e : s.toList = [60]
      · have e1 := left_hit (x := [60]) (r := [[60, 61], [61, 61], [33, 61]]) hl rfl e
        have E1 := Lib.hid e1; clear e1 hl
        have b1 : ([60] == s.toList) = true := by simp [e]
        clear e
        go_wp2
        go_ret
        exact ⟨ret_int E1.out, (Below.refl _ _).alloc (Nat.le_refl _) _⟩
      · have hn := left_next (x := [60]) (r := [[60, 61], [61, 61], [33, 61]]) hl rfl rfl e
        have b1 : ([60] == s.toList) = false := by simp; exact fun h => e h.symm
        clear e hl
        go_wp2
        go_round
        case rel => exact ⟨8, by omega, by go_num, hn⟩
        case measure => simp [intOf]
    · by_cases e : s.toList = [60, 61]
      · have e1 := left_hit (x := [60, 61]) (r := [[61, 61], [33, 61]]) hl rfl e
        have E1 := Lib.hid e1; clear e1 hl
        have b1 : ([60, 61] == s.toList) = true := by simp [e]
        clear e
        go_wp2
        go_ret
        exact ⟨ret_int E1.out, (Below.refl _ _).alloc (Nat.le_refl _) _⟩
      · have hn := left_next (x := [60, 61]) (r := [[61, 61], [33, 61]]) hl rfl rfl e
        have b1 : ([60, 61] == s.toList) = false := by simp; exact fun h => e h.symm
        clear e hl
        go_wp2
        go_round
        case rel => exact ⟨9, by omega, by go_num, hn⟩
        case measure => simp [intOf]
    · by_cases e : s.toList = [61, 61]
      · have e1 := left_hit (x := [61, 61]) (r := [[33, 61]]) hl rfl e
        have E1 := Lib.hid e1; clear e1 hl
        have b1 : ([61, 61] == s.toList) = true := by simp [e]
        clear e
        go_wp2
        go_ret
        exact ⟨ret_int E1.out, (Below.refl _ _).alloc (Nat.le_refl _) _⟩
      · have hn := left_next (x := [61, 61]) (r := [[33, 61]]) hl rfl rfl e
        have b1 : ([61, 61] == s.toList) = false := by simp; exact fun h => e h.symm
        clear e hl
        go_wp2
        go_round
        case rel => exact ⟨10, by omega, by go_num, hn⟩
        case measure => simp [intOf]
    · by_cases e : s.toList = [33, 61]
      · have e1 := left_hit (x := [33, 61]) (r := []) hl rfl e
        have E1 := Lib.hid e1; clear e1 hl
        have b1 : ([33, 61] == s.toList) = true := by simp [e]
        clear e
        go_wp2
        go_ret
        exact ⟨ret_int E1.out, (Below.refl _ _).alloc (Nat.le_refl _) _⟩
      · have hn := left_next (x := [33, 61]) (r := []) hl rfl rfl e
        have b1 : ([33, 61] == s.toList) = false := by simp; exact fun h => e h.symm
        clear e hl
        go_wp2
        go_round
        case rel => exact ⟨11, by omega, by go_num, hn⟩
        case measure => simp [intOf]
    · have e1 : refSign s 2 = 0 := by unfold Left at hl; rw [← hl]; rfl
      have E1 := Lib.hid e1; clear e1 hl
      go_wp2
      go_ret
      exact ⟨ret_int E1.out.symm, (Below.refl _ _).alloc (Nat.le_refl _) _⟩

theorem ref_other (s : ByteArray) (n : Int) (h1 : ¬ n = 1) (h2 : ¬ n = 2) (w : World) :
    Calls Try.prog 12 #[.string s, .int .i64 n] w fun e w' => e = .returned (.int .i64 (refSign s n)) ∧ Below w.heap.size w w' := by
  have e1 : refSign s n = 0 := by simp [refSign, h1, h2]
  have E1 := Lib.hid e1; clear e1
  have b1 : (n == 1) = false := by simp [h1]
  have b2 : (n == 2) = false := by simp [h2]
  clear h1 h2
  go_enter Try.func12, Try.ntmps12
  go_wp2
  go_loop [6] (fun i => ∃ k : Nat, k = 0 ∧ i = .int .i64 k) (fun i => 11 - (intOf i).toNat)
  case atStart => exact ⟨0, rfl, rfl⟩
  case round =>
    obtain ⟨k, rfl, rfl⟩ := hrel
    go_wp2
    go_ret
    exact ⟨ret_int E1.out.symm, (Below.refl _ _).alloc (Nat.le_refl _) _⟩

theorem ref_any (s : ByteArray) (n : Int) (w : World) :
    Calls Try.prog 12 #[.string s, .int .i64 n] w fun e w' => e = .returned (.int .i64 (refSign s n)) ∧ Below w.heap.size w w' := by
  by_cases h1 : n = 1
  · subst h1; exact ref_one s w
  · by_cases h2 : n = 2
    · subst h2; exact ref_two s w
    · exact ref_other s n h1 h2 w
end Go.Proofs.Ytiflghlhlkabdaa.SignRef
