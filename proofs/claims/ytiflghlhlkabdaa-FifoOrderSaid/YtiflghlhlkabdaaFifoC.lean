/- SameInts tells whether two rows of numbers are the same; the laws' first call, alive, answers true. -/
import Derived.Test.YtiflghlhlkabdaaFifoB
namespace Go.Proofs.Ytiflghlhlkabdaa.FifoC
open Go.RowKit Go.Conc Go.Proofs.Ytiflghlhlkabdaa.FifoA Go.Proofs.Ytiflghlhlkabdaa.FifoB
open Go.Proofs.YtiflghlhlkabdaaW.PrintWords (Drawn0)

/-- A slice that reads as the row 'xs'. -/
def RInts (w : World) (v : Value) (xs : List Int) : Prop :=
  (xs = [] ∧ ∃ A c, v = .slice A 0 c) ∨ ∃ b off c, v = .slice (some ⟨b, off, none⟩) xs.length c ∧ 0 < xs.length ∧ ∀ j, j < xs.length → w.cell? ⟨b, off + j, none⟩ = some (.int .i64 (xs.getD j 0))

theorem RInts.len {w : World} {v : Value} {xs : List Int} (h : RInts w v xs) : ∃ A c, v = .slice A xs.length c := by
  rcases h with ⟨rfl, A, c, rfl⟩ | ⟨b, off, c, rfl, _, _⟩
  · exact ⟨A, c, rfl⟩
  · exact ⟨_, c, rfl⟩

def SamePost (w : World) (r : Bool) (e : Ending) (w' : World) : Prop := e = .returned (.bool r) ∧ Drawn0 w w'

theorem same_len (w : World) (A1 A2 : Option Addr) (n1 n2 c1 c2 : Nat) (h : n1 ≠ n2) : Calls Try.prog 21 #[.slice A1 n1 c1, .slice A2 n2 c2] w (SamePost w false) := by
  have hb : ((n1 : Int) != (n2 : Int)) = true := by rw [bne_iff_ne]; omega
  clear h
  go_enter Try.func21, Try.ntmps21
  go_wp2
  go_ret
  exact ⟨rfl, Drawn0.refl _⟩

theorem same_nil (w : World) (A1 A2 : Option Addr) (c1 c2 : Nat) : Calls Try.prog 21 #[.slice A1 0 c1, .slice A2 0 c2] w (SamePost w true) := by
  go_enter Try.func21, Try.ntmps21
  go_wp2
  go_loop [5] (fun i => ∃ k : Nat, k = 0 ∧ i = .int .i64 k) (fun _ => 0)
  case atStart => exact ⟨0, rfl, rfl⟩
  case round =>
    obtain ⟨k, rfl, rfl⟩ := hrel
    go_wp2
    go_ret
    exact ⟨rfl, Drawn0.refl _⟩

theorem take_next {xs ys : List Int} {k : Nat} (h : xs.take k = ys.take k) (e : xs.getD k 0 = ys.getD k 0) (h1 : k < xs.length) (h2 : k < ys.length) : xs.take (k + 1) = ys.take (k + 1) := by
  rw [List.take_succ_eq_append_getElem h1, List.take_succ_eq_append_getElem h2, h]
  have e1 : xs.getD k 0 = xs[k] := by simp [List.getD, h1]
  have e2 : ys.getD k 0 = ys[k] := by simp [List.getD, h2]
  rw [e1, e2] at e
  rw [e]

theorem same_cells (w : World) (b1 o1 c1 b2 o2 c2 : Nat) (xs ys : List Int) (hl : ys.length = xs.length) (hp : 0 < xs.length) (hm : xs.length ≤ 100000)
    (h1 : ∀ j, j < xs.length → w.cell? ⟨b1, o1 + j, none⟩ = some (.int .i64 (xs.getD j 0)))
    (h2 : ∀ j, j < xs.length → w.cell? ⟨b2, o2 + j, none⟩ = some (.int .i64 (ys.getD j 0))) :
    Calls Try.prog 21 #[.slice (some ⟨b1, o1, none⟩) xs.length c1, .slice (some ⟨b2, o2, none⟩) xs.length c2] w (SamePost w (decide (xs = ys))) := by
  have H1 := Lib.hid h1; clear h1
  have H2 := Lib.hid h2; clear h2
  have HL := Lib.hid hl; clear hl
  go_enter Try.func21, Try.ntmps21
  go_wp2
  go_loopw [5] (fun i wr => ∃ k : Nat, k ≤ xs.length ∧ i = .int .i64 k ∧ Drawn0 w wr ∧ xs.take k = ys.take k) (fun i _ => xs.length - (intOf i).toNat)
  case atStart => exact ⟨0, Nat.zero_le _, rfl, Drawn0.refl _, rfl⟩
  case round =>
    obtain ⟨k, hk, rfl, ⟨⟨n, rfl⟩⟩, ht⟩ := hrel
    have HT := Lib.hid ht; clear ht
    by_cases hlt : k < xs.length
    · have g1 := H1.out k hlt
      have g2 := H2.out k hlt
      have hneg : 0 ≤ (k : Int) := by omega
      have hlt' : (k : Int) < (xs.length : Int) := by omega
      by_cases he : xs.getD k 0 = ys.getD k 0
      · have he' : (xs.getD k 0 != ys.getD k 0) = false := bne_eq_false_iff_eq.mpr he
        have HE := Lib.hid he; clear he
        generalize hx : xs.getD k 0 = x at g1 he'
        generalize hy : ys.getD k 0 = y at g2 he'
        have HX := Lib.hid hx; clear hx
        have HY := Lib.hid hy; clear hy
        go_upto_region 6 with (fail)
        go_quiet (fail)
        go_wp2
        go_roundw
        case measure => simp [intOf]; omega
        case rel =>
          refine ⟨k + 1, by omega, by go_num, ⟨⟨_, rfl⟩⟩, ?_⟩
          exact take_next HT.out HE.out hlt (by rw [HL.out]; exact hlt)
      · have he' : (xs.getD k 0 != ys.getD k 0) = true := bne_iff_ne.mpr he
        have hd : decide (xs = ys) = false := by simp; rintro rfl; exact he rfl
        have HDD := Lib.hid hd; clear hd he
        generalize hx : xs.getD k 0 = x at g1 he'
        generalize hy : ys.getD k 0 = y at g2 he'
        clear hx hy
        go_upto_region 6 with (fail)
        go_quiet (fail)
        go_wp2
        go_ret
        rw [HDD.out]
        exact ⟨rfl, Drawn0.step ⟨⟨n, rfl⟩⟩ _⟩
    · obtain rfl : k = xs.length := by omega
      have hd : decide (xs = ys) = true := by
        have h := HT.out
        rw [List.take_of_length_le (Nat.le_refl _), List.take_of_length_le (Nat.le_of_eq HL.out)] at h
        simp [h]
      have HDD := Lib.hid hd; clear hd
      go_wp2
      go_ret
      rw [HDD.out]
      exact ⟨rfl, ⟨⟨n, rfl⟩⟩⟩

theorem same_any (w : World) (v1 v2 : Value) (xs ys : List Int) (h1 : RInts w v1 xs) (h2 : RInts w v2 ys) (hm : xs.length ≤ 100000) :
    Calls Try.prog 21 #[v1, v2] w (SamePost w (decide (xs = ys))) := by
  by_cases hl : xs.length = ys.length
  · rcases h1 with ⟨rfl, A, c, rfl⟩ | ⟨b1, o1, c1, rfl, hp, g1⟩
    · obtain rfl : ys = [] := List.length_eq_zero_iff.1 hl.symm
      rcases h2 with ⟨_, A', c', rfl⟩ | ⟨_, _, _, _, hp, _⟩
      · exact same_nil w A A' c c'
      · simp at hp
    · rcases h2 with ⟨rfl, A', c', rfl⟩ | ⟨b2, o2, c2, rfl, _, g2⟩
      · simp at hl; subst hl; simp at hp
      · rw [← hl]
        exact same_cells w b1 o1 c1 b2 o2 c2 xs ys hl.symm hp hm g1 (fun j hj => g2 j (by omega))
  · obtain ⟨A1, c1, rfl⟩ := h1.len
    obtain ⟨A2, c2, rfl⟩ := h2.len
    have hd : decide (xs = ys) = false := by
      simp only [decide_eq_false_iff_not]; rintro rfl; exact hl rfl
    rw [hd]
    exact same_len w A1 A2 _ _ c1 c2 hl

theorem RInts.own {w : World} {base : Nat} {v : Value} {xs : List Int} (h : w.ownsRow base 3 1 v xs.length (xs.map (Value.int .i64))) : RInts w v xs := by
  obtain ⟨_, h⟩ := h
  rcases h with ⟨rfl, hn⟩ | ⟨g, cap, cur, rfl, _, hg, hc, _, hs, ht⟩
  · exact .inl ⟨List.length_eq_zero_iff.1 hn, none, 0, rfl⟩
  · by_cases h0 : xs.length = 0
    · exact .inl ⟨List.length_eq_zero_iff.1 h0, some ⟨g, 0, none⟩, cap, by rw [h0]⟩
    · refine .inr ⟨g, 0, cap, rfl, by omega, fun j hj => ?_⟩
      have hj' : j < cur.size := by omega
      have e : cur[j]? = some (.int .i64 (xs.getD j 0)) := by
        have e1 : (cur.toList.take (xs.length * 1))[j]? = (xs.map (Value.int .i64))[j]? := by rw [ht]
        rw [List.getElem?_take_of_lt (by omega), Array.getElem?_toList] at e1
        rw [e1]; simp [hj]
      simp only [World.cell?, hg, Nat.zero_add]
      simpa using e

theorem reads_of {w : World} (x : Addr) (len cap : Nat) (zs : List Int) (hl : len ≤ cap) (hz : zs.length = cap) (hc : ∀ i, i < zs.length → w.cell? (x.add i) = some (.int .i64 (zs.getD i 0))) :
    ∃ ys : List Int, ys.length = len ∧ RInts w (.slice (some x) len cap) ys := by
  by_cases h0 : len = 0
  · exact ⟨[], h0.symm, .inl ⟨rfl, some x, cap, by rw [h0]⟩⟩
  · have hlen : (zs.take len).length = len := by simp; omega
    have hx : x.spot = none := by
      have h := hc 0 (by omega)
      simp only [Addr.add] at h
      cases hs : x.spot with
      | none => rfl
      | some s =>
        unfold World.cell? at h
        simp [hs] at h
        split at h <;> simp_all
    obtain ⟨b, off, spot⟩ := x
    simp only at hx
    subst hx
    refine ⟨zs.take len, hlen, .inr ⟨b, off, cap, by rw [hlen], by omega, fun j hj => ?_⟩⟩
    rw [hlen] at hj
    have h := hc j (by omega)
    have e : (zs.take len).getD j 0 = zs.getD j 0 := by simp [List.getD, hj]
    rw [e, ← h]
    by_cases hj0 : j = 0
    · subst hj0; rfl
    · simp [Addr.add, hj0]

def AlivePost (w : World) (e : Ending) (w' : World) : Prop := e = .returned (.bool true) ∧ Below w.heap.size w w'

theorem alive_true (w : World) : Calls Try.prog 13 #[] w (AlivePost w) := by
  go_enter Try.func13, Try.ntmps13
  go_wp2_with fail
  refine (new_any _ _).mono ?_
  rintro e w1 ⟨q, c, rfl, hq, hq1, hc1, hb⟩
  rw [show clampN 2 = 2 from by decide] at hq
  have HQ1 := Lib.hid hq; clear hq
  have HB1 := Lib.hid hb; clear hb
  go_wp2_with fail
  refine (put_room _ _ _ _ _ _ HQ1.out (by decide)).mono ?_
  rintro e w2 ⟨rfl, hq, ho⟩
  have HQ2 := Lib.hid hq; clear hq
  have HB2 := Lib.hid (HB1.out.trans (ho.below _ hc1)); clear ho
  go_wp2_with fail
  refine (put_room _ _ _ _ _ _ HQ2.out (by decide)).mono ?_
  rintro e w3 ⟨rfl, hq, ho⟩
  have HQ3 := Lib.hid hq; clear hq
  have HB3 := Lib.hid (HB2.out.trans (ho.below _ hc1)); clear ho
  go_wp2_with fail
  refine (put_full _ _ _ _ _ _ HQ3.out (by decide)).mono ?_
  rintro e w4 ⟨rfl, rfl⟩
  go_wp2_with fail
  refine (len_any _ _ _ _ _ HQ3.out).mono ?_
  rintro e w4 ⟨rfl, rfl⟩
  go_wp2_with fail
  refine (room_any _ _ _ _ _ HQ3.out (by decide) (by decide)).mono ?_
  rintro e w4 ⟨rfl, n, rfl⟩
  go_wp2_with fail
  have HQ4 : Hid (QAt (w3.drewN n) q c 2 (5 :: [6])) := Lib.hid (HQ3.out.move rfl rfl)
  have HB4 : Hid (Below w.heap.size w (w3.drewN n)) := Lib.hid (HB3.out.trans ⟨rfl, rfl, rfl, Nat.le_refl _, fun _ _ => rfl⟩)
  refine (get_some _ _ _ _ _ _ HQ4.out).mono ?_
  rintro e w5 ⟨rfl, hq, ho⟩
  have HQ5 := Lib.hid hq; clear hq
  have HB5 := Lib.hid (HB4.out.trans (ho.below _ hc1)); clear ho
  go_wp2_with fail
  refine (all_any _ _ _ _ _ HQ5.out (by decide) (by decide)).mono ?_
  rintro e w6 ⟨v, rfl, hown, hq, hg⟩
  have HB6 := Lib.hid (HB5.out.trans (hg.below _ hc1 HB5.out.size))
  have HO6 := Lib.hid hown
  clear hown hq hg
  go_wp2_with fail
  refine (same_any _ _ _ [6] [6] (RInts.own (HO6.out.alloc _)) (.inr ⟨w6.heap.size, 0, 1, rfl, by decide, fun j hj => ?_⟩) (by decide)).mono ?_
  · obtain rfl : j = 0 := by simpa using hj
    go_simp
  rintro e w7 ⟨rfl, ⟨m, rfl⟩⟩
  go_wp2
  go_ret
  refine ⟨by first | rfl | simp, ?_⟩
  exact HB6.out.trans (((Below.refl _ _).alloc HB6.out.size _).trans ⟨rfl, rfl, rfl, Nat.le_refl _, fun _ _ => rfl⟩)
end Go.Proofs.Ytiflghlhlkabdaa.FifoC
