/- The reference's queue, a plain value: CopyInts, New, Put and Get; no condition. -/
import Derived.Test.YtiflghlhlkabdaaFifoE
namespace Go.Proofs.Ytiflghlhlkabdaa.FifoF
open Go.RowKit Go.Conc Go.Proofs.Ytiflghlhlkabdaa.FifoA Go.Proofs.Ytiflghlhlkabdaa.FifoB Go.Proofs.Ytiflghlhlkabdaa.FifoC Go.Proofs.Ytiflghlhlkabdaa.FifoD Go.Proofs.Ytiflghlhlkabdaa.FifoE
open Go.Proofs.YtiflghlhlkabdaaW.PrintWords (Drawn0 own_move own_typed own_base own_lt ReadsOf encs)
open Go.Proofs.YtiflghlhlkabdaaW.PrintWords

theorem rints_reads {w : World} {A : Option Addr} {n c : Nat} {xs : List Int} (h : RInts w (.slice A n c) xs) (hm : xs.length ≤ 100000) : n = xs.length ∧ ReadsOf (Value.int .i64) (0 : Int) w A n xs := by
  rcases h with ⟨rfl, A', c', e⟩ | ⟨b, off, c', e, hp, hc⟩
  · injection e with e1 e2 e3
    subst e2
    exact ⟨rfl, rfl, by omega, fun h => absurd h (by omega)⟩
  · injection e with e1 e2 e3
    subst e1 e2
    refine ⟨rfl, rfl, by omega, fun _ => ⟨_, rfl, fun j hj => ?_⟩⟩
    rw [← hc j hj]
    by_cases h0 : j = 0
    · subst h0; rfl
    · simp [Addr.add, h0]

theorem rints_below {w w1 : World} {v : Value} {xs : List Int} (h : RInts w v xs) (hb : Below w.heap.size w w1) : RInts w1 v xs := by
  rcases h with h | ⟨b, off, c, rfl, hp, hc⟩
  · exact .inl h
  · exact .inr ⟨b, off, c, rfl, hp, fun j hj => by rw [← hc j hj]; exact hb.cell (p := ⟨b, off + j, none⟩) (World.block_lt_of_cell? _ _ (hc j hj))⟩
theorem own_far {w : World} {B n : Nat} {v : Value} {xs : List Value} (h : w.ownsRow B 3 1 v n xs) {b : Nat} (hb : b < B) (o : Nat) (u : Value) : (w.setCell ⟨b, o, none⟩ u).ownsRow B 3 1 v n xs :=
  own_move h (fun k hk => Below.heap_setCell w ⟨b, o, none⟩ u k (by have := own_base h k hk; show k ≠ b; omega))
theorem own_lower {w : World} {base base' n : Nat} {v : Value} {xs : List Value} (h : w.ownsRow base 3 1 v n xs) (hb : base' ≤ base) : w.ownsRow base' 3 1 v n xs := by
  obtain ⟨h0, h⟩ := h
  rcases h with h | ⟨g, cap, cur, e, hg, r⟩
  · exact ⟨h0, .inl h⟩
  · exact ⟨h0, .inr ⟨g, cap, cur, e, Nat.le_trans hb hg, r⟩⟩

def CopyPost (w : World) (xs : List Int) (e : Ending) (w' : World) : Prop :=
  ∃ v', e = .returned v' ∧ w'.ownsRow w.heap.size 3 1 v' xs.length (xs.map (Value.int .i64)) ∧ Below w.heap.size w w'

theorem copy_any (w : World) (v : Value) (xs : List Int) (h : RInts w v xs) (hm : xs.length ≤ 1000) : Calls Try.prog 30 #[v] w (CopyPost w xs) := by
  obtain ⟨A, c, hv⟩ := h.len
  subst hv
  have H := Lib.hid (rints_reads h (by omega)).2
  clear h
  go_enter Try.func30, Try.ntmps30
  have ho : (Kd.scalar (Value.int .i64) (fun _ => rfl)).R 3 (w.alloc (.cells #[] 3)) w.heap.size (fun _ => True) (.slice (some ⟨w.heap.size, 0, none⟩) 0 0) [] :=
    Kd.R_of_own ⟨rfl, .inr ⟨_, 0, #[], rfl, Nat.le_refl _, heap_alloc_new w _, Nat.le_refl _, Nat.zero_le _, rfl, rfl⟩⟩ (fun _ _ => trivial)
  have HO := Lib.hid ho
  clear ho
  have hr : (Kd.scalar (Value.int .i64) (fun _ => rfl)).C (w.alloc (.cells #[] 3)) A xs.length xs := Kd.C_of_reads (H.out.below ((Below.refl _ _).alloc (Nat.le_refl _) _))
  have HR := Lib.hid hr
  clear hr
  go_wp2_with (at_builtin; refine Kd.R_append_row (P := Try.prog) (Value.int .i64) (0 : Int) (h1 := fun _ => rfl) (w0 := w) w.heap.size rfl _ _ 24 3 (.int .i64 0) 8 rfl Try.underlying24 FifoB.info3 rfl (by decide) _ [] xs A xs.length c (fun _ => True) rfl rfl (fun _ _ => trivial) HO.out HR.out ?c1 ?c2 ?c3 ?_)
  case c1 => exact (Below.refl _ _).alloc (Nat.le_refl _) _
  case c2 => simp
  case c3 => simp; omega
  intro v1 w1 hR hb hg hat
  have HR1 := Lib.hid (Kd.own_of_R hR)
  have HB1 := Lib.hid hb
  clear hR hb hg hat
  go_wp2
  go_ret
  exact ⟨_, rfl, by have := HR1.out; simpa [encs] using this, HB1.out⟩

def NewPost (w : World) (p : Int) (e : Ending) (w' : World) : Prop :=
  e = .returned (.agg #[.int .i64 (clampN p), .slice none 0 0]) ∧ Below w.heap.size w w'

theorem rnew_any (w : World) (p : Int) : Calls Try.prog 15 #[.int .i64 p] w (NewPost w p) := by
  by_cases h1 : p < 1
  · have hc : (clampN p : Int) = 1 := by simp [clampN, h1]
    unfold NewPost
    rw [hc]
    clear hc
    go_enter Try.func15, Try.ntmps15
    go_wp2
    exact bodyPost_ret (v := .agg #[.int .i64 1, .slice none 0 0]) (by simp [results, Try.results15, go_sem]) rfl ⟨rfl, ((Below.refl _ _).alloc (Nat.le_refl _) _)⟩
  · by_cases h4 : 4 < p
    · have hc : (clampN p : Int) = 4 := by simp [clampN, h1, h4]
      unfold NewPost
      rw [hc]
      clear hc
      go_enter Try.func15, Try.ntmps15
      go_wp2
      exact bodyPost_ret (v := .agg #[.int .i64 4, .slice none 0 0]) (by simp [results, Try.results15, go_sem]) rfl ⟨rfl, ((Below.refl _ _).alloc (Nat.le_refl _) _)⟩
    · have hc : (clampN p : Int) = p := by unfold clampN; rw [if_neg h1, if_neg h4]; omega
      unfold NewPost
      rw [hc]
      clear hc
      go_enter Try.func15, Try.ntmps15
      go_wp2
      exact bodyPost_ret (v := .agg #[.int .i64 p, .slice none 0 0]) (by simp [results, Try.results15, go_sem]) rfl ⟨rfl, ((Below.refl _ _).alloc (Nat.le_refl _) _)⟩

theorem rput_full (w : World) (a : Int) (A : Option Addr) (n c : Nat) (x : Int) (h : a ≤ n) :
    Calls Try.prog 16 #[.agg #[.int .i64 a, .slice A n c], .int .i64 x] w fun e w' => e = .returned (.tuple #[.agg #[.int .i64 a, .slice A n c], .bool false]) ∧ Below w.heap.size w w' := by
  have hd : decide (a ≤ (n : Int)) = true := by simpa using h
  clear h
  go_enter Try.func16, Try.ntmps16
  go_wp2
  exact bodyPost_ret (v := .tuple #[.agg #[.int .i64 a, .slice A n c], .bool false]) (by simp [results, Try.results16, go_sem]) rfl ⟨rfl, ((Below.refl _ _).alloc (Nat.le_refl _) _).alloc (by simp) _⟩

theorem bcell {W w1 : World} (hb : Below W.heap.size W w1) : (∀ b o, b < W.heap.size → w1.cell? ⟨b, o, none⟩ = W.cell? ⟨b, o, none⟩) ∧ (∀ b o, b < W.heap.size → w1.frozen? ⟨b, o, none⟩ = W.frozen? ⟨b, o, none⟩) :=
  ⟨fun b o h => hb.cell (p := ⟨b, o, none⟩) h, fun b o h => hb.frozen (p := ⟨b, o, none⟩) h⟩

def PutPost (w : World) (a : Int) (xs : List Int) (e : Ending) (w' : World) : Prop :=
  ∃ v', e = .returned (.tuple #[.agg #[.int .i64 a, v'], .bool true]) ∧ w'.ownsRow w.heap.size 3 1 v' xs.length (xs.map (Value.int .i64)) ∧ Below w.heap.size w w'

theorem rput_room (w : World) (a : Int) (v : Value) (xs : List Int) (x : Int) (hv : RInts w v xs) (hm : xs.length ≤ 900) (h : (xs.length : Int) < a) :
    Calls Try.prog 16 #[.agg #[.int .i64 a, v], .int .i64 x] w (PutPost w a (xs ++ [x])) := by
  obtain ⟨A, c, he⟩ := hv.len
  subst he
  have HV := Lib.hid hv; clear hv
  have hd : decide (a ≤ (xs.length : Int)) = false := by simp; omega
  clear h
  obtain ⟨i0, hi, hz0, hz1, hz2⟩ := info_parts FifoB.info3
  go_enter Try.func16, Try.ntmps16
  go_wp2_with fail
  have hb0 : Below w.heap.size w ((w.alloc (.cells #[.int .i64 a, .slice A xs.length c] 29)).alloc (.cells #[.int .i64 0, .slice none 0 0] 29)) := ((Below.refl _ _).alloc (Nat.le_refl _) _).alloc (by simp) _
  have HB0 := Lib.hid hb0; clear hb0
  refine (copy_any _ _ xs (rints_below HV.out HB0.out) (by omega)).mono ?_
  rintro e w1 ⟨v1, rfl, hown, hb⟩
  have hown1 := own_lower hown (base' := w.heap.size + 2) (by simp)
  obtain ⟨A1, c1, rfl⟩ := own_form hown1
  clear hown
  have HB1 := Lib.hid hb
  have hsz : w.heap.size + 2 ≤ w1.heap.size := by have := HB1.out.size; simpa using this
  have h1 : w1.heap[w.heap.size]? = some (.cells #[.int .i64 a, .slice A xs.length c] 29) := by
    rw [hb.block _ (by simp; omega), Below.heap_alloc _ _ _ (by simp)]; exact heap_alloc_new w _
  have h2 : w1.heap[w.heap.size + 1]? = some (.cells #[.int .i64 0, .slice none 0 0] 29) := by
    rw [hb.block _ (by simp)]
    have := heap_alloc_new (w.alloc (.cells #[.int .i64 a, .slice A xs.length c] 29)) (.cells #[.int .i64 0, .slice none 0 0] 29)
    simpa only [World.size_alloc] using this
  clear hb
  have H1 := Lib.hid h1
  have H2 := Lib.hid h2
  clear h1 h2
  go_wp2_with (at_builtin; refine wpList_append_own_at _ rfl _ _ 24 rfl (w.heap.size + 2) 3 i0 (.int .i64 0) 1 8 Try.underlying24 hi hz0 hz1 hz2 rfl (by decide) _ _ _ rfl (hown1.alloc _) ⟨w1.heap.size, 0, none⟩ 1 1 [.int .i64 x] rfl rfl ?c1 ?c2 ?c3 ?c4 ?c5 ?_)
  case c1 => go_simp
  case c2 => simp [Value.oneCell']
  case c3 => unfold maxLen; omega
  case c4 => omega
  case c5 => simp; omega
  intro v' w2 hown2 hg2 _ hat2
  have hne : ∀ b, b < w.heap.size + 2 → some b ≠ (Value.slice A1 xs.length c1).ownBlock := fun b hb e => by have := own_base hown1 b e.symm; omega
  have k1 : w2.heap[w.heap.size]? = some (.cells #[.int .i64 a, .slice A xs.length c] 29) := by
    rw [hg2.block _ (by simp; omega) (hne _ (by omega)), Below.heap_alloc _ _ _ (by omega)]; exact H1.out
  have k2 : w2.heap[w.heap.size + 1]? = some (.cells #[.int .i64 0, .slice none 0 0] 29) := by
    rw [hg2.block _ (by simp; omega) (hne _ (by omega)), Below.heap_alloc _ _ _ (by omega)]; exact H2.out
  have q1 : w2.cell? ⟨w.heap.size, 0, none⟩ = some (.int .i64 a) := by simp [World.cell?, k1]
  have q2 : w2.cell? ⟨w.heap.size, 1, none⟩ = some (.slice A xs.length c) := by simp [World.cell?, k1]
  have q3 : w2.cell? ⟨w.heap.size + 1, 0, none⟩ = some (.int .i64 0) := by simp [World.cell?, k2]
  have q4 : w2.cell? ⟨w.heap.size + 1, 1, none⟩ = some (.slice none 0 0) := by simp [World.cell?, k2]
  have f1 : w2.frozen? ⟨w.heap.size, 1, none⟩ = false := by unfold World.frozen?; rw [k1]; rfl
  have f3 : w2.frozen? ⟨w.heap.size + 1, 0, none⟩ = false := by unfold World.frozen?; rw [k2]; rfl
  have f4 : w2.frozen? ⟨w.heap.size + 1, 1, none⟩ = false := by unfold World.frozen?; rw [k2]; rfl
  obtain ⟨A2, c2, rfl⟩ := own_form hown2
  have HBB := Lib.hid (below_app (HB0.out.trans (HB1.out.mono (by simp; omega))) (show w.heap.size ≤ w1.heap.size by omega) (own_lower hown1 (by omega)) hg2)
  have HO2 := Lib.hid hown2
  clear hown2 hg2 hat2 hne k1 k2 hown1
  go_wp2
  refine bodyPost_ret (v := .tuple #[.agg #[.int .i64 a, .slice A2 (xs.length + 1) c2], .bool true]) (by simp [results, Try.results16, go_sem, q3, q4]) rfl ⟨_, rfl, ?_, ?_⟩
  · have h := HO2.out
    have := own_lower (own_far (own_far (own_far h (b := w.heap.size) (by omega) 1 (.slice A2 (xs.length + 1) c2)) (b := w.heap.size + 1) (by omega) 0 (.int .i64 a)) (b := w.heap.size + 1) (by omega) 1 (.slice A2 (xs.length + 1) c2)) (base' := w.heap.size) (by omega)
    simpa using this
  · exact ((HBB.out.setCell (Nat.le_refl _) _).setCell (by simp) _).setCell (by simp) _

theorem rget_none (w : World) (a : Int) (A : Option Addr) (c : Nat) :
    Calls Try.prog 18 #[.agg #[.int .i64 a, .slice A 0 c]] w fun e w' => e = .returned (.tuple #[.agg #[.int .i64 a, .slice A 0 c], .int .i64 0, .bool false]) ∧ Below w.heap.size w w' := by
  go_enter Try.func18, Try.ntmps18
  go_wp2
  exact bodyPost_ret (v := .tuple #[.agg #[.int .i64 a, .slice A 0 c], .int .i64 0, .bool false]) (by simp [results, Try.results18, go_sem]) rfl ⟨rfl, ((Below.refl _ _).alloc (Nat.le_refl _) _).alloc (by simp) _⟩

def GetPost (w : World) (a x : Int) (xs : List Int) (e : Ending) (w' : World) : Prop :=
  ∃ v', e = .returned (.tuple #[.agg #[.int .i64 a, v'], .int .i64 x, .bool true]) ∧ w'.ownsRow w.heap.size 3 1 v' xs.length (xs.map (Value.int .i64)) ∧ Below w.heap.size w w'

set_option maxHeartbeats 1000000 in
theorem rget_some (w : World) (a : Int) (b off c : Nat) (x : Int) (xs : List Int) (hv : RInts w (.slice (some ⟨b, off, none⟩) (xs.length + 1) c) (x :: xs)) (hc : xs.length + 1 ≤ c) (hm : xs.length ≤ 900) :
    Calls Try.prog 18 #[.agg #[.int .i64 a, .slice (some ⟨b, off, none⟩) (xs.length + 1) c]] w (GetPost w a x xs) := by
  have hx : w.cell? ⟨b, off, none⟩ = some (.int .i64 x) := by
    rcases hv with ⟨h, _⟩ | ⟨b', off', c', e, _, hcell⟩
    · cases h
    · injection e with e1
      injection e1 with e1
      injection e1 with e1 e2
      subst e1 e2
      exact hcell 0 (by simp)
  have hbl : b < w.heap.size := World.block_lt_of_cell? _ _ hx
  have g0 : ((xs.length : Int) + 1 == 0) = false := by simp; omega
  have ht1 : c = 1 → RInts w (.slice (some ⟨b, off, none⟩) xs.length 0) xs := fun h1 => by
    have : xs = [] := List.length_eq_zero_iff.1 (by omega)
    subst this
    exact .inl ⟨rfl, _, _, rfl⟩
  have ht2 : RInts w (.slice (some ⟨b, off + 1, none⟩) xs.length (c - 1)) xs := by
    rcases hv with ⟨h, _⟩ | ⟨b', off', c', e, _, hcell⟩
    · cases h
    · injection e with e1
      injection e1 with e1
      injection e1 with e1 e2
      subst e1 e2
      by_cases h0 : xs.length = 0
      · exact .inl ⟨List.length_eq_zero_iff.1 h0, some ⟨b, off + 1, none⟩, c - 1, by rw [h0]⟩
      · refine .inr ⟨b, off + 1, c - 1, rfl, by omega, fun j hj => ?_⟩
        have := hcell (j + 1) (by simp; omega)
        rw [show off + (j + 1) = off + 1 + j by omega] at this
        simpa using this
  have HT1 := Lib.hid ht1
  have HT2 := Lib.hid ht2
  clear hv ht1 ht2
  have hb0 : ∀ c, Below w.heap.size w ((w.alloc (.cells #[.int .i64 a, .slice (some ⟨b, off, none⟩) (xs.length + 1) c] 29)).alloc (.cells #[.int .i64 0, .slice none 0 0] 29)) := fun c => ((Below.refl _ _).alloc (Nat.le_refl _) _).alloc (by simp) _
  have HB0 := Lib.hid hb0; clear hb0
  by_cases hc1 : c = 1
  · subst hc1
    obtain rfl : xs = [] := List.length_eq_zero_iff.1 (by omega)
    clear HT1 HT2 g0 hc hm
    go_enter Try.func18, Try.ntmps18
    go_wp2_with fail
    refine (copy_any _ _ [] (.inl ⟨rfl, _, _, rfl⟩) (by simp)).mono ?_
    rintro e w1 ⟨v1, rfl, hown, hb⟩
    have HBB := Lib.hid ((HB0.out 1).trans (hb.mono (by simp; omega)))
    have k1 := hb.block w.heap.size (by simp; omega)
    rw [Below.heap_alloc _ _ _ (by simp), heap_alloc_new w _] at k1
    have k2 := hb.block (w.heap.size + 1) (by simp)
    have e2 := heap_alloc_new (w.alloc (.cells #[.int .i64 a, .slice (some ⟨b, off, none⟩) 1 1] 29)) (.cells #[.int .i64 0, .slice none 0 0] 29)
    rw [World.size_alloc] at e2
    rw [e2] at k2
    have hown1 := own_lower hown (base' := w.heap.size + 2) (by simp)
    obtain ⟨A1, c1, rfl⟩ := own_form hown1
    have q1 : w1.cell? ⟨w.heap.size, 0, none⟩ = some (.int .i64 a) := by simp [World.cell?, k1]
    have q2 : w1.cell? ⟨w.heap.size, 1, none⟩ = some (.slice (some ⟨b, off, none⟩) 1 1) := by simp [World.cell?, k1]
    have q3 : w1.cell? ⟨w.heap.size + 1, 0, none⟩ = some (.int .i64 0) := by simp [World.cell?, k2]
    have q4 : w1.cell? ⟨w.heap.size + 1, 1, none⟩ = some (.slice none 0 0) := by simp [World.cell?, k2]
    have f1 : w1.frozen? ⟨w.heap.size, 1, none⟩ = false := by unfold World.frozen?; rw [k1]; rfl
    have f3 : w1.frozen? ⟨w.heap.size + 1, 0, none⟩ = false := by unfold World.frozen?; rw [k2]; rfl
    have f4 : w1.frozen? ⟨w.heap.size + 1, 1, none⟩ = false := by unfold World.frozen?; rw [k2]; rfl
    have HO := Lib.hid hown1
    clear hown hown1 hb k1 k2 e2
    go_wp2
    refine bodyPost_ret (v := .tuple #[.agg #[.int .i64 a, .slice A1 0 c1], .int .i64 x, .bool true]) (by simp [results, Try.results18, go_sem, q3, q4]) rfl ⟨_, rfl, ?_, ?_⟩
    · have := own_lower (own_far (own_far (own_far HO.out (b := w.heap.size) (by omega) 1 (.slice A1 0 c1)) (b := w.heap.size + 1) (by omega) 0 (.int .i64 a)) (b := w.heap.size + 1) (by omega) 1 (.slice A1 0 c1)) (base' := w.heap.size) (by omega)
      simpa using this
    · exact ((HBB.out.setCell (Nat.le_refl _) _).setCell (by simp) _).setCell (by simp) _
  · go_enter Try.func18, Try.ntmps18
    go_wp2_with fail
    refine (copy_any _ _ xs (rints_below HT2.out (HB0.out c)) (by omega)).mono ?_
    rintro e w1 ⟨v1, rfl, hown, hb⟩
    have HBB := Lib.hid ((HB0.out c).trans (hb.mono (by simp; omega)))
    have k1 := hb.block w.heap.size (by simp; omega)
    rw [Below.heap_alloc _ _ _ (by simp), heap_alloc_new w _] at k1
    have k2 := hb.block (w.heap.size + 1) (by simp)
    have e2 := heap_alloc_new (w.alloc (.cells #[.int .i64 a, .slice (some ⟨b, off, none⟩) (xs.length + 1) c] 29)) (.cells #[.int .i64 0, .slice none 0 0] 29)
    rw [World.size_alloc] at e2
    rw [e2] at k2
    have hown1 := own_lower hown (base' := w.heap.size + 2) (by simp)
    obtain ⟨A1, c1, rfl⟩ := own_form hown1
    have q1 : w1.cell? ⟨w.heap.size, 0, none⟩ = some (.int .i64 a) := by simp [World.cell?, k1]
    have q2 : w1.cell? ⟨w.heap.size, 1, none⟩ = some (.slice (some ⟨b, off, none⟩) (xs.length + 1) c) := by simp [World.cell?, k1]
    have q3 : w1.cell? ⟨w.heap.size + 1, 0, none⟩ = some (.int .i64 0) := by simp [World.cell?, k2]
    have q4 : w1.cell? ⟨w.heap.size + 1, 1, none⟩ = some (.slice none 0 0) := by simp [World.cell?, k2]
    have f1 : w1.frozen? ⟨w.heap.size, 1, none⟩ = false := by unfold World.frozen?; rw [k1]; rfl
    have f3 : w1.frozen? ⟨w.heap.size + 1, 0, none⟩ = false := by unfold World.frozen?; rw [k2]; rfl
    have f4 : w1.frozen? ⟨w.heap.size + 1, 1, none⟩ = false := by unfold World.frozen?; rw [k2]; rfl
    have HO := Lib.hid hown1
    clear hown hown1 hb k1 k2 e2
    go_wp2
    refine bodyPost_ret (v := .tuple #[.agg #[.int .i64 a, .slice A1 xs.length c1], .int .i64 x, .bool true]) (by simp [results, Try.results18, go_sem, q3, q4]) rfl ⟨_, rfl, ?_, ?_⟩
    · have := own_lower (own_far (own_far (own_far HO.out (b := w.heap.size) (by omega) 1 (.slice A1 xs.length c1)) (b := w.heap.size + 1) (by omega) 0 (.int .i64 a)) (b := w.heap.size + 1) (by omega) 1 (.slice A1 xs.length c1)) (base' := w.heap.size) (by omega)
      simpa using this
    · exact ((HBB.out.setCell (Nat.le_refl _) _).setCell (by simp) _).setCell (by simp) _
end Go.Proofs.Ytiflghlhlkabdaa.FifoF
