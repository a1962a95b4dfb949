/- The queue's All: it answers all numbers that wait, in a row of its own, and the queue holds them as before. -/
import Derived.Test.YtiflghlhlkabdaaFifoA
namespace Go.Proofs.Ytiflghlhlkabdaa.FifoB
open Go.RowKit Go.Conc Go.Proofs.Ytiflghlhlkabdaa.FifoA
open Go.Proofs.YtiflghlhlkabdaaW.PrintWords (own_move own_typed own_base own_lt)

/-- Blocks have come; of the elder ones none but 'c' has turned. -/
structure Grow (c : Nat) (w w' : World) : Prop where
  size : w.heap.size ≤ w'.heap.size
  others : ∀ i, i < w.heap.size → i ≠ c → w'.heap[i]? = w.heap[i]?
  below : ∀ B, B ≤ c → B ≤ w.heap.size → Below B w w'
theorem Grow.refl (c : Nat) (w : World) : Grow c w w := ⟨Nat.le_refl _, fun _ _ _ => rfl, fun _ _ _ => Below.refl _ _⟩
theorem Grow.trans {c : Nat} {a b d : World} (h : Grow c a b) (k : Grow c b d) : Grow c a d :=
  ⟨Nat.le_trans h.size k.size, fun i hi hc => (k.others i (Nat.lt_of_lt_of_le hi h.size) hc).trans (h.others i hi hc), fun B h1 h2 => (h.below B h1 h2).trans (k.below B h1 (Nat.le_trans h2 h.size))⟩
theorem Grow.only {c : Nat} {w w' : World} (h : Only c w w') : Grow c w w' := ⟨by rw [h.size]; exact Nat.le_refl _, fun i _ hc => h.others i hc, fun B h1 _ => h.below B h1⟩
theorem Grow.of_below (c : Nat) {w w' : World} (h : Below w.heap.size w w') : Grow c w w' := ⟨h.size, fun i hi _ => h.block i hi, fun _ _ h2 => h.mono h2⟩
theorem Grow.alloc (c : Nat) (w : World) (o : Obj) : Grow c w (w.alloc o) := .of_below c ((Below.refl _ _).alloc (Nat.le_refl _) _)
theorem Grow.drewN (c : Nat) (w : World) (n : Nat) : Grow c w (w.drewN n) := ⟨Nat.le_refl _, fun _ _ _ => rfl, fun _ _ _ => ⟨rfl, rfl, rfl, Nat.le_refl _, fun _ _ => rfl⟩⟩

/-- A row of the call's own is kept where nothing but a channel has turned. -/
theorem own_grow {w w' : World} {q c cap : Nat} {ys : List Int} (hq : QAt w q c cap ys) {base n : Nat} {e : TypeId} {v : Value} {xs : List Value} (h : w.ownsRow base e 1 v n xs) (g : Grow c w w') : w'.ownsRow base e 1 v n xs := by
  refine own_move h fun k hk => g.others k (own_lt h k hk) ?_
  rintro rfl
  obtain ⟨cells, hc⟩ := own_typed h k hk
  obtain ⟨s, r, hch⟩ := hq.chan
  rw [hc] at hch
  cases hch

def AllPost (w : World) (q c cap : Nat) (xs : List Int) (e : Ending) (w' : World) : Prop :=
  ∃ v, e = .returned v ∧ w'.ownsRow w.heap.size 3 1 v xs.length (xs.map (Value.int .i64)) ∧ QAt w' q c cap xs ∧ Grow c w w'

theorem info3 : (Try.prog.info? 3).map (fun i => (i.zero, i.size, i.bytes)) = some (some (.int .i64 0), 1, 8) := by kernel_rfl

def AllRel (w : World) (q c cap : Nat) (xs : List Int) (k : Nat) (v : Value) (wr : World) : Prop :=
  wr.ownsRow w.heap.size 3 1 v k ((xs.take k).map (Value.int .i64)) ∧ QAt wr q c cap (xs.drop k ++ xs.take k) ∧ Grow c w wr

theorem all_snoc {xs r : List Int} {k : Nat} {x : Int} (h : xs.drop k = x :: r) : xs.take (k + 1) = xs.take k ++ [x] := by
  rw [List.take_add, h]; rfl

/-- An append to a row that is new since 'w'. -/
theorem Grow.row {c : Nat} {w w1 w2 : World} {row : Option Nat} (h : Grow c w w1) (g : w1.grownBy w2 row) (hr : ∀ b, row = some b → w.heap.size ≤ b) : Grow c w w2 :=
  ⟨Nat.le_trans h.size g.size, fun i hi hc => (g.block i (Nat.lt_of_lt_of_le hi h.size) (fun e => by have := hr i e.symm; omega)).trans (h.others i hi hc),
    fun B h1 h2 => (h.below B h1 h2).trans ⟨g.os, g.tape, g.output, g.size, fun k hk => g.block k (Nat.lt_of_lt_of_le hk (Nat.le_trans h2 h.size)) (fun e => by have := hr k e.symm; omega)⟩⟩
theorem all_moved {w w1 w2 : World} {q c cap : Nat} {xs ys : List Int} {x : Int} {v : Value} {k : Nat} {zs : List Value} (h : QAt w q c cap xs) (h1 : QAt w1 q c cap ys)
    (ho : w1.ownsRow w.heap.size 3 1 v k zs) (g : (w1.alloc (.cells #[.int .i64 x] 3)).grownBy w2 v.ownBlock) : QAt w2 q c cap ys := by
  have hne : ∀ b, b < w.heap.size → some b ≠ v.ownBlock := fun b hb e => by
    have := own_base ho b e.symm
    omega
  refine h1.move ?_ ?_
  · rw [g.block q (by have := h1.lq; simp; omega) (hne q h.lq)]; exact Below.heap_alloc _ _ _ h1.lq
  · rw [g.block c (by have := h1.lt; simp; omega) (hne c h.lt)]; exact Below.heap_alloc _ _ _ h1.lt

theorem all_any (w : World) (q c cap : Nat) (xs : List Int) (h : QAt w q c cap xs) (h4 : cap ≤ 4) (hx : xs.length ≤ cap) :
    Calls Try.prog 20 #[.pointer (some ⟨q, 0, none⟩)] w (AllPost w q c cap xs) := by
  have h4' : xs.length ≤ 4 := Nat.le_trans hx h4
  have H := Lib.hid h
  clear h
  obtain ⟨i0, hi, hz0, hz1, hz2⟩ := info_parts info3
  go_enter Try.func20, Try.ntmps20
  go_wp2_with (go_at_call 22; refine (len_any _ _ _ _ _ H.out).mono ?_; rintro e w1 ⟨rfl, rfl⟩)
  go_loopw [3, 8] (fun v i wr => ∃ k : Nat, k ≤ xs.length ∧ i = .int .i64 k ∧ AllRel w q c cap xs k v wr) (fun _ i _ => xs.length - (intOf i).toNat)
  case atStart => exact ⟨0, Nat.zero_le _, rfl, ⟨⟨rfl, .inl ⟨rfl, rfl⟩⟩, by simpa using H.out, Grow.refl _ _⟩⟩
  case round =>
    obtain ⟨k, hk, rfl, hR⟩ := hrel
    by_cases hlt : k < xs.length
    · obtain ⟨x, r, hd⟩ : ∃ x r, xs.drop k = x :: r := by
        cases hd : xs.drop k with
        | nil => have := congrArg List.length hd; simp at this; omega
        | cons x r => exact ⟨x, r, rfl⟩
      have hrk : r.length + k + 1 = xs.length := by have := congrArg List.length hd; simp at this; omega
      have hsn := all_snoc hd
      have hdr : xs.drop (k + 1) = r := by rw [← List.drop_drop, hd]; rfl
      have HS := Lib.hid hsn; clear hsn
      have HD := Lib.hid hdr; clear hdr
      have HQ := Lib.hid hR.2.1
      have HG := Lib.hid hR.2.2
      have HO := Lib.hid hR.1
      clear hR
      have HQ1 : Hid (QAt wr q c cap (x :: (r ++ xs.take k))) := Lib.hid (by have := HQ.out; rw [hd] at this; exact this)
      clear HQ hd
      go_wp2_with fail
      refine (get_some _ _ _ _ _ _ HQ1.out).mono ?_
      rintro e w1 ⟨rfl, hq1, ho1⟩
      have HQ2 := Lib.hid hq1; clear hq1
      have HG1 := Lib.hid (HG.out.trans (.only ho1))
      have hown : w1.ownsRow w.heap.size 3 1 u3 k ((xs.take k).map (Value.int .i64)) := own_grow HQ1.out HO.out (.only ho1)
      clear ho1 HG HO HQ1
      have hsz : w.heap.size ≤ w1.heap.size := HG1.out.size
      go_wp2_with (at_builtin; refine wpList_append_own _ rfl _ _ 24 rfl w.heap.size 3 i0 (.int .i64 0) 1 8 Try.underlying24 hi hz0 hz1 hz2 rfl (by decide) _ _ _ rfl (hown.alloc _) ⟨w1.heap.size, 0, none⟩ 1 1 [.int .i64 x] rfl rfl ?c1 ?c2 ?c3 ?c4 ?c5 ?_)
      case c1 => go_simp
      case c2 => simp [Value.oneCell']
      case c3 => unfold maxLen; omega
      case c4 => omega
      case c5 => simp; omega
      intro v' w2 hown2 hgrow _
      have HO2 := Lib.hid hown2; clear hown2
      have HG2 := Lib.hid ((HG1.out.trans (Grow.alloc c w1 (.cells #[.int .i64 x] 3))).row hgrow fun b hb => own_base hown b hb)
      have hq3 : QAt w2 q c cap (r ++ xs.take k) := all_moved H.out HQ2.out hown hgrow
      have HQ3 := Lib.hid hq3
      clear hq3 hown hgrow HG1 HQ2
      go_wp2_with fail
      refine (put_room _ _ _ _ _ _ HQ3.out (by simp; omega)).mono ?_
      rintro e w3 ⟨rfl, hq4, ho3⟩
      have HQ4 := Lib.hid hq4; clear hq4
      have HO3 := Lib.hid (own_grow HQ3.out HO2.out (.only ho3))
      have HG3 := Lib.hid (HG2.out.trans (.only ho3))
      clear ho3 HQ3 HO2 HG2
      go_wp2
      go_roundw
      case measure => simp [intOf]; omega
      case rel =>
        refine ⟨k + 1, by omega, by go_num, ?_, ?_, HG3.out⟩
        · have := HO3.out; rw [HS.out]; simpa using this
        · have := HQ4.out; rw [HS.out, HD.out, ← List.append_assoc]; exact this
    · obtain rfl : k = xs.length := by omega
      have HR := Lib.hid hR; clear hR
      go_wp2
      go_ret
      obtain ⟨r1, r2, r3⟩ := HR.out
      refine ⟨_, rfl, ?_, ?_, r3⟩
      · simpa using r1
      · simpa using r2
end Go.Proofs.Ytiflghlhlkabdaa.FifoB
