/- The queue of the program, method by method: what each call of New, Put, Get, Len and Room answers and leaves, over a queue whose channel holds a row of numbers. -/
import Derived.Test.YtiflghlhlkabdaaPWordSignsx1
import Derived.Lib.Hide
import Derived.Conc.LoneSelect
import Derived.Conc.LoneSelectN
namespace Go.Proofs.Ytiflghlhlkabdaa.FifoA
open Go.RowKit Go.Conc

/-- A region that begins with a communication which comes to its end by itself. -/
theorem wp_region_comm {P : Program} {id : Nat} {o : Oper} {l : List Oper} {Q : Exit → Act → World → Prop} {a : Act} {w w1 : World} {cases : Array CommCase} {v : Value}
    (hg : o.guard = none) (hr : (execOp a.eval o).run P w = .ok (.comm cases false .select) w)
    (hstep : ∀ fr cs es, stepG P true (G fr cs) w = .comm (G fr cs) cases false .select w es → step P (solo (G fr cs) w) = .next (solo (G (fr.finish v) cs) w1))
    (h : wpList P (o :: l).toArray Q l (a.put o.dst v) w1) : (Code.region id (o :: l).toArray false).wp P Q a w := by
  intro b k cs
  have hops : wpOps P (o :: l).toArray Q (List.range' 1 l.length) (a.put o.dst v) w1 := by
    rw [wpOps_eq_wpList l 1 (by intro j; simp [Nat.add_comm])]; exact h
  obtain ⟨e, a', w', hq, harr⟩ := wp_ops _ _ _ hops b k cs
  refine ⟨e, a', w', hq, .of_steps (.head step_region ?_) harr⟩
  have hrange : List.range (o :: l).toArray.size = 0 :: List.range' 1 l.length := by
    simp [List.range_eq_range', List.range'_succ]
  rw [hrange]
  have ho : (o :: l).toArray[0]? = some o := by simp
  have hw : Region.wanted o (yielded (o :: l).toArray a.tmps) = true := by simp [Region.wanted, hg]
  have hG := stepG_op (P := P) (b := b) (k := k) (cs := cs) (w := w) (rest := List.range' 1 l.length) ho hw
  refine .one ?_
  rw [lone_eq_solo, lone_eq_solo]
  have hfin : (b.at a (.inRegion (o :: l).toArray (0 :: List.range' 1 l.length) :: k)).finish v = b.at (a.put o.dst v) (.inRegion (o :: l).toArray (List.range' 1 l.length) :: k) := by
    rw [Frame.finish_at]; simp
  rw [← hfin]
  exact hstep _ cs _ (by
    show stepG P true { frame := b.at a (.inRegion (o :: l).toArray (0 :: List.range' 1 l.length) :: k), callers := cs, status := .running, dying := none } w = _
    rw [hG]
    simp only [stepG.apply, Sem.runT_eq, hr, GStep.after]
    rfl)

/-- A queue: its pointer's block holds the channel's number; the channel holds 'xs'. -/
structure QAt (w : World) (q c cap : Nat) (xs : List Int) : Prop where
  cell : w.cell? ⟨q, 0, none⟩ = some (.chan (some c))
  chan : ∃ s r, w.heap[c]? = some (.chan cap (xs.map (Value.int .i64)).toArray false s r false)

/-- Nothing but block 'c' has turned. -/
structure Only (c : Nat) (w w' : World) : Prop where
  size : w'.heap.size = w.heap.size
  others : ∀ i, i ≠ c → w'.heap[i]? = w.heap[i]?
  below : ∀ B, B ≤ c → Below B w w'

theorem Only.refl (c : Nat) (w : World) : Only c w w := ⟨rfl, fun _ _ => rfl, fun _ _ => Below.refl _ _⟩
theorem Only.trans {c : Nat} {a b d : World} (h : Only c a b) (k : Only c b d) : Only c a d :=
  ⟨k.size.trans h.size, fun i hi => (k.others i hi).trans (h.others i hi), fun B hB => (h.below B hB).trans (k.below B hB)⟩
theorem Only.setChan (w : World) (c cap : Nat) (buf : Array Value) (s r : Nat) : Only c w (w.setChan c cap buf false s r false) :=
  ⟨size_setChan _ _ _ _ _ _ _ _, fun i hi => by simp [World.setChan, Array.getElem?_setIfInBounds_ne (Ne.symm hi)], fun B hB => below_setChan (Below.refl _ _) hB _ _ _ _ _ _⟩
theorem Only.cell {c : Nat} {w w' : World} (h : Only c w w') (b o : Nat) (hb : b ≠ c) : w'.cell? ⟨b, o, none⟩ = w.cell? ⟨b, o, none⟩ := by
  simp only [World.cell?, h.others b hb]

theorem QAt.ne {w : World} {q c cap : Nat} {xs : List Int} (h : QAt w q c cap xs) : q ≠ c := by
  rintro rfl
  obtain ⟨s, r, hc⟩ := h.chan
  have := h.cell
  simp [World.cell?, hc] at this
theorem QAt.lt {w : World} {q c cap : Nat} {xs : List Int} (h : QAt w q c cap xs) : c < w.heap.size := by
  obtain ⟨s, r, hc⟩ := h.chan
  rcases Nat.lt_or_ge c w.heap.size with h | h
  · exact h
  · simp [Array.getElem?_eq_none h] at hc
theorem QAt.set {w : World} {q c cap : Nat} {xs : List Int} (h : QAt w q c cap xs) (ys : List Int) (s r : Nat) :
    QAt (w.setChan c cap (ys.map (Value.int .i64)).toArray false s r false) q c cap ys :=
  ⟨(Only.setChan w c cap _ s r).cell q 0 h.ne ▸ h.cell, s, r, heap_setChan w c cap _ false s r false h.lt⟩

theorem QAt.lq {w : World} {q c cap : Nat} {xs : List Int} (h : QAt w q c cap xs) : q < w.heap.size := by
  have := h.cell
  rcases Nat.lt_or_ge q w.heap.size with h | h
  · exact h
  · simp [World.cell?, Array.getElem?_eq_none h] at this
theorem QAt.move {w w' : World} {q c cap : Nat} {xs : List Int} (h : QAt w q c cap xs) (hq : w'.heap[q]? = w.heap[q]?) (hc : w'.heap[c]? = w.heap[c]?) : QAt w' q c cap xs := by
  obtain ⟨s, r, hch⟩ := h.chan
  exact ⟨by rw [← h.cell]; simp only [World.cell?, hq], s, r, hc.trans hch⟩

theorem res_s (c : Nat) (u z : Value) : commResult #[scase c u z] .select ((0 : Nat) : Int) undef false = .tuple #[goInt 0, .bool false] := by
  simp [commResult, scase, List.zipIdx_cons]

theorem put_room (w : World) (q c cap : Nat) (xs : List Int) (v : Int) (h : QAt w q c cap xs) (hr : xs.length < cap) :
    Calls Try.prog 17 #[.pointer (some ⟨q, 0, none⟩), .int .i64 v] w fun e w' => e = .returned (.bool true) ∧ QAt w' q c cap (xs ++ [v]) ∧ Only c w w' := by
  obtain ⟨s, r, hc⟩ := h.chan
  have hq := h.cell
  have H := Lib.hid h
  clear h
  have HC := Lib.hid hc
  clear hc
  go_enter Try.func17, Try.ntmps17
  go_upto_region 3 with (fail)
  refine wp_region_comm (cases := #[scase c (.int .i64 v) (.int .i64 0)]) rfl (by simp [go_sem, execOp, scase, Act.eval]) (fun fr cs es hst => step_lone_select_send_room hst HC.out (by simpa using hr)) ?_
  go_wp2
  go_ret
  refine ⟨rfl, ?_, Only.setChan _ _ _ _ _ _⟩
  have := H.out.set (xs ++ [v]) (s + 1) r
  simpa using this

theorem put_full (w : World) (q c cap : Nat) (xs : List Int) (v : Int) (h : QAt w q c cap xs) (hr : cap ≤ xs.length) :
    Calls Try.prog 17 #[.pointer (some ⟨q, 0, none⟩), .int .i64 v] w fun e w' => e = .returned (.bool false) ∧ w = w' := by
  obtain ⟨s, r, hc⟩ := h.chan
  have hq := h.cell
  clear h
  have HC := Lib.hid hc
  clear hc
  go_enter Try.func17, Try.ntmps17
  go_upto_region 3 with (fail)
  refine wp_region_comm (cases := #[scase c (.int .i64 v) (.int .i64 0)]) rfl (by simp [go_sem, execOp, scase, Act.eval]) (fun fr cs es hst => step_lone_select_send_full hst HC.out (by simpa using hr)) ?_
  go_wp2
  go_ret
  exact ⟨rfl, rfl⟩

theorem get_some (w : World) (q c cap : Nat) (x : Int) (xs : List Int) (h : QAt w q c cap (x :: xs)) :
    Calls Try.prog 19 #[.pointer (some ⟨q, 0, none⟩)] w fun e w' => e = .returned (.tuple #[.int .i64 x, .bool true]) ∧ QAt w' q c cap xs ∧ Only c w w' := by
  obtain ⟨s, r, hc⟩ := h.chan
  have hq := h.cell
  have H := Lib.hid h
  clear h
  have HC := Lib.hid hc
  clear hc
  go_enter Try.func19, Try.ntmps19
  go_upto_region 2 with (fail)
  refine wp_region_comm (cases := #[rcase c (.int .i64 0)]) rfl (by simp [go_sem, execOp, rcase, Act.eval]) (fun fr cs es hst => step_lone_select_recv_buf hst HC.out (by simp)) ?_
  go_wp2
  go_ret2
  refine ⟨rfl, ?_, Only.setChan _ _ _ _ _ _⟩
  have := H.out.set xs s (r + 1)
  rw [show List.take xs.length (List.map (Value.int .i64) xs) = List.map (Value.int .i64) xs from List.take_of_length_le (by simp)]
  exact this

theorem get_none (w : World) (q c cap : Nat) (h : QAt w q c cap []) :
    Calls Try.prog 19 #[.pointer (some ⟨q, 0, none⟩)] w fun e w' => e = .returned (.tuple #[.int .i64 0, .bool false]) ∧ w = w' := by
  obtain ⟨s, r, hc⟩ := h.chan
  have hq := h.cell
  clear h
  have HC := Lib.hid hc
  clear hc
  go_enter Try.func19, Try.ntmps19
  go_upto_region 2 with (fail)
  refine wp_region_comm (cases := #[rcase c (.int .i64 0)]) rfl (by simp [go_sem, execOp, rcase, Act.eval]) (fun fr cs es hst => step_lone_select_default hst HC.out) ?_
  go_wp2
  go_ret2
  exact ⟨rfl, rfl⟩

theorem len_any (w : World) (q c cap : Nat) (xs : List Int) (h : QAt w q c cap xs) :
    Calls Try.prog 22 #[.pointer (some ⟨q, 0, none⟩)] w fun e w' => e = .returned (.int .i64 xs.length) ∧ w = w' := by
  obtain ⟨s, r, hc⟩ := h.chan
  have hq := h.cell
  clear h
  have hl := fun ty => run_len_chan (P := Try.prog) 50 ty Try.underlying50 hc
  clear hc
  go_enter Try.func22, Try.ntmps22
  go_wp2
  go_ret
  exact ⟨by simp, rfl⟩

theorem room_any (w : World) (q c cap : Nat) (xs : List Int) (h : QAt w q c cap xs) (h4 : cap ≤ 4) (hx : xs.length ≤ cap) :
    Calls Try.prog 23 #[.pointer (some ⟨q, 0, none⟩)] w fun e w' => e = .returned (.int .i64 (cap - xs.length)) ∧ ∃ n, w' = w.drewN n := by
  obtain ⟨s, r, hc⟩ := h.chan
  have hq := h.cell
  clear h
  have hl := fun n ty => run_len_chan (P := Try.prog) (w := w.drewN n) 50 ty Try.underlying50 hc
  have hk := fun n ty => run_cap_chan (P := Try.prog) (w := w.drewN n) 50 ty Try.underlying50 hc
  clear hc
  go_enter Try.func23, Try.ntmps23
  go_upto_region 1 with (fail)
  go_quiet (fail)
  go_wp2
  go_ret
  exact ⟨rfl, nq, rfl⟩

def clampN (p : Int) : Nat := if p < 1 then 1 else if 4 < p then 4 else p.toNat

theorem bytes3 : ∃ i, Try.prog.info? 3 = some i ∧ i.bytes = 8 := by
  have h : (Try.prog.info? 3).map (·.bytes) = some 8 := by kernel_rfl
  obtain ⟨i, hi, hb⟩ := Option.map_eq_some_iff.1 h
  exact ⟨i, hi, hb⟩
theorem mk_chan (n : Nat) (hn : n ≤ 4) (w : World) : (Instr.makeChan 50 (.int .i64 n)).run Try.prog w = .ok (.chan (some w.heap.size)) (w.alloc (.chan n #[] false 0 0 false)) := by
  obtain ⟨i, hi, hb⟩ := bytes3
  simpa using run_makeChan (P := Try.prog) (w := w) Try.underlying50 hi .i64 n (by omega) (by rw [hb]; omega)

section
open Go.Proofs.YtiflghlhlkabdaaW.PrintWords Go.Proofs.YtiflghlhlkabdaaW.PrintLast Go.Proofs.YtiflghlhlkabdaaW.PrintMore
attribute [local go_sem] max2_int min2_int max_two min_two
def Newed (p : Int) (w : World) (e : Ending) (w' : World) : Prop :=
  ∃ q c, e = .returned (.pointer (some ⟨q, 0, none⟩)) ∧ QAt w' q c (clampN p) [] ∧ w.heap.size ≤ q ∧ w.heap.size ≤ c ∧ Below w.heap.size w w'
theorem new_any (w : World) (p : Int) : Calls Try.prog 14 #[.int .i64 p] w (Newed p w) := by
  have fin : ∀ (n : Nat), n = clampN p →
      Newed p w (Ending.returned (.pointer (some ⟨w.heap.size + 1, 0, none⟩))) ((w.alloc (.chan n #[] false 0 0 false)).alloc (.cells #[.chan (some w.heap.size)] 52)) := by
    rintro n rfl
    refine ⟨w.heap.size + 1, w.heap.size, rfl, ⟨?_, 0, 0, ?_⟩, by omega, Nat.le_refl _, ((Below.refl _ _).alloc (Nat.le_refl _) _).alloc (by simp) _⟩
    · have h1 := heap_alloc_new (w.alloc (.chan (clampN p) #[] false 0 0 false)) (.cells #[.chan (some w.heap.size)] 52)
      simp only [World.size_alloc] at h1
      unfold World.cell?
      rw [h1]
      rfl
    · rw [Below.heap_alloc _ _ _ (by simp)]
      exact heap_alloc_new w _
  have Fin := Lib.hid fin
  clear fin
  by_cases h1 : p < 1
  · have hc : (1 : Nat) = clampN p := by simp [clampN, h1]
    have Hc := Lib.hid hc; clear hc
    have h4 : ¬ (4 < p) := by omega
    have hm : ∀ w, (Instr.makeChan 50 (.int .i64 1)).run Try.prog w = .ok (.chan (some w.heap.size)) (w.alloc (.chan 1 #[] false 0 0 false)) := mk_chan 1 (by omega)
    have h2 : ¬ (1 < p) := by omega
    go_enter Try.func14, Try.ntmps14
    go_wp2
    go_ret
    exact Fin.out 1 Hc.out
  · by_cases h4 : 4 < p
    · have hc : (4 : Nat) = clampN p := by simp [clampN, h1, h4]
      have Hc := Lib.hid hc; clear hc
      have hm : ∀ w, (Instr.makeChan 50 (.int .i64 4)).run Try.prog w = .ok (.chan (some w.heap.size)) (w.alloc (.chan 4 #[] false 0 0 false)) := mk_chan 4 (by omega)
      go_enter Try.func14, Try.ntmps14
      go_wp2
      go_ret
      exact Fin.out 4 Hc.out
    · obtain ⟨n, rfl⟩ := Int.eq_ofNat_of_zero_le (show 0 ≤ p by omega)
      have hc : n = clampN n := by unfold clampN; rw [if_neg h1, if_neg h4]; simp
      have Hc := Lib.hid hc; clear hc
      have hm := mk_chan n (by omega)
      by_cases h2 : 1 < (n : Int)
      · go_enter Try.func14, Try.ntmps14
        go_wp2
        go_ret
        exact Fin.out n Hc.out
      · obtain rfl : n = 1 := by omega
        clear hm
        have hm : ∀ w, (Instr.makeChan 50 (.int .i64 1)).run Try.prog w = .ok (.chan (some w.heap.size)) (w.alloc (.chan 1 #[] false 0 0 false)) := mk_chan 1 (by omega)
        go_enter Try.func14, Try.ntmps14
        go_wp2
        go_ret
        exact Fin.out 1 Hc.out
end
end Go.Proofs.Ytiflghlhlkabdaa.FifoA
