/- The law FifoOrder: what is got from the queue is what was put, in order, each once; no condition. -/
import Derived.Test.YtiflghlhlkabdaaFifoD
namespace Go.Proofs.Ytiflghlhlkabdaa.FifoE
open Go.RowKit Go.Conc Go.Proofs.Ytiflghlhlkabdaa.FifoA Go.Proofs.Ytiflghlhlkabdaa.FifoB Go.Proofs.Ytiflghlhlkabdaa.FifoC Go.Proofs.Ytiflghlhlkabdaa.FifoD
open Go.Proofs.YtiflghlhlkabdaaW.PrintWords (Drawn0 own_move own_typed own_base own_lt)

/-- The queue holds 'ys'; two rows of the law's own hold 'ins' and 'outs'; the three lie apart. -/
structure St (B q c N : Nat) (ins outs ys : List Int) (vi vo : Value) (w : World) : Prop where
  qu : QAt w q c N ys
  l : ys.length ≤ N
  i : w.ownsRow B 3 1 vi ins.length (ins.map (Value.int .i64))
  o : w.ownsRow B 3 1 vo outs.length (outs.map (Value.int .i64))
  di : ∀ k, vi.ownBlock = some k → k ≠ q ∧ vo.ownBlock ≠ some k
  dq : ∀ k, vo.ownBlock = some k → k ≠ q

theorem St.chan {B q c N : Nat} {ins outs ys zs : List Int} {vi vo : Value} {w w' : World} (h : St B q c N ins outs ys vi vo w) (hq : QAt w' q c N zs) (hl : zs.length ≤ N) (ho : Only c w w') :
    St B q c N ins outs zs vi vo w' :=
  ⟨hq, hl, own_grow h.qu h.i (.only ho), own_grow h.qu h.o (.only ho), h.di, h.dq⟩

theorem St.appI {B q c N : Nat} {ins outs ys : List Int} {vi vo v' : Value} {w w2 : World} {o : Obj} (x : Int) (h : St B q c N ins outs ys vi vo w)
    (hown : w2.ownsRow B 3 1 v' (ins.length + 1) (ins.map (Value.int .i64) ++ [.int .i64 x])) (g : (w.alloc o).grownBy w2 vi.ownBlock)
    (hat : v'.ownBlock = vi.ownBlock ∨ v'.ownBlock = some (w.heap.size + 1)) : St B q c N (ins ++ [x]) outs ys v' vo w2 := by
  have old : ∀ k, k < w.heap.size → some k ≠ vi.ownBlock → w2.heap[k]? = w.heap[k]? := fun k hk hne =>
    (g.block k (by simp; omega) hne).trans (Below.heap_alloc _ _ _ hk)
  refine ⟨h.qu.move (old q h.qu.lq (fun e => (h.di q e.symm).1 rfl)) (old c h.qu.lt (fun e => ?_)), h.l, by simpa using hown, own_move h.o (fun k hk => old k (own_lt h.o k hk) (fun e => (h.di k e.symm).2 hk)), ?_, h.dq⟩
  · obtain ⟨cells, hc⟩ := own_typed h.i c e.symm
    obtain ⟨s, r, hch⟩ := h.qu.chan
    rw [hc] at hch; cases hch
  · intro k hk
    rcases hat with e | e
    · exact h.di k (e ▸ hk)
    · rw [e] at hk
      have hk' : w.heap.size + 1 = k := by simpa using hk
      exact ⟨fun e => by have := h.qu.lq; omega, fun e => by have := own_lt h.o k e; omega⟩

theorem St.appO {B q c N : Nat} {ins outs ys : List Int} {vi vo v' : Value} {w w2 : World} {o : Obj} (x : Int) (h : St B q c N ins outs ys vi vo w)
    (hown : w2.ownsRow B 3 1 v' (outs.length + 1) (outs.map (Value.int .i64) ++ [.int .i64 x])) (g : (w.alloc o).grownBy w2 vo.ownBlock)
    (hat : v'.ownBlock = vo.ownBlock ∨ v'.ownBlock = some (w.heap.size + 1)) : St B q c N ins (outs ++ [x]) ys vi v' w2 := by
  have old : ∀ k, k < w.heap.size → some k ≠ vo.ownBlock → w2.heap[k]? = w.heap[k]? := fun k hk hne =>
    (g.block k (by simp; omega) hne).trans (Below.heap_alloc _ _ _ hk)
  refine ⟨h.qu.move (old q h.qu.lq (fun e => h.dq q e.symm rfl)) (old c h.qu.lt (fun e => ?_)), h.l, own_move h.i (fun k hk => old k (own_lt h.i k hk) (fun e => (h.di k hk).2 e.symm)), by simpa using hown, ?_, ?_⟩
  · obtain ⟨cells, hc⟩ := own_typed h.o c e.symm
    obtain ⟨s, r, hch⟩ := h.qu.chan
    rw [hc] at hch; cases hch
  · intro k hk
    refine ⟨(h.di k hk).1, fun e2 => ?_⟩
    rcases hat with e | e
    · exact (h.di k hk).2 (e ▸ e2)
    · rw [e] at e2
      have hk' : w.heap.size + 1 = k := by simpa using e2
      have := own_lt h.i k hk; omega
  · intro k hk
    rcases hat with e | e
    · exact h.dq k (e ▸ hk)
    · rw [e] at hk
      have hk' : w.heap.size + 1 = k := by simpa using hk
      have := h.qu.lq; omega

theorem below_app {B : Nat} {w0 w w2 : World} {o : Obj} {v : Value} {n : Nat} {xs : List Value} (hb : Below B w0 w) (hB : B ≤ w.heap.size) (h : w.ownsRow B 3 1 v n xs) (g : (w.alloc o).grownBy w2 v.ownBlock) : Below B w0 w2 :=
  (hb.alloc hB o).trans ⟨g.os, g.tape, g.output, g.size, fun k hk => g.block k (by simp; omega) (fun e => by have := own_base h k e.symm; omega)⟩

theorem start_st {B q c N : Nat} {w : World} (hq : QAt w q c N []) (hB : B ≤ w.heap.size) :
    St B q c N [] [] [] (.slice (some ⟨w.heap.size, 0, none⟩) 0 0) (.slice (some ⟨w.heap.size + 1, 0, none⟩) 0 0) ((w.alloc (.cells #[] 3)).alloc (.cells #[] 3)) := by
  have h1 : ((w.alloc (.cells #[] 3)).alloc (.cells #[] 3)).heap[w.heap.size]? = some (.cells #[] 3) := by
    rw [Below.heap_alloc _ _ _ (by simp)]; exact heap_alloc_new w _
  have h2 : ((w.alloc (.cells #[] 3)).alloc (.cells #[] 3)).heap[w.heap.size + 1]? = some (.cells #[] 3) := by
    have := heap_alloc_new (w.alloc (.cells #[] 3)) (.cells #[] 3)
    simpa only [World.size_alloc] using this
  have old : ∀ k, k < w.heap.size → ((w.alloc (.cells #[] 3)).alloc (.cells #[] 3)).heap[k]? = w.heap[k]? := fun k hk => by
    rw [Below.heap_alloc _ _ _ (by simp; omega), Below.heap_alloc _ _ _ hk]
  have lq := hq.lq
  refine ⟨hq.move (old q hq.lq) (old c hq.lt), by simp, ⟨rfl, .inr ⟨_, 0, #[], rfl, hB, h1, Nat.le_refl _, Nat.zero_le _, rfl, rfl⟩⟩, ⟨rfl, .inr ⟨_, 0, #[], rfl, by omega, h2, Nat.le_refl _, Nat.zero_le _, rfl, rfl⟩⟩, ?_, ?_⟩
  · intro k hk
    have hk' : w.heap.size = k := by simpa [Value.ownBlock] using hk
    subst hk'
    exact ⟨by omega, by simp [Value.ownBlock]⟩
  · intro k hk
    have hk' : w.heap.size + 1 = k := by simpa [Value.ownBlock] using hk
    omega

theorem own_form {w : World} {B n : Nat} {v : Value} {xs : List Value} (h : w.ownsRow B 3 1 v n xs) : ∃ A c, v = .slice A n c := by
  obtain ⟨_, h⟩ := h
  rcases h with ⟨rfl, rfl⟩ | ⟨g, cap, cur, rfl, _⟩
  · exact ⟨none, 0, rfl⟩
  · exact ⟨_, cap, rfl⟩

def OrdRel (w : World) (q c N k : Nat) (vi vo : Value) (wr : World) : Prop :=
  Below w.heap.size w wr ∧ ∃ ins outs ys, ins = outs ++ ys ∧ ins.length ≤ k ∧ St w.heap.size q c N ins outs ys vi vo wr
def EndRel (w : World) (q c N : Nat) (ins : List Int) (vi vo : Value) (wr : World) (m : Nat) : Prop :=
  Below w.heap.size w wr ∧ ∃ outs ys, ins = outs ++ ys ∧ m = ys.length ∧ ins.length ≤ 300 ∧ St w.heap.size q c N ins outs ys vi vo wr

theorem order_great (w : World) (p : Int) (A : Option Addr) (n c : Nat) (h : 300 < n) (hn : n ≤ 9223372036854775807) : Calls Try.prog 5 #[.int .i64 p, .slice A n c] w (TruePost w) := by
  have hb : decide ((300 : Int) < (n : Int)) = true := by simp; omega
  clear h
  go_enter Try.func5, Try.ntmps5
  go_wp2_with fail
  refine (alive_true _).mono ?_
  rintro e w1 ⟨rfl, hb⟩
  go_wp2
  go_ret
  exact ⟨rfl, hb⟩

theorem order_small (w : World) (p : Int) (v : Value) (xs : List Int) (hv : RInts w v xs) (h : xs.length ≤ 300) : Calls Try.prog 5 #[.int .i64 p, v] w (TruePost w) := by
  obtain ⟨A, cc, hve⟩ := hv.len
  have HV := Lib.hid hv; clear hv
  subst hve
  have hb : decide ((300 : Int) < (xs.length : Int)) = false := by simp; omega
  obtain ⟨i0, hi, hz0, hz1, hz2⟩ := info_parts FifoB.info3
  go_enter Try.func5, Try.ntmps5
  go_wp2_with fail
  refine (alive_true _).mono ?_
  rintro e w1 ⟨rfl, hb⟩
  have HB1 := Lib.hid hb; clear hb
  go_wp2_with fail
  refine (new_any _ _).mono ?_
  rintro e w2 ⟨q, c, rfl, hq, hq1, hc1, hb⟩
  have HQ2 := Lib.hid hq; clear hq
  have HB2 := Lib.hid (HB1.out.trans (hb.mono HB1.out.size)); clear hb
  have hr := clamp_range p
  generalize clampN p = N at HQ2 hr
  obtain ⟨hr1, hr4⟩ := hr
  have hc0 := Lib.hid (show w.heap.size ≤ c from Nat.le_trans HB1.out.size hc1)
  go_wp2_with fail
  go_loopw [6, 7, 8] (fun vi vo i wr => ∃ k : Nat, k ≤ xs.length ∧ i = .int .i64 k ∧ OrdRel w q c N k vi vo wr) (fun _ _ i _ => xs.length - (intOf i).toNat)
  case atStart =>
    refine ⟨0, Nat.zero_le _, rfl, (HB2.out.alloc HB2.out.size _).alloc (by have := HB2.out.size; simp; omega) _, [], [], [], rfl, by simp, ?_⟩
    exact start_st HQ2.out HB2.out.size
  case round =>
    obtain ⟨k, hk, rfl, hb, ins, outs, ys, hio, hki, hst⟩ := hrel
    have HB := Lib.hid hb; clear hb
    have HS := Lib.hid hst; clear hst
    have HI := Lib.hid hio; clear hio
    clear HB2 HQ2
    by_cases hlt : k < xs.length
    · rcases HV.out with ⟨rfl, _⟩ | ⟨b, off, c2, hv, hp, hcell⟩
      · simp at hlt
      · obtain ⟨rfl, -, rfl⟩ : A = some ⟨b, off, none⟩ ∧ True ∧ cc = c2 := by cases hv; exact ⟨rfl, trivial, rfl⟩
        have hce := hcell k hlt
        have hcr : wr.cell? ⟨b, off + k, none⟩ = some (.int .i64 (xs.getD k 0)) := by
          rw [← hce]; exact HB.out.cell (p := ⟨b, off + k, none⟩) (World.block_lt_of_cell? _ _ hce)
        have hlt' : (k : Int) < (xs.length : Int) := by omega
        have hneg : 0 ≤ (k : Int) := by omega
        have HC := Lib.hid hce
        clear hce hv hcell
        generalize xs.getD k 0 = x at hcr HC
        have hlen : ins.length = outs.length + ys.length := by rw [HI.out]; simp
        have hl := HS.out.l
        obtain ⟨A6, c6, rfl⟩ := own_form HS.out.i
        obtain ⟨A7, c7, rfl⟩ := own_form HS.out.o
        have hi3 : ins.length ≤ 300 := by omega
        have ho3 : outs.length ≤ ins.length := by omega
        have HL := Lib.hid hlen
        clear hlen
        go_wp2_with fail
        · by_cases hyl : ys.length < N
          · refine (put_room _ _ _ _ _ _ HS.out.qu hyl).mono ?_
            rintro e w5 ⟨rfl, hq, ho⟩
            have HS5 := Lib.hid (HS.out.chan hq (by simp; omega) ho)
            have HB5 := Lib.hid (HB.out.trans (ho.below _ hc0.out))
            clear hq ho HS HB hcr
            have hcr5 : w5.cell? ⟨b, off + k, none⟩ = some (.int .i64 x) := by
              rw [← HC.out]; exact HB5.out.cell (p := ⟨b, off + k, none⟩) (World.block_lt_of_cell? _ _ HC.out)
            have hown := HS5.out.i
            have hsz : w.heap.size ≤ w5.heap.size := HB5.out.size
            go_wp2_with (at_builtin; refine wpList_append_own_at _ rfl _ _ 24 rfl w.heap.size 3 i0 (.int .i64 0) 1 8 Try.underlying24 hi hz0 hz1 hz2 rfl (by decide) _ _ _ rfl (hown.alloc _) ⟨w5.heap.size, 0, none⟩ 1 1 [.int .i64 x] rfl rfl ?c1 ?c2 ?c3 ?c4 ?c5 ?_)
            case c1 => go_simp
            case c2 => simp [Value.oneCell']
            case c3 => unfold maxLen; omega
            case c4 => omega
            case c5 => simp; omega
            intro v' w6 hown6 hg6 _ hat6
            have HB6 := Lib.hid (below_app HB5.out HB5.out.size hown hg6)
            have hst6 := HS5.out.appI x (by simpa using hown6) hg6 hat6
            clear hown6 hg6 hat6 hown HS5 HB5
            obtain ⟨A6', c6', rfl⟩ := own_form hst6.i
            have HS6 := Lib.hid hst6; clear hst6
            go_wp2_with fail
            refine (len_any _ _ _ _ _ HS6.out.qu).mono ?_
            rintro e w7 ⟨rfl, rfl⟩
            have g7 : ((ys.length : Int) + 1 != (ins.length : Int) + 1 - (outs.length : Int)) = false := bne_eq_false_iff_eq.mpr (by have := HL.out; omega)
            go_wp2_with fail
            refine (len_any _ _ _ _ _ HS6.out.qu).mono ?_
            rintro e w7 ⟨rfl, rfl⟩
            go_wp2_with fail
            go_roundw
            case measure => simp [intOf]; omega
            case rel => exact ⟨k + 1, by omega, by go_num, HB6.out, ins ++ [x], outs, ys ++ [x], by rw [HI.out, List.append_assoc], by simp; omega, by have := HS6.out; rwa [List.length_append] at this⟩
          · refine (put_full _ _ _ _ _ _ HS.out.qu (by omega)).mono ?_
            rintro e w5 ⟨rfl, rfl⟩
            go_wp2_with fail
            refine (len_any _ _ _ _ _ HS.out.qu).mono ?_
            rintro e w7 ⟨rfl, rfl⟩
            have g7 : ((ys.length : Int) != (ins.length : Int) - (outs.length : Int)) = false := bne_eq_false_iff_eq.mpr (by have := HL.out; omega)
            go_wp2_with fail
            refine (len_any _ _ _ _ _ HS.out.qu).mono ?_
            rintro e w7 ⟨rfl, rfl⟩
            go_wp2_with fail
            go_roundw
            case measure => simp [intOf]; omega
            case rel => exact ⟨k + 1, by omega, by go_num, HB.out, _, _, _, HI.out, by omega, HS.out⟩
        · cases ys with
          | nil =>
            refine (get_none _ _ _ _ HS.out.qu).mono ?_
            rintro e w5 ⟨rfl, rfl⟩
            go_wp2_with fail
            refine (len_any _ _ _ _ _ HS.out.qu).mono ?_
            rintro e w7 ⟨rfl, rfl⟩
            have g7 : ((0 : Int) != (ins.length : Int) - (outs.length : Int)) = false := bne_eq_false_iff_eq.mpr (by have := HL.out; simp at this; omega)
            go_wp2_with fail
            refine (len_any _ _ _ _ _ HS.out.qu).mono ?_
            rintro e w7 ⟨rfl, rfl⟩
            go_wp2_with fail
            go_roundw
            case measure => simp [intOf]; omega
            case rel => exact ⟨k + 1, by omega, by go_num, HB.out, _, _, _, HI.out, by omega, HS.out⟩
          | cons y ys =>
            refine (get_some _ _ _ _ _ _ HS.out.qu).mono ?_
            rintro e w5 ⟨rfl, hq, ho⟩
            have HS5 := Lib.hid (HS.out.chan hq (by simp at hl; omega) ho)
            have HB5 := Lib.hid (HB.out.trans (ho.below _ hc0.out))
            clear hq ho HS HB hcr
            have hown := HS5.out.o
            have hsz : w.heap.size ≤ w5.heap.size := HB5.out.size
            go_wp2_with (at_builtin; refine wpList_append_own_at _ rfl _ _ 24 rfl w.heap.size 3 i0 (.int .i64 0) 1 8 Try.underlying24 hi hz0 hz1 hz2 rfl (by decide) _ _ _ rfl (hown.alloc _) ⟨w5.heap.size, 0, none⟩ 1 1 [.int .i64 y] rfl rfl ?c1 ?c2 ?c3 ?c4 ?c5 ?_)
            case c1 => go_simp
            case c2 => simp [Value.oneCell']
            case c3 => unfold maxLen; omega
            case c4 => omega
            case c5 => simp; omega
            intro v' w6 hown6 hg6 _ hat6
            have HB6 := Lib.hid (below_app HB5.out HB5.out.size hown hg6)
            have hst6 := HS5.out.appO y (by simpa using hown6) hg6 hat6
            clear hown6 hg6 hat6 hown HS5 HB5
            obtain ⟨A7', c7', rfl⟩ := own_form hst6.o
            have HS6 := Lib.hid hst6; clear hst6
            go_wp2_with fail
            refine (len_any _ _ _ _ _ HS6.out.qu).mono ?_
            rintro e w7 ⟨rfl, rfl⟩
            have g7 : ((ys.length : Int) != (ins.length : Int) - ((outs.length : Int) + 1)) = false := bne_eq_false_iff_eq.mpr (by have := HL.out; simp at this; omega)
            go_wp2_with fail
            refine (len_any _ _ _ _ _ HS6.out.qu).mono ?_
            rintro e w7 ⟨rfl, rfl⟩
            go_wp2_with fail
            go_roundw
            case measure => simp [intOf]; omega
            case rel => exact ⟨k + 1, by omega, by go_num, HB6.out, ins, outs ++ [y], ys, by rw [HI.out, List.append_assoc]; rfl, by omega, by have := HS6.out; rwa [List.length_append] at this⟩
    · obtain rfl : k = xs.length := by omega
      obtain ⟨A6, c6, rfl⟩ := own_form HS.out.i
      have hi3 : ins.length ≤ 300 := by omega
      go_wp2
      go_loopg [7] ys.length (fun m vo wr => EndRel w q c N ins (.slice A6 ins.length c6) vo wr m)
      case atStart => exact ⟨HB.out, outs, ys, HI.out, rfl, hi3, HS.out⟩
      case round =>
        clear HB HS HI
        obtain ⟨hb, outs, ys, hio, hm, hi3, hst⟩ := hrel
        have HB := Lib.hid hb; clear hb
        have HS := Lib.hid hst; clear hst
        have HL := Lib.hid (show ins.length = outs.length + ys.length by rw [hio]; simp)
        have HI := Lib.hid hio; clear hio
        have ho3 : outs.length ≤ ins.length := by have := HL.out; omega
        obtain ⟨A7, c7, rfl⟩ := own_form HS.out.o
        have HM := Lib.hid hm; clear hm
        cases ys with
        | nil =>
          go_wp2_with fail
          refine (len_any _ _ _ _ _ HS.out.qu).mono ?_
          rintro e w7 ⟨rfl, rfl⟩
          go_wp2_with fail
          refine (same_any _ _ _ ins outs (RInts.own HS.out.i) (RInts.own HS.out.o) (by omega)).mono ?_
          rintro e w7 ⟨rfl, ⟨n, rfl⟩⟩
          go_wp2
          go_ret
          refine ⟨?_, HB.out.trans ⟨rfl, rfl, rfl, Nat.le_refl _, fun _ _ => rfl⟩⟩
          have e := HI.out
          rw [List.append_nil] at e
          simp [e]
        | cons y ys =>
          have g8 : decide ((0 : Int) < (ys.length : Int) + 1) = true := by simp
          have g9 : decide ((outs.length : Int) ≤ (ins.length : Int)) = true := by simp; omega
          have hl := HS.out.l
          go_wp2_with fail
          refine (len_any _ _ _ _ _ HS.out.qu).mono ?_
          rintro e w7 ⟨rfl, rfl⟩
          go_wp2_with fail
          refine (get_some _ _ _ _ _ _ HS.out.qu).mono ?_
          rintro e w5 ⟨rfl, hq, ho⟩
          have HS5 := Lib.hid (HS.out.chan hq (by simp at hl; omega) ho)
          have HB5 := Lib.hid (HB.out.trans (ho.below _ hc0.out))
          clear hq ho HS HB
          have hown := HS5.out.o
          have hsz : w.heap.size ≤ w5.heap.size := HB5.out.size
          go_wp2_with (at_builtin; refine wpList_append_own_at _ rfl _ _ 24 rfl w.heap.size 3 i0 (.int .i64 0) 1 8 Try.underlying24 hi hz0 hz1 hz2 rfl (by decide) _ _ _ rfl (hown.alloc _) ⟨w5.heap.size, 0, none⟩ 1 1 [.int .i64 y] rfl rfl ?c1 ?c2 ?c3 ?c4 ?c5 ?_)
          case c1 => go_simp
          case c2 => simp [Value.oneCell']
          case c3 => unfold maxLen; omega
          case c4 => omega
          case c5 => simp; omega
          intro v' w6 hown6 hg6 _ hat6
          have HB6 := Lib.hid (below_app HB5.out HB5.out.size hown hg6)
          have HS6 := Lib.hid (HS5.out.appO y (by simpa using hown6) hg6 hat6)
          clear hown6 hg6 hat6 hown HS5 HB5
          go_wp2_with fail
          go_roundg ys.length
          case measure => have := HM.out; simp at this; omega
          case rel => exact ⟨HB6.out, outs ++ [y], ys, by rw [HI.out, List.append_assoc]; rfl, rfl, hi3, HS6.out⟩

theorem order_law (w : World) (p : Int) (v : Value) (xs : List Int) (hv : RInts w v xs) (hn : xs.length ≤ 9223372036854775807) : Calls Try.prog 5 #[.int .i64 p, v] w (TruePost w) := by
  by_cases h : xs.length ≤ 300
  · exact order_small w p v xs hv h
  · obtain ⟨A, c, rfl⟩ := hv.len
    exact order_great w p A _ c (by omega) hn
end Go.Proofs.Ytiflghlhlkabdaa.FifoE
