/- The law FifoSteps: every answer of every row of calls is the reference's; no condition. -/
import Derived.Test.YtiflghlhlkabdaaFifoF
import Derived.Deep.RegionWith
import Derived.Deep.RegionHeld3
namespace Go.Proofs.Ytiflghlhlkabdaa.FifoG
open Go.RowKit Go.Conc Go.Proofs.Ytiflghlhlkabdaa.FifoA Go.Proofs.Ytiflghlhlkabdaa.FifoB Go.Proofs.Ytiflghlhlkabdaa.FifoC Go.Proofs.Ytiflghlhlkabdaa.FifoD Go.Proofs.Ytiflghlhlkabdaa.FifoE Go.Proofs.Ytiflghlhlkabdaa.FifoF
open Go.Proofs.YtiflghlhlkabdaaW.PrintWords (Drawn0 own_move own_typed own_base own_lt)

/-- The program's queue and the reference's hold the same. -/
structure Two (w : World) (q c N bm : Nat) (ys : List Int) (vm : Value) (wr : World) : Prop where
  b : Below w.heap.size w wr
  qu : QAt wr q c N ys
  l : ys.length ≤ N
  m : wr.heap[bm]? = some (.cells #[.int .i64 N, vm] 29)
  o : wr.ownsRow w.heap.size 3 1 vm ys.length (ys.map (Value.int .i64))

/-- Behind the reference's Put: its new value lies in a block of its own. -/
def PutRel (w wr : World) (N : Nat) (zs : List Int) (ok : Bool) (v8 v9 : Value) (w2 : World) : Prop :=
  ∃ b8 A c, v8 = .pointer (some ⟨b8, 0, none⟩) ∧ v9 = .bool ok ∧ wr.heap.size ≤ b8 ∧ w2.heap[b8]? = some (.cells #[.int .i64 N, .slice A zs.length c] 29) ∧
    w2.ownsRow w.heap.size 3 1 (.slice A zs.length c) zs.length (zs.map (Value.int .i64)) ∧ Below wr.heap.size wr w2

theorem below_drew' (w : World) : Below w.heap.size w w.drew := ⟨rfl, rfl, rfl, Nat.le_refl _, fun _ _ => rfl⟩

/-- What one step of the queue puts. -/
def PutOf (w wr : World) (N : Nat) (ys : List Int) (x : Int) (v8 v9 : Value) (w2 : World) : Prop :=
  (ys.length < N ∧ PutRel w wr N (ys ++ [x]) true v8 v9 w2) ∨ (N ≤ ys.length ∧ PutRel w wr N ys false v8 v9 w2)

theorem PutOf.parts {w wr : World} {N : Nat} {ys : List Int} {x : Int} {v8 v9 : Value} {w2 : World} (h : PutOf w wr N ys x v8 v9 w2) :
    ∃ zs ok, ((ok = true ∧ ys.length < N ∧ zs = ys ++ [x]) ∨ (ok = false ∧ N ≤ ys.length ∧ zs = ys)) ∧ PutRel w wr N zs ok v8 v9 w2 := by
  rcases h with ⟨h, r⟩ | ⟨h, r⟩
  · exact ⟨_, _, .inl ⟨rfl, h, rfl⟩, r⟩
  · exact ⟨_, _, .inr ⟨rfl, h, rfl⟩, r⟩

theorem rel_late {w wr w7 : World} {N n c : Nat} {zs : List Int} {ok : Bool} {A : Option Addr} (hb : Below wr.drew.heap.size wr.drew w7) (hn : zs.length = n)
    (ho : w7.ownsRow w.heap.size 3 1 (.slice A n c) n (zs.map (Value.int .i64))) :
    PutRel w wr N zs ok (.pointer (some ⟨w7.heap.size, 0, none⟩)) (.bool ok) (w7.alloc (.cells #[.int .i64 N, .slice A n c] 29)) := by
  subst hn
  have hb' : Below wr.heap.size wr w7 := (below_drew' wr).trans hb
  exact ⟨_, A, c, rfl, rfl, hb'.size, heap_alloc_new w7 _, ho.alloc _, hb'.alloc hb'.size _⟩

theorem rel_early {w wr w7 : World} {N n c : Nat} {zs : List Int} {ok : Bool} {A : Option Addr} (hn : zs.length = n)
    (hb : Below (wr.alloc (.cells #[.int .i64 0, .slice none 0 0] 29)).drew.heap.size (wr.alloc (.cells #[.int .i64 0, .slice none 0 0] 29)).drew w7)
    (ho : w7.ownsRow w.heap.size 3 1 (.slice A n c) n (zs.map (Value.int .i64))) (hf : ∀ k, (Value.slice A n c).ownBlock = some k → k ≠ wr.heap.size) :
    PutRel w wr N zs ok (.pointer (some ⟨wr.heap.size, 0, none⟩)) (.bool ok) ((w7.setCell ⟨wr.heap.size, 0, none⟩ (.int .i64 N)).setCell ⟨wr.heap.size, 1, none⟩ (.slice A n c)) := by
  subst hn
  have hb' : Below (wr.heap.size + 1) (wr.alloc (.cells #[.int .i64 0, .slice none 0 0] 29)) w7 := by
    have := (below_drew' (wr.alloc (.cells #[.int .i64 0, .slice none 0 0] 29))).trans hb
    simpa using this
  have h0 : w7.heap[wr.heap.size]? = some (.cells #[.int .i64 0, .slice none 0 0] 29) := by
    rw [hb'.block _ (by omega)]; exact heap_alloc_new wr _
  refine ⟨_, A, c, rfl, rfl, Nat.le_refl _, ?_, ?_, ?_⟩
  · simp [World.setCell, Array.getElem?_modify, h0]
  · exact own_move (own_move ho (fun k hk => Below.heap_setCell w7 ⟨wr.heap.size, 0, none⟩ _ k (hf k hk))) (fun k hk => Below.heap_setCell _ ⟨wr.heap.size, 1, none⟩ _ k (hf k hk))
  · exact ((((Below.refl _ _).alloc (Nat.le_refl _) _).trans (hb'.mono (by omega))).setCell (Nat.le_refl _) _).setCell (Nat.le_refl _) _

theorem put_late {w wr w7 : World} {N c : Nat} {ys : List Int} {x : Int} {A : Option Addr} (hB : w.heap.size ≤ wr.heap.size) (hl : ys.length < N) (hb : Below wr.drew.heap.size wr.drew w7)
    (ho : w7.ownsRow wr.drew.heap.size 3 1 (.slice A (ys ++ [x]).length c) (ys ++ [x]).length ((ys ++ [x]).map (Value.int .i64))) :
    PutOf w wr N ys x (.pointer (some ⟨w7.heap.size, 0, none⟩)) (.bool true) (w7.alloc (.cells #[.int .i64 N, .slice A (ys.length + 1) c] 29)) :=
  .inl ⟨hl, rel_late hb (by simp) (by have := own_lower ho hB; rwa [show (ys ++ [x]).length = ys.length + 1 by simp] at this)⟩

theorem put_early {w wr w7 : World} {N c : Nat} {ys : List Int} {x : Int} {A : Option Addr} (hB : w.heap.size ≤ wr.heap.size) (hl : ys.length < N)
    (hb : Below (wr.alloc (.cells #[.int .i64 0, .slice none 0 0] 29)).drew.heap.size (wr.alloc (.cells #[.int .i64 0, .slice none 0 0] 29)).drew w7)
    (ho : w7.ownsRow (wr.alloc (.cells #[.int .i64 0, .slice none 0 0] 29)).drew.heap.size 3 1 (.slice A (ys ++ [x]).length c) (ys ++ [x]).length ((ys ++ [x]).map (Value.int .i64))) :
    PutOf w wr N ys x (.pointer (some ⟨wr.heap.size, 0, none⟩)) (.bool true) ((w7.setCell ⟨wr.heap.size, 0, none⟩ (.int .i64 N)).setCell ⟨wr.heap.size, 1, none⟩ (.slice A (ys.length + 1) c)) := by
  rw [show (ys ++ [x]).length = ys.length + 1 by simp] at ho
  refine .inl ⟨hl, rel_early (by simp) hb (own_lower ho (by simp; omega)) (fun k hk => ?_)⟩
  have := own_base ho k hk
  simp at this; omega

theorem full_late {w wr w7 : World} {N c : Nat} {ys : List Int} {x : Int} {A : Option Addr} (hl : N ≤ ys.length) (hb : Below wr.drew.heap.size wr.drew w7)
    (ho : wr.ownsRow w.heap.size 3 1 (.slice A ys.length c) ys.length (ys.map (Value.int .i64))) :
    PutOf w wr N ys x (.pointer (some ⟨w7.heap.size, 0, none⟩)) (.bool false) (w7.alloc (.cells #[.int .i64 N, .slice A ys.length c] 29)) :=
  .inr ⟨hl, rel_late hb rfl (own_move ho (fun k hk => hb.block k (own_lt ho k hk)))⟩

theorem full_early {w wr w7 : World} {N c : Nat} {ys : List Int} {x : Int} {A : Option Addr} (hl : N ≤ ys.length)
    (hb : Below (wr.alloc (.cells #[.int .i64 0, .slice none 0 0] 29)).drew.heap.size (wr.alloc (.cells #[.int .i64 0, .slice none 0 0] 29)).drew w7)
    (ho : wr.ownsRow w.heap.size 3 1 (.slice A ys.length c) ys.length (ys.map (Value.int .i64))) :
    PutOf w wr N ys x (.pointer (some ⟨wr.heap.size, 0, none⟩)) (.bool false) ((w7.setCell ⟨wr.heap.size, 0, none⟩ (.int .i64 N)).setCell ⟨wr.heap.size, 1, none⟩ (.slice A ys.length c)) :=
  .inr ⟨hl, rel_early rfl hb (own_move ho (fun k hk => by
      have hk' := own_lt ho k hk
      rw [hb.block k (by simp; omega)]
      exact Below.heap_alloc _ _ _ hk')) (fun k hk => by have := own_lt ho k hk; omega)⟩

theorem rints_drew {w : World} {v : Value} {xs : List Int} (h : RInts w v xs) : RInts w.drew v xs := h

theorem Two.ne {w wr : World} {q c N bm : Nat} {ys : List Int} {vm : Value} (h : Two w q c N bm ys vm wr) : q ≠ bm ∧ c ≠ bm := by
  refine ⟨?_, ?_⟩
  · rintro rfl
    have h1 := h.qu.cell
    simp [World.cell?, h.m] at h1
  · rintro rfl
    obtain ⟨s, r, hc⟩ := h.qu.chan
    rw [h.m] at hc; cases hc

/-- The reference's value has been stored; the queue's own step is still to come. -/
theorem Two.stored {w wr w2 : World} {q c N bm n8 c8 : Nat} {ys zs : List Int} {vm : Value} {A8 : Option Addr} (h : Two w q c N bm ys vm wr) (hbm : w.heap.size ≤ bm) (hb : Below wr.heap.size wr w2)
    (ho : w2.ownsRow w.heap.size 3 1 (.slice A8 n8 c8) zs.length (zs.map (Value.int .i64))) :
    Below w.heap.size w ((w2.setCell ⟨bm, 0, none⟩ (.int .i64 N)).setCell ⟨bm, 1, none⟩ (.slice A8 n8 c8)) ∧
    QAt ((w2.setCell ⟨bm, 0, none⟩ (.int .i64 N)).setCell ⟨bm, 1, none⟩ (.slice A8 n8 c8)) q c N ys ∧
    ((w2.setCell ⟨bm, 0, none⟩ (.int .i64 N)).setCell ⟨bm, 1, none⟩ (.slice A8 n8 c8)).heap[bm]? = some (.cells #[.int .i64 N, .slice A8 n8 c8] 29) ∧
    ((w2.setCell ⟨bm, 0, none⟩ (.int .i64 N)).setCell ⟨bm, 1, none⟩ (.slice A8 n8 c8)).ownsRow w.heap.size 3 1 (.slice A8 n8 c8) zs.length (zs.map (Value.int .i64)) := by
  have hm2 : w2.heap[bm]? = some (.cells #[.int .i64 N, vm] 29) := by
    rw [hb.block bm (World.block_lt_of_cell? (u := .int .i64 N) wr ⟨bm, 0, none⟩ (by simp [World.cell?, h.m]))]; exact h.m
  have hne := h.ne
  have far : ∀ k, k ≠ bm → ((w2.setCell ⟨bm, 0, none⟩ (.int .i64 N)).setCell ⟨bm, 1, none⟩ (.slice A8 n8 c8)).heap[k]? = w2.heap[k]? := fun k hk =>
    (Below.heap_setCell _ ⟨bm, 1, none⟩ _ k hk).trans (Below.heap_setCell _ ⟨bm, 0, none⟩ _ k hk)
  refine ⟨((h.b.trans (hb.mono h.b.size)).setCell hbm _).setCell hbm _, ?_, ?_, ?_⟩
  · exact h.qu.move ((far q hne.1).trans (hb.block q h.qu.lq)) ((far c hne.2).trans (hb.block c h.qu.lt))
  · simp [World.setCell, Array.getElem?_modify, hm2]
  · refine own_move ho (fun k hk => far k ?_)
    rintro rfl
    obtain ⟨cells, hc⟩ := own_typed ho k hk
    rw [hm2] at hc; cases hc

theorem alloc4 {w ws : World} {q c N bm n : Nat} {ys : List Int} {vals : List Value} {v : Value} {m o : Obj} (h : Below w.heap.size w ws ∧ QAt ws q c N ys ∧ ws.heap[bm]? = some m ∧ ws.ownsRow w.heap.size 3 1 v n vals) :
    Below w.heap.size w (ws.alloc o) ∧ QAt (ws.alloc o) q c N ys ∧ (ws.alloc o).heap[bm]? = some m ∧ (ws.alloc o).ownsRow w.heap.size 3 1 v n vals := by
  obtain ⟨h1, h2, h3, h4⟩ := h
  have hlt : bm < ws.heap.size := by
    rcases Nat.lt_or_ge bm ws.heap.size with h | h
    · exact h
    · simp [Array.getElem?_eq_none h] at h3
  exact ⟨h1.alloc h1.size _, h2.move (Below.heap_alloc _ _ _ h2.lq) (Below.heap_alloc _ _ _ h2.lt), (Below.heap_alloc _ _ _ hlt).trans h3, h4.alloc _⟩

theorem Two.step {w ws w8 : World} {q c N bm n8 c8 : Nat} {ys zs : List Int} {A8 : Option Addr} (hb : Below w.heap.size w ws) (hq : QAt ws q c N ys)
    (hm : ws.heap[bm]? = some (.cells #[.int .i64 N, .slice A8 n8 c8] 29)) (ho : ws.ownsRow w.heap.size 3 1 (.slice A8 n8 c8) zs.length (zs.map (Value.int .i64)))
    (hc : w.heap.size ≤ c) (hq8 : QAt w8 q c N zs) (hl : zs.length ≤ N) (hon : Only c ws w8) : Two w q c N bm zs (.slice A8 n8 c8) w8 := by
  refine ⟨hb.trans (hon.below _ hc), hq8, hl, ?_, own_grow hq ho (.only hon)⟩
  rw [hon.others bm]; exact hm
  rintro rfl
  obtain ⟨s, r, hch⟩ := hq.chan
  rw [hm] at hch; cases hch

theorem Two.drew {w wr : World} {q c N bm : Nat} {ys : List Int} {vm : Value} (h : Two w q c N bm ys vm wr) (n : Nat) : Two w q c N bm ys vm (wr.drewN n) :=
  ⟨h.b.trans ⟨rfl, rfl, rfl, Nat.le_refl _, fun _ _ => rfl⟩, h.qu.move rfl rfl, h.l, h.m, h.o⟩

theorem Two.grow {w wr w2 : World} {q c N bm : Nat} {ys : List Int} {vm : Value} (h : Two w q c N bm ys vm wr) (hc : w.heap.size ≤ c) (hq : QAt w2 q c N ys) (hg : Grow c wr w2) : Two w q c N bm ys vm w2 := by
  have hlt : bm < wr.heap.size := World.block_lt_of_cell? (u := .int .i64 N) wr ⟨bm, 0, none⟩ (by simp [World.cell?, h.m])
  refine ⟨h.b.trans (hg.below _ hc h.b.size), hq, h.l, ?_, own_grow h.qu h.o hg⟩
  rw [hg.others bm hlt (Ne.symm h.ne.2)]; exact h.m

/-- A block that is new since 'wc' has turned; the two queues have not. -/
theorem Two.far {w wc w2 : World} {q c N bm g : Nat} {ys : List Int} {vm : Value} (h : Two w q c N bm ys vm w2) (hB : w.heap.size ≤ wc.heap.size) (hq : q < wc.heap.size) (hc : c < wc.heap.size) (hm : bm < wc.heap.size)
    (hv : ∀ k, vm.ownBlock = some k → k < wc.heap.size) (hg : wc.heap.size ≤ g) (o : Nat) (u : Value) : Two w q c N bm ys vm (w2.setCell ⟨g, o, none⟩ u) := by
  have far : ∀ k, k < wc.heap.size → (w2.setCell ⟨g, o, none⟩ u).heap[k]? = w2.heap[k]? := fun k hk => Below.heap_setCell _ ⟨g, o, none⟩ _ k (by show k ≠ g; omega)
  exact ⟨h.b.setCell (Nat.le_trans hB hg) _, h.qu.move (far q hq) (far c hc), h.l, (far bm hm).trans h.m, own_move h.o (fun k hk => far k (hv k hk))⟩

def FillRel (w : World) (q c N bm : Nat) (ys : List Int) (vm : Value) (g cap : Nat) (w2 : World) : Prop :=
  Two w q c N bm ys vm w2 ∧ ∃ cur, w2.heap[g]? = some (.cells cur 3 (0, 0)) ∧ cur.size = cap

theorem same_true (w : World) (v1 v2 : Value) (xs : List Int) (h1 : RInts w v1 xs) (h2 : RInts w v2 xs) (hm : xs.length ≤ 100000) :
    Calls Try.prog 21 #[v1, v2] w fun e w' => e = .returned (.bool true) ∧ ∃ n, w' = w.drewN n :=
  (same_any w v1 v2 xs xs h1 h2 hm).mono fun e w' ⟨he, ⟨hn⟩⟩ => ⟨by simpa using he, hn⟩
theorem rints_drewN {w : World} {v : Value} {xs : List Int} (n : Nat) (h : RInts w v xs) : RInts (w.drewN n) v xs := h
theorem qat_drewN {w : World} {q c N : Nat} {xs : List Int} (n : Nat) (h : QAt w q c N xs) : QAt (w.drewN n) q c N xs := h.move rfl rfl

def TwoRel (w : World) (q c N bm : Nat) (wr : World) : Prop := ∃ ys vm, Two w q c N bm ys vm wr

set_option maxRecDepth 100000 in
set_option maxHeartbeats 8000000 in
theorem steps_small (w : World) (p : Int) (v : Value) (xs : List Int) (hv : RInts w v xs) (h : xs.length ≤ 300) : Calls Try.prog 4 #[.int .i64 p, v] w (TruePost w) := by
  obtain ⟨A, cc, hve⟩ := hv.len
  have HV := Lib.hid hv; clear hv
  subst hve
  have hb : decide ((300 : Int) < (xs.length : Int)) = false := by simp; omega
  go_enter Try.func4, Try.ntmps4
  go_wp2_with fail
  refine (alive_true _).mono ?_
  rintro e w1 ⟨rfl, hb⟩
  have HB1 := Lib.hid hb; clear hb
  go_wp2_with fail
  refine (new_any _ _).mono ?_
  rintro e w2 ⟨q, c, rfl, hq, hq1, hc1, hb⟩
  have HB2 := Lib.hid (HB1.out.trans (hb.mono HB1.out.size)); clear hb
  have HQ2 := Lib.hid hq; clear hq
  go_wp2_with fail
  refine (rnew_any _ _).mono ?_
  rintro e w3 ⟨rfl, hb⟩
  have HQ3 : Hid (QAt w3 q c (clampN p) []) := Lib.hid (HQ2.out.move (hb.block _ HQ2.out.lq) (hb.block _ HQ2.out.lt))
  have HB3 := Lib.hid (HB2.out.trans (hb.mono HB2.out.size))
  clear hb HQ2 HB2
  have hr := clamp_range p
  generalize clampN p = N at HQ3 hr
  obtain ⟨hr1, hr4⟩ := hr
  have hc0 := Lib.hid (show w.heap.size ≤ c from Nat.le_trans HB1.out.size hc1)
  have hN : (N : Int) ≤ 4 := by omega
  have HM : Hid (w.heap.size ≤ w3.heap.size) := Lib.hid HB3.out.size
  go_wp2_with fail
  generalize hbm : w3.heap.size = bm
  have hbm0 : w.heap.size ≤ bm := by rw [← hbm]; exact HM.out
  have hstart : Two w q c N bm [] (.slice none 0 0) (w3.alloc (.cells #[.int .i64 N, .slice none 0 0] 29)) := by
    refine ⟨HB3.out.alloc HM.out _, HQ3.out.move (Below.heap_alloc _ _ _ HQ3.out.lq) (Below.heap_alloc _ _ _ HQ3.out.lt), by simp, ?_, ⟨rfl, .inl ⟨rfl, rfl⟩⟩⟩
    rw [← hbm]; exact heap_alloc_new w3 _
  have HST := Lib.hid hstart
  clear hstart hbm HB3 HQ3
  go_loopg [7] xs.length (fun g i wr => ∃ k : Nat, k ≤ xs.length ∧ g = xs.length - k ∧ i = .int .i64 k ∧ TwoRel w q c N bm wr)
  case atStart => exact ⟨0, Nat.zero_le _, rfl, rfl, [], _, HST.out⟩
  case round =>
    obtain ⟨k, hk, hgk, rfl, ys, vm, ht⟩ := hrel
    have HG := Lib.hid hgk; clear hgk
    clear HST
    have HT := Lib.hid ht; clear ht
    by_cases hlt : k < xs.length
    · rcases HV.out with ⟨rfl, _⟩ | ⟨b, off, c2, hv, hp, hcell⟩
      · simp at hlt
      · obtain ⟨rfl, -, rfl⟩ : A = some ⟨b, off, none⟩ ∧ True ∧ cc = c2 := by cases hv; exact ⟨rfl, trivial, rfl⟩
        have hce := hcell k hlt
        have hcr : wr.cell? ⟨b, off + k, none⟩ = some (.int .i64 (xs.getD k 0)) := by
          rw [← hce]; exact HT.out.b.cell (p := ⟨b, off + k, none⟩) (World.block_lt_of_cell? _ _ hce)
        have hlt' : (k : Int) < (xs.length : Int) := by omega
        have hneg : 0 ≤ (k : Int) := by omega
        have HC := Lib.hid hce
        clear hce hv hcell
        generalize xs.getD k 0 = x at hcr HC
        have hl := HT.out.l
        obtain ⟨Am, cm, rfl⟩ := own_form HT.out.o
        have m0 : wr.cell? ⟨bm, 0, none⟩ = some (.int .i64 N) := by simp [World.cell?, HT.out.m]
        have m1 : wr.cell? ⟨bm, 1, none⟩ = some (.slice Am ys.length cm) := by simp [World.cell?, HT.out.m]
        have HR : Hid (RInts wr (.slice Am ys.length cm) ys) := Lib.hid (RInts.own HT.out.o)
        have hblt : b < wr.heap.size := World.block_lt_of_cell? _ _ hcr
        have hmlt : bm < wr.heap.size := World.block_lt_of_cell? _ _ m0
        go_upto_if 39 with (fail)
        go_cut [] (fun wr => TwoRel w q c N bm wr)
        case first =>
          go_upto_region 13 with (fail)
          · go_cut [8, 9] (fun v8 v9 w2 => PutOf w wr N ys x v8 v9 w2)
            case first =>
              by_cases hyl : ys.length < N
              · go_region_with (go_at_call 16; refine (rput_room _ _ _ ys _ ?_ (by omega) (by omega)).mono ?_; (first | exact rints_drew HR.out | exact rints_drew (rints_below HR.out ((Below.refl _ _).alloc (Nat.le_refl _) _))); rintro e w7 ⟨v', rfl, hown, hb⟩; obtain ⟨A', c', rfl⟩ := own_form hown; obtain ⟨hc7, hf7⟩ := bcell hb; have hz7 := hb.size; simp only [World.size_alloc, World.size_drew] at hc7 hf7 hz7)
                all_goals (go_wp2_with fail; go_meet)
                all_goals
                  case rel =>
                    first
                      | exact put_late HT.out.b.size hyl hb hown
                      | exact put_early HT.out.b.size hyl hb hown
              · have hyl' : N ≤ ys.length := by omega
                go_region_with (go_at_call 16; refine (rput_full _ _ _ _ _ _ (by omega)).mono ?_; rintro e w7 ⟨rfl, hb⟩; obtain ⟨hc7, hf7⟩ := bcell hb; have hz7 := hb.size; simp only [World.size_alloc, World.size_drew] at hc7 hf7 hz7)
                all_goals (go_wp2_with fail; go_meet)
                all_goals
                  case rel =>
                    first
                      | exact full_late hyl' hb HT.out.o
                      | exact full_early hyl' hb HT.out.o
            case rest =>
              have HC8 := Lib.hid hcut
              clear hcut
              obtain ⟨zs, ok, hz, hrel⟩ := HC8.out.parts
              obtain ⟨b8, A8, c8, rfl, rfl, hb8, h8, ho8, hbb⟩ := hrel
              have e0 : wc.cell? ⟨b8, 0, none⟩ = some (.int .i64 N) := by simp [World.cell?, h8]
              have e1 : wc.cell? ⟨b8, 1, none⟩ = some (.slice A8 zs.length c8) := by simp [World.cell?, h8]
              have hbmc : wc.heap[bm]? = wr.heap[bm]? := hbb.block bm hmlt
              have e2 : wc.cell? ⟨bm, 0, none⟩ = some (.int .i64 N) := by rw [← m0]; simp only [World.cell?, hbmc]
              have e3 : wc.cell? ⟨bm, 1, none⟩ = some (.slice Am ys.length cm) := by rw [← m1]; simp only [World.cell?, hbmc]
              have f2 : wc.frozen? ⟨bm, 0, none⟩ = false := by unfold World.frozen?; rw [hbmc, HT.out.m]; rfl
              have f3 : wc.frozen? ⟨bm, 1, none⟩ = false := by unfold World.frozen?; rw [hbmc, HT.out.m]; rfl
              have hbne : b ≠ bm := by have := World.block_lt_of_cell? _ _ HC.out; simp at this; omega
              have e4 : wc.cell? ⟨b, off + k, none⟩ = some (.int .i64 x) := by rw [← hcr]; exact hbb.cell (p := ⟨b, off + k, none⟩) hblt
              obtain ⟨s1, s2, s3, s4⟩ := HT.out.stored hbm0 hbb ho8
              have S1 := Lib.hid s1
              have S2 := Lib.hid s2
              have S3 := Lib.hid s3
              have S4 := Lib.hid s4
              clear s1 s2 s3 s4 hbmc h8 ho8 hbb m0 m1 hcr HR
              rcases hz with ⟨rfl, hyl, rfl⟩ | ⟨rfl, hyl, rfl⟩
              · have hlen : (ys ++ [x]).length = ys.length + 1 := by simp
                rw [hlen] at e1
                have T1 := S1.out; rw [hlen] at T1
                have T2 := S2.out; rw [hlen] at T2
                have T3 := S3.out; rw [hlen] at T3
                have T4 := S4.out; rw [hlen] at T4
                have U1 := Lib.hid T1
                have U2 := Lib.hid T2
                have U3 := Lib.hid T3
                have U4 : Hid (((wc.setCell ⟨bm, 0, none⟩ (.int .i64 N)).setCell ⟨bm, 1, none⟩ (.slice A8 (ys.length + 1) c8)).ownsRow w.heap.size 3 1 (.slice A8 (ys.length + 1) c8) (ys ++ [x]).length ((ys ++ [x]).map (Value.int .i64))) := Lib.hid (by rw [hlen]; exact T4)
                clear T1 T2 T3 T4 S1 S2 S3 S4 hlen HC8
                go_wp2_with fail
                refine (put_room _ _ _ _ _ _ U2.out hyl).mono ?_
                rintro e w9 ⟨rfl, hq9, ho9⟩
                have HF : Hid (TwoRel w q c N bm w9) := Lib.hid ⟨_, _, Two.step U1.out U2.out U3.out U4.out hc0.out hq9 (by simp; omega) ho9⟩
                clear hq9 ho9 U1 U2 U3 U4
                go_wp2_with fail
                go_meet
                case rel => exact HF.out
              · have HF : Hid (TwoRel w q c N bm ((wc.setCell ⟨bm, 0, none⟩ (.int .i64 N)).setCell ⟨bm, 1, none⟩ (.slice A8 zs.length c8))) := Lib.hid ⟨zs, .slice A8 zs.length c8, S1.out, S2.out, hl, S3.out, S4.out⟩
                have U2 := S2
                clear S1 S2 S3 S4 HC8
                go_wp2_with fail
                refine (put_full _ _ _ _ _ _ U2.out hyl).mono ?_
                rintro e w9 ⟨rfl, rfl⟩
                go_wp2_with fail
                go_meet
                case rel => exact HF.out
          · cases ys with
            | nil =>
              go_wp2_with fail
              refine (rget_none _ _ _ _).mono ?_
              rintro e w7 ⟨rfl, hb7⟩
              have own7 : w7.ownsRow w.heap.size 3 1 (.slice Am 0 cm) ([] : List Int).length (([] : List Int).map (Value.int .i64)) := own_move HT.out.o (fun k hk => hb7.block k (own_lt HT.out.o k hk))
              have hbmc : w7.heap[bm]? = wr.heap[bm]? := hb7.block bm hmlt
              have e2 : w7.cell? ⟨bm, 0, none⟩ = some (.int .i64 N) := by rw [← m0]; simp only [World.cell?, hbmc]
              have e3 : w7.cell? ⟨bm, 1, none⟩ = some (.slice Am 0 cm) := by have h := m1; simp only [World.cell?] at h ⊢; rw [hbmc]; exact h
              have f2 : w7.frozen? ⟨bm, 0, none⟩ = false := by unfold World.frozen?; rw [hbmc, HT.out.m]; rfl
              have f3 : w7.frozen? ⟨bm, 1, none⟩ = false := by unfold World.frozen?; rw [hbmc, HT.out.m]; rfl
              have hmlt7 : bm < w7.heap.size := Nat.lt_of_lt_of_le hmlt hb7.size
              obtain ⟨s1, s2, s3, s4⟩ := alloc4 (o := (.cells #[.int .i64 N, .slice Am 0 cm] 29)) (HT.out.stored (zs := []) hbm0 hb7 own7)
              have S1 := Lib.hid s1
              have S2 := Lib.hid s2
              have S3 := Lib.hid s3
              have S4 := Lib.hid s4
              clear s1 s2 s3 s4 hbmc m0 m1 hcr HR
              clear own7 hb7
              have HF : Hid (TwoRel w q c N bm (((w7.setCell ⟨bm, 0, none⟩ (.int .i64 N)).setCell ⟨bm, 1, none⟩ (.slice Am 0 cm)).alloc (.cells #[.int .i64 N, .slice Am 0 cm] 29))) := Lib.hid ⟨[], .slice Am 0 cm, S1.out, S2.out, hl, S3.out, S4.out⟩
              have U2 := S2
              clear S1 S2 S3 S4
              go_wp2_with fail
              refine (get_none _ _ _ _ U2.out).mono ?_
              rintro e w9 ⟨rfl, rfl⟩
              go_wp2_with fail
              go_meet
              case rel => exact HF.out
            | cons y ys =>
              obtain ⟨g, cap, cur, hAm, hg, hgc, hcap, hcap2, hsz, htk⟩ : ∃ g cap cur, (Value.slice Am (y :: ys).length cm) = .slice (some ⟨g, 0, none⟩) (y :: ys).length cap ∧ w.heap.size ≤ g ∧ wr.heap[g]? = some (.cells cur 3 (0, 0)) ∧ (y :: ys).length ≤ cap ∧ cap ≤ maxLen ∧ cur.size = cap * 1 ∧ cur.toList.take ((y :: ys).length * 1) = (y :: ys).map (Value.int .i64) := by
                rcases HT.out.o.2 with ⟨_, h0⟩ | h
                · simp at h0
                · exact h
              obtain ⟨rfl, rfl⟩ : Am = some ⟨g, 0, none⟩ ∧ cm = cap := by injection hAm with a1 a2 a3; exact ⟨a1, a3⟩
              clear hAm hg hgc hcap2 hsz htk cur
              have hR' : RInts wr (.slice (some ⟨g, 0, none⟩) (ys.length + 1) cm) (y :: ys) := HR.out
              have HR' := Lib.hid hR'
              clear hR'
              go_wp2_with fail
              refine (rget_some _ _ _ _ _ _ _ HR'.out (by simpa using hcap) (by simp at hl; omega)).mono ?_
              rintro e w7 ⟨v7, rfl, ho7, hb7⟩
              obtain ⟨A7, c7, rfl⟩ := own_form ho7
              have own7 := own_lower ho7 HT.out.b.size
              have hbmc : w7.heap[bm]? = wr.heap[bm]? := hb7.block bm hmlt
              have e2 : w7.cell? ⟨bm, 0, none⟩ = some (.int .i64 N) := by rw [← m0]; simp only [World.cell?, hbmc]
              have e3 : w7.cell? ⟨bm, 1, none⟩ = some (.slice (some ⟨g, 0, none⟩) (ys.length + 1) cm) := by have h := m1; simp only [World.cell?] at h ⊢; rw [hbmc]; exact h
              have f2 : w7.frozen? ⟨bm, 0, none⟩ = false := by unfold World.frozen?; rw [hbmc, HT.out.m]; rfl
              have f3 : w7.frozen? ⟨bm, 1, none⟩ = false := by unfold World.frozen?; rw [hbmc, HT.out.m]; rfl
              have hmlt7 : bm < w7.heap.size := Nat.lt_of_lt_of_le hmlt hb7.size
              obtain ⟨s1, s2, s3, s4⟩ := alloc4 (o := (.cells #[.int .i64 N, .slice A7 ys.length c7] 29)) (HT.out.stored (zs := ys) hbm0 hb7 own7)
              have S1 := Lib.hid s1
              have S2 := Lib.hid s2
              have S3 := Lib.hid s3
              have S4 := Lib.hid s4
              clear s1 s2 s3 s4 hbmc m0 m1 hcr HR
              clear own7 ho7 hb7
              go_wp2_with fail
              refine (get_some _ _ _ _ _ _ S2.out).mono ?_
              rintro e w9 ⟨rfl, hq9, ho9⟩
              have HF : Hid (TwoRel w q c N bm w9) := Lib.hid ⟨_, _, Two.step S1.out S2.out S3.out S4.out hc0.out hq9 (by simp at hl; omega) ho9⟩
              clear hq9 ho9 S1 S2 S3 S4
              go_wp2_with fail
              go_meet
              case rel => exact HF.out
        case rest =>
          obtain ⟨zs, vz, hz⟩ := hcut
          have HZ := Lib.hid hz
          clear hz HT HC HR hcr m0 m1 hlt' hneg hblt hmlt hl
          have hl := HZ.out.l
          obtain ⟨Az, cz, rfl⟩ := own_form HZ.out.o
          go_wp2_with fail
          refine (all_any _ _ _ _ _ HZ.out.qu hr4 hl).mono ?_
          rintro e w5 ⟨va, rfl, hoa, hqa, hga⟩
          have HY := Lib.hid (HZ.out.grow hc0.out hqa hga)
          have HA := Lib.hid hoa
          have R1 := Lib.hid (RInts.own hoa)
          have R2 := Lib.hid (RInts.own HY.out.o)
          obtain ⟨Aa, ca, rfl⟩ := own_form hoa
          have n0 : w5.cell? ⟨bm, 0, none⟩ = some (.int .i64 N) := by simp [World.cell?, HY.out.m]
          have n1 : w5.cell? ⟨bm, 1, none⟩ = some (.slice Az zs.length cz) := by simp [World.cell?, HY.out.m]
          have hlN : (zs.length : Int) ≤ (N : Int) := by omega
          clear hoa hqa hga
          go_upto_region 23 with (fail)
          go_quiet (first
            | (go_at_call 21; exact Calls.quiet_of (same_true _ _ _ zs (rints_drewN _ R1.out) (rints_drewN _ R2.out) (by omega)))
            | (go_at_call 22; exact Calls.quiet_of_same ((len_any _ _ _ _ _ (qat_drewN _ HY.out.qu)).mono fun e w' h => ⟨h.1, h.2.symm⟩))
            | (go_at_call 23; exact Calls.quiet_of (room_any _ _ _ _ _ (qat_drewN _ HY.out.qu) hr4 hl)))
          have HY6 : Hid (Two w q c N bm zs (.slice Az zs.length cz) (w5.drewN nq)) := Lib.hid (HY.out.drew nq)
          have HA6 : Hid ((w5.drewN nq).ownsRow wc.heap.size 3 1 (.slice Aa zs.length ca) zs.length (zs.map (Value.int .i64))) := HA
          have hbig : ∀ k', (Value.slice Az zs.length cz).ownBlock = some k' → k' < wc.heap.size := fun k' hk' => own_lt HZ.out.o k' hk'
          have HBIG := Lib.hid hbig
          clear hbig HY HA R1 R2 n0 n1
          generalize w5.drewN nq = w6 at HY6 HA6
          by_cases hz0 : zs.length = 0
          · have HZ0 := Lib.hid (List.length_eq_zero_iff.1 hz0)
            clear hz0
            obtain rfl := HZ0.out
            go_wp2
            go_loopw [16] (fun i wr => ∃ j : Nat, j = 0 ∧ i = .int .i64 j ∧ w6 = wr) (fun _ _ => 0)
            case atStart => exact ⟨0, rfl, rfl, rfl⟩
            case round =>
              obtain ⟨j, rfl, rfl, rfl⟩ := hrel
              go_wp2
              go_roundg (xs.length - (k + 1))
              case measure => have := HG.out; omega
              case rel => exact ⟨k + 1, by omega, rfl, by go_num, _, _, HY6.out⟩
          · obtain ⟨g, cap, cur, hAa, hg, hgc, hcap, hcap2, hsz⟩ : ∃ g cap cur, (Value.slice Aa zs.length ca) = .slice (some ⟨g, 0, none⟩) zs.length cap ∧ wc.heap.size ≤ g ∧ w6.heap[g]? = some (.cells cur 3 (0, 0)) ∧ zs.length ≤ cap ∧ cap ≤ maxLen ∧ cur.size = cap := by
              rcases HA6.out.2 with ⟨_, h0⟩ | ⟨g, cap, cur, h1, h2, h3, h4, h5, h6, _⟩
              · exact absurd h0 hz0
              · exact ⟨g, cap, cur, h1, h2, h3, h4, h5, by omega⟩
            obtain ⟨rfl, rfl⟩ : Aa = some ⟨g, 0, none⟩ ∧ ca = cap := by injection hAa with a1 a2 a3; exact ⟨a1, a3⟩
            have HF0 : Hid (FillRel w q c N bm zs (.slice Az zs.length cz) g ca w6) := Lib.hid ⟨HY6.out, cur, hgc, hsz⟩
            clear hAa hgc hcap2 hsz cur HA6 HY6 hz0
            have hz4 : zs.length ≤ 4 := Nat.le_trans hl hr4
            go_wp2
            go_loopw [16] (fun i wr => ∃ j : Nat, j ≤ zs.length ∧ i = .int .i64 j ∧ FillRel w q c N bm zs (.slice Az zs.length cz) g ca wr) (fun i _ => zs.length - (intOf i).toNat)
            case atStart => exact ⟨0, Nat.zero_le _, rfl, HF0.out⟩
            case round =>
              obtain ⟨j, hj, rfl, htwo, cur, hgc, hsz⟩ := hrel
              have HW := Lib.hid htwo
              clear htwo HF0
              by_cases hjl : j < zs.length
              · have hj1 : (j : Int) < (zs.length : Int) := by omega
                have hj0 : 0 ≤ (j : Int) := by omega
                have hcu : ∃ u, wr.cell? ⟨g, j, none⟩ = some u := by
                  refine ⟨cur[j]'(by omega), ?_⟩
                  simp [World.cell?, hgc]
                obtain ⟨u, hu⟩ := hcu
                have hfu : wr.frozen? ⟨g, j, none⟩ = false := by unfold World.frozen?; rw [hgc]; simp
                have HGC := Lib.hid hgc
                clear hgc
                go_wp2
                go_roundw
                case measure => simp [intOf]; omega
                case rel =>
                  refine ⟨j + 1, by omega, by go_num, HW.out.far HZ.out.b.size HZ.out.qu.lq HZ.out.qu.lt (World.block_lt_of_cell? (u := .int .i64 N) wc ⟨bm, 0, none⟩ (by simp [World.cell?, HZ.out.m])) HBIG.out hg _ _, cur.setIfInBounds j (.int .i64 99), ?_, ?_⟩
                  · simp [World.setCell, Array.getElem?_modify, HGC.out]
                  · simpa using hsz
              · go_wp2
                go_roundg (xs.length - (k + 1))
                case measure => have := HG.out; omega
                case rel => exact ⟨k + 1, by omega, rfl, by go_num, _, _, HW.out⟩
    · obtain rfl : k = xs.length := by omega
      go_wp2
      go_ret
      exact ⟨rfl, HT.out.b⟩

theorem steps_great (w : World) (p : Int) (A : Option Addr) (n c : Nat) (h : 300 < n) (hn : n ≤ 9223372036854775807) : Calls Try.prog 4 #[.int .i64 p, .slice A n c] w (TruePost w) := by
  have hb : decide ((300 : Int) < (n : Int)) = true := by simp; omega
  clear h
  go_enter Try.func4, Try.ntmps4
  go_wp2_with fail
  refine (alive_true _).mono ?_
  rintro e w1 ⟨rfl, hb⟩
  go_wp2
  go_ret
  exact ⟨rfl, hb⟩

theorem steps_law (w : World) (p : Int) (v : Value) (xs : List Int) (hv : RInts w v xs) (hn : xs.length ≤ 9223372036854775807) : Calls Try.prog 4 #[.int .i64 p, v] w (TruePost w) := by
  by_cases h : xs.length ≤ 300
  · exact steps_small w p v xs hv h
  · obtain ⟨A, c, rfl⟩ := hv.len
    exact steps_great w p A _ c (by omega) hn
end Go.Proofs.Ytiflghlhlkabdaa.FifoG
