/- What the document has by rounds is what the worklist has; the document code has the same notion of right code; no condition beyond bounds on lengths. -/
import Derived.Test.YtpppjcjdfhpepaaGreatDoorME
import Derived.Test.YtpppjcjdfhpepaaGreatDoorMG
namespace Go.Vw
open Go.RowKit Go.Am Go.Proofs
attribute [local irreducible] VOps VRun VNext VD VDn VDq Ret
theorem CellOk.same {L : Nat} {u v : Int} (h : CellOk L u v) : (!(decide (u < 0) == decide (v < 0))) = false := by
  rcases h with ⟨rfl, rfl⟩ | ⟨h1, h2, _⟩
  · rfl
  · rw [decide_eq_false (by omega), decide_eq_false (by omega)]; rfl
theorem CellOk.must {L : Nat} {u v : Int} (h : CellOk L u v) (h0 : decide (0 ≤ u) = true) : (!(decide (andI u v = u))) = false := by
  have := of_decide_eq_true h0
  rcases h with ⟨rfl, rfl⟩ | ⟨_, _, h3, _⟩
  · omega
  · rw [decide_eq_true h3]; rfl
theorem CellOk.all {L : Nat} {u v : Int} (h : CellOk L u v) (h0 : decide (0 ≤ u) = true) : (!(decide (andI v (allI L) = v))) = false := by
  have := of_decide_eq_true h0
  rcases h with ⟨rfl, rfl⟩ | ⟨_, _, _, h3⟩
  · omega
  · rw [decide_eq_true h3]; rfl
section
variable (hT : TabOk tab Tryz.prog)
include hT
set_option maxHeartbeats 2000000 in
theorem heldWithin (m : MModule) (hs : Small m) (hn : SmallN m) (S : Hp) (hal : VC Tryz.prog 6 [] S fun v S' => v = .ob true ∧ S' = S) : VC Tryz.prog 4 [.agg (modV m)] S fun v _ => v = .ob true := by
  refine VC.code hT 134 rfl rfl rfl rfl fun F W S0 => ?_
  refine go hT 10000 rfl ?_
  conv => whnf
  refine ops_s rfl (s_boxF rfl rfl rfl ?_)
  refine go hT 10000 rfl ?_
  conv => whnf
  refine ops_s rfl (s_call hT rfl rfl rfl rfl rfl rfl (hal.mono ?_))
  rintro _ _ ⟨rfl, rfl⟩
  refine go hT 10000 rfl ?_
  conv => whnf
  refine run_split rfl (fun h => by cases h) (fun _ => ?_)
  refine go hT 10000 rfl ?_
  conv => whnf
  refine ops_s rfl (s_pureR hT rfl rfl rfl rfl rfl rfl (great hT m hs hn) ?_)
  rintro _ ⟨b, rfl⟩
  refine go hT 10000 rfl ?_
  conv => whnf
  refine run_split rfl (fun _ => ?_) (fun _ => ?_)
  · refine go hT 10000 rfl ?_
    conv => whnf
    exact ret_bool rfl rfl rfl rfl
  refine go hT 10000 rfl ?_
  conv => whnf
  refine ops_s rfl (s_pure hT rfl rfl rfl rfl rfl rfl (copyModule hT m hs) ?_)
  refine go hT 10000 rfl ?_
  conv => whnf
  refine ops_s rfl (s_pureR hT rfl rfl rfl rfl rfl rfl (find hT m hs fun hr => op_facts hr) ?_)
  intro v hv
  by_cases hr : rightModB m = true
  · rw [if_pos hr] at hv
    obtain ⟨must, may, hth, rfl⟩ := hv
    obtain ⟨l1, l2⟩ := hth.lens
    have hthr := hs.threads
    have hfr : frameB m = true := by
      simp only [rightModB, Bool.and_eq_true] at hr
      exact hr.1
    obtain ⟨hL, hpl⟩ := frame_facts hfr
    obtain ⟨bs1, bs2⟩ := bitI_small hL
    have hfs := hs.funcs
    have hok : ∀ (t : Nat) (h1 : t < must.length) (h2 : t < may.length) (h3 : t < m.threads.length), ThreadOk m m.threads[t] must[t] may[t] := fun t h1 h2 h3 => thread_facts hs hr (List.getElem_mem h3) (threads_at hth t h3 h1 h2)
    refine go hT 10000 rfl ?_
    conv => whnf
    refine ops_s rfl (s_alloc hT rfl rfl rfl fun b3 => ?_)
    refine go hT 10000 rfl ?_
    conv => whnf
    refine ops_s rfl (s_store (cs' := heldV must may) hT rfl rfl rfl .here rfl ?_)
    refine ops_freezeH (t := 3) rfl ?_
    refine go hT 10000 rfl ?_
    conv => whnf
    refine run_split rfl (fun h => by cases h) (fun _ => ?_)
    refine go hT 10000 rfl ?_
    conv => whnf
    refine ops_g rfl (g_len hT rfl rfl rfl rfl rfl rfl (List.length_map _)) ?_
    refine go hT 10000 rfl ?_
    conv => whnf
    refine ops_g rfl (g_shl1 rfl rfl rfl) ?_
    refine go hT 10000 rfl ?_
    conv => whnf
    refine ops_g rfl (g_sub rfl rfl rfl (by omega)) ?_
    refine go hT 10000 rfl ?_
    conv => whnf
    refine run_lq (fun t : Nat => ([(1, .pin (modV m) 0), (3, .pin (heldV must may) 0), (5, .int .i64 (allI m.locks.length)), (6, .int .i64 t)], [])) (fun t => t ≤ must.length) (fun t => must.length - t) 0 (Nat.zero_le _) ⟨⟨⟨_, rfl, .refl _⟩, ⟨_, rfl, .refl _⟩, ⟨_, rfl, .refl _⟩, ⟨_, rfl, .refl _⟩, trivial⟩, .nil⟩ ?_
    intro t ht
    refine go hT 10000 rfl ?_
    conv => whnf
    refine ops_g rfl (g_len hT rfl rfl rfl rfl rfl rfl (List.length_map _)) ?_
    refine go hT 10000 rfl ?_
    conv => whnf
    refine run_split rfl (fun hlt => ?_) (fun hlt => ?_)
    · simp only [decide_eq_true_eq, Int.ofNat_lt] at hlt
      have hlt2 : t < may.length := by omega
      have hlt3 : t < m.threads.length := by omega
      have H := hok t hlt hlt2 hlt3
      have hla := H.la
      have hlb := H.lb
      refine go hT 10000 rfl ?_
      conv => whnf
      refine run_lq (fun f : Nat => ([(1, .pin (modV m) 0), (3, .pin (heldV must may) 0), (5, .int .i64 (allI m.locks.length)), (6, .int .i64 t), (7, .int .i64 f)], [])) (fun f => f ≤ must[t].length) (fun f => must[t].length - f) 0 (Nat.zero_le _) ⟨⟨⟨_, rfl, .refl _⟩, ⟨_, rfl, .refl _⟩, ⟨_, rfl, .refl _⟩, ⟨_, rfl, .refl _⟩, ⟨_, rfl, .refl _⟩, trivial⟩, .refl _⟩ ?_
      intro f hf
      repeat' (first
        | (refine go hT 10000 rfl ?_; conv => whnf)
        | refine ops_s rfl (s_boxF rfl rfl rfl ?_)
        | refine ops_s rfl (s_listF hT rfl rfl rfl rfl rfl rfl rfl rfl ?_)
        | refine ops_g rfl (g_len hT rfl rfl rfl rfl rfl rfl (List.length_map _)) ?_
        | refine op_guard rfl rfl rfl rfl (fun h => ?_) (fun h => ?_)
        | refine ops_g rfl (g_indexM hT rfl rfl rfl rfl rfl hlt rfl) ?_)
      refine run_split rfl (fun hlf => ?_) (fun hlf => ?_)
      · simp only [decide_eq_true_eq, Int.ofNat_lt] at hlf
        have hlf2 : f < may[t].length := by omega
        have hrow := H.row f hlf hlf2
        refine go hT 10000 rfl ?_
        conv => whnf
        refine run_lq (fun n : Nat => ([(1, .pin (modV m) 0), (3, .pin (heldV must may) 0), (5, .int .i64 (allI m.locks.length)), (6, .int .i64 t), (7, .int .i64 f), (8, .int .i64 n)], [])) (fun n => n ≤ must[t][f].length) (fun n => must[t][f].length - n) 0 (Nat.zero_le _) ⟨⟨⟨_, rfl, .refl _⟩, ⟨_, rfl, .refl _⟩, ⟨_, rfl, .refl _⟩, ⟨_, rfl, .refl _⟩, ⟨_, rfl, .refl _⟩, ⟨_, rfl, .refl _⟩, trivial⟩, .refl _⟩ ?_
        intro n hn2
        repeat' (first
          | (refine go hT 10000 rfl ?_; conv => whnf)
          | refine ops_s rfl (s_boxF rfl rfl rfl ?_)
          | refine ops_s rfl (s_listF hT rfl rfl rfl rfl rfl rfl rfl rfl ?_)
          | refine ops_g rfl (g_len hT rfl rfl rfl rfl rfl rfl (List.length_map _)) ?_
          | refine op_guard rfl rfl rfl rfl (fun h => ?_) (fun h => ?_)
          | refine ops_g rfl (g_indexM hT rfl rfl rfl rfl rfl hlt rfl) ?_
          | refine ops_g rfl (g_indexM hT rfl rfl rfl rfl rfl hlf rfl) ?_)
        refine run_split rfl (fun hln => ?_) (fun hln => ?_)
        · simp only [decide_eq_true_eq, Int.ofNat_lt] at hln
          have hln2 : n < may[t][f].length := by omega
          have hsh := H.short f hlf
          have hc := H.cell f n hlf hlf2 hln hln2
          repeat' (first
            | (refine go hT 10000 rfl ?_; conv => whnf)
            | refine ops_s rfl (s_boxF rfl rfl rfl ?_)
            | refine ops_s rfl (s_listF hT rfl rfl rfl rfl rfl rfl rfl rfl ?_)
            | refine ops_g rfl (g_len hT rfl rfl rfl rfl rfl rfl (List.length_map _)) ?_
            | refine op_guard rfl rfl rfl rfl (fun h => ?_) (fun h => ?_)
            | refine ops_g rfl (g_indexM hT rfl rfl rfl rfl rfl hlt rfl) ?_
            | refine ops_g rfl (g_indexM hT rfl rfl rfl rfl rfl hlf rfl) ?_
            | refine ops_g rfl (g_indexM hT rfl rfl rfl rfl rfl hln rfl) ?_
            | refine ops_g rfl (g_indexM hT rfl rfl rfl rfl rfl hlt2 rfl) ?_
            | refine ops_g rfl (g_indexM hT rfl rfl rfl rfl rfl hlf2 rfl) ?_
            | refine ops_g rfl (g_indexM hT rfl rfl rfl rfl rfl hln2 rfl) ?_)
          · exact absurd (h.symm.trans hc.same) (by decide)
          · rename_i h0
            exact absurd (h.symm.trans (hc.must h0)) (by decide)
          · rename_i h0
            refine run_split rfl (fun h => ?_) (fun _ => ?_)
            · exact absurd (h.symm.trans (hc.all h0)) (by decide)
            · refine go hT 10000 rfl ?_
              conv => whnf
              refine ops_g rfl (g_add rfl rfl rfl (by omega)) ?_
              refine go hT 10000 rfl ?_
              conv => whnf
              exact ⟨n + 1, hln, by omega, ⟨⟨_, rfl, .refl _⟩, ⟨_, rfl, .refl _⟩, ⟨_, rfl, .refl _⟩, ⟨_, rfl, .refl _⟩, ⟨_, rfl, .refl _⟩, ⟨_, rfl, .refl _⟩, trivial⟩, .refl _⟩
          · refine ops_g rfl (g_add rfl rfl rfl (by omega)) ?_
            refine go hT 10000 rfl ?_
            conv => whnf
            exact ⟨n + 1, hln, by omega, ⟨⟨_, rfl, .refl _⟩, ⟨_, rfl, .refl _⟩, ⟨_, rfl, .refl _⟩, ⟨_, rfl, .refl _⟩, ⟨_, rfl, .refl _⟩, ⟨_, rfl, .refl _⟩, trivial⟩, .refl _⟩
        · refine go hT 10000 rfl ?_
          conv => whnf
          refine ops_g rfl (g_add rfl rfl rfl (by omega)) ?_
          refine go hT 10000 rfl ?_
          conv => whnf
          exact ⟨f + 1, hlf, by omega, ⟨⟨_, rfl, .refl _⟩, ⟨_, rfl, .refl _⟩, ⟨_, rfl, .refl _⟩, ⟨_, rfl, .refl _⟩, ⟨_, rfl, .refl _⟩, trivial⟩, .refl _⟩
      · obtain ⟨k1, k2, k3⟩ := H.first
        have hb0 : 0 ≤ m.threads[t] := (belowB_one.1 (thread_ok hr (List.getElem_mem hlt3))).1
        have hr0 : ((must[t][m.threads[t].toNat]).map intV)[(0 : Int).toNat]? = some (intV must[t][m.threads[t].toNat][0]) := by
          have : (must[t][m.threads[t].toNat])[(0 : Int).toNat]? = some must[t][m.threads[t].toNat][0] := List.getElem?_eq_getElem k2
          rw [List.getElem?_map, this]; rfl
        refine go hT 10000 rfl ?_
        conv => whnf
        intro id
        refine run_drw hT rfl rfl ?_ id
        repeat' (first
          | (refine god hT 2 rfl ?_; conv => whnf)
          | refine vd_fin rfl ?_
          | refine q_g rfl (fun S' => (g_len hT rfl rfl rfl rfl rfl rfl (List.length_map _)).qs) ?_
          | refine q_guard rfl rfl rfl rfl (fun h => ?_) (fun h => ?_)
          | refine q_g rfl (fun S' => (g_indexM hT rfl rfl rfl rfl rfl hlt rfl).qs) ?_
          | refine q_g rfl (fun S' => (g_indexM hT rfl rfl rfl rfl rfl hlt3 rfl).qs) ?_
          | refine q_g rfl (fun S' => (g_index (r := oneRow must[t][m.threads[t].toNat]) hT rfl rfl rfl rfl rfl hb0 (by rw [List.getElem?_map, List.getElem?_eq_getElem k1]; rfl) rfl).qs) ?_
          | refine q_g rfl (fun S' => (g_index (r := intV must[t][m.threads[t].toNat][0]) hT rfl rfl rfl rfl rfl (by decide) hr0 rfl).qs) ?_)
        refine go hT 10000 rfl ?_
        conv => whnf
        refine run_split rfl (fun h => ?_) (fun _ => ?_)
        · rw [k3] at h
          simp at h
        · refine go hT 10000 rfl ?_
          conv => whnf
          refine ops_g rfl (g_add rfl rfl rfl (by omega)) ?_
          refine go hT 10000 rfl ?_
          conv => whnf
          exact ⟨t + 1, hlt, by omega, ⟨⟨_, rfl, .refl _⟩, ⟨_, rfl, .refl _⟩, ⟨_, rfl, .refl _⟩, ⟨_, rfl, .refl _⟩, trivial⟩, .refl _⟩
    · refine go hT 10000 rfl ?_
      conv => whnf
      refine ops_g rfl (g_len hT rfl rfl rfl rfl rfl rfl (List.length_map _)) ?_
      refine go hT 10000 rfl ?_
      conv => whnf
      refine ops_g rfl (g_len hT rfl rfl rfl rfl rfl rfl (List.length_map _)) ?_
      refine go hT 10000 rfl ?_
      conv => whnf
      refine ret_bool rfl rfl rfl ?_
      rw [l1, decide_eq_true rfl]
  · rw [if_neg hr] at hv
    subst hv
    refine go hT 10000 rfl ?_
    conv => whnf
    refine ops_s rfl (s_alloc hT rfl rfl rfl fun b3 => ?_)
    refine go hT 10000 rfl ?_
    conv => whnf
    refine ops_s rfl (s_store (cs' := heldV [] []) hT rfl rfl rfl .here rfl ?_)
    refine ops_freezeH (t := 3) rfl ?_
    refine go hT 10000 rfl ?_
    conv => whnf
    refine run_split rfl (fun _ => ?_) (fun h => by simp at h)
    repeat' (first
      | (refine go hT 10000 rfl ?_; conv => whnf)
      | refine ops_s rfl (s_boxF rfl rfl rfl ?_)
      | refine ops_s rfl (s_listF hT rfl rfl rfl rfl rfl rfl rfl rfl ?_)
      | refine ops_g rfl (g_len hT rfl rfl rfl rfl rfl rfl (List.length_map _)) ?_
      | refine op_guard rfl rfl rfl rfl (fun h => ?_) (fun h => ?_))
    · exact ret_bool rfl rfl rfl rfl
    · rename_i h
      simp at h
end
end Go.Vw
namespace Go.Vw
open Go.RowKit Go.Am Go.Proofs
attribute [local irreducible] VOps VRun VNext VD VDn VDq Ret
/-! ### what a thread holds hangs on its own code -/
def oneM (m : MModule) (f : Int) : MModule := { m with threads := [f] }
theorem right_one {m : MModule} (h : rightModB m = true) {f : Int} (hf : f ∈ m.threads) : rightModB (oneM m f) = true := by
  unfold rightModB at h ⊢
  rw [Bool.and_eq_true] at h ⊢
  refine ⟨?_, h.2⟩
  have h1 := h.1
  unfold frameB at h1 ⊢
  simp only [Bool.and_eq_true] at h1 ⊢
  obtain ⟨a, ⟨⟨⟨⟨b, c⟩, _⟩, d⟩, e⟩⟩ := h1
  refine ⟨a, ⟨⟨⟨⟨b, c⟩, by simp [oneM]⟩, d⟩, ?_⟩⟩
  rw [Bool.not_eq_true', List.any_eq_false] at e ⊢
  intro x hx
  have : x = f := by simpa [oneM] using hx
  subst this
  exact e x hf
theorem called_one (m : MModule) (f : Int) : ∀ (k : Nat) (g : Int) (s : List Int), calledP (oneM m f) k g s = calledP m k g s
  | 0, _, _ => rfl
  | k + 1, g, s => by
    unfold calledP
    have e : ∀ (c : List MOp) (s : List Int), c.foldl (fun s o => if o.kind = 22 then calledP (oneM m f) k o.a s else s) s = c.foldl (fun s o => if o.kind = 22 then calledP m k o.a s else s) s := fun c => by
      induction c with
      | nil => intro s; rfl
      | cons o c ih =>
        intro s
        rw [List.foldl_cons, List.foldl_cons, called_one m f k o.a s]
        exact ih _
    rw [e]
    rfl
theorem done_one {m : MModule} {f : Int} {x y : Fp} (h : Done (oneM m f) x y) : Done m x y := by
  induction h with
  | stop h => exact .stop h
  | step h _ ih => exact .step h ih
theorem thread_one {m : MModule} {f g : Int} {a b : List (List Int)} (h : Thread (oneM m f) g a b) : Thread m g a b := by
  obtain ⟨y, hd, rfl, rfl⟩ := h
  have e : seenP (oneM m f) g = seenP m g := called_one m f _ g []
  exact ⟨y, done_one hd, by rw [e]; rfl, by rw [e]; rfl⟩
theorem Thread.unique {m : MModule} {f : Int} {a b a' b' : List (List Int)} (h : Thread m f a b) (k : Thread m f a' b') : a = a' ∧ b = b' := by
  obtain ⟨y, hd, rfl, rfl⟩ := h
  obtain ⟨z, kd, rfl, rfl⟩ := k
  rw [hd.unique kd]
  exact ⟨rfl, rfl⟩
theorem threads_one {m : MModule} {f : Int} {us vs : List (List (List Int))} (h : Threads m [f] us vs) : ∃ a b, us = [a] ∧ vs = [b] ∧ Thread m f a b := by
  cases h with
  | cons h k => cases k; exact ⟨_, _, rfl, rfl, h⟩
def FindR (m : MModule) (v : V) : Prop := ∃ must may e, v = .tup [.agg (heldV must may), .int .i64 e] ∧ ((rightModB m = true ∧ Threads m m.threads must may ∧ e = 0) ∨ (rightModB m = false ∧ must = [] ∧ may = [] ∧ e = 70))
section
variable (hT : TabOk tab Tryz.prog)
include hT
theorem findR (m : MModule) (hs : Small m) : PureR Tryz.prog 9 [.agg (modV m)] (FindR m) := by
  refine (find hT m hs fun hr => op_facts hr).mono fun v _ hv => ?_
  by_cases hr : rightModB m = true
  · rw [if_pos hr] at hv
    obtain ⟨must, may, h1, h2⟩ := hv
    exact ⟨must, may, 0, h2, .inl ⟨hr, h1, rfl⟩⟩
  · rw [if_neg hr] at hv
    exact ⟨[], [], 70, hv, .inr ⟨by simpa using hr, rfl, rfl, rfl⟩⟩
set_option maxRecDepth 100000 in
set_option maxHeartbeats 2000000 in
theorem heldThreads (m : MModule) (t : Int) (hs : Small m) (hn : SmallN m) (S : Hp) (hal : VC Tryz.prog 6 [] S fun v S' => v = .ob true ∧ S' = S) : VC Tryz.prog 5 [.agg (modV m), .int .i64 t] S fun v _ => v = .ob true := by
  refine VC.code hT 87 rfl rfl rfl rfl fun F W S0 => ?_
  refine go hT 10000 rfl ?_
  conv => whnf
  refine ops_s rfl (s_boxF rfl rfl rfl ?_)
  refine go hT 10000 rfl ?_
  conv => whnf
  refine ops_s rfl (s_call hT rfl rfl rfl rfl rfl rfl (hal.mono ?_))
  rintro _ _ ⟨rfl, rfl⟩
  refine go hT 10000 rfl ?_
  conv => whnf
  refine run_split rfl (fun h => by cases h) (fun _ => ?_)
  refine go hT 10000 rfl ?_
  conv => whnf
  refine ops_s rfl (s_pureR hT rfl rfl rfl rfl rfl rfl (great hT m hs hn) ?_)
  rintro _ ⟨b, rfl⟩
  repeat' (first
    | (refine go hT 10000 rfl ?_; conv => whnf)
    | refine ops_s rfl (s_boxF rfl rfl rfl ?_)
    | refine ops_s rfl (s_listF hT rfl rfl rfl rfl rfl rfl rfl rfl ?_)
    | refine ops_g rfl (g_len hT rfl rfl rfl rfl rfl rfl (List.length_map _)) ?_
    | refine op_guard rfl rfl rfl rfl (fun h => ?_) (fun h => ?_))
  · exact ret_bool rfl rfl rfl rfl
  · exact ret_bool rfl rfl rfl rfl
  have ht0 := h
  refine run_split rfl (fun _ => ?_) (fun ht1 => ?_)
  · refine go hT 10000 rfl ?_
    conv => whnf
    exact ret_bool rfl rfl rfl rfl
  obtain ⟨T, rfl⟩ : ∃ T : Nat, t = T := ⟨t.toNat, by have := of_decide_eq_false ht0; omega⟩
  have hlt : T < m.threads.length := by simpa using ht1
  have hmem := List.getElem_mem hlt
  have hs1 : Small (oneM m m.threads[T]) := ⟨hs.globals, hs.structs, hs.chans, hs.locks, hs.inputs, hs.sinks, hs.hatches, hs.funcs, by show 1 < 2000000; omega, hs.code, hs.args⟩
  refine go hT 10000 rfl ?_
  conv => whnf
  refine ops_s rfl (s_pure hT rfl rfl rfl rfl rfl rfl (copyModule hT m hs) ?_)
  refine go hT 10000 rfl ?_
  conv => whnf
  refine ops_s rfl (s_alloc hT rfl rfl rfl fun b5 => ?_)
  refine go hT 10000 rfl ?_
  conv => whnf
  refine ops_s rfl (s_store (cs' := modV m) hT rfl rfl rfl .here rfl ?_)
  repeat' (first
    | (refine go hT 10000 rfl ?_; conv => whnf)
    | refine ops_s rfl (s_boxF rfl rfl rfl ?_)
    | refine ops_s rfl (s_listF hT rfl rfl rfl rfl rfl rfl rfl rfl ?_)
    | refine ops_g rfl (g_len hT rfl rfl rfl rfl rfl rfl (List.length_map _)) ?_
    | refine op_guard rfl rfl rfl rfl (fun h => ?_) (fun h => ?_)
    | refine ops_g rfl (g_indexM hT rfl rfl rfl rfl rfl hlt rfl) ?_)
  refine ops_s rfl (s_store (cs' := modV (oneM m m.threads[T])) hT rfl rfl rfl .here rfl ?_)
  refine ops_freezeH (t := 5) rfl ?_
  refine go hT 10000 rfl ?_
  conv => whnf
  refine ops_s rfl (s_pure hT rfl rfl rfl rfl rfl rfl (copyModule hT m hs) ?_)
  refine go hT 10000 rfl ?_
  conv => whnf
  refine ops_s rfl (s_pureR hT rfl rfl rfl rfl rfl rfl (findR hT m hs) ?_)
  rintro _ ⟨must, may, e1, rfl, hv⟩
  refine go hT 10000 rfl ?_
  conv => whnf
  refine ops_s rfl (s_alloc hT rfl rfl rfl fun b6 => ?_)
  refine go hT 10000 rfl ?_
  conv => whnf
  refine ops_s rfl (s_store (cs' := heldV must may) hT rfl rfl rfl .here rfl ?_)
  refine ops_freezeH (t := 6) rfl ?_
  refine go hT 10000 rfl ?_
  conv => whnf
  refine ops_s rfl (s_pureR hT rfl rfl rfl rfl rfl rfl (findR hT (oneM m m.threads[T]) hs1) ?_)
  rintro _ ⟨must', may', e2, rfl, hv'⟩
  refine go hT 10000 rfl ?_
  conv => whnf
  refine ops_s rfl (s_alloc hT rfl rfl rfl fun b8 => ?_)
  refine go hT 10000 rfl ?_
  conv => whnf
  refine ops_s rfl (s_store (cs' := heldV must' may') hT rfl rfl rfl .here rfl ?_)
  refine ops_freezeH (t := 8) rfl ?_
  refine go hT 10000 rfl ?_
  conv => whnf
  rcases hv with ⟨hr, hth, rfl⟩ | ⟨hr, rfl, rfl, rfl⟩
  · obtain ⟨_, hth', rfl⟩ : rightModB (oneM m m.threads[T]) = true ∧ Threads (oneM m m.threads[T]) [m.threads[T]] must' may' ∧ e2 = 0 := by
      rcases hv' with h | ⟨h, _⟩
      · exact h
      · rw [right_one hr hmem] at h; cases h
    obtain ⟨a, b', rfl, rfl, hone⟩ := threads_one hth'
    obtain ⟨l1, l2⟩ := hth.lens
    have hlt1 : T < must.length := by omega
    have hlt2 : T < may.length := by omega
    have hTh := threads_at hth T hlt hlt1 hlt2
    obtain ⟨ea, eb⟩ := hTh.unique (thread_one hone)
    have H := thread_facts hs hr hmem hTh
    have hfs := hs.funcs
    have hla := H.la
    have hlb := H.lb
    have sa : ∀ r ∈ must[T], r.length < 2000000 := fun r hr => by
      obtain ⟨i, hi, rfl⟩ := List.mem_iff_getElem.1 hr
      exact H.short i hi
    have sb : ∀ r ∈ may[T], r.length < 2000000 := fun r hr => by
      obtain ⟨i, hi, rfl⟩ := List.mem_iff_getElem.1 hr
      rw [← H.row i (by omega) hi]
      exact H.short i (by omega)
    refine run_split rfl (fun h => by cases h) (fun _ => ?_)
    refine go hT 10000 rfl ?_
    conv => whnf
    intro id
    refine run_drw hT rfl rfl ?_ id
    repeat' (first
      | (refine god hT 1 rfl ?_; conv => whnf)
      | refine vd_fin rfl ?_
      | refine q_g rfl (fun S' => (g_len hT rfl rfl rfl rfl rfl rfl (List.length_map _)).qs) ?_
      | refine q_guard rfl rfl rfl rfl (fun h => ?_) (fun h => ?_)
      | refine q_g rfl (fun S' => (g_indexM hT rfl rfl rfl rfl rfl hlt1 rfl).qs) ?_
      | refine q_g rfl (fun S' => (g_indexM hT rfl rfl rfl rfl rfl hlt2 rfl).qs) ?_
      | refine q_g rfl (fun S' => (g_index (r := tabV a) hT rfl rfl rfl rfl rfl (by decide) (rfl : ([a].map tabV)[(0 : Int).toNat]? = some (tabV a)) rfl).qs) ?_
      | refine q_g rfl (fun S' => (g_index (r := tabV b') hT rfl rfl rfl rfl rfl (by decide) (rfl : ([b'].map tabV)[(0 : Int).toNat]? = some (tabV b')) rfl).qs) ?_)
    · refine vd_eff1 rfl (eff rfl rfl (s_pure hT rfl rfl rfl rfl rfl rfl (sameTable hT must[T] a (by omega) sa) (And.intro trivial ?_)))
      repeat' (first
        | (refine god hT 1 rfl ?_; conv => whnf)
        | refine vd_fin rfl ?_
        | refine q_g rfl (fun S' => (g_len hT rfl rfl rfl rfl rfl rfl (List.length_map _)).qs) ?_
        | refine q_guard rfl rfl rfl rfl (fun h => ?_) (fun h => ?_)
        | refine q_g rfl (fun S' => (g_indexM hT rfl rfl rfl rfl rfl hlt1 rfl).qs) ?_
        | refine q_g rfl (fun S' => (g_indexM hT rfl rfl rfl rfl rfl hlt2 rfl).qs) ?_
        | refine q_g rfl (fun S' => (g_index (r := tabV a) hT rfl rfl rfl rfl rfl (by decide) (rfl : ([a].map tabV)[(0 : Int).toNat]? = some (tabV a)) rfl).qs) ?_
        | refine q_g rfl (fun S' => (g_index (r := tabV b') hT rfl rfl rfl rfl rfl (by decide) (rfl : ([b'].map tabV)[(0 : Int).toNat]? = some (tabV b')) rfl).qs) ?_)
      · refine vd_eff1 rfl (eff rfl rfl (s_pure hT rfl rfl rfl rfl rfl rfl (sameTable hT may[T] b' (by omega) sb) (And.intro trivial ?_)))
        refine god hT 1 rfl ?_
        conv => whnf
        refine vd_fin rfl ?_
        refine go hT 10000 rfl ?_
        conv => whnf
        refine ret_bool rfl rfl rfl ?_
        rw [decide_eq_true eb]
      · rw [decide_eq_true ea] at h
        cases h
    all_goals simp at h
  · refine run_split rfl (fun _ => ?_) (fun h => by simp at h)
    refine go hT 10000 rfl ?_
    conv => whnf
    exact ret_bool rfl rfl rfl rfl
end
end Go.Vw
namespace Go.Vw
open Go.RowKit Go.Am Go.Proofs
/-! ### the worklist and the rounds come to the same -/
def Lq (l o : P2) : Prop := (∀ i, o.1.toNat.testBit i = true → l.1.toNat.testBit i = true) ∧ (∀ i, l.2.toNat.testBit i = true → o.2.toNat.testBit i = true)
theorem Lq.refl (l : P2) : Lq l l := ⟨fun _ h => h, fun _ h => h⟩
theorem Lq.trans {l o k : P2} (h : Lq l o) (g : Lq o k) : Lq l k := ⟨fun i e => h.1 i (g.1 i e), fun i e => g.2 i (h.2 i e)⟩
theorem nat_bound {L : Nat} (hL : L ≤ 8) {u v : Nat} (a1 : ∀ i, u.testBit i = true → v.testBit i = true) (a2 : ∀ i, v.testBit i = true → i < L) : u < 256 ∧ v < 256 :=
  ⟨lt_of_bits fun i hi => by have := a2 i (a1 i hi); omega, lt_of_bits fun i hi => by have := a2 i hi; omega⟩
theorem Lq.antisymm {L : Nat} {l o : P2} (hl : LockOk L l) (ho : LockOk L o) (h : Lq l o) (g : Lq o l) : l = o := by
  obtain ⟨u, v, rfl, _, _⟩ := hl.ex
  obtain ⟨u', v', rfl, _, _⟩ := ho.ex
  have e1 : u = u' := Nat.eq_of_testBit_eq fun i => by
    have h1 := h.1 i
    have g1 := g.1 i
    dsimp only [Int.toNat_natCast] at h1 g1
    cases hb : u.testBit i <;> cases hb' : u'.testBit i <;> simp_all
  have e2 : v = v' := Nat.eq_of_testBit_eq fun i => by
    have h1 := h.2 i
    have g1 := g.2 i
    dsimp only [Int.toNat_natCast] at h1 g1
    cases hb : v.testBit i <;> cases hb' : v'.testBit i <;> simp_all
  rw [e1, e2]
theorem Lq.meet {L : Nat} (hL : L ≤ 8) {l o : P2} (hl : LockOk L l) (ho : LockOk L o) : Lq l (andI l.1 o.1, orI l.2 o.2) ∧ Lq o (andI l.1 o.1, orI l.2 o.2) ∧ ∀ b, Lq l b → Lq o b → Lq (andI l.1 o.1, orI l.2 o.2) b := by
  obtain ⟨u, v, rfl, a1, a2⟩ := hl.ex
  obtain ⟨u', v', rfl, b1, b2⟩ := ho.ex
  obtain ⟨hu, hv⟩ := nat_bound hL a1 a2
  obtain ⟨hu', hv'⟩ := nat_bound hL b1 b2
  dsimp only
  rw [andI_nat hu hu', orI_nat hv hv']
  refine ⟨⟨fun i h => ?_, fun i h => ?_⟩, ⟨fun i h => ?_, fun i h => ?_⟩, fun b h g => ⟨fun i e => ?_, fun i e => ?_⟩⟩
  all_goals simp only [Int.toNat_natCast, Nat.testBit_and, Nat.testBit_or, Bool.and_eq_true, Bool.or_eq_true] at *
  · exact h.1
  · exact .inl h
  · exact h.2
  · exact .inr h
  · have h1 := h.1 i e
    have g1 := g.1 i e
    simp only [Int.toNat_natCast] at h1 g1
    exact ⟨h1, g1⟩
  · rcases e with e | e
    · exact h.2 i (by simpa using e)
    · exact g.2 i (by simpa using e)
theorem Lq.leave {L : Nat} (hL : L ≤ 8) {l o : P2} {p : MOp} (hl : LockOk L l) (ho : LockOk L o) (ha : p.kind = 16 ∨ p.kind = 17 → 0 ≤ p.a ∧ p.a < L) (h : Lq l o) : Lq (leaveL p l) (leaveL p o) := by
  obtain ⟨u, v, rfl, a1, a2⟩ := hl.ex
  obtain ⟨u', v', rfl, b1, b2⟩ := ho.ex
  obtain ⟨hu, hv⟩ := nat_bound hL a1 a2
  obtain ⟨hu', hv'⟩ := nat_bound hL b1 b2
  have h1 := h.1
  have h2 := h.2
  simp only [Int.toNat_natCast] at h1 h2
  have hp : ∀ {a : Int}, 0 ≤ a ∧ a < L → (2 ^ a.toNat : Nat) < 256 := fun {a} h => by
    have : (2 : Nat) ^ a.toNat < 2 ^ 8 := Nat.pow_lt_pow_right (by omega) (by omega)
    exact this
  unfold leaveL
  by_cases h16 : p.kind = 16
  · have hb := ha (.inl h16)
    rw [if_pos h16, if_pos h16]
    dsimp only
    rw [bitI_nat (by omega), orI_nat hu (hp hb), orI_nat hv (hp hb), orI_nat hu' (hp hb), orI_nat hv' (hp hb)]
    refine ⟨fun i e => ?_, fun i e => ?_⟩
    · simp only [Int.toNat_natCast, Nat.testBit_or, Bool.or_eq_true] at e ⊢
      exact e.imp (h1 i) id
    · simp only [Int.toNat_natCast, Nat.testBit_or, Bool.or_eq_true] at e ⊢
      exact e.imp (h2 i) id
  · rw [if_neg h16, if_neg h16]
    by_cases h17 : p.kind = 17
    · have hb := ha (.inr h17)
      rw [if_pos h17, if_pos h17]
      dsimp only
      rw [bitI_nat (by omega)]
      obtain ⟨w1, e1, q1⟩ := andNotI_nat hu (hp hb)
      obtain ⟨w2, e2, q2⟩ := andNotI_nat hv (hp hb)
      obtain ⟨w3, e3, q3⟩ := andNotI_nat hu' (hp hb)
      obtain ⟨w4, e4, q4⟩ := andNotI_nat hv' (hp hb)
      rw [e1, e2, e3, e4]
      refine ⟨fun i e => ?_, fun i e => ?_⟩
      · simp only [Int.toNat_natCast] at e ⊢
        rw [q3, Bool.and_eq_true] at e
        rw [q1, h1 i e.1, e.2]; rfl
      · simp only [Int.toNat_natCast] at e ⊢
        rw [q2, Bool.and_eq_true] at e
        rw [q4, h2 i e.1, e.2]; rfl
    · rw [if_neg h17, if_neg h17]
      exact h
def Cov (B : P2 → Option P2) (p l : P2) : Prop := ∃ o, B p = some o ∧ Lq l o
theorem Cov.less {B : P2 → Option P2} {p l k : P2} (h : Cov B p l) (g : Lq k l) : Cov B p k := by
  obtain ⟨o, e, q⟩ := h
  exact ⟨o, e, g.trans q⟩
structure Flow (m : MModule) (B : P2 → Option P2) (p l : P2) : Prop where
  call : ((m.fn p.1).op p.2).kind = 22 → Cov B (((m.fn p.1).op p.2).a, 0) l
  back : ((m.fn p.1).op p.2).kind = 22 → ∀ (k : Nat) (h : k < (m.fn ((m.fn p.1).op p.2).a).code.length) (e : P2), (m.fn ((m.fn p.1).op p.2).a).code[k].kind = 23 → B (((m.fn p.1).op p.2).a, (k : Int)) = some e → Cov B (p.1, ((m.fn p.1).op p.2).next) e
  els : ((m.fn p.1).op p.2).kind ≠ 22 → ((m.fn p.1).op p.2).kind ≠ 23 → ((m.fn p.1).op p.2).kind = 21 → Cov B (p.1, ((m.fn p.1).op p.2).els) l
  next : ((m.fn p.1).op p.2).kind ≠ 22 → ((m.fn p.1).op p.2).kind ≠ 23 → Cov B (p.1, ((m.fn p.1).op p.2).next) (leaveL ((m.fn p.1).op p.2) l)
structure Closed (m : MModule) (Lk : Nat) (f0 : Int) (B : P2 → Option P2) : Prop where
  ok : ∀ p l, B p = some l → LockOk Lk l
  start : Cov B (f0, 0) (0, 0)
  step : ∀ p l, B p = some l → Flow m B p l
theorem ok0 (L : Nat) : LockOk L (0, 0) := ⟨0, 0, rfl, fun i h => h, fun i h => by simp at h⟩
/-! the worklist is closed -/
structure Mn (x y : Fp) : Prop where
  cov : ∀ p l, Cov (findM x.at_) p l → Cov (findM y.at_) p l
  callers : y.callers = x.callers
  old : ∀ p l, findM y.at_ p = some l → p ∈ y.row ∨ findM x.at_ p = some l
  row : ∀ p ∈ x.row, p ∈ y.row
theorem Mn.refl (x : Fp) : Mn x x := ⟨fun _ _ h => h, rfl, fun _ _ h => .inr h, fun _ h => h⟩
theorem Mn.trans {x y z : Fp} (h : Mn x y) (k : Mn y z) : Mn x z := ⟨fun p l c => k.cov p l (h.cov p l c), k.callers.trans h.callers, fun p l e => by
  rcases k.old p l e with e | e
  · exact .inl e
  · rcases h.old p l e with e | e
    · exact .inl (k.row p e)
    · exact .inr e, fun p hp => k.row p (h.row p hp)⟩
def OkA (Lk : Nat) (A : AtM) : Prop := ∀ p l, findM A p = some l → LockOk Lk l
theorem put_cov {Lk : Nat} (hL : Lk ≤ 8) {A : AtM} (hA : OkA Lk A) {q k : P2} (hk : LockOk Lk k) : (∀ p l, Cov (findM A) p l → Cov (findM (putM A q (meet A q k))) p l) ∧ Cov (findM (putM A q (meet A q k))) q k ∧ OkA Lk (putM A q (meet A q k)) := by
  refine ⟨fun p l ⟨o, e, h⟩ => ?_, ⟨meet A q k, by rw [find_put, if_pos rfl], ?_⟩, fun p l e => ?_⟩
  · by_cases hp : p = q
    · subst hp
      refine ⟨meet A p k, by rw [find_put, if_pos rfl], ?_⟩
      have em : meet A p k = (andI k.1 o.1, orI k.2 o.2) := by unfold meet; rw [e]
      rw [em]
      exact h.trans (Lq.meet hL hk (hA p o e)).2.1
    · exact ⟨o, by rw [find_put, if_neg hp]; exact e, h⟩
  · unfold meet
    cases hf : findM A q with
    | none => exact .refl _
    | some o => exact (Lq.meet hL hk (hA q o hf)).1
  · rw [find_put] at e
    split at e
    · cases e
      exact meet_ok hL (fun o ho => hA q o ho) hk
    · exact hA p l e
theorem mn_come {Lk : Nat} (hL : Lk ≤ 8) {x : Fp} (hx : OkA Lk x.at_) {q k : P2} (hk : LockOk Lk k) : Mn x (comeP x q k) ∧ Cov (findM (comeP x q k).at_) q k ∧ OkA Lk (comeP x q k).at_ := by
  obtain ⟨h1, h2, h3⟩ := put_cov hL hx (q := q) hk
  unfold comeP
  by_cases hc : findM x.at_ q = some (meet x.at_ q k)
  · rw [if_pos hc]
    refine ⟨.refl x, ⟨_, hc, ?_⟩, hx⟩
    obtain ⟨o, e, h⟩ := h2
    rw [find_put, if_pos rfl] at e
    cases e
    exact h
  · rw [if_neg hc]
    refine ⟨⟨h1, rfl, fun p l e => ?_, fun p hp => List.mem_append_left _ hp⟩, h2, h3⟩
    dsimp only at e ⊢
    rw [find_put] at e
    split at e
    · next hp => subst hp; exact .inl (by simp)
    · exact .inr e
theorem mn_fold {Lk : Nat} (hL : Lk ≤ 8) {k : P2} (hk : LockOk Lk k) : ∀ (bs : List P2) {x : Fp}, OkA Lk x.at_ → Mn x (bs.foldl (fun x b => comeP x b k) x) ∧ (∀ b ∈ bs, Cov (findM (bs.foldl (fun x b => comeP x b k) x).at_) b k) ∧ OkA Lk (bs.foldl (fun x b => comeP x b k) x).at_
  | [], x, hx => ⟨.refl x, (fun b hb => by cases hb), hx⟩
  | b :: bs, x, hx => by
    obtain ⟨h1, h2, h3⟩ := mn_come hL hx (q := b) hk
    obtain ⟨g1, g2, g3⟩ := mn_fold hL hk bs h3
    refine ⟨h1.trans g1, fun c hc => ?_, g3⟩
    rcases List.mem_cons.1 hc with rfl | hc
    · exact g1.cov _ _ h2
    · exact g2 c hc
theorem mn_ret {Lk : Nat} (hL : Lk ≤ 8) {a : Int} {b : P2} : ∀ (c : List MOp) (i : Nat) {x : Fp}, OkA Lk x.at_ → Mn x (retLoop x a b i c) ∧ OkA Lk (retLoop x a b i c).at_ ∧ ∀ (j : Nat) (h : j < c.length) (e : P2), c[j].kind = 23 → findM (retLoop x a b i c).at_ (a, ((i + j : Nat) : Int)) = some e → (a, ((i + j : Nat) : Int)) ∈ (retLoop x a b i c).row ∨ Cov (findM (retLoop x a b i c).at_) b e
  | [], i, x, hx => ⟨.refl x, hx, fun j h => by cases h⟩
  | o :: c, i, x, hx => by
    unfold retLoop
    have step : ∀ x', Mn x x' → OkA Lk x'.at_ → (∀ e, o.kind = 23 → findM x.at_ (a, (i : Int)) = some e → Cov (findM x'.at_) b e) →
        Mn x (retLoop x' a b (i + 1) c) ∧ OkA Lk (retLoop x' a b (i + 1) c).at_ ∧ ∀ (j : Nat) (h : j < (o :: c).length) (e : P2), (o :: c)[j].kind = 23 → findM (retLoop x' a b (i + 1) c).at_ (a, ((i + j : Nat) : Int)) = some e → (a, ((i + j : Nat) : Int)) ∈ (retLoop x' a b (i + 1) c).row ∨ Cov (findM (retLoop x' a b (i + 1) c).at_) b e := fun x' m1 ok1 hc => by
      obtain ⟨g1, g2, g3⟩ := mn_ret hL (a := a) (b := b) c (i + 1) ok1
      refine ⟨m1.trans g1, g2, fun j h e hk he => ?_⟩
      cases j with
      | zero =>
        rw [Nat.add_zero] at he ⊢
        rcases (m1.trans g1).old _ _ he with h1 | h1
        · exact .inl h1
        · exact .inr (g1.cov _ _ (hc e hk h1))
      | succ j =>
        have e2 : i + (j + 1) = i + 1 + j := by omega
        rw [e2] at he ⊢
        exact g3 j (by simpa using h) e hk he
    cases hf : findM x.at_ (a, (i : Int)) with
    | none => exact step x (.refl x) hx fun e _ he => by rw [hf] at he; cases he
    | some e0 =>
      dsimp only
      by_cases hk : o.kind = 23
      · rw [if_pos hk]
        obtain ⟨h1, h2, h3⟩ := mn_come hL hx (q := b) (hx _ e0 hf)
        exact step _ h1 h3 fun e _ he => by rw [hf] at he; cases he; exact h2
      · rw [if_neg hk]
        exact step x (.refl x) hx fun e hk2 _ => absurd hk2 hk
structure Flow1 (m : MModule) (PB : P2 → P2 → Prop) (x : Fp) (p l : P2) : Prop where
  ret : ((m.fn p.1).op p.2).kind = 23 → ∀ b ∈ (findP x.callers p.1).getD [], PB p b ∨ Cov (findM x.at_) b l
  call : ((m.fn p.1).op p.2).kind = 22 → Cov (findM x.at_) (((m.fn p.1).op p.2).a, 0) l ∧ (p.1, ((m.fn p.1).op p.2).next) ∈ (findP x.callers ((m.fn p.1).op p.2).a).getD []
  els : ((m.fn p.1).op p.2).kind ≠ 22 → ((m.fn p.1).op p.2).kind ≠ 23 → ((m.fn p.1).op p.2).kind = 21 → Cov (findM x.at_) (p.1, ((m.fn p.1).op p.2).els) l
  next : ((m.fn p.1).op p.2).kind ≠ 22 → ((m.fn p.1).op p.2).kind ≠ 23 → Cov (findM x.at_) (p.1, ((m.fn p.1).op p.2).next) (leaveL ((m.fn p.1).op p.2) l)
theorem Flow1.mono {m : MModule} {PB : P2 → P2 → Prop} {x y : Fp} (k : Mn x y) {p l : P2} (h : Flow1 m PB x p l) : Flow1 m PB y p l :=
  ⟨fun e b hb => (h.ret e b (by rw [k.callers] at hb; exact hb)).imp id (k.cov _ _), fun e => ⟨k.cov _ _ (h.call e).1, by rw [k.callers]; exact (h.call e).2⟩, fun a b c => k.cov _ _ (h.els a b c), fun a b => k.cov _ _ (h.next a b)⟩
structure Wi (m : MModule) (f0 : Int) (E : P2 → Prop) (PB : P2 → P2 → Prop) (x : Fp) : Prop where
  start : Cov (findM x.at_) (f0, 0) (0, 0)
  all : ∀ p l, findM x.at_ p = some l → p ∈ x.row ∨ E p ∨ Flow1 m PB x p l
theorem Wi.mono {m : MModule} {f0 : Int} {E : P2 → Prop} {PB : P2 → P2 → Prop} {x y : Fp} (h : Wi m f0 E PB x) (k : Mn x y) : Wi m f0 E PB y := ⟨k.cov _ _ h.start, fun p l e => by
  rcases k.old p l e with e | e
  · exact .inl e
  · rcases h.all p l e with e | e | e
    · exact .inl (k.row p e)
    · exact .inr (.inl e)
    · exact .inr (.inr (e.mono k))⟩
def No (_ : P2) : Prop := False
def NoB (_ _ : P2) : Prop := False
theorem wi_leave {m : MModule} {f0 : Int} {Lk : Nat} (hL : Lk ≤ 8) {x : Fp} (hi : Inv m Lk x) {p : P2} (hp : valid m p) (ho : OpFacts m Lk p ((m.fn p.1).op p.2)) (h : Wi m f0 (fun q => q = p) NoB x) (hs : ∃ l, findM x.at_ p = some l) : Wi m f0 No NoB (leaveP m x p) := by
  have hx : OkA Lk x.at_ := fun q l e => (hi.at_ q l e).2
  have hiy := (inv_leave hL hi ho).1
  obtain ⟨l, hl⟩ := hs
  have hlk := hx p l hl
  have eg : (findM x.at_ p).getD (0, 0) = l := by rw [hl]; rfl
  unfold leaveP at hiy ⊢
  rw [eg] at hiy ⊢
  dsimp only at hiy ⊢
  -- what is left to show of p itself
  have fin : ∀ y, Mn x y → Flow1 m NoB y p l → Wi m f0 No NoB y := fun y k fl => by
    have w := h.mono k
    refine ⟨w.start, fun q k2 e => ?_⟩
    rcases w.all q k2 e with e1 | e1 | e1
    · exact .inl e1
    · subst e1
      rcases k.old _ _ e with e2 | e2
      · exact .inl e2
      · rw [hl] at e2; cases e2
        exact .inr (.inr fl)
    · exact .inr (.inr e1)
  by_cases h23 : ((m.fn p.1).op p.2).kind = 23
  · rw [if_pos h23] at hiy ⊢
    obtain ⟨k1, k2, k3⟩ := mn_fold hL hlk ((findP x.callers p.1).getD []) hx
    refine fin _ k1 ⟨fun _ b hb => .inr (k2 b (by rw [k1.callers] at hb; exact hb)), fun e => ?_, fun _ e => absurd h23 e, fun _ e => absurd h23 e⟩
    rw [h23] at e; cases e
  · rw [if_neg h23] at hiy ⊢
    by_cases h22 : ((m.fn p.1).op p.2).kind = 22
    · rw [if_pos h22] at hiy ⊢
      unfold callP at hiy ⊢
      generalize ha : ((m.fn p.1).op p.2).a = a at hiy ⊢
      generalize hb : (p.1, ((m.fn p.1).op p.2).next) = b at hiy ⊢
      -- the caller is noted
      have hin : b ∈ (findP (addBack x a b).callers a).getD [] := by
        unfold addBack
        split
        · next hany =>
          rw [List.any_eq_true] at hany
          obtain ⟨q, hq, e⟩ := hany
          have := of_decide_eq_true e
          subst this; exact hq
        · dsimp only
          rw [find_add, if_pos rfl]
          simp
      have hold : ∀ a' c, c ∈ (findP (addBack x a b).callers a').getD [] → c ∈ (findP x.callers a').getD [] ∨ (a' = a ∧ c = b) := fun a' c hc => by
        unfold addBack at hc
        split at hc
        · exact .inl hc
        · dsimp only at hc
          rw [find_add] at hc
          split at hc
          · next e =>
            subst e
            simp only [Option.getD_some, List.mem_append, List.mem_singleton] at hc
            exact hc.imp id fun e => ⟨rfl, e⟩
          · exact .inl hc
      have hnew : ∀ a' c, c ∈ (findP x.callers a').getD [] → c ∈ (findP (addBack x a b).callers a').getD [] := fun a' c hc => by
        unfold addBack
        split
        · exact hc
        · dsimp only
          rw [find_add]
          split
          · next e => subst e; simp [hc]
          · exact hc
      have eat : (addBack x a b).at_ = x.at_ := by unfold addBack; split <;> rfl
      have erow : (addBack x a b).row = x.row := by unfold addBack; split <;> rfl
      have w1 : Wi m f0 (fun q => q = p) (fun r c => r.1 = a ∧ c = b) (addBack x a b) := ⟨by rw [eat]; exact h.start, fun q k e => by
        rw [eat] at e
        rcases h.all q k e with e1 | e1 | e1
        · exact .inl (by rw [erow]; exact e1)
        · exact .inr (.inl e1)
        · refine .inr (.inr ⟨fun hk c hc => ?_, fun hk => ?_, fun a b c => ?_, fun a b => ?_⟩)
          · rw [eat]
            rcases hold _ _ hc with hc | hc
            · exact .inr ((e1.ret hk c hc).resolve_left id)
            · exact .inl hc
          · rw [eat]; exact ⟨(e1.call hk).1, hnew _ _ (e1.call hk).2⟩
          · rw [eat]; exact e1.els a b c
          · rw [eat]; exact e1.next a b⟩
      have ok1 : OkA Lk (addBack x a b).at_ := by rw [eat]; exact hx
      obtain ⟨k1, k2, k3⟩ := mn_come hL ok1 (q := (a, 0)) hlk
      obtain ⟨g1, g2, g3⟩ := mn_ret hL (a := a) (b := b) (m.fn a).code 0 k3
      have w2 := (w1.mono k1).mono g1
      have k12 := k1.trans g1
      refine ⟨w2.start, fun q k e => ?_⟩
      by_cases hrow : q ∈ (retLoop (comeP (addBack x a b) (a, 0) l) a b 0 (m.fn a).code).row
      · exact .inl hrow
      · refine .inr (.inr ?_)
        rcases w2.all q k e with e1 | e1 | e1
        · exact absurd e1 hrow
        · subst e1
          have e2 : findM x.at_ q = some k := by
            rcases k12.old _ _ e with e2 | e2
            · exact absurd e2 hrow
            · rw [eat] at e2; exact e2
          rw [hl] at e2; cases e2
          refine ⟨fun e => absurd e h23, fun _ => ⟨by rw [ha]; exact g1.cov _ _ k2, ?_⟩, fun e => absurd h22 e, fun e => absurd h22 e⟩
          rw [ha, hb, k12.callers]; exact hin
        · refine ⟨fun hk c hc => ?_, e1.call, e1.els, e1.next⟩
          rcases e1.ret hk c hc with ⟨e2, e3⟩ | e2
          · subst e3
            have hq := (hiy.at_ q k e).1
            obtain ⟨q1, q2⟩ := q
            dsimp only at e2
            subst e2
            have hq2 : 0 ≤ q2 ∧ q2 < (m.fn q1).code.length := hq.2
            have hqn : ((0 + q2.toNat : Nat) : Int) = q2 := by omega
            have hop : (m.fn q1).code[q2.toNat].kind = 23 := by
              have : (m.fn q1).op q2 = (m.fn q1).code[q2.toNat]'(by omega) := by
                unfold MFunc.op
                rw [List.getElem?_eq_getElem (by omega)]; rfl
              rw [← this]; exact hk
            have := g3 q2.toNat (by omega) k hop (by rw [hqn]; exact e)
            rw [hqn] at this
            exact .inr (this.resolve_left hrow)
          · exact .inr e2
    · rw [if_neg h22] at hiy ⊢
      by_cases h21 : ((m.fn p.1).op p.2).kind = 21
      · rw [if_pos h21] at hiy ⊢
        obtain ⟨k1, k2, k3⟩ := mn_come hL hx (q := (p.1, ((m.fn p.1).op p.2).els)) hlk
        obtain ⟨g1, g2, g3⟩ := mn_come hL k3 (q := (p.1, ((m.fn p.1).op p.2).next)) (hlk.leave hL ho.lock)
        exact fin _ (k1.trans g1) ⟨fun e => absurd e h23, fun e => absurd e h22, fun _ _ _ => g1.cov _ _ k2, fun _ _ => g2⟩
      · rw [if_neg h21] at hiy ⊢
        obtain ⟨g1, g2, g3⟩ := mn_come hL hx (q := (p.1, ((m.fn p.1).op p.2).next)) (hlk.leave hL ho.lock)
        exact fin _ g1 ⟨fun e => absurd e h23, fun e => absurd e h22, fun _ _ e => absurd e h21, fun _ _ => g2⟩
end Go.Vw
namespace Go.Vw
open Go.RowKit Go.Am Go.Proofs
theorem op_nat (f : MFunc) (k : Nat) (h : k < f.code.length) : f.op (k : Int) = f.code[k] := by
  unfold MFunc.op
  rw [Int.toNat_natCast, List.getElem?_eq_getElem h]; rfl
theorem wi_done {m : MModule} {f0 : Int} {Lk : Nat} (hL : Lk ≤ 8) (ho : ∀ p, valid m p → OpFacts m Lk p ((m.fn p.1).op p.2)) {x y : Fp} (h : Done m x y) : Inv m Lk x → (∀ p ∈ x.row, ∃ l, findM x.at_ p = some l) → Wi m f0 No NoB x → Closed m Lk f0 (findM y.at_) := by
  induction h with
  | @stop x hrow =>
    intro hi _ hw
    refine ⟨fun p l e => (hi.at_ p l e).2, hw.start, fun p l e => ?_⟩
    rcases hw.all p l e with e1 | e1 | e1
    · rw [hrow] at e1; cases e1
    · exact e1.elim
    · refine ⟨fun hk => (e1.call hk).1, fun hk k hkl e2 hk2 he2 => ?_, e1.els, e1.next⟩
      have hv : valid m (((m.fn p.1).op p.2).a, (k : Int)) := (hi.at_ _ _ he2).1
      rcases hw.all _ _ he2 with e3 | e3 | e3
      · rw [hrow] at e3; cases e3
      · exact e3.elim
      · have hop : ((m.fn (((m.fn p.1).op p.2).a)).op (k : Int)) = (m.fn ((m.fn p.1).op p.2).a).code[k] := op_nat _ _ hkl
        exact (e3.ret (by rw [hop]; exact hk2) _ (e1.call hk).2).resolve_left id
  | @step x y p r hrow _ ih =>
    intro hi hin hw
    have hp := hi.row p (by rw [hrow]; exact List.mem_cons_self ..)
    have hi' : Inv m Lk { x with row := r } := ⟨hi.at_, fun q hq => hi.row q (by rw [hrow]; exact List.mem_cons_of_mem _ hq), hi.callers⟩
    have hok : OkA Lk x.at_ := fun q l e => (hi.at_ q l e).2
    have hs := hin p (by rw [hrow]; exact List.mem_cons_self ..)
    have hw' : Wi m f0 (fun q => q = p) NoB { x with row := r } := ⟨hw.start, fun q k e => by
      rcases hw.all q k e with e1 | e1 | e1
      · rw [hrow] at e1
        rcases List.mem_cons.1 e1 with e1 | e1
        · exact .inr (.inl e1)
        · exact .inl e1
      · exact e1.elim
      · exact .inr (.inr ⟨e1.ret, e1.call, e1.els, e1.next⟩)⟩
    refine ih (inv_leave hL hi' (ho p hp)).1 ?_ (wi_leave hL hi' hp (ho p hp) hw' hs)
    -- what stands in the row has been found
    have rowOk : ∀ z : Fp, (∀ q ∈ z.row, ∃ l, findM z.at_ q = some l) → ∀ q k, ∀ q' ∈ (comeP z q k).row, ∃ l, findM (comeP z q k).at_ q' = some l := fun z hz q k q' hq' => by
      unfold comeP at hq' ⊢
      split at hq'
      · next hc => rw [if_pos hc]; exact hz q' hq'
      · next hc =>
        rw [if_neg hc]
        dsimp only at hq' ⊢
        rw [find_put]
        by_cases e : q' = q
        · rw [if_pos e]; exact ⟨_, rfl⟩
        · rw [if_neg e]
          rcases List.mem_append.1 hq' with h | h
          · exact hz q' h
          · exact absurd (List.mem_singleton.1 h) e
    have rowBack : ∀ z : Fp, (∀ q ∈ z.row, ∃ l, findM z.at_ q = some l) → ∀ a b, ∀ q' ∈ (addBack z a b).row, ∃ l, findM (addBack z a b).at_ q' = some l := fun z hz a b => by
      unfold addBack
      split <;> exact hz
    have rowRet : ∀ (c : List MOp) (a : Int) (b : P2) (i : Nat) (z : Fp), (∀ q ∈ z.row, ∃ l, findM z.at_ q = some l) → ∀ q' ∈ (retLoop z a b i c).row, ∃ l, findM (retLoop z a b i c).at_ q' = some l := fun c => by
      induction c with
      | nil => intro a b i z hz; exact hz
      | cons o c ih2 =>
        intro a b i z hz
        unfold retLoop
        refine ih2 a b (i + 1) _ ?_
        cases findM z.at_ (a, (i : Int)) with
        | none => exact hz
        | some e =>
          dsimp only
          split
          · exact rowOk z hz _ _
          · exact hz
    have rowFold : ∀ (bs : List P2) (k : P2) (z : Fp), (∀ q ∈ z.row, ∃ l, findM z.at_ q = some l) → ∀ q' ∈ (bs.foldl (fun z b => comeP z b k) z).row, ∃ l, findM (bs.foldl (fun z b => comeP z b k) z).at_ q' = some l := fun bs => by
      induction bs with
      | nil => intro k z hz; exact hz
      | cons b bs ih2 => intro k z hz; exact ih2 k _ (rowOk z hz _ _)
    have hz : ∀ q ∈ r, ∃ l, findM x.at_ q = some l := fun q hq => hin q (by rw [hrow]; exact List.mem_cons_of_mem _ hq)
    unfold leaveP
    dsimp only
    split
    · exact rowFold _ _ { x with row := r } hz
    · split
      · exact rowRet _ _ _ _ _ (rowOk _ (rowBack { x with row := r } hz _ _) _ _)
      · refine rowOk _ ?_ _ _
        split
        · exact rowOk { x with row := r } hz _ _
        · exact hz
/-! all that is found is below what is closed -/
def Bel (B : P2 → Option P2) (A : AtM) : Prop := ∀ p l, findM A p = some l → Cov B p l
theorem put_bel {Lk : Nat} (hL : Lk ≤ 8) {B : P2 → Option P2} (hB : ∀ p l, B p = some l → LockOk Lk l) {A : AtM} (hA : OkA Lk A) (h : Bel B A) {q k : P2} (hk : LockOk Lk k) (hc : Cov B q k) : Bel B (putM A q (meet A q k)) := fun p l e => by
  rw [find_put] at e
  split at e
  · next hp =>
    subst hp; cases e
    obtain ⟨o, e1, e2⟩ := hc
    refine ⟨o, e1, ?_⟩
    unfold meet
    cases hf : findM A p with
    | none => exact e2
    | some k2 =>
      obtain ⟨o', e3, e4⟩ := h p k2 hf
      rw [e1] at e3; cases e3
      exact (Lq.meet hL hk (hA p k2 hf)).2.2 o e2 e4
  · exact h p l e
theorem comeP_bel {Lk : Nat} (hL : Lk ≤ 8) {B : P2 → Option P2} (hB : ∀ p l, B p = some l → LockOk Lk l) {x : Fp} (hA : OkA Lk x.at_) (h : Bel B x.at_) {q k : P2} (hk : LockOk Lk k) (hc : Cov B q k) : Bel B (comeP x q k).at_ ∧ OkA Lk (comeP x q k).at_ ∧ (comeP x q k).callers = x.callers := by
  refine ⟨?_, (mn_come hL hA hk).2.2, (mn_come hL hA hk).1.callers⟩
  unfold comeP
  split
  · exact h
  · exact put_bel hL hB hA h hk hc
structure BlP (m : MModule) (Lk : Nat) (B : P2 → Option P2) (x : Fp) : Prop where
  bel : Bel B x.at_
  ok : OkA Lk x.at_
  callers : ∀ a b, b ∈ (findP x.callers a).getD [] → ∀ (k : Nat) (h : k < (m.fn a).code.length) (e : P2), (m.fn a).code[k].kind = 23 → B (a, (k : Int)) = some e → Cov B b e
theorem BlP.come {m : MModule} {Lk : Nat} (hL : Lk ≤ 8) {B : P2 → Option P2} (hB : ∀ p l, B p = some l → LockOk Lk l) {x : Fp} (h : BlP m Lk B x) {q k : P2} (hk : LockOk Lk k) (hc : Cov B q k) : BlP m Lk B (comeP x q k) := by
  obtain ⟨h1, h2, h3⟩ := comeP_bel hL hB h.ok h.bel hk hc
  exact ⟨h1, h2, fun a b hb => h.callers a b (by rw [h3] at hb; exact hb)⟩
theorem op_at {m : MModule} {p : P2} (hp : valid m p) : ∃ k : Nat, ∃ h : k < (m.fn p.1).code.length, p = (p.1, (k : Int)) ∧ (m.fn p.1).op p.2 = (m.fn p.1).code[k] := by
  obtain ⟨_, h2, h3⟩ := hp
  refine ⟨p.2.toNat, by omega, by rw [Int.toNat_of_nonneg h2], ?_⟩
  unfold MFunc.op
  rw [List.getElem?_eq_getElem (by omega)]; rfl
theorem blp_leave {m : MModule} {f0 : Int} {Lk : Nat} (hL : Lk ≤ 8) {B : P2 → Option P2} (hB : Closed m Lk f0 B) {x : Fp} (h : BlP m Lk B x) {p : P2} (hp : valid m p) (ho : OpFacts m Lk p ((m.fn p.1).op p.2)) (hs : ∃ l, findM x.at_ p = some l) : BlP m Lk B (leaveP m x p) := by
  obtain ⟨l, hl⟩ := hs
  have hlk := h.ok p l hl
  obtain ⟨l', hl', hq⟩ := h.bel p l hl
  have fl := hB.step p l' hl'
  have hlk' := hB.ok p l' hl'
  have eg : (findM x.at_ p).getD (0, 0) = l := by rw [hl]; rfl
  unfold leaveP
  rw [eg]
  dsimp only
  by_cases h23 : ((m.fn p.1).op p.2).kind = 23
  · rw [if_pos h23]
    obtain ⟨k, hk, ep, eo⟩ := op_at hp
    have key : ∀ b ∈ (findP x.callers p.1).getD [], Cov B b l := fun b hb => (h.callers p.1 b hb k hk l' (by rw [← eo]; exact h23) (by rw [← ep]; exact hl')).less hq
    have fold : ∀ (bs : List P2) (z : Fp), BlP m Lk B z → (∀ b ∈ bs, Cov B b l) → BlP m Lk B (bs.foldl (fun z b => comeP z b l) z) := fun bs => by
      induction bs with
      | nil => intro z hz _; exact hz
      | cons b bs ih => intro z hz hb; exact ih _ (hz.come hL hB.ok hlk (hb b (List.mem_cons_self ..))) fun c hc => hb c (List.mem_cons_of_mem _ hc)
    exact fold _ x h key
  · rw [if_neg h23]
    by_cases h22 : ((m.fn p.1).op p.2).kind = 22
    · rw [if_pos h22]
      unfold callP
      have hback : BlP m Lk B (addBack x ((m.fn p.1).op p.2).a (p.1, ((m.fn p.1).op p.2).next)) := by
        unfold addBack
        split
        · exact h
        · refine ⟨h.bel, h.ok, fun a b hb k hk e hk2 he => ?_⟩
          dsimp only at hb
          rw [find_add] at hb
          split at hb
          · next e2 =>
            subst e2
            simp only [Option.getD_some, List.mem_append, List.mem_singleton] at hb
            rcases hb with hb | rfl
            · exact h.callers _ b hb k hk e hk2 he
            · exact fl.back h22 k hk e hk2 he
          · exact h.callers a b hb k hk e hk2 he
      have h2 := hback.come hL hB.ok hlk ((fl.call h22).less hq)
      have ret : ∀ (c : List MOp) (i : Nat) (z : Fp), BlP m Lk B z → (∀ (j : Nat) (h : j < c.length) (e : P2), c[j].kind = 23 → B (((m.fn p.1).op p.2).a, ((i + j : Nat) : Int)) = some e → Cov B (p.1, ((m.fn p.1).op p.2).next) e) → BlP m Lk B (retLoop z ((m.fn p.1).op p.2).a (p.1, ((m.fn p.1).op p.2).next) i c) := fun c => by
        induction c with
        | nil => intro i z hz _; exact hz
        | cons o c ih =>
          intro i z hz hc
          unfold retLoop
          refine ih (i + 1) _ ?_ fun j hj e hk he => hc (j + 1) (by simpa using hj) e hk (by rw [show i + (j + 1) = i + 1 + j by omega]; exact he)
          cases hf : findM z.at_ (((m.fn p.1).op p.2).a, (i : Int)) with
          | none => exact hz
          | some e =>
            dsimp only
            split
            · next hk =>
              obtain ⟨e', he', hqe⟩ := hz.bel _ e hf
              exact hz.come hL hB.ok (hz.ok _ e hf) ((hc 0 (by simp) e' hk (by rw [Nat.add_zero]; exact he')).less hqe)
            · exact hz
      refine ret _ 0 _ h2 fun j hj e hk he => fl.back h22 j hj e hk (by rw [Nat.zero_add] at he; exact he)
    · rw [if_neg h22]
      have hn : Cov B (p.1, ((m.fn p.1).op p.2).next) (leaveL ((m.fn p.1).op p.2) l) := (fl.next h22 h23).less (hq.leave hL hlk hlk' ho.lock)
      refine BlP.come hL hB.ok ?_ (hlk.leave hL ho.lock) hn
      split
      · next h21 => exact h.come hL hB.ok hlk ((fl.els h22 h23 h21).less hq)
      · exact h
end Go.Vw
namespace Go.Vw
open Go.RowKit Go.Am Go.Proofs
def Found (z : Fp) : Prop := ∀ q ∈ z.row, ∃ l, findM z.at_ q = some l
theorem found_come {z : Fp} (hz : Found z) (q k : P2) : Found (comeP z q k) := fun q' hq' => by
  unfold comeP at hq' ⊢
  split at hq'
  · next hc => rw [if_pos hc]; exact hz q' hq'
  · next hc =>
    rw [if_neg hc]
    dsimp only at hq' ⊢
    rw [find_put]
    by_cases e : q' = q
    · rw [if_pos e]; exact ⟨_, rfl⟩
    · rw [if_neg e]
      rcases List.mem_append.1 hq' with h | h
      · exact hz q' h
      · exact absurd (List.mem_singleton.1 h) e
theorem found_ret {a : Int} {b : P2} : ∀ (c : List MOp) (i : Nat) {z : Fp}, Found z → Found (retLoop z a b i c)
  | [], _, _, h => h
  | o :: c, i, z, h => by
    unfold retLoop
    refine found_ret c (i + 1) ?_
    cases findM z.at_ (a, (i : Int)) with
    | none => exact h
    | some e =>
      dsimp only
      split
      · exact found_come h _ _
      · exact h
theorem found_fold {k : P2} : ∀ (bs : List P2) {z : Fp}, Found z → Found (bs.foldl (fun z b => comeP z b k) z)
  | [], _, h => h
  | b :: bs, _, h => found_fold bs (found_come h _ _)
theorem found_leave {m : MModule} {z : Fp} (h : Found z) (p : P2) : Found (leaveP m z p) := by
  unfold leaveP
  dsimp only
  split
  · exact found_fold _ h
  · split
    · refine found_ret _ _ (found_come ?_ _ _)
      unfold addBack
      split <;> exact h
    · refine found_come ?_ _ _
      split
      · exact found_come h _ _
      · exact h
theorem blp_done {m : MModule} {f0 : Int} {Lk : Nat} (hL : Lk ≤ 8) (ho : ∀ p, valid m p → OpFacts m Lk p ((m.fn p.1).op p.2)) {B : P2 → Option P2} (hB : Closed m Lk f0 B) {x y : Fp} (h : Done m x y) : Inv m Lk x → Found x → BlP m Lk B x → BlP m Lk B y := by
  induction h with
  | stop _ => exact fun _ _ hb => hb
  | @step x y p r hrow _ ih =>
    intro hi hin hb
    have hp := hi.row p (by rw [hrow]; exact List.mem_cons_self ..)
    have hi' : Inv m Lk { x with row := r } := ⟨hi.at_, fun q hq => hi.row q (by rw [hrow]; exact List.mem_cons_of_mem _ hq), hi.callers⟩
    have hf' : Found { x with row := r } := fun q hq => hin q (by rw [hrow]; exact List.mem_cons_of_mem _ hq)
    have hs := hin p (by rw [hrow]; exact List.mem_cons_self ..)
    have hb' : BlP m Lk B { x with row := r } := ⟨hb.bel, hb.ok, hb.callers⟩
    exact ih (inv_leave hL hi' (ho p hp)).1 (found_leave hf' p) (blp_leave hL hB hb' hp (ho p hp) hs)
/-! the rounds -/
theorem cR_bel {m : MModule} {rs : List Int} {Lk : Nat} (hL : Lk ≤ 8) {B : P2 → Option P2} (hB : ∀ p l, B p = some l → LockOk Lk l) {x : AtM × Bool} (hx : RefInv m rs Lk x.1) (h : Bel B x.1) {q k : P2} (hk : LockOk Lk k) (hc : Cov B q k) : Bel B (cR x q k).1 :=
  put_bel hL hB (fun p l e => (hx p l e).2) h hk hc
theorem retR_bel {m : MModule} {rs : List Int} {Lk : Nat} (hL : Lk ≤ 8) {B : P2 → Option P2} (hB : ∀ p l, B p = some l → LockOk Lk l) {a : Int} {b : P2} (hbr : InR m rs b) : ∀ (c : List MOp) (i : Nat) {x : AtM × Bool}, RefInv m rs Lk x.1 → Bel B x.1 → (∀ (j : Nat) (h : j < c.length) (e : P2), c[j].kind = 23 → B (a, ((i + j : Nat) : Int)) = some e → Cov B b e) → Bel B (retR x a b i c).1
  | [], _, _, _, h, _ => h
  | o :: c, i, x, hx, h, hc => by
    rw [retR_cons]
    have hc' : ∀ (j : Nat) (h : j < c.length) (e : P2), c[j].kind = 23 → B (a, ((i + 1 + j : Nat) : Int)) = some e → Cov B b e := fun j hj e hk he => hc (j + 1) (by simpa using hj) e hk (by rw [show i + (j + 1) = i + 1 + j by omega]; exact he)
    cases hf : findM x.1 (a, (i : Int)) with
    | none => exact retR_bel hL hB hbr c (i + 1) hx h hc'
    | some e =>
      dsimp only
      split
      · next hk =>
        obtain ⟨e', he', hq⟩ := h _ e hf
        have hcov : Cov B b e := (hc 0 (by simp) e' hk (by rw [Nat.add_zero]; exact he')).less hq
        exact retR_bel hL hB hbr c (i + 1) (refinv_come hL hx hbr (hx _ e hf).2) (cR_bel hL hB hx h (hx _ e hf).2 hcov) hc'
      · exact retR_bel hL hB hbr c (i + 1) hx h hc'
theorem fromR_bel {m : MModule} {rs : List Int} {f0 : Int} {Lk : Nat} (hL : Lk ≤ 8) {B : P2 → Option P2} (hB : Closed m Lk f0 B) {x : AtM × Bool} (hx : RefInv m rs Lk x.1) (h : Bel B x.1) {p : P2} (ho : OpFacts m Lk p ((m.fn p.1).op p.2)) (hp : p.1 ∈ rs) (hcl : ((m.fn p.1).op p.2).kind = 22 → ((m.fn p.1).op p.2).a ∈ rs) : Bel B (fromR m x p).1 := by
  unfold fromR
  cases hf : findM x.1 p with
  | none => exact h
  | some l =>
    have hl := (hx p l hf).2
    obtain ⟨l', hl', hq⟩ := h p l hf
    have fl := hB.step p l' hl'
    have hlk' := hB.ok p l' hl'
    dsimp only
    split
    · exact h
    · next h23 =>
      have hn : InR m rs (p.1, ((m.fn p.1).op p.2).next) := ⟨ho.next h23, hp⟩
      split
      · next h22 =>
        have hin : InR m rs (((m.fn p.1).op p.2).a, 0) := ⟨(ho.call h22).2, hcl h22⟩
        exact retR_bel hL hB.ok hn _ _ (refinv_come hL hx hin hl) (cR_bel hL hB.ok hx h hl ((fl.call h22).less hq)) fun j hj e hk he => fl.back h22 j hj e hk (by rw [Nat.zero_add] at he; exact he)
      · next h22 =>
        have hcn : Cov B (p.1, ((m.fn p.1).op p.2).next) (leaveL ((m.fn p.1).op p.2) l) := (fl.next h22 h23).less (hq.leave hL hl hlk' ho.lock)
        split
        · next h21 =>
          have he : InR m rs (p.1, ((m.fn p.1).op p.2).els) := ⟨ho.els h21, hp⟩
          exact cR_bel hL hB.ok (refinv_come hL hx he hl) (cR_bel hL hB.ok hx h hl ((fl.els h22 h23 h21).less hq)) (hl.leave hL ho.lock) hcn
        · exact cR_bel hL hB.ok hx h (hl.leave hL ho.lock) hcn
structure RsOk (m : MModule) (rs : List Int) (f0 : Int) : Prop where
  mem : ∀ g, g ∈ rs ↔ Rch m f0 g
  first : InR m rs (f0, 0)
theorem RsOk.close {m : MModule} {rs : List Int} {f0 : Int} (h : RsOk m rs f0) {p : P2} (hp : InR m rs p) (hk : ((m.fn p.1).op p.2).kind = 22) : ((m.fn p.1).op p.2).a ∈ rs := by
  obtain ⟨k, hkl, _, eo⟩ := op_at hp.1
  rw [eo] at hk ⊢
  exact (h.mem _).2 (.step ((h.mem _).1 hp.2) (List.getElem_mem hkl) hk)
theorem rst_inv {m : MModule} {rs : List Int} {f0 : Int} {Lk : Nat} (hL : Lk ≤ 8) (ho : ∀ p, valid m p → OpFacts m Lk p ((m.fn p.1).op p.2)) (hrs : RsOk m rs f0) {A : AtM} (h : RSt m rs f0 A) : RefInv m rs Lk A := by
  induction h with
  | start => exact refinv_come hL (fun p l h => by cases h) hrs.first (ok0 Lk)
  | step _ hp ih => exact refinv_from hL (x := (_, _)) ih (ho _ hp.1) hp.2 fun hk => hrs.close hp hk
theorem rst_bel {m : MModule} {rs : List Int} {f0 : Int} {Lk : Nat} (hL : Lk ≤ 8) (ho : ∀ p, valid m p → OpFacts m Lk p ((m.fn p.1).op p.2)) (hrs : RsOk m rs f0) {B : P2 → Option P2} (hB : Closed m Lk f0 B) {A : AtM} (h : RSt m rs f0 A) : Bel B A := by
  induction h with
  | start => exact put_bel hL hB.ok (fun p l h => by cases h) (fun p l h => by cases h) (ok0 Lk) hB.start
  | step h hp ih => exact fromR_bel hL hB (x := (_, _)) (rst_inv hL ho hrs h) ih (ho _ hp.1) hp.2 fun hk => hrs.close hp hk
theorem calm_cov {Lk : Nat} (hL : Lk ≤ 8) {A : AtM} (hA : OkA Lk A) {q k : P2} (hk : LockOk Lk k) (h : moreR A q k = false) : Cov (findM A) q k := by
  unfold moreR at h
  rw [Bool.not_eq_false', decide_eq_true_eq] at h
  obtain ⟨o, e, hq⟩ := (put_cov hL hA (q := q) hk).2.1
  rw [find_put, if_pos rfl] at e
  cases e
  exact ⟨_, h, hq⟩
theorem cov_same {A A' : AtM} (h : ∀ q, findM A q = findM A' q) {p l : P2} (k : Cov (findM A) p l) : Cov (findM A') p l := by
  obtain ⟨o, e, hq⟩ := k
  exact ⟨o, by rw [← h]; exact e, hq⟩
theorem cR_quiet {x : AtM × Bool} {q k : P2} (h : (cR x q k).2 = false) : x.2 = false ∧ moreR x.1 q k = false := by
  unfold cR at h
  exact Bool.or_eq_false_iff.1 h
theorem calm_back {x y : AtM × Bool} (h : Calm x y) (e : y.2 = false) : x.2 = false := by
  cases hx : x.2
  · rfl
  · rw [h.keep hx] at e; cases e
theorem retR_quiet {Lk : Nat} (hL : Lk ≤ 8) {A : AtM} (hA : OkA Lk A) {a : Int} {b : P2} : ∀ (c : List MOp) (i : Nat) (x : AtM × Bool), (∀ q, findM x.1 q = findM A q) → (retR x a b i c).2 = false → ∀ (j : Nat) (h : j < c.length) (e : P2), c[j].kind = 23 → findM A (a, ((i + j : Nat) : Int)) = some e → Cov (findM A) b e
  | [], _, _, _, _, j, h, _, _, _ => by cases h
  | o :: c, i, x, hx, h, j, hj, e, hk, he => by
    rw [retR_cons] at h
    cases hf : findM x.1 (a, (i : Int)) with
    | none =>
      rw [hf] at h
      cases j with
      | zero => rw [Nat.add_zero, ← hx, hf] at he; cases he
      | succ j => exact retR_quiet hL hA c (i + 1) x hx h j (by simpa using hj) e hk (by rw [show i + 1 + j = i + (j + 1) by omega]; exact he)
    | some e0 =>
      rw [hf] at h
      dsimp only at h
      by_cases ho : o.kind = 23
      · rw [if_pos ho] at h
        have h1 := calm_back (calm_ret a b c (i + 1) _) h
        obtain ⟨h2, h3⟩ := cR_quiet h1
        have hsame : ∀ q, findM (cR x b e0).1 q = findM A q := fun q => by rw [(calm_come x b e0).same h1 q, hx]
        cases j with
        | zero =>
          rw [Nat.add_zero, ← hx, hf] at he
          cases he
          have : OkA Lk x.1 := fun p l e => hA p l (by rw [← hx]; exact e)
          exact cov_same hx (calm_cov hL this (this _ _ hf) h3)
        | succ j => exact retR_quiet hL hA c (i + 1) _ hsame h j (by simpa using hj) e hk (by rw [show i + 1 + j = i + (j + 1) by omega]; exact he)
      · rw [if_neg ho] at h
        cases j with
        | zero => exact absurd hk ho
        | succ j => exact retR_quiet hL hA c (i + 1) x hx h j (by simpa using hj) e hk (by rw [show i + 1 + j = i + (j + 1) by omega]; exact he)
theorem quiet_flow {m : MModule} {Lk : Nat} (hL : Lk ≤ 8) {A : AtM} (hA : OkA Lk A) {p l : P2} (ho : OpFacts m Lk p ((m.fn p.1).op p.2)) (hl : findM A p = some l) (h : quiet m A p) : Flow m (findM A) p l := by
  have hlk := hA p l hl
  unfold quiet fromR at h
  rw [hl] at h
  dsimp only at h
  by_cases h23 : ((m.fn p.1).op p.2).kind = 23
  · exact ⟨(fun e => by rw [h23] at e; cases e), (fun e => by rw [h23] at e; cases e), fun _ e => absurd h23 e, fun _ e => absurd h23 e⟩
  rw [if_neg h23] at h
  by_cases h22 : ((m.fn p.1).op p.2).kind = 22
  · rw [if_pos h22] at h
    have h1 := calm_back (calm_ret _ _ _ _ _) h
    obtain ⟨_, h3⟩ := cR_quiet h1
    have hsame : ∀ q, findM (cR (A, false) (((m.fn p.1).op p.2).a, 0) l).1 q = findM A q := fun q => (calm_come (A, false) _ l).same h1 q
    refine ⟨fun _ => calm_cov hL hA hlk h3, fun _ k hk e hk2 he => ?_, fun e => absurd h22 e, fun e => absurd h22 e⟩
    exact retR_quiet hL hA _ 0 _ hsame h k hk e hk2 (by rw [Nat.zero_add]; exact he)
  rw [if_neg h22] at h
  by_cases h21 : ((m.fn p.1).op p.2).kind = 21
  · rw [if_pos h21] at h
    obtain ⟨h1, h2⟩ := cR_quiet h
    obtain ⟨_, h3⟩ := cR_quiet h1
    have hsame : ∀ q, findM (cR (A, false) (p.1, ((m.fn p.1).op p.2).els) l).1 q = findM A q := fun q => (calm_come (A, false) _ l).same h1 q
    refine ⟨fun e => absurd e h22, fun e => absurd e h22, fun _ _ _ => calm_cov hL hA hlk h3, fun _ _ => ?_⟩
    have hA2 : OkA Lk (cR (A, false) (p.1, ((m.fn p.1).op p.2).els) l).1 := fun q l e => hA q l (by rw [← hsame]; exact e)
    exact cov_same hsame (calm_cov hL hA2 (hlk.leave hL ho.lock) h2)
  · rw [if_neg h21] at h
    obtain ⟨_, h2⟩ := cR_quiet h
    exact ⟨fun e => absurd e h22, fun e => absurd e h22, fun _ _ e => absurd e h21, fun _ _ => calm_cov hL hA (hlk.leave hL ho.lock) h2⟩
theorem from_cov {m : MModule} {rs : List Int} {Lk : Nat} (hL : Lk ≤ 8) : ∀ {x : AtM × Bool}, RefInv m rs Lk x.1 → ∀ {p q k : P2}, OpFacts m Lk p ((m.fn p.1).op p.2) → p.1 ∈ rs → (((m.fn p.1).op p.2).kind = 22 → ((m.fn p.1).op p.2).a ∈ rs) → Cov (findM x.1) q k → Cov (findM (fromR m x p).1) q k := fun {x} hx {p q k} ho hp hcl hc => by
  have come : ∀ (y : AtM × Bool), RefInv m rs Lk y.1 → ∀ q' k', LockOk Lk k' → Cov (findM y.1) q k → Cov (findM (cR y q' k').1) q k := fun y hy q' k' hk' h => (put_cov hL (fun p l e => (hy p l e).2) hk').1 q k h
  have ret : ∀ (c : List MOp) (a : Int) (b : P2) (i : Nat) (y : AtM × Bool), InR m rs b → RefInv m rs Lk y.1 → Cov (findM y.1) q k → Cov (findM (retR y a b i c).1) q k := fun c => by
    induction c with
    | nil => intro a b i y _ _ h; exact h
    | cons o c ih =>
      intro a b i y hb hy h
      rw [retR_cons]
      cases hf : findM y.1 (a, (i : Int)) with
      | none => exact ih a b _ _ hb hy h
      | some e =>
        dsimp only
        split
        · exact ih a b _ _ hb (refinv_come hL hy hb (hy _ e hf).2) (come y hy _ _ (hy _ e hf).2 h)
        · exact ih a b _ _ hb hy h
  unfold fromR
  cases hf : findM x.1 p with
  | none => exact hc
  | some l =>
    have hl := (hx p l hf).2
    dsimp only
    split
    · exact hc
    · next h23 =>
      have hn : InR m rs (p.1, ((m.fn p.1).op p.2).next) := ⟨ho.next h23, hp⟩
      split
      · next h22 =>
        have hin : InR m rs (((m.fn p.1).op p.2).a, 0) := ⟨(ho.call h22).2, hcl h22⟩
        exact ret _ _ _ _ _ hn (refinv_come hL hx hin hl) (come x hx _ _ hl hc)
      · split
        · next h21 =>
          have he : InR m rs (p.1, ((m.fn p.1).op p.2).els) := ⟨ho.els h21, hp⟩
          exact come _ (refinv_come hL hx he hl) _ _ (hl.leave hL ho.lock) (come x hx _ _ hl hc)
        · exact come x hx _ _ (hl.leave hL ho.lock) hc
theorem rst_start {m : MModule} {rs : List Int} {f0 : Int} {Lk : Nat} (hL : Lk ≤ 8) (ho : ∀ p, valid m p → OpFacts m Lk p ((m.fn p.1).op p.2)) (hrs : RsOk m rs f0) {A : AtM} (h : RSt m rs f0 A) : Cov (findM A) (f0, 0) (0, 0) := by
  induction h with
  | start => exact (put_cov hL (A := []) (fun p l h => by cases h) (ok0 Lk)).2.1
  | step h hp ih => exact from_cov hL (x := (_, _)) (rst_inv hL ho hrs h) (ho _ hp.1) hp.2 (fun hk => hrs.close hp hk) ih
theorem rst_closed {m : MModule} {rs : List Int} {f0 : Int} {Lk : Nat} (hL : Lk ≤ 8) (ho : ∀ p, valid m p → OpFacts m Lk p ((m.fn p.1).op p.2)) (hrs : RsOk m rs f0) {A : AtM} (h : RSt m rs f0 A) (hq : ∀ p, InR m rs p → quiet m A p) : Closed m Lk f0 (findM A) := by
  have hi := rst_inv hL ho hrs h
  exact ⟨fun p l e => (hi p l e).2, rst_start hL ho hrs h, fun p l e => quiet_flow hL (fun p l e => (hi p l e).2) (ho p (hi p l e).1.1) e (hq p (hi p l e).1)⟩
/-! what is seen is what may be called -/
theorem Rch.trans {m : MModule} {a b c : Int} (h : Rch m a b) (k : Rch m b c) : Rch m a c := by
  induction k with
  | base => exact h
  | step _ ho hk ih => exact .step ih ho hk
theorem called_sound (m : MModule) : ∀ (k : Nat) (f : Int) (s : List Int), ∀ x ∈ calledP m k f s, x ∈ s ∨ Rch m f x
  | 0, _, _, x, h => .inl h
  | k + 1, f, s, x, h => by
    unfold calledP at h
    split at h
    · exact .inl h
    · have key : ∀ (c : List MOp) (t : List Int), (∀ o ∈ c, o ∈ (m.fn f).code) → (∀ y ∈ t, y ∈ s ∨ Rch m f y) → ∀ y ∈ c.foldl (fun s o => if o.kind = 22 then calledP m k o.a s else s) t, y ∈ s ∨ Rch m f y := fun c => by
        induction c with
        | nil => intro t _ ht; exact ht
        | cons o c ih =>
          intro t hc ht
          refine ih _ (fun o' ho' => hc o' (List.mem_cons_of_mem _ ho')) fun y hy => ?_
          dsimp only at hy
          split at hy
          · next hk =>
            rcases called_sound m k o.a t y hy with h1 | h1
            · exact ht y h1
            · exact .inr ((Rch.step .base (hc o (List.mem_cons_self ..)) hk).trans h1)
          · exact ht y hy
      refine key _ _ (fun o ho => ho) (fun y hy => ?_) x h
      rcases List.mem_append.1 hy with hy | hy
      · exact .inl hy
      · rw [List.mem_singleton.1 hy]; exact .inr .base
def ClosedIn (m : MModule) (s t : List Int) : Prop := ∀ g ∈ t, g ∉ s → ∀ o ∈ (m.fn g).code, o.kind = 22 → o.a ∈ t
theorem called_full (m : MModule) (hcall : ∀ f ∈ m.funcs, ∀ o ∈ f.code, o.kind = 22 → belowB m.funcs.length [o.a] = true) : ∀ (k : Nat) (f : Int) (s : List Int), belowB m.funcs.length [f] = true → unseen m s < k → f ∈ calledP m k f s ∧ ClosedIn m s (calledP m k f s)
  | 0, _, _, _, h => by omega
  | k + 1, f, s, hf, hk => by
    by_cases hs : f ∈ s
    · have e : calledP m (k + 1) f s = s := by unfold calledP; rw [if_pos hs]
      rw [e]
      exact ⟨hs, fun g hg hn => absurd hg hn⟩
    · have e : calledP m (k + 1) f s = (m.fn f).code.foldl (fun s o => if o.kind = 22 then calledP m k o.a s else s) (s ++ [f]) := by
        rw [calledP]; rw [if_neg hs]
      rw [e]
      have hmem : m.fn f ∈ m.funcs := by
        have hb := belowB_one.1 hf
        have hi : f.toNat < m.funcs.length := by omega
        unfold MModule.fn
        rw [List.getElem?_eq_getElem hi]
        exact List.getElem_mem hi
      have hun := unseen_add hf hs
      have key : ∀ (c : List MOp) (t : List Int), (∀ o ∈ c, o ∈ (m.fn f).code) → (∀ x ∈ s ++ [f], x ∈ t) → (∀ g ∈ t, g ∉ s ++ [f] → ∀ o ∈ (m.fn g).code, o.kind = 22 → o.a ∈ t) →
          let R := c.foldl (fun s o => if o.kind = 22 then calledP m k o.a s else s) t
          (∀ x ∈ t, x ∈ R) ∧ (∀ g ∈ R, g ∉ s ++ [f] → ∀ o ∈ (m.fn g).code, o.kind = 22 → o.a ∈ R) ∧ ∀ o ∈ c, o.kind = 22 → o.a ∈ R := fun c => by
        induction c with
        | nil => intro t _ _ ht; exact ⟨fun x hx => hx, ht, fun o ho => by cases ho⟩
        | cons o c ih =>
          intro t hc hst ht
          by_cases hk22 : o.kind = 22
          · have hut : unseen m t < k := Nat.lt_of_le_of_lt (unseen_mono hst) (by omega)
            obtain ⟨h1, h2⟩ := called_full m hcall k o.a t (hcall _ hmem o (hc o (List.mem_cons_self ..)) hk22) hut
            have hsub := called_sub m k o.a t
            obtain ⟨g1, g2, g3⟩ := ih (calledP m k o.a t) (fun o' ho' => hc o' (List.mem_cons_of_mem _ ho')) (fun x hx => hsub x (hst x hx)) (fun g hg hn o' ho' hk' => by
              by_cases hgt : g ∈ t
              · exact hsub _ (ht g hgt hn o' ho' hk')
              · exact h2 g hg hgt o' ho' hk')
            simp only [List.foldl_cons, if_pos hk22]
            refine ⟨fun x hx => g1 x (hsub x hx), g2, fun o' ho' hk' => ?_⟩
            rcases List.mem_cons.1 ho' with rfl | ho'
            · exact g1 _ h1
            · exact g3 o' ho' hk'
          · obtain ⟨g1, g2, g3⟩ := ih t (fun o' ho' => hc o' (List.mem_cons_of_mem _ ho')) hst ht
            simp only [List.foldl_cons, if_neg hk22]
            refine ⟨g1, g2, fun o' ho' hk' => ?_⟩
            rcases List.mem_cons.1 ho' with rfl | ho'
            · exact absurd hk' hk22
            · exact g3 o' ho' hk'
      obtain ⟨g1, g2, g3⟩ := key (m.fn f).code (s ++ [f]) (fun o ho => ho) (fun x hx => hx) (fun g hg hn => absurd hg hn)
      refine ⟨g1 f (by simp), fun g hg hn => ?_⟩
      by_cases hgf : g = f
      · subst hgf; exact g3
      · exact g2 g hg (by simp [hn, hgf])
theorem seen_iff {m : MModule} (hcall : ∀ f ∈ m.funcs, ∀ o ∈ f.code, o.kind = 22 → belowB m.funcs.length [o.a] = true) {f : Int} (hf : belowB m.funcs.length [f] = true) (g : Int) : g ∈ seenP m f ↔ Rch m f g := by
  obtain ⟨h1, h2⟩ := called_full m hcall (m.funcs.length + 1) f [] hf (unseen_nil m)
  refine ⟨fun h => ?_, fun h => ?_⟩
  · rcases called_sound m _ f [] g h with h | h
    · cases h
    · exact h
  · induction h with
    | base => exact h1
    | step _ ho hk ih => exact h2 _ ih (by simp) _ ho hk
/-- The rounds find what the worklist finds. -/
theorem thread_same {m : MModule} (hr : rightModB m = true) {f : Int} (hf : f ∈ m.threads) {a b a' b' : List (List Int)} (h : Thread m f a b) (k : RThread m f a' b') : a = a' ∧ b = b' := by
  obtain ⟨y, hd, rfl, rfl⟩ := h
  obtain ⟨A, rs, hst, hrs, hq, rfl, rfl⟩ := k
  have hfr : frameB m = true := by
    simp only [rightModB, Bool.and_eq_true] at hr
    exact hr.1
  obtain ⟨hm, _⟩ := frame_ok hfr
  obtain ⟨hL, _⟩ := frame_facts hfr
  have hb := thread_ok hr hf
  have ho := op_facts hr
  have hv0 : valid m (f, 0) := ⟨hb, by show (0 : Int) ≤ 0; omega, by have := (MModule.fn_ok hm hb).code.1; show (0 : Int) < _; dsimp only; omega⟩
  have hin0 : InR m rs (f, 0) := ⟨hv0, (hrs f).2 .base⟩
  have hro : RsOk m rs f := ⟨hrs, hin0⟩
  have e0 : Inv m m.locks.length ⟨[], [], []⟩ := ⟨fun p l h => (by cases h), fun p h => (by cases h), fun c h => (by cases h)⟩
  have inv0 : Inv m m.locks.length (startP f) := (inv_come hL e0 hv0 (l := (0, 0)) (ok0 _)).1
  have fnd0 : Found (startP f) := found_come (fun q hq => by cases hq) _ _
  have oke : OkA m.locks.length ([] : AtM) := fun p l h => by cases h
  obtain ⟨m1, m2, m3⟩ := mn_come (x := ⟨[], [], []⟩) hL oke (q := (f, 0)) (ok0 m.locks.length)
  have wi0 : Wi m f No NoB (startP f) := ⟨m2, fun p l e => by
    rcases m1.old p l e with h | h
    · exact .inl h
    · cases h⟩
  have cy : Closed m m.locks.length f (findM y.at_) := wi_done hL ho hd inv0 fnd0 wi0
  have cA : Closed m m.locks.length f (findM A) := rst_closed hL ho hro hst hq
  have by0 : BlP m m.locks.length (findM A) (startP f) := BlP.come hL cA.ok ⟨fun p l h => (by cases h), oke, fun a b hb => (by cases hb)⟩ (ok0 _) cA.start
  have b1 := (blp_done hL ho cA hd inv0 fnd0 by0).bel
  have b2 : Bel (findM y.at_) A := rst_bel hL ho hro cy hst
  have same : ∀ p, findM y.at_ p = findM A p := fun p => by
    cases hy : findM y.at_ p with
    | none =>
      cases hA : findM A p with
      | none => rfl
      | some l =>
        obtain ⟨o, e, _⟩ := b2 p l hA
        rw [hy] at e; cases e
    | some l =>
      obtain ⟨o, e, q1⟩ := b1 p l hy
      obtain ⟨o', e', q2⟩ := b2 p o e
      rw [hy] at e'; cases e'
      rw [e, Lq.antisymm (cy.ok p l hy) (cA.ok p o e) q1 q2]
  have hcell : ∀ sel g n, cellP y sel g n = cellA A sel g n := fun sel g n => by
    unfold cellP cellA
    rw [same]
    cases findM A ((g : Int), (n : Int)) <;> rfl
  have htab : ∀ sel, tableP m y (seenP m f) sel = rtab (Ln m rs) A sel m.funcs.length := fun sel => by
    unfold tableP rtab
    refine List.map_congr_left fun g _ => ?_
    unfold rowP Ln
    have hiff : ((g : Int) ∈ seenP m f) ↔ ((g : Int) ∈ rs) := (seen_iff (calls_ok hr) hb _).trans (hrs _).symm
    by_cases hg : (g : Int) ∈ rs
    · rw [if_pos (hiff.2 hg), if_pos hg]
      exact List.map_congr_left fun n _ => hcell sel g n
    · rw [if_neg fun h => hg (hiff.1 h), if_neg hg]
      rfl
  exact ⟨htab _, htab _⟩
theorem threads_same {m : MModule} (hr : rightModB m = true) : ∀ {fs : List Int} {us vs us' vs' : List (List (List Int))}, (∀ f ∈ fs, f ∈ m.threads) → Threads m fs us vs → RThreads m fs us' vs' → us = us' ∧ vs = vs'
  | _, _, _, _, _, _, .nil, .nil => ⟨rfl, rfl⟩
  | _, _, _, _, _, hf, .cons h1 k1, .cons h2 k2 => by
    obtain ⟨e1, e2⟩ := thread_same hr (hf _ (List.mem_cons_self ..)) h1 h2
    obtain ⟨e3, e4⟩ := threads_same hr (fun f h => hf f (List.mem_cons_of_mem _ h)) k1 k2
    rw [e1, e2, e3, e4]
    exact ⟨rfl, rfl⟩
end Go.Vw
namespace Go.Vw
open Go.RowKit Go.Am Go.Proofs
attribute [local irreducible] VOps VRun VNext VD VDn VDq Ret
/-! ### what is the same is told as the same -/
section
variable (hT : TabOk tab Tryz.prog)
include hT
theorem sameSized_self {t1 t2 : Tok} (xs : List MSized) (hl : xs.length < 2000000) : Pure Tryz.prog 31 [.slice t1 (xs.map sizedV), .slice t2 (xs.map sizedV)] (.ob true) := by
  refine VC.code hT 26 rfl rfl rfl rfl fun F W S0 => ?_
  repeat' (first
    | (refine go hT 10000 rfl ?_; conv => whnf)
    | refine ops_s rfl (s_boxF rfl rfl rfl ?_)
    | refine ops_s rfl (s_listF hT rfl rfl rfl rfl rfl rfl rfl rfl ?_)
    | refine ops_g rfl (g_len hT rfl rfl rfl rfl rfl rfl (List.length_map _)) ?_
    | refine op_guard rfl rfl rfl rfl (fun h => ?_) (fun h => ?_))
  refine run_split rfl (fun h => by simp at h) (fun _ => ?_)
  refine go hT 10000 rfl ?_
  conv => whnf
  refine run_lq (fun i : Nat => ([(0, .slice t1 (xs.map sizedV)), (1, .slice t2 (xs.map sizedV)), (5, .int .i64 i)], [])) (fun i => i ≤ xs.length) (fun i => xs.length - i) 0 (Nat.zero_le _) ⟨⟨⟨_, rfl, .refl _⟩, ⟨_, rfl, .refl _⟩, ⟨_, rfl, .refl _⟩, trivial⟩, .nil⟩ ?_
  intro i hi
  repeat' (first
    | (refine go hT 10000 rfl ?_; conv => whnf)
    | refine ops_s rfl (s_boxF rfl rfl rfl ?_)
    | refine ops_s rfl (s_listF hT rfl rfl rfl rfl rfl rfl rfl rfl ?_)
    | refine ops_g rfl (g_len hT rfl rfl rfl rfl rfl rfl (List.length_map _)) ?_
    | refine op_guard rfl rfl rfl rfl (fun h => ?_) (fun h => ?_))
  refine run_split rfl (fun hlt => ?_) (fun hlt => ?_)
  · simp only [decide_eq_true_eq, Int.ofNat_lt] at hlt
    refine go hT 10000 rfl ?_
    conv => whnf
    intro id
    refine run_drw hT rfl rfl ?_ id
    repeat' (first
      | (refine god hT 2 rfl ?_; conv => whnf)
      | refine vd_fin rfl ?_
      | refine q_g rfl (fun S' => (g_len hT rfl rfl rfl rfl rfl rfl (List.length_map _)).qs) ?_
      | refine q_guard rfl rfl rfl rfl (fun h => ?_) (fun h => ?_)
      | refine q_g rfl (fun S' => (g_indexM (xs := xs) hT rfl rfl rfl rfl rfl hlt rfl).qs) ?_)
    refine go hT 10000 rfl ?_
    conv => whnf
    refine run_split rfl (fun hne => by simp at hne) (fun _ => ?_)
    refine go hT 10000 rfl ?_
    conv => whnf
    refine ops_g rfl (g_add rfl rfl rfl (by omega)) ?_
    refine go hT 10000 rfl ?_
    conv => whnf
    exact ⟨i + 1, hlt, by omega, ⟨⟨_, rfl, .refl _⟩, ⟨_, rfl, .refl _⟩, ⟨_, rfl, .refl _⟩, trivial⟩, .nil⟩
  · refine go hT 10000 rfl ?_
    conv => whnf
    exact ret_bool rfl rfl rfl rfl
theorem sameTexts_self {t1 t2 : Tok} (xs : List ByteArray) (hl : xs.length < 2000000) : Pure Tryz.prog 32 [.slice t1 (xs.map strV), .slice t2 (xs.map strV)] (.ob true) := by
  refine VC.code hT 26 rfl rfl rfl rfl fun F W S0 => ?_
  repeat' (first
    | (refine go hT 10000 rfl ?_; conv => whnf)
    | refine ops_s rfl (s_boxF rfl rfl rfl ?_)
    | refine ops_s rfl (s_listF hT rfl rfl rfl rfl rfl rfl rfl rfl ?_)
    | refine ops_g rfl (g_len hT rfl rfl rfl rfl rfl rfl (List.length_map _)) ?_
    | refine op_guard rfl rfl rfl rfl (fun h => ?_) (fun h => ?_))
  refine run_split rfl (fun h => by simp at h) (fun _ => ?_)
  refine go hT 10000 rfl ?_
  conv => whnf
  refine run_lq (fun i : Nat => ([(0, .slice t1 (xs.map strV)), (1, .slice t2 (xs.map strV)), (5, .int .i64 i)], [])) (fun i => i ≤ xs.length) (fun i => xs.length - i) 0 (Nat.zero_le _) ⟨⟨⟨_, rfl, .refl _⟩, ⟨_, rfl, .refl _⟩, ⟨_, rfl, .refl _⟩, trivial⟩, .nil⟩ ?_
  intro i hi
  repeat' (first
    | (refine go hT 10000 rfl ?_; conv => whnf)
    | refine ops_s rfl (s_boxF rfl rfl rfl ?_)
    | refine ops_s rfl (s_listF hT rfl rfl rfl rfl rfl rfl rfl rfl ?_)
    | refine ops_g rfl (g_len hT rfl rfl rfl rfl rfl rfl (List.length_map _)) ?_
    | refine op_guard rfl rfl rfl rfl (fun h => ?_) (fun h => ?_))
  refine run_split rfl (fun hlt => ?_) (fun hlt => ?_)
  · simp only [decide_eq_true_eq, Int.ofNat_lt] at hlt
    refine go hT 10000 rfl ?_
    conv => whnf
    intro id
    refine run_drw hT rfl rfl ?_ id
    repeat' (first
      | (refine god hT 2 rfl ?_; conv => whnf)
      | refine vd_fin rfl ?_
      | refine q_g rfl (fun S' => (g_len hT rfl rfl rfl rfl rfl rfl (List.length_map _)).qs) ?_
      | refine q_guard rfl rfl rfl rfl (fun h => ?_) (fun h => ?_)
      | refine q_g rfl (fun S' => (g_indexM (xs := xs) hT rfl rfl rfl rfl rfl hlt rfl).qs) ?_)
    refine go hT 10000 rfl ?_
    conv => whnf
    refine run_split rfl (fun hne => by simp at hne) (fun _ => ?_)
    refine go hT 10000 rfl ?_
    conv => whnf
    refine ops_g rfl (g_add rfl rfl rfl (by omega)) ?_
    refine go hT 10000 rfl ?_
    conv => whnf
    exact ⟨i + 1, hlt, by omega, ⟨⟨_, rfl, .refl _⟩, ⟨_, rfl, .refl _⟩, ⟨_, rfl, .refl _⟩, trivial⟩, .nil⟩
  · refine go hT 10000 rfl ?_
    conv => whnf
    exact ret_bool rfl rfl rfl rfl
theorem sameInts_self {t1 t2 : Tok} (xs : List Int) (hl : xs.length < 2000000) : Pure Tryz.prog 16 [.slice t1 (xs.map intV), .slice t2 (xs.map intV)] (.ob true) := by
  have := sameInts hT (t1 := t1) (t2 := t2) xs xs hl
  rw [decide_eq_true rfl] at this
  exact this
set_option maxRecDepth 100000 in
theorem sameOp_self (o : MOp) (hl : o.args.length < 2000000) : Pure Tryz.prog 33 [.agg (opV o), .agg (opV o)] (.ob true) := by
  refine VC.code hT 87 rfl rfl rfl rfl fun F W S0 => ?_
  repeat' (first
    | (exfalso; simp at h; done)
    | (refine go hT 10000 rfl ?_; conv => whnf)
    | refine ops_s rfl (s_boxF rfl rfl rfl ?_)
    | refine op_guard rfl rfl rfl rfl (fun h => ?_) (fun h => ?_)
    | refine ops_s rfl (s_pure hT rfl rfl rfl rfl rfl rfl (sameInts_self hT o.args hl) ?_))
  refine ret_bool rfl rfl rfl ?_
  rw [decide_eq_true rfl]
set_option maxRecDepth 100000 in
set_option maxHeartbeats 2000000 in
theorem sameModule_self (m : MModule) (hs : Small m) : Pure Tryz.prog 12 [.agg (modV m), .agg (modV m)] (.ob true) := by
  have hfs := hs.funcs
  refine VC.code hT 151 rfl rfl rfl rfl fun F W S0 => ?_
  repeat' (first
    | (exfalso; simp at h; done)
    | (refine go hT 10000 rfl ?_; conv => whnf)
    | refine ops_s rfl (s_boxF rfl rfl rfl ?_)
    | refine ops_g rfl (g_len hT rfl rfl rfl rfl rfl rfl (List.length_map _)) ?_
    | refine op_guard rfl rfl rfl rfl (fun h => ?_) (fun h => ?_)
    | refine ops_s rfl (s_pure hT rfl rfl rfl rfl rfl rfl (sameSized_self hT m.globals hs.globals) ?_)
    | refine ops_s rfl (s_pure hT rfl rfl rfl rfl rfl rfl (sameSized_self hT m.structs hs.structs) ?_)
    | refine ops_s rfl (s_pure hT rfl rfl rfl rfl rfl rfl (sameSized_self hT m.chans hs.chans) ?_)
    | refine ops_s rfl (s_pure hT rfl rfl rfl rfl rfl rfl (sameTexts_self hT m.locks hs.locks) ?_)
    | refine ops_s rfl (s_pure hT rfl rfl rfl rfl rfl rfl (sameTexts_self hT m.inputs hs.inputs) ?_)
    | refine ops_s rfl (s_pure hT rfl rfl rfl rfl rfl rfl (sameTexts_self hT m.sinks hs.sinks) ?_)
    | refine ops_s rfl (s_pure hT rfl rfl rfl rfl rfl rfl (sameTexts_self hT m.hatches hs.hatches) ?_)
    | refine ops_s rfl (s_pure hT rfl rfl rfl rfl rfl rfl (sameInts_self hT m.threads hs.threads) ?_))
  refine run_split rfl (fun h => by simp at h) (fun _ => ?_)
  refine go hT 10000 rfl ?_
  conv => whnf
  refine run_lq (fun i : Nat => ([(2, .pin (modV m) 0), (3, .pin (modV m) 0), (5, .int .i64 i)], [])) (fun i => i ≤ m.funcs.length) (fun i => m.funcs.length - i) 0 (Nat.zero_le _) ⟨⟨⟨_, rfl, .refl _⟩, ⟨_, rfl, .refl _⟩, ⟨_, rfl, .refl _⟩, trivial⟩, .nil⟩ ?_
  intro i hi
  repeat' (first
    | (refine go hT 10000 rfl ?_; conv => whnf)
    | refine ops_s rfl (s_boxF rfl rfl rfl ?_)
    | refine ops_s rfl (s_listF hT rfl rfl rfl rfl rfl rfl rfl rfl ?_)
    | refine ops_g rfl (g_len hT rfl rfl rfl rfl rfl rfl (List.length_map _)) ?_
    | refine op_guard rfl rfl rfl rfl (fun h => ?_) (fun h => ?_))
  refine run_split rfl (fun hlt => ?_) (fun hlt => ?_)
  · simp only [decide_eq_true_eq, Int.ofNat_lt] at hlt
    have hin := List.getElem_mem hlt
    have hcl := hs.code _ hin
    refine go hT 10000 rfl ?_
    conv => whnf
    refine ops_g rfl (g_indexM (xs := m.funcs) hT rfl rfl rfl rfl rfl hlt rfl) ?_
    refine go hT 10000 rfl ?_
    conv => whnf
    refine ops_s rfl (s_alloc hT rfl rfl rfl fun b6 => ?_)
    refine go hT 10000 rfl ?_
    conv => whnf
    refine ops_s rfl (s_store (cs' := funcV m.funcs[i]) hT rfl rfl rfl .here rfl ?_)
    refine ops_freezeH (t := 6) rfl ?_
    refine go hT 10000 rfl ?_
    conv => whnf
    refine ops_g rfl (g_indexM (xs := m.funcs) hT rfl rfl rfl rfl rfl hlt rfl) ?_
    refine go hT 10000 rfl ?_
    conv => whnf
    refine ops_s rfl (s_alloc hT rfl rfl rfl fun b7 => ?_)
    refine go hT 10000 rfl ?_
    conv => whnf
    refine ops_s rfl (s_store (cs' := funcV m.funcs[i]) hT rfl rfl rfl .here rfl ?_)
    refine ops_freezeH (t := 7) rfl ?_
    repeat' (first
      | (exfalso; simp at h; done)
      | (refine go hT 10000 rfl ?_; conv => whnf)
      | refine ops_g rfl (g_len hT rfl rfl rfl rfl rfl rfl (List.length_map _)) ?_
      | refine op_guard rfl rfl rfl rfl (fun h => ?_) (fun h => ?_))
    refine run_split rfl (fun h => by simp at h) (fun _ => ?_)
    refine go hT 10000 rfl ?_
    conv => whnf
    refine run_lq (fun k : Nat => ([(2, .pin (modV m) 0), (3, .pin (modV m) 0), (5, .int .i64 i), (6, .pin (funcV m.funcs[i]) 0), (7, .pin (funcV m.funcs[i]) 0), (8, .int .i64 k)], [])) (fun k => k ≤ m.funcs[i].code.length) (fun k => m.funcs[i].code.length - k) 0 (Nat.zero_le _) ⟨⟨⟨_, rfl, .refl _⟩, ⟨_, rfl, .refl _⟩, ⟨_, rfl, .refl _⟩, ⟨_, rfl, .refl _⟩, ⟨_, rfl, .refl _⟩, ⟨_, rfl, .refl _⟩, trivial⟩, .nil⟩ ?_
    intro k hk
    repeat' (first
      | (refine go hT 10000 rfl ?_; conv => whnf)
      | refine ops_s rfl (s_boxF rfl rfl rfl ?_)
      | refine ops_s rfl (s_listF hT rfl rfl rfl rfl rfl rfl rfl rfl ?_)
      | refine ops_g rfl (g_len hT rfl rfl rfl rfl rfl rfl (List.length_map _)) ?_
      | refine op_guard rfl rfl rfl rfl (fun h => ?_) (fun h => ?_))
    refine run_split rfl (fun hlk => ?_) (fun hlk => ?_)
    · simp only [decide_eq_true_eq, Int.ofNat_lt] at hlk
      refine go hT 10000 rfl ?_
      conv => whnf
      intro id
      refine run_drw hT rfl rfl ?_ id
      repeat' (first
        | (refine god hT 1 rfl ?_; conv => whnf)
        | refine vd_fin rfl ?_
        | refine q_g rfl (fun S' => (g_len hT rfl rfl rfl rfl rfl rfl (List.length_map _)).qs) ?_
        | refine q_guard rfl rfl rfl rfl (fun h => ?_) (fun h => ?_)
        | refine q_g rfl (fun S' => (g_indexM (xs := m.funcs[i].code) hT rfl rfl rfl rfl rfl hlk rfl).qs) ?_)
      refine vd_eff1 rfl (eff rfl rfl (s_pure hT rfl rfl rfl rfl rfl rfl (sameOp_self hT m.funcs[i].code[k] (hs.args _ hin _ (List.getElem_mem hlk))) (And.intro trivial ?_)))
      refine god hT 1 rfl ?_
      conv => whnf
      refine vd_fin rfl ?_
      refine go hT 10000 rfl ?_
      conv => whnf
      refine run_split rfl (fun h => by simp at h) (fun _ => ?_)
      refine go hT 10000 rfl ?_
      conv => whnf
      refine ops_g rfl (g_add rfl rfl rfl (by omega)) ?_
      refine go hT 10000 rfl ?_
      conv => whnf
      exact ⟨k + 1, hlk, by omega, ⟨⟨_, rfl, .refl _⟩, ⟨_, rfl, .refl _⟩, ⟨_, rfl, .refl _⟩, ⟨_, rfl, .refl _⟩, ⟨_, rfl, .refl _⟩, ⟨_, rfl, .refl _⟩, trivial⟩, .nil⟩
    · refine go hT 10000 rfl ?_
      conv => whnf
      refine ops_g rfl (g_add rfl rfl rfl (by omega)) ?_
      refine go hT 10000 rfl ?_
      conv => whnf
      exact ⟨i + 1, hlt, by omega, ⟨⟨_, rfl, .refl _⟩, ⟨_, rfl, .refl _⟩, ⟨_, rfl, .refl _⟩, trivial⟩, .nil⟩
  · refine go hT 10000 rfl ?_
    conv => whnf
    exact ret_bool rfl rfl rfl rfl
set_option maxRecDepth 100000 in
set_option maxHeartbeats 2000000 in
theorem sameHeld_self (must may : List (List (List Int))) (hl : must.length < 2000000) (he : may.length = must.length) (h1 : ∀ t ∈ must, t.length < 2000000 ∧ ∀ r ∈ t, r.length < 2000000) (h2 : ∀ t ∈ may, t.length < 2000000 ∧ ∀ r ∈ t, r.length < 2000000) : Pure Tryz.prog 11 [.agg (heldV must may), .agg (heldV must may)] (.ob true) := by
  have self : ∀ (x : List (List Int)), x.length < 2000000 → (∀ r ∈ x, r.length < 2000000) → Pure Tryz.prog 13 [.slice .no (x.map oneRow), .slice .no (x.map oneRow)] (.ob true) := fun x hx hr => by
    have := sameTable hT (t1 := .no) (t2 := .no) x x hx hr
    rw [decide_eq_true rfl] at this
    exact this
  refine VC.code hT 62 rfl rfl rfl rfl fun F W S0 => ?_
  repeat' (first
    | (exfalso; simp at h; done)
    | (refine go hT 10000 rfl ?_; conv => whnf)
    | refine ops_s rfl (s_boxF rfl rfl rfl ?_)
    | refine ops_g rfl (g_len hT rfl rfl rfl rfl rfl rfl (List.length_map _)) ?_
    | refine op_guard rfl rfl rfl rfl (fun h => ?_) (fun h => ?_))
  refine run_split rfl (fun h => by simp at h) (fun _ => ?_)
  refine go hT 10000 rfl ?_
  conv => whnf
  refine run_lq (fun i : Nat => ([(2, .pin (heldV must may) 0), (3, .pin (heldV must may) 0), (5, .int .i64 i)], [])) (fun i => i ≤ must.length) (fun i => must.length - i) 0 (Nat.zero_le _) ⟨⟨⟨_, rfl, .refl _⟩, ⟨_, rfl, .refl _⟩, ⟨_, rfl, .refl _⟩, trivial⟩, .nil⟩ ?_
  intro i hi
  repeat' (first
    | (refine go hT 10000 rfl ?_; conv => whnf)
    | refine ops_s rfl (s_boxF rfl rfl rfl ?_)
    | refine ops_s rfl (s_listF hT rfl rfl rfl rfl rfl rfl rfl rfl ?_)
    | refine ops_g rfl (g_len hT rfl rfl rfl rfl rfl rfl (List.length_map _)) ?_
    | refine op_guard rfl rfl rfl rfl (fun h => ?_) (fun h => ?_))
  refine run_split rfl (fun hlt => ?_) (fun hlt => ?_)
  · simp only [decide_eq_true_eq, Int.ofNat_lt] at hlt
    have hlt2 : i < may.length := by omega
    obtain ⟨q1, q2⟩ := h1 _ (List.getElem_mem hlt)
    obtain ⟨q3, q4⟩ := h2 _ (List.getElem_mem hlt2)
    refine go hT 10000 rfl ?_
    conv => whnf
    intro id
    refine run_drw hT rfl rfl ?_ id
    repeat' (first
      | (refine god hT 1 rfl ?_; conv => whnf)
      | refine vd_fin rfl ?_
      | refine q_g rfl (fun S' => (g_len hT rfl rfl rfl rfl rfl rfl (List.length_map _)).qs) ?_
      | refine q_guard rfl rfl rfl rfl (fun h => ?_) (fun h => ?_)
      | refine q_g rfl (fun S' => (g_indexM (xs := must) hT rfl rfl rfl rfl rfl hlt rfl).qs) ?_
      | refine q_g rfl (fun S' => (g_indexM (xs := may) hT rfl rfl rfl rfl rfl hlt2 rfl).qs) ?_)
    refine vd_eff1 rfl (eff rfl rfl (s_pure hT rfl rfl rfl rfl rfl rfl (self must[i] q1 q2) (And.intro trivial ?_)))
    repeat' (first
      | (exfalso; simp at h; done)
      | (exfalso; simp at h; omega)
      | (refine god hT 1 rfl ?_; conv => whnf)
      | refine vd_fin rfl ?_
      | refine q_g rfl (fun S' => (g_len hT rfl rfl rfl rfl rfl rfl (List.length_map _)).qs) ?_
      | refine q_guard rfl rfl rfl rfl (fun h => ?_) (fun h => ?_)
      | refine q_g rfl (fun S' => (g_indexM (xs := must) hT rfl rfl rfl rfl rfl hlt rfl).qs) ?_
      | refine q_g rfl (fun S' => (g_indexM (xs := may) hT rfl rfl rfl rfl rfl hlt2 rfl).qs) ?_)
    refine vd_eff1 rfl (eff rfl rfl (s_pure hT rfl rfl rfl rfl rfl rfl (self may[i] q3 q4) (And.intro trivial ?_)))
    repeat' (first
      | (exfalso; simp at h; done)
      | (exfalso; simp at h; omega)
      | (refine god hT 1 rfl ?_; conv => whnf)
      | refine vd_fin rfl ?_
      | refine q_g rfl (fun S' => (g_len hT rfl rfl rfl rfl rfl rfl (List.length_map _)).qs) ?_
      | refine q_guard rfl rfl rfl rfl (fun h => ?_) (fun h => ?_)
      | refine q_g rfl (fun S' => (g_indexM (xs := must) hT rfl rfl rfl rfl rfl hlt rfl).qs) ?_
      | refine q_g rfl (fun S' => (g_indexM (xs := may) hT rfl rfl rfl rfl rfl hlt2 rfl).qs) ?_)
    refine go hT 10000 rfl ?_
    conv => whnf
    refine run_split rfl (fun h => by simp at h) (fun _ => ?_)
    refine go hT 10000 rfl ?_
    conv => whnf
    refine ops_g rfl (g_add rfl rfl rfl (by omega)) ?_
    refine go hT 10000 rfl ?_
    conv => whnf
    exact ⟨i + 1, hlt, by omega, ⟨⟨_, rfl, .refl _⟩, ⟨_, rfl, .refl _⟩, ⟨_, rfl, .refl _⟩, trivial⟩, .nil⟩
  · refine go hT 10000 rfl ?_
    conv => whnf
    exact ret_bool rfl rfl rfl rfl
end
end Go.Vw
namespace Go.Vw
open Go.RowKit Go.Am Go.Proofs
attribute [local irreducible] VOps VRun VNext VD VDn VDq Ret
/-! ### the reference's test of code -/
def shapes : List ByteArray := [⟨#[]⟩, ⟨#[114, 46, 46, 46, 46, 46, 110]⟩, ⟨#[114, 105, 46, 46, 46, 46, 46]⟩, ⟨#[114, 104, 46, 46, 46, 46, 46]⟩, ⟨#[114, 114, 46, 46, 46, 46, 46]⟩, ⟨#[114, 114, 46, 46, 46, 46, 117]⟩, ⟨#[114, 114, 114, 46, 46, 46, 98]⟩, ⟨#[114, 119, 46, 46, 46, 46, 107]⟩, ⟨#[119, 114, 46, 46, 46, 46, 107]⟩, ⟨#[114, 115, 46, 46, 46, 46, 46]⟩, ⟨#[114, 114, 114, 46, 46, 46, 46]⟩, ⟨#[114, 114, 103, 46, 46, 46, 107]⟩, ⟨#[114, 103, 114, 46, 46, 46, 107]⟩, ⟨#[114, 114, 114, 114, 46, 46, 46]⟩, ⟨#[114, 114, 114, 114, 46, 46, 46]⟩, ⟨#[114, 114, 114, 114, 114, 114, 46]⟩, ⟨#[108, 46, 46, 46, 46, 46, 46]⟩, ⟨#[108, 46, 46, 46, 46, 46, 46]⟩, ⟨#[99, 114, 46, 46, 46, 46, 46]⟩, ⟨#[114, 99, 46, 46, 46, 46, 46]⟩, ⟨#[111, 114, 46, 46, 46, 46, 46]⟩, ⟨#[114, 46, 46, 46, 46, 46, 46]⟩, ⟨#[102, 100, 46, 46, 46, 46, 100]⟩, ⟨#[46, 46, 46, 46, 46, 46, 46]⟩]
def shapeOf (k : Int) : ByteArray := if 1 ≤ k ∧ k ≤ 23 then shapes.getD k.toNat ⟨#[]⟩ else ⟨#[]⟩
section
variable (hT : TabOk tab Tryz.prog)
include hT
theorem sizedRef {t1 : Tok} (l : List MSized) (count least most : Int) (hl : l.length < 2000000) : Pure Tryz.prog 52 [.slice t1 (l.map sizedV), .int .i64 count, .int .i64 least, .int .i64 most] (.ob (sizedB l count least most)) := by
  refine VC.code hT 36 rfl rfl rfl rfl fun F W S0 => ?_
  refine go hT 10000 rfl ?_
  conv => whnf
  refine run_lq (fun i : Nat => ([(0, .slice t1 (l.map sizedV)), (1, .int .i64 count), (2, .int .i64 least), (3, .int .i64 most), (9, .int .i64 i)], [])) (fun i => i ≤ l.length ∧ ∀ s ∈ l.take i, ¬ s.size < least ∧ ¬ most < s.size) (fun i => l.length - i) 0 ⟨Nat.zero_le _, fun s hs => by simp at hs⟩ ⟨⟨⟨_, rfl, .refl _⟩, ⟨_, rfl, .refl _⟩, ⟨_, rfl, .refl _⟩, ⟨_, rfl, .refl _⟩, ⟨_, rfl, .refl _⟩, trivial⟩, .nil⟩ ?_
  rintro i ⟨hi, hg⟩
  repeat' (first
    | (refine go hT 10000 rfl ?_; conv => whnf)
    | refine ops_s rfl (s_boxF rfl rfl rfl ?_)
    | refine ops_s rfl (s_listF hT rfl rfl rfl rfl rfl rfl rfl rfl ?_)
    | refine ops_g rfl (g_len hT rfl rfl rfl rfl rfl rfl (List.length_map _)) ?_
    | refine op_guard rfl rfl rfl rfl (fun h => ?_) (fun h => ?_))
  refine run_split rfl (fun hlt => ?_) (fun hlt => ?_)
  · simp only [decide_eq_true_eq, Int.ofNat_lt] at hlt
    have bad : l[i].size < least ∨ most < l[i].size → sizedB l count least most = false := fun hb => by
      unfold sizedB
      have : (l.any fun s => decide (s.size < least) || decide (most < s.size)) = true := List.any_eq_true.2 ⟨_, List.getElem_mem hlt, by simpa using hb⟩
      rw [this]; simp
    repeat' (first
      | (refine go hT 10000 rfl ?_; conv => whnf)
      | refine ops_s rfl (s_boxF rfl rfl rfl ?_)
      | refine ops_s rfl (s_listF hT rfl rfl rfl rfl rfl rfl rfl rfl ?_)
      | refine ops_g rfl (g_len hT rfl rfl rfl rfl rfl rfl (List.length_map _)) ?_
      | refine op_guard rfl rfl rfl rfl (fun h => ?_) (fun h => ?_)
      | refine ops_g rfl (g_indexM (xs := l) hT rfl rfl rfl rfl rfl hlt rfl) ?_)
    · have h := of_decide_eq_true h
      refine ret_bool rfl rfl rfl ?_
      rw [bad (.inl h)]
    · have h := of_decide_eq_false h
      refine run_split rfl (fun h2 => ?_) (fun h2 => ?_)
      · have h2 := of_decide_eq_true h2
        refine go hT 10000 rfl ?_
        conv => whnf
        refine ret_bool rfl rfl rfl ?_
        rw [bad (.inr h2)]
      · have h2 := of_decide_eq_false h2
        refine go hT 10000 rfl ?_
        conv => whnf
        refine ops_g rfl (g_add rfl rfl rfl (by omega)) ?_
        refine go hT 10000 rfl ?_
        conv => whnf
        refine ⟨i + 1, ⟨hlt, fun s hs => ?_⟩, by omega, ⟨⟨_, rfl, .refl _⟩, ⟨_, rfl, .refl _⟩, ⟨_, rfl, .refl _⟩, ⟨_, rfl, .refl _⟩, ⟨_, rfl, .refl _⟩, trivial⟩, .nil⟩
        rw [List.take_succ_eq_append_getElem hlt, List.mem_append, List.mem_singleton] at hs
        rcases hs with hs | rfl
        · exact hg s hs
        · exact ⟨h, h2⟩
  · simp only [decide_eq_false_iff_not, Int.ofNat_lt] at hlt
    rw [List.take_of_length_le (by omega)] at hg
    repeat' (first
      | (refine go hT 10000 rfl ?_; conv => whnf)
      | refine ops_s rfl (s_boxF rfl rfl rfl ?_)
      | refine ops_s rfl (s_listF hT rfl rfl rfl rfl rfl rfl rfl rfl ?_)
      | refine ops_g rfl (g_len hT rfl rfl rfl rfl rfl rfl (List.length_map _)) ?_
      | refine op_guard rfl rfl rfl rfl (fun h => ?_) (fun h => ?_))
    refine ret_bool rfl rfl rfl ?_
    unfold sizedB
    have : (l.any fun s => decide (s.size < least) || decide (most < s.size)) = false := by
      rw [List.any_eq_false]
      intro s hs
      have := hg s hs
      simp [this.1, this.2]
    rw [this, Bool.not_false, Bool.and_true]
theorem wordsRef (m : MModule) (hl : m.globals.length < 2000000) (hg : ∀ s ∈ m.globals, 0 ≤ s.size ∧ s.size ≤ 1000) : Pure Tryz.prog 94 [.agg (modV m)] (.int .i64 (sumI m.globals)) := by
  have hb : ∀ i, i ≤ m.globals.length → 0 ≤ sumI (m.globals.take i) ∧ sumI (m.globals.take i) ≤ i * 1000 := fun i => by
    induction i with
    | zero => intro _; simp [sumI]
    | succ i ih =>
      intro h
      have := ih (by omega)
      rw [sumI_take m.globals i (by omega)]
      have := hg _ (List.getElem_mem (show i < m.globals.length by omega))
      push_cast
      omega
  refine VC.code hT 21 rfl rfl rfl rfl fun F W S0 => ?_
  refine go hT 10000 rfl ?_
  conv => whnf
  refine ops_s rfl (s_boxF rfl rfl rfl ?_)
  refine go hT 10000 rfl ?_
  conv => whnf
  refine run_lq (fun i : Nat => ([(1, .pin (modV m) 0), (3, .int .i64 (sumI (m.globals.take i))), (4, .int .i64 i)], [])) (fun i => i ≤ m.globals.length) (fun i => m.globals.length - i) 0 (Nat.zero_le _) ⟨⟨⟨_, rfl, .refl _⟩, ⟨_, rfl, .refl _⟩, ⟨_, rfl, .refl _⟩, trivial⟩, .nil⟩ ?_
  intro i hi
  repeat' (first
    | (refine go hT 10000 rfl ?_; conv => whnf)
    | refine ops_s rfl (s_boxF rfl rfl rfl ?_)
    | refine ops_s rfl (s_listF hT rfl rfl rfl rfl rfl rfl rfl rfl ?_)
    | refine ops_g rfl (g_len hT rfl rfl rfl rfl rfl rfl (List.length_map _)) ?_
    | refine op_guard rfl rfl rfl rfl (fun h => ?_) (fun h => ?_))
  refine run_split rfl (fun hlt => ?_) (fun hlt => ?_)
  · simp only [decide_eq_true_eq, Int.ofNat_lt] at hlt
    have h1 := hb i hi
    have h2 := hg _ (List.getElem_mem hlt)
    repeat' (first
      | (refine go hT 10000 rfl ?_; conv => whnf)
      | refine ops_s rfl (s_boxF rfl rfl rfl ?_)
      | refine ops_s rfl (s_listF hT rfl rfl rfl rfl rfl rfl rfl rfl ?_)
      | refine ops_g rfl (g_len hT rfl rfl rfl rfl rfl rfl (List.length_map _)) ?_
      | refine op_guard rfl rfl rfl rfl (fun h => ?_) (fun h => ?_)
      | refine ops_g rfl (g_indexM (xs := m.globals) hT rfl rfl rfl rfl rfl hlt rfl) ?_
      | refine ops_g rfl (g_add rfl rfl rfl (by omega)) ?_)
    refine ⟨i + 1, hlt, by omega, ⟨⟨_, rfl, .refl _⟩, ⟨_, rfl, ?_⟩, ⟨_, rfl, .refl _⟩, trivial⟩, .nil⟩
    rw [sumI_take m.globals i hlt]
    exact .refl _
  · simp only [decide_eq_false_iff_not, Int.ofNat_lt] at hlt
    refine go hT 10000 rfl ?_
    conv => whnf
    refine ret_of (.tmp rfl .nil) ?_
    rw [List.take_of_length_le (by omega)]
    rfl
theorem shapeRef (k : Int) : Pure Tryz.prog 93 [.int .i64 k] (.str (shapeOf k)) := by
  refine VC.code hT 14 rfl rfl rfl rfl fun F W S0 => ?_
  refine go hT 10000 rfl ?_
  conv => whnf
  refine ops_s rfl (s_alloc hT rfl rfl rfl fun b3 => ?_)
  refine go hT 10000 rfl ?_
  conv => whnf
  refine ops_s rfl (s_store (cs' := shapes.map .str) hT rfl rfl rfl .here rfl ?_)
  repeat' (first
    | (refine go hT 10000 rfl ?_; conv => whnf)
    | refine ops_s rfl (s_boxF rfl rfl rfl ?_)
    | refine ops_s rfl (s_listF hT rfl rfl rfl rfl rfl rfl rfl rfl ?_)
    | refine ops_g rfl (g_len hT rfl rfl rfl rfl rfl rfl (List.length_map _)) ?_
    | refine op_guard rfl rfl rfl rfl (fun h => ?_) (fun h => ?_))
  · have h := of_decide_eq_true h
    refine ret_of (.tmp rfl .nil) ?_
    unfold shapeOf
    rw [if_neg (by omega)]
    rfl
  · have h := of_decide_eq_false h
    refine run_split rfl (fun h2 => ?_) (fun h2 => ?_)
    · have h2 := of_decide_eq_true h2
      refine go hT 10000 rfl ?_
      conv => whnf
      refine ret_of (.tmp rfl .nil) ?_
      unfold shapeOf
      rw [if_neg (by omega)]
      rfl
    · have h2 := of_decide_eq_false h2
      have hget : (shapes.map V.str)[0 + k.toNat * 1]? = some (.str (shapeOf k)) := by
        have hk : k.toNat < shapes.length := by show k.toNat < 24; omega
        rw [Nat.zero_add, Nat.mul_one, List.getElem?_map, List.getElem?_eq_getElem hk]
        unfold shapeOf
        rw [if_pos (by omega), List.getD_eq_getElem?_getD, List.getElem?_eq_getElem hk]
        rfl
      refine go hT 10000 rfl ?_
      conv => whnf
      refine ops_g rfl (g_indexArr hT rfl rfl rfl rfl rfl (by omega) (by omega)) ?_
      refine go hT 10000 rfl ?_
      conv => whnf
      refine ops_g rfl (g_load hT rfl rfl .here (part_at rfl hget)) ?_
      refine go hT 10000 rfl ?_
      conv => whnf
      exact ret_of (.tmp rfl .nil) rfl
end
end Go.Vw
namespace Go.Vw
open Go.RowKit Go.Am Go.Proofs
attribute [local irreducible] VOps VRun VNext VD VDn VDq Ret
def mostR (m : MModule) (f : MFunc) (c : Int) : Int :=
  if c = 46 then 1 else if c = 114 then f.regs else if c = 105 then m.inputs.length else if c = 104 then m.hatches.length else if c = 119 then sumI m.globals else if c = 115 then m.structs.length else if c = 108 then m.locks.length else if c = 99 then m.chans.length else if c = 111 then m.sinks.length else if c = 102 then m.funcs.length else if c = 107 then 2 else if c = 117 then 3 else if c = 98 then 12 else if c = 103 then 16 else 0
def leastR (c : Int) : Int := if c = 117 ∨ c = 98 then 1 else 0
def fieldR (m : MModule) (f : MFunc) (c v : Int) : Prop := c = 100 ∨ c = 110 ∨ (leastR c ≤ v ∧ v < mostR m f c)
def ch (s : ByteArray) (i : Nat) : Int := if h : i < s.size then (s[i].toNat : Int) else 0
def valsO (o : MOp) : List Int := [o.a, o.b, o.c, o.d, o.e, o.f, o.k]
def fieldAt (m : MModule) (f : MFunc) (o : MOp) (i : Nat) : Prop := fieldR m f (ch (shapeOf o.kind) i) ((valsO o).getD i 0)
theorem shape_none {k : Int} : shapeOf k = ⟨#[]⟩ ↔ ¬ (1 ≤ k ∧ k ≤ 23) := by
  constructor
  · rintro h ⟨h1, h2⟩
    have : k = 1 ∨ k = 2 ∨ k = 3 ∨ k = 4 ∨ k = 5 ∨ k = 6 ∨ k = 7 ∨ k = 8 ∨ k = 9 ∨ k = 10 ∨ k = 11 ∨ k = 12 ∨ k = 13 ∨ k = 14 ∨ k = 15 ∨ k = 16 ∨ k = 17 ∨ k = 18 ∨ k = 19 ∨ k = 20 ∨ k = 21 ∨ k = 22 ∨ k = 23 := by omega
    rcases this with rfl | rfl | rfl | rfl | rfl | rfl | rfl | rfl | rfl | rfl | rfl | rfl | rfl | rfl | rfl | rfl | rfl | rfl | rfl | rfl | rfl | rfl | rfl <;> exact absurd h (by decide)
  · intro h
    unfold shapeOf
    rw [if_neg h]
theorem shape_size {k : Int} (h : 1 ≤ k ∧ k ≤ 23) : (shapeOf k).size = 7 := by
  have : k = 1 ∨ k = 2 ∨ k = 3 ∨ k = 4 ∨ k = 5 ∨ k = 6 ∨ k = 7 ∨ k = 8 ∨ k = 9 ∨ k = 10 ∨ k = 11 ∨ k = 12 ∨ k = 13 ∨ k = 14 ∨ k = 15 ∨ k = 16 ∨ k = 17 ∨ k = 18 ∨ k = 19 ∨ k = 20 ∨ k = 21 ∨ k = 22 ∨ k = 23 := by omega
  rcases this with rfl | rfl | rfl | rfl | rfl | rfl | rfl | rfl | rfl | rfl | rfl | rfl | rfl | rfl | rfl | rfl | rfl | rfl | rfl | rfl | rfl | rfl | rfl <;> rfl
theorem not_kind {m : MModule} {f : MFunc} {w : Int} {o : MOp} (h : ¬ (1 ≤ o.kind ∧ o.kind ≤ 23)) : rightB m f w o = false := by
  have : fieldsB m f w o = false := by
    unfold fieldsB othersB
    rw [if_neg (by omega), if_neg (by omega), if_neg (by omega), if_neg (by omega), if_neg (by omega), if_neg (by omega), if_neg (by omega), if_neg (by omega), if_neg (by omega), if_neg (by omega), if_neg (by omega), if_neg (by omega), if_neg (by omega), if_neg (by omega), if_neg (by omega), if_neg (by omega), if_neg (by omega), if_neg (by omega), if_neg (by omega), if_neg (by omega), if_neg (by omega)]
  unfold rightB
  rw [this]; rfl
/-! the tests of the fields, in plain words -/
theorem all7 {P : Nat → Prop} : (∀ i, i < 7 → P i) ↔ P 0 ∧ P 1 ∧ P 2 ∧ P 3 ∧ P 4 ∧ P 5 ∧ P 6 := by
  constructor
  · intro h
    exact ⟨h 0 (by omega), h 1 (by omega), h 2 (by omega), h 3 (by omega), h 4 (by omega), h 5 (by omega), h 6 (by omega)⟩
  · rintro ⟨h0, h1, h2, h3, h4, h5, h6⟩ i hi
    have : i = 0 ∨ i = 1 ∨ i = 2 ∨ i = 3 ∨ i = 4 ∨ i = 5 ∨ i = 6 := by omega
    rcases this with rfl | rfl | rfl | rfl | rfl | rfl | rfl <;> assumption
theorem fr46 (m : MModule) (f : MFunc) (v : Int) : fieldR m f 46 v ↔ 0 ≤ v ∧ v < 1 := by simp [fieldR, mostR, leastR]
theorem fr114 (m : MModule) (f : MFunc) (v : Int) : fieldR m f 114 v ↔ 0 ≤ v ∧ v < f.regs := by simp [fieldR, mostR, leastR]
theorem fr105 (m : MModule) (f : MFunc) (v : Int) : fieldR m f 105 v ↔ 0 ≤ v ∧ v < (m.inputs.length : Int) := by simp [fieldR, mostR, leastR]
theorem fr104 (m : MModule) (f : MFunc) (v : Int) : fieldR m f 104 v ↔ 0 ≤ v ∧ v < (m.hatches.length : Int) := by simp [fieldR, mostR, leastR]
theorem fr119 (m : MModule) (f : MFunc) (v : Int) : fieldR m f 119 v ↔ 0 ≤ v ∧ v < sumI m.globals := by simp [fieldR, mostR, leastR]
theorem fr115 (m : MModule) (f : MFunc) (v : Int) : fieldR m f 115 v ↔ 0 ≤ v ∧ v < (m.structs.length : Int) := by simp [fieldR, mostR, leastR]
theorem fr108 (m : MModule) (f : MFunc) (v : Int) : fieldR m f 108 v ↔ 0 ≤ v ∧ v < (m.locks.length : Int) := by simp [fieldR, mostR, leastR]
theorem fr99 (m : MModule) (f : MFunc) (v : Int) : fieldR m f 99 v ↔ 0 ≤ v ∧ v < (m.chans.length : Int) := by simp [fieldR, mostR, leastR]
theorem fr111 (m : MModule) (f : MFunc) (v : Int) : fieldR m f 111 v ↔ 0 ≤ v ∧ v < (m.sinks.length : Int) := by simp [fieldR, mostR, leastR]
theorem fr102 (m : MModule) (f : MFunc) (v : Int) : fieldR m f 102 v ↔ 0 ≤ v ∧ v < (m.funcs.length : Int) := by simp [fieldR, mostR, leastR]
theorem fr107 (m : MModule) (f : MFunc) (v : Int) : fieldR m f 107 v ↔ 0 ≤ v ∧ v < 2 := by simp [fieldR, mostR, leastR]
theorem fr117 (m : MModule) (f : MFunc) (v : Int) : fieldR m f 117 v ↔ 1 ≤ v ∧ v < 3 := by simp [fieldR, mostR, leastR]
theorem fr98 (m : MModule) (f : MFunc) (v : Int) : fieldR m f 98 v ↔ 1 ≤ v ∧ v < 12 := by simp [fieldR, mostR, leastR]
theorem fr103 (m : MModule) (f : MFunc) (v : Int) : fieldR m f 103 v ↔ 0 ≤ v ∧ v < 16 := by simp [fieldR, mostR, leastR]
theorem fr100 (m : MModule) (f : MFunc) (v : Int) : fieldR m f 100 v ↔ True := by simp [fieldR]
theorem fr110 (m : MModule) (f : MFunc) (v : Int) : fieldR m f 110 v ↔ True := by simp [fieldR]
theorem belowB_cons {n : Int} {a : Int} {l : List Int} : belowB n (a :: l) = true ↔ (0 ≤ a ∧ a < n) ∧ belowB n l = true := by
  simp [belowB]
theorem belowB_nil {n : Int} : belowB n [] = true ↔ True := by simp [belowB]
def callOk (m : MModule) (f : MFunc) (o : MOp) : Prop := (o.k = 0 ∧ o.b = -1) ∨ (o.k ≠ 0 ∧ o.k = (m.fn o.a).result ∧ 0 ≤ o.b ∧ o.b < f.regs ∧ o.b ≤ f.regs - o.k)
def extraP (m : MModule) (f : MFunc) (o : MOp) : Prop := (o.kind = 10 ∨ o.kind = 15 → o.a ≠ o.b) ∧ (o.kind = 22 → callOk m f o)
theorem fields_iff {m : MModule} {f : MFunc} {o : MOp} (hk : 1 ≤ o.kind ∧ o.kind ≤ 23) : fieldsB m f (sumI m.globals) o = true ↔ (∀ i, i < 7 → fieldAt m f o i) ∧ extraP m f o := by
  rw [all7]
  unfold fieldAt valsO extraP callOk fieldsB othersB
  simp only [List.getD_cons_zero, List.getD_cons_succ]
  have : o.kind = 1 ∨ o.kind = 2 ∨ o.kind = 3 ∨ o.kind = 4 ∨ o.kind = 5 ∨ o.kind = 6 ∨ o.kind = 7 ∨ o.kind = 8 ∨ o.kind = 9 ∨ o.kind = 10 ∨ o.kind = 11 ∨ o.kind = 12 ∨ o.kind = 13 ∨ o.kind = 14 ∨ o.kind = 15 ∨ o.kind = 16 ∨ o.kind = 17 ∨ o.kind = 18 ∨ o.kind = 19 ∨ o.kind = 20 ∨ o.kind = 21 ∨ o.kind = 22 ∨ o.kind = 23 := by omega
  rcases this with e | e | e | e | e | e | e | e | e | e | e | e | e | e | e | e | e | e | e | e | e | e | e
  · rw [e, show ch (shapeOf 1) 0 = 114 from rfl, show ch (shapeOf 1) 1 = 46 from rfl, show ch (shapeOf 1) 2 = 46 from rfl, show ch (shapeOf 1) 3 = 46 from rfl, show ch (shapeOf 1) 4 = 46 from rfl, show ch (shapeOf 1) 5 = 46 from rfl, show ch (shapeOf 1) 6 = 110 from rfl]
    simp only [fr110, fr114, fr46]
    simp [belowB_cons, belowB_nil]
    try omega
  · rw [e, show ch (shapeOf 2) 0 = 114 from rfl, show ch (shapeOf 2) 1 = 105 from rfl, show ch (shapeOf 2) 2 = 46 from rfl, show ch (shapeOf 2) 3 = 46 from rfl, show ch (shapeOf 2) 4 = 46 from rfl, show ch (shapeOf 2) 5 = 46 from rfl, show ch (shapeOf 2) 6 = 46 from rfl]
    simp only [fr105, fr114, fr46]
    simp [belowB_cons, belowB_nil]
    try omega
  · rw [e, show ch (shapeOf 3) 0 = 114 from rfl, show ch (shapeOf 3) 1 = 104 from rfl, show ch (shapeOf 3) 2 = 46 from rfl, show ch (shapeOf 3) 3 = 46 from rfl, show ch (shapeOf 3) 4 = 46 from rfl, show ch (shapeOf 3) 5 = 46 from rfl, show ch (shapeOf 3) 6 = 46 from rfl]
    simp only [fr104, fr114, fr46]
    simp [belowB_cons, belowB_nil]
    try omega
  · rw [e, show ch (shapeOf 4) 0 = 114 from rfl, show ch (shapeOf 4) 1 = 114 from rfl, show ch (shapeOf 4) 2 = 46 from rfl, show ch (shapeOf 4) 3 = 46 from rfl, show ch (shapeOf 4) 4 = 46 from rfl, show ch (shapeOf 4) 5 = 46 from rfl, show ch (shapeOf 4) 6 = 46 from rfl]
    simp only [fr114, fr46]
    simp [belowB_cons, belowB_nil]
    try omega
  · rw [e, show ch (shapeOf 5) 0 = 114 from rfl, show ch (shapeOf 5) 1 = 114 from rfl, show ch (shapeOf 5) 2 = 46 from rfl, show ch (shapeOf 5) 3 = 46 from rfl, show ch (shapeOf 5) 4 = 46 from rfl, show ch (shapeOf 5) 5 = 46 from rfl, show ch (shapeOf 5) 6 = 117 from rfl]
    simp only [fr114, fr117, fr46]
    simp [belowB_cons, belowB_nil]
    try omega
  · rw [e, show ch (shapeOf 6) 0 = 114 from rfl, show ch (shapeOf 6) 1 = 114 from rfl, show ch (shapeOf 6) 2 = 114 from rfl, show ch (shapeOf 6) 3 = 46 from rfl, show ch (shapeOf 6) 4 = 46 from rfl, show ch (shapeOf 6) 5 = 46 from rfl, show ch (shapeOf 6) 6 = 98 from rfl]
    simp only [fr114, fr46, fr98]
    simp [belowB_cons, belowB_nil]
    try omega
  · rw [e, show ch (shapeOf 7) 0 = 114 from rfl, show ch (shapeOf 7) 1 = 119 from rfl, show ch (shapeOf 7) 2 = 46 from rfl, show ch (shapeOf 7) 3 = 46 from rfl, show ch (shapeOf 7) 4 = 46 from rfl, show ch (shapeOf 7) 5 = 46 from rfl, show ch (shapeOf 7) 6 = 107 from rfl]
    simp only [fr107, fr114, fr119, fr46]
    simp [belowB_cons, belowB_nil]
    try omega
  · rw [e, show ch (shapeOf 8) 0 = 119 from rfl, show ch (shapeOf 8) 1 = 114 from rfl, show ch (shapeOf 8) 2 = 46 from rfl, show ch (shapeOf 8) 3 = 46 from rfl, show ch (shapeOf 8) 4 = 46 from rfl, show ch (shapeOf 8) 5 = 46 from rfl, show ch (shapeOf 8) 6 = 107 from rfl]
    simp only [fr107, fr114, fr119, fr46]
    simp [belowB_cons, belowB_nil]
    try omega
  · rw [e, show ch (shapeOf 9) 0 = 114 from rfl, show ch (shapeOf 9) 1 = 115 from rfl, show ch (shapeOf 9) 2 = 46 from rfl, show ch (shapeOf 9) 3 = 46 from rfl, show ch (shapeOf 9) 4 = 46 from rfl, show ch (shapeOf 9) 5 = 46 from rfl, show ch (shapeOf 9) 6 = 46 from rfl]
    simp only [fr114, fr115, fr46]
    simp [belowB_cons, belowB_nil]
    try omega
  · rw [e, show ch (shapeOf 10) 0 = 114 from rfl, show ch (shapeOf 10) 1 = 114 from rfl, show ch (shapeOf 10) 2 = 114 from rfl, show ch (shapeOf 10) 3 = 46 from rfl, show ch (shapeOf 10) 4 = 46 from rfl, show ch (shapeOf 10) 5 = 46 from rfl, show ch (shapeOf 10) 6 = 46 from rfl]
    simp only [fr114, fr46]
    simp [belowB_cons, belowB_nil]
    try omega
  · rw [e, show ch (shapeOf 11) 0 = 114 from rfl, show ch (shapeOf 11) 1 = 114 from rfl, show ch (shapeOf 11) 2 = 103 from rfl, show ch (shapeOf 11) 3 = 46 from rfl, show ch (shapeOf 11) 4 = 46 from rfl, show ch (shapeOf 11) 5 = 46 from rfl, show ch (shapeOf 11) 6 = 107 from rfl]
    simp only [fr103, fr107, fr114, fr46]
    simp [belowB_cons, belowB_nil]
    try omega
  · rw [e, show ch (shapeOf 12) 0 = 114 from rfl, show ch (shapeOf 12) 1 = 103 from rfl, show ch (shapeOf 12) 2 = 114 from rfl, show ch (shapeOf 12) 3 = 46 from rfl, show ch (shapeOf 12) 4 = 46 from rfl, show ch (shapeOf 12) 5 = 46 from rfl, show ch (shapeOf 12) 6 = 107 from rfl]
    simp only [fr103, fr107, fr114, fr46]
    simp [belowB_cons, belowB_nil]
    try omega
  · rw [e, show ch (shapeOf 13) 0 = 114 from rfl, show ch (shapeOf 13) 1 = 114 from rfl, show ch (shapeOf 13) 2 = 114 from rfl, show ch (shapeOf 13) 3 = 114 from rfl, show ch (shapeOf 13) 4 = 46 from rfl, show ch (shapeOf 13) 5 = 46 from rfl, show ch (shapeOf 13) 6 = 46 from rfl]
    simp only [fr114, fr46]
    simp [belowB_cons, belowB_nil]
    try omega
  · rw [e, show ch (shapeOf 14) 0 = 114 from rfl, show ch (shapeOf 14) 1 = 114 from rfl, show ch (shapeOf 14) 2 = 114 from rfl, show ch (shapeOf 14) 3 = 114 from rfl, show ch (shapeOf 14) 4 = 46 from rfl, show ch (shapeOf 14) 5 = 46 from rfl, show ch (shapeOf 14) 6 = 46 from rfl]
    simp only [fr114, fr46]
    simp [belowB_cons, belowB_nil]
    try omega
  · rw [e, show ch (shapeOf 15) 0 = 114 from rfl, show ch (shapeOf 15) 1 = 114 from rfl, show ch (shapeOf 15) 2 = 114 from rfl, show ch (shapeOf 15) 3 = 114 from rfl, show ch (shapeOf 15) 4 = 114 from rfl, show ch (shapeOf 15) 5 = 114 from rfl, show ch (shapeOf 15) 6 = 46 from rfl]
    simp only [fr114, fr46]
    simp [belowB_cons, belowB_nil]
    try omega
  · rw [e, show ch (shapeOf 16) 0 = 108 from rfl, show ch (shapeOf 16) 1 = 46 from rfl, show ch (shapeOf 16) 2 = 46 from rfl, show ch (shapeOf 16) 3 = 46 from rfl, show ch (shapeOf 16) 4 = 46 from rfl, show ch (shapeOf 16) 5 = 46 from rfl, show ch (shapeOf 16) 6 = 46 from rfl]
    simp only [fr108, fr46]
    simp [belowB_cons, belowB_nil]
    try omega
  · rw [e, show ch (shapeOf 17) 0 = 108 from rfl, show ch (shapeOf 17) 1 = 46 from rfl, show ch (shapeOf 17) 2 = 46 from rfl, show ch (shapeOf 17) 3 = 46 from rfl, show ch (shapeOf 17) 4 = 46 from rfl, show ch (shapeOf 17) 5 = 46 from rfl, show ch (shapeOf 17) 6 = 46 from rfl]
    simp only [fr108, fr46]
    simp [belowB_cons, belowB_nil]
    try omega
  · rw [e, show ch (shapeOf 18) 0 = 99 from rfl, show ch (shapeOf 18) 1 = 114 from rfl, show ch (shapeOf 18) 2 = 46 from rfl, show ch (shapeOf 18) 3 = 46 from rfl, show ch (shapeOf 18) 4 = 46 from rfl, show ch (shapeOf 18) 5 = 46 from rfl, show ch (shapeOf 18) 6 = 46 from rfl]
    simp only [fr114, fr46, fr99]
    simp [belowB_cons, belowB_nil]
    try omega
  · rw [e, show ch (shapeOf 19) 0 = 114 from rfl, show ch (shapeOf 19) 1 = 99 from rfl, show ch (shapeOf 19) 2 = 46 from rfl, show ch (shapeOf 19) 3 = 46 from rfl, show ch (shapeOf 19) 4 = 46 from rfl, show ch (shapeOf 19) 5 = 46 from rfl, show ch (shapeOf 19) 6 = 46 from rfl]
    simp only [fr114, fr46, fr99]
    simp [belowB_cons, belowB_nil]
    try omega
  · rw [e, show ch (shapeOf 20) 0 = 111 from rfl, show ch (shapeOf 20) 1 = 114 from rfl, show ch (shapeOf 20) 2 = 46 from rfl, show ch (shapeOf 20) 3 = 46 from rfl, show ch (shapeOf 20) 4 = 46 from rfl, show ch (shapeOf 20) 5 = 46 from rfl, show ch (shapeOf 20) 6 = 46 from rfl]
    simp only [fr111, fr114, fr46]
    simp [belowB_cons, belowB_nil]
    try omega
  · rw [e, show ch (shapeOf 21) 0 = 114 from rfl, show ch (shapeOf 21) 1 = 46 from rfl, show ch (shapeOf 21) 2 = 46 from rfl, show ch (shapeOf 21) 3 = 46 from rfl, show ch (shapeOf 21) 4 = 46 from rfl, show ch (shapeOf 21) 5 = 46 from rfl, show ch (shapeOf 21) 6 = 46 from rfl]
    simp only [fr114, fr46]
    simp [belowB_cons, belowB_nil]
    try omega
  · rw [e, show ch (shapeOf 22) 0 = 102 from rfl, show ch (shapeOf 22) 1 = 100 from rfl, show ch (shapeOf 22) 2 = 46 from rfl, show ch (shapeOf 22) 3 = 46 from rfl, show ch (shapeOf 22) 4 = 46 from rfl, show ch (shapeOf 22) 5 = 46 from rfl, show ch (shapeOf 22) 6 = 100 from rfl]
    simp only [fr100, fr102, fr46, belowB_cons, belowB_nil, Bool.and_eq_true, decide_eq_true_eq, Bool.not_eq_true', decide_eq_false_iff_not]
    simp only [reduceIte, Int.reduceEq, or_false, or_self, false_or, Int.reduceLT, Int.reduceLE, forall_const, false_implies, true_implies, and_true, true_and, ne_eq]
    by_cases hk0 : o.k = 0
    · simp only [hk0, if_pos, Bool.and_eq_true, belowB_cons, belowB_nil, decide_eq_true_eq]
      simp only [and_true, not_true_eq_false, false_and, or_false]
      constructor
      · rintro ⟨⟨h1, h2⟩, h3⟩
        exact ⟨⟨h1, h2⟩, by simpa using h3⟩
      · rintro ⟨⟨h1, h2⟩, h3⟩
        exact ⟨⟨h1, h2⟩, by simpa using h3⟩
    · simp only [if_neg hk0, Bool.and_eq_true, belowB_cons, belowB_nil, decide_eq_true_eq]
      simp only [and_true, hk0, false_and, false_or, not_false_eq_true, true_and]
      constructor
      · rintro ⟨⟨h1, h2⟩, ⟨h3, h4⟩, h5⟩
        exact ⟨⟨h1, h2⟩, h3, h4.1, h4.2, h5⟩
      · rintro ⟨⟨h1, h2⟩, h3, h4, h5, h6⟩
        exact ⟨⟨h1, h2⟩, ⟨h3, h4, h5⟩, h6⟩
  · rw [e, show ch (shapeOf 23) 0 = 46 from rfl, show ch (shapeOf 23) 1 = 46 from rfl, show ch (shapeOf 23) 2 = 46 from rfl, show ch (shapeOf 23) 3 = 46 from rfl, show ch (shapeOf 23) 4 = 46 from rfl, show ch (shapeOf 23) 5 = 46 from rfl, show ch (shapeOf 23) 6 = 46 from rfl]
    simp only [fr46]
    simp [belowB_cons, belowB_nil]
    try omega
section
variable {P : Program} {S : Hp} {tb : Tab} {o : Oper} {ρ : Operand → Option V}
theorem g_indexCh (hT : TabOk tb P) {t : TypeId} {x ix : Operand} {s : ByteArray} {κ : IntKind} {i : Nat} (ho : o.op = .index t x ix) (ht : tb.under t = some .string) (hx : ρ x = some (.str s)) (hi : ρ ix = some (.int κ (i : Int))) (hlt : i < s.size) : QG P o ρ S (.int .u8 (ch s i)) := by
  unfold ch
  rw [dif_pos hlt]
  exact g_indexStr hT ho ht hx hi hlt
theorem g_indexCh' (hT : TabOk tb P) {t : TypeId} {x ix : Operand} {s : ByteArray} {κ : IntKind} {i : Nat} {c : Int} (ho : o.op = .index t x ix) (ht : tb.under t = some .string) (hx : ρ x = some (.str s)) (hi : ρ ix = some (.int κ (i : Int))) (hlt : i < s.size) (hc : ch s i = c) : QG P o ρ S (.int .u8 c) := by
  subst hc
  exact g_indexCh hT ho ht hx hi hlt
end
section
variable (hT : TabOk tab Tryz.prog)
include hT
set_option maxRecDepth 100000 in
set_option maxHeartbeats 4000000 in
theorem opRef (m : MModule) (hs : Small m) (hm : ∀ f ∈ m.funcs, OkF f) (hg : ∀ s ∈ m.globals, 0 ≤ s.size ∧ s.size ≤ 1000) (f : MFunc) (hf : OkF f) (o : MOp) (hl : o.args.length < 2000000) : Pure Tryz.prog 53 [.agg (modV m), .agg (funcV f), .agg (opV o)] (.ob (rightB m f (sumI m.globals) o)) := by
  refine VC.code hT 267 rfl rfl rfl rfl fun F W S0 => ?_
  repeat' (first
    | (refine go hT 10000 rfl ?_; conv => whnf)
    | refine ops_s rfl (s_boxF rfl rfl rfl ?_)
    | refine ops_s rfl (s_listF hT rfl rfl rfl rfl rfl rfl rfl rfl ?_)
    | refine ops_g rfl (g_len hT rfl rfl rfl rfl rfl rfl (List.length_map _)) ?_
    | refine op_guard rfl rfl rfl rfl (fun h => ?_) (fun h => ?_)
    | refine ops_s rfl (s_pure hT rfl rfl rfl rfl rfl rfl (shapeRef hT o.kind) ?_))
  refine run_split rfl (fun h => ?_) (fun h => ?_)
  · have h := shape_none.1 (of_decide_eq_true h)
    refine go hT 10000 rfl ?_
    conv => whnf
    refine ret_bool rfl rfl rfl ?_
    rw [not_kind h]
  have hk : 1 ≤ o.kind ∧ o.kind ≤ 23 := by
    have h := of_decide_eq_false h
    rw [shape_none] at h
    omega
  have hsz := shape_size hk
  refine go hT 10000 rfl ?_
  conv => whnf
  refine ops_s rfl (s_alloc hT rfl rfl rfl fun b8 => ?_)
  refine go hT 10000 rfl ?_
  conv => whnf
  refine ops_s rfl (s_store (cs' := (valsO o).map fun v => .int .i64 v) hT rfl rfl rfl .here rfl ?_)
  refine go hT 10000 rfl ?_
  conv => whnf
  refine run_lq (fun i : Nat => ([(3, .pin (modV m) 0), (4, .pin (funcV f) 0), (5, .pin (opV o) 0), (7, .str (shapeOf o.kind)), (8, .ptr b8 0), (9, .int .i64 i)], [.cells b8 ((valsO o).map fun v => .int .i64 v) 182])) (fun i => i ≤ 7 ∧ ∀ j, j < i → fieldAt m f o j) (fun i => 7 - i) 0 ⟨Nat.zero_le _, fun j hj => absurd hj (Nat.not_lt_zero _)⟩ ⟨⟨⟨_, rfl, .refl _⟩, ⟨_, rfl, .refl _⟩, ⟨_, rfl, .refl _⟩, ⟨_, rfl, .refl _⟩, ⟨_, rfl, .refl _⟩, ⟨_, rfl, .refl _⟩, trivial⟩, .refl _⟩ ?_
  rintro i ⟨hi, hall⟩
  refine go hT 10000 rfl ?_
  conv => whnf
  refine run_split rfl (fun hlt => ?_) (fun hlt => ?_)
  · have hlt : i < 7 := by have := of_decide_eq_true hlt; omega
    refine go hT 10000 rfl ?_
    conv => whnf
    refine ops_g rfl (g_indexCh (i := i) hT rfl rfl rfl rfl (by rw [hsz]; exact hlt)) ?_
    generalize hc : ch (shapeOf o.kind) i = c
    have step : fieldR m f c ((valsO o).getD i 0) → ∀ j, j < i + 1 → fieldAt m f o j := fun hx j hj => by
      by_cases e : j = i
      · subst e
        unfold fieldAt
        rw [hc]; exact hx
      · exact hall j (by omega)
    have bad : ¬ fieldR m f c ((valsO o).getD i 0) → rightB m f (sumI m.globals) o = false := fun hx => by
      have : fieldsB m f (sumI m.globals) o = false := by
        rw [← Bool.not_eq_true]
        intro he
        have := ((fields_iff hk).1 he).1 i hlt
        unfold fieldAt at this
        rw [hc] at this
        exact hx this
      unfold rightB
      rw [this]; rfl
    have hval : ((valsO o).map fun v => V.int .i64 v)[0 + (i : Int).toNat * 1]? = some (.int .i64 ((valsO o).getD i 0)) := by
      have hl7 : i < (valsO o).length := hlt
      rw [Int.toNat_natCast, Nat.zero_add, Nat.mul_one, List.getElem?_map, List.getD_eq_getElem?_getD, List.getElem?_eq_getElem hl7]
      rfl
    generalize hv : (valsO o).getD i 0 = v at step bad hval
    refine go hT 10000 rfl ?_
    conv => whnf
    refine run_split rfl (fun h100 => ?_) (fun h100 => ?_)
    · have h100 := of_decide_eq_true h100
      refine go hT 10000 rfl ?_
      conv => whnf
      refine ops_g rfl (g_add rfl rfl rfl (by omega)) ?_
      refine go hT 10000 rfl ?_
      conv => whnf
      exact ⟨i + 1, ⟨hlt, step (.inl h100)⟩, by omega, ⟨⟨_, rfl, .refl _⟩, ⟨_, rfl, .refl _⟩, ⟨_, rfl, .refl _⟩, ⟨_, rfl, .refl _⟩, ⟨_, rfl, .refl _⟩, ⟨_, rfl, .refl _⟩, trivial⟩, .refl _⟩
    have h100 := of_decide_eq_false h100
    refine go hT 10000 rfl ?_
    conv => whnf
    refine run_split rfl (fun h110 => ?_) (fun h110 => ?_)
    · have h110 := of_decide_eq_true h110
      refine go hT 10000 rfl ?_
      conv => whnf
      refine ops_g rfl (g_add rfl rfl rfl (by omega)) ?_
      refine go hT 10000 rfl ?_
      conv => whnf
      exact ⟨i + 1, ⟨hlt, step (.inr (.inl h110))⟩, by omega, ⟨⟨_, rfl, .refl _⟩, ⟨_, rfl, .refl _⟩, ⟨_, rfl, .refl _⟩, ⟨_, rfl, .refl _⟩, ⟨_, rfl, .refl _⟩, ⟨_, rfl, .refl _⟩, trivial⟩, .refl _⟩
    have h110 := of_decide_eq_false h110
    refine run_cutK 1 (fun y : Int => ([(3, .pin (modV m) 0), (4, .pin (funcV f) 0), (5, .pin (opV o) 0), (7, .str (shapeOf o.kind)), (8, .ptr b8 0), (9, .int .i64 i), (10, .int .i64 y)], [.cells b8 ((valsO o).map fun v => .int .i64 v) 182])) (fun y => y = mostR m f c) ?_ ?_
    · repeat' (first
        | (refine go hT 10000 rfl ?_; conv => whnf)
        | refine ops_s rfl (s_boxF rfl rfl rfl ?_)
        | refine ops_s rfl (s_listF hT rfl rfl rfl rfl rfl rfl rfl rfl ?_)
        | refine ops_g rfl (g_len hT rfl rfl rfl rfl rfl rfl (List.length_map _)) ?_
        | refine op_guard rfl rfl rfl rfl (fun h => ?_) (fun h => ?_)
        | refine run_split rfl (fun h => ?_) (fun h => ?_)
        | refine ops_s rfl (s_pure hT rfl rfl rfl rfl rfl rfl (wordsRef hT m hs.globals hg) ?_))
      all_goals refine ⟨_, ?_, ⟨⟨_, rfl, .refl _⟩, ⟨_, rfl, .refl _⟩, ⟨_, rfl, .refl _⟩, ⟨_, rfl, .refl _⟩, ⟨_, rfl, .refl _⟩, ⟨_, rfl, .refl _⟩, ⟨_, rfl, .refl _⟩, trivial⟩, .refl _⟩
      all_goals (clear hT; simp only [decide_eq_true_eq, decide_eq_false_iff_not] at *; unfold mostR; simp only [*, if_true, if_false, reduceIte]; try (first | rfl | simp))
    · rintro _ rfl
      repeat' (first
        | (refine go hT 10000 rfl ?_; conv => whnf)
        | refine ops_s rfl (s_boxF rfl rfl rfl ?_)
        | refine ops_s rfl (s_listF hT rfl rfl rfl rfl rfl rfl rfl rfl ?_)
        | refine ops_g rfl (g_len hT rfl rfl rfl rfl rfl rfl (List.length_map _)) ?_
        | refine op_guard rfl rfl rfl rfl (fun h => ?_) (fun h => ?_)
        | refine ops_g rfl (g_indexCh' hT rfl rfl rfl rfl (by rw [hsz]; exact hlt) hc) ?_)
      · have hle : leastR c = 1 := by unfold leastR; rw [if_pos (.inl (of_decide_eq_true h))]
        repeat' (first
          | (refine go hT 10000 rfl ?_; conv => whnf)
          | refine ops_s rfl (s_boxF rfl rfl rfl ?_)
          | refine ops_s rfl (s_listF hT rfl rfl rfl rfl rfl rfl rfl rfl ?_)
          | refine ops_g rfl (g_len hT rfl rfl rfl rfl rfl rfl (List.length_map _)) ?_
          | refine op_guard rfl rfl rfl rfl (fun h => ?_) (fun h => ?_)
          | refine ops_g rfl (g_indexArr hT rfl rfl rfl rfl rfl (by omega) (by omega)) ?_
          | refine ops_g rfl (g_load hT rfl rfl .here (part_at rfl hval)) ?_)
        · have h := of_decide_eq_true h
          refine ret_bool rfl rfl rfl ?_
          rw [bad fun hx => by rcases hx with hx | hx | hx <;> first | exact h100 hx | exact h110 hx | (rw [hle] at hx; omega)]
        · have h := of_decide_eq_false h
          refine run_split rfl (fun h2 => ?_) (fun h2 => ?_)
          · have h2 := of_decide_eq_true h2
            refine go hT 10000 rfl ?_
            conv => whnf
            refine ret_bool rfl rfl rfl ?_
            rw [bad fun hx => by rcases hx with hx | hx | hx <;> first | exact h100 hx | exact h110 hx | omega]
          · have h2 := of_decide_eq_false h2
            refine go hT 10000 rfl ?_
            conv => whnf
            refine ops_g rfl (g_add rfl rfl rfl (by omega)) ?_
            refine go hT 10000 rfl ?_
            conv => whnf
            exact ⟨i + 1, ⟨hlt, step (.inr (.inr ⟨by rw [hle]; omega, by omega⟩))⟩, by omega, ⟨⟨_, rfl, .refl _⟩, ⟨_, rfl, .refl _⟩, ⟨_, rfl, .refl _⟩, ⟨_, rfl, .refl _⟩, ⟨_, rfl, .refl _⟩, ⟨_, rfl, .refl _⟩, trivial⟩, .refl _⟩
      · have h117 := of_decide_eq_false h
        refine run_split rfl (fun h98 => ?_) (fun h98 => ?_)
        · have hle : leastR c = 1 := by unfold leastR; rw [if_pos (.inr (of_decide_eq_true h98))]
          refine go hT 10000 rfl ?_
          conv => whnf
          repeat' (first
            | (refine go hT 10000 rfl ?_; conv => whnf)
            | refine ops_s rfl (s_boxF rfl rfl rfl ?_)
            | refine ops_s rfl (s_listF hT rfl rfl rfl rfl rfl rfl rfl rfl ?_)
            | refine ops_g rfl (g_len hT rfl rfl rfl rfl rfl rfl (List.length_map _)) ?_
            | refine op_guard rfl rfl rfl rfl (fun h => ?_) (fun h => ?_)
            | refine ops_g rfl (g_indexArr hT rfl rfl rfl rfl rfl (by omega) (by omega)) ?_
            | refine ops_g rfl (g_load hT rfl rfl .here (part_at rfl hval)) ?_)
          · have h := of_decide_eq_true h
            refine ret_bool rfl rfl rfl ?_
            rw [bad fun hx => by rcases hx with hx | hx | hx <;> first | exact h100 hx | exact h110 hx | (rw [hle] at hx; omega)]
          · have h := of_decide_eq_false h
            refine run_split rfl (fun h2 => ?_) (fun h2 => ?_)
            · have h2 := of_decide_eq_true h2
              refine go hT 10000 rfl ?_
              conv => whnf
              refine ret_bool rfl rfl rfl ?_
              rw [bad fun hx => by rcases hx with hx | hx | hx <;> first | exact h100 hx | exact h110 hx | omega]
            · have h2 := of_decide_eq_false h2
              refine go hT 10000 rfl ?_
              conv => whnf
              refine ops_g rfl (g_add rfl rfl rfl (by omega)) ?_
              refine go hT 10000 rfl ?_
              conv => whnf
              exact ⟨i + 1, ⟨hlt, step (.inr (.inr ⟨by rw [hle]; omega, by omega⟩))⟩, by omega, ⟨⟨_, rfl, .refl _⟩, ⟨_, rfl, .refl _⟩, ⟨_, rfl, .refl _⟩, ⟨_, rfl, .refl _⟩, ⟨_, rfl, .refl _⟩, ⟨_, rfl, .refl _⟩, trivial⟩, .refl _⟩
        · have h98 := of_decide_eq_false h98
          have hle : leastR c = 0 := by unfold leastR; rw [if_neg fun hx => by rcases hx with hx | hx <;> contradiction]
          refine go hT 10000 rfl ?_
          conv => whnf
          repeat' (first
            | (refine go hT 10000 rfl ?_; conv => whnf)
            | refine ops_s rfl (s_boxF rfl rfl rfl ?_)
            | refine ops_s rfl (s_listF hT rfl rfl rfl rfl rfl rfl rfl rfl ?_)
            | refine ops_g rfl (g_len hT rfl rfl rfl rfl rfl rfl (List.length_map _)) ?_
            | refine op_guard rfl rfl rfl rfl (fun h => ?_) (fun h => ?_)
            | refine ops_g rfl (g_indexArr hT rfl rfl rfl rfl rfl (by omega) (by omega)) ?_
            | refine ops_g rfl (g_load hT rfl rfl .here (part_at rfl hval)) ?_)
          · have h := of_decide_eq_true h
            refine ret_bool rfl rfl rfl ?_
            rw [bad fun hx => by rcases hx with hx | hx | hx <;> first | exact h100 hx | exact h110 hx | (rw [hle] at hx; omega)]
          · have h := of_decide_eq_false h
            refine run_split rfl (fun h2 => ?_) (fun h2 => ?_)
            · have h2 := of_decide_eq_true h2
              refine go hT 10000 rfl ?_
              conv => whnf
              refine ret_bool rfl rfl rfl ?_
              rw [bad fun hx => by rcases hx with hx | hx | hx <;> first | exact h100 hx | exact h110 hx | omega]
            · have h2 := of_decide_eq_false h2
              refine go hT 10000 rfl ?_
              conv => whnf
              refine ops_g rfl (g_add rfl rfl rfl (by omega)) ?_
              refine go hT 10000 rfl ?_
              conv => whnf
              exact ⟨i + 1, ⟨hlt, step (.inr (.inr ⟨by rw [hle]; omega, by omega⟩))⟩, by omega, ⟨⟨_, rfl, .refl _⟩, ⟨_, rfl, .refl _⟩, ⟨_, rfl, .refl _⟩, ⟨_, rfl, .refl _⟩, ⟨_, rfl, .refl _⟩, ⟨_, rfl, .refl _⟩, trivial⟩, .refl _⟩
  · have h7 : i = 7 := by have := of_decide_eq_false hlt; omega
    subst h7
    refine run_sub (S' := []) .nil ?_
    have off : (¬ extraP m f o) → rightB m f (sumI m.globals) o = false := fun hx => by
      have : fieldsB m f (sumI m.globals) o = false := by
        rw [← Bool.not_eq_true]
        exact fun he => hx ((fields_iff hk).1 he).2
      unfold rightB
      rw [this]; rfl
    refine go hT 10000 rfl ?_
    conv => whnf
    refine run_cutK 2 (fun y : Int => ([(3, .pin (modV m) 0), (4, .pin (funcV f) 0), (5, .pin (opV o) 0), (12, .int .i64 y)], [])) (fun y => y = rightArgs m f o ∧ extraP m f o) ?_ ?_
    · refine run_split rfl (fun h10 => ?_) (fun h10 => ?_)
      · have h10 := of_decide_eq_true h10
        refine go hT 10000 rfl ?_
        conv => whnf
        refine run_split rfl (fun hab => ?_) (fun hab => ?_)
        · have hab := of_decide_eq_true hab
          refine go hT 10000 rfl ?_
          conv => whnf
          refine ret_bool rfl rfl rfl ?_
          rw [off fun hx => hx.1 (.inl h10) hab]
        · have hab := of_decide_eq_false hab
          refine go hT 10000 rfl ?_
          conv => whnf
          refine ⟨0, ⟨?_, fun _ => hab, fun h => by omega⟩, ⟨⟨_, rfl, .refl _⟩, ⟨_, rfl, .refl _⟩, ⟨_, rfl, .refl _⟩, ⟨_, rfl, .refl _⟩, trivial⟩, .refl _⟩
          unfold rightArgs
          rw [if_neg (by omega), if_neg (by omega)]
      have h10 := of_decide_eq_false h10
      refine go hT 10000 rfl ?_
      conv => whnf
      refine run_split rfl (fun h15 => ?_) (fun h15 => ?_)
      · have h15 := of_decide_eq_true h15
        refine go hT 10000 rfl ?_
        conv => whnf
        refine run_split rfl (fun hab => ?_) (fun hab => ?_)
        · have hab := of_decide_eq_true hab
          refine go hT 10000 rfl ?_
          conv => whnf
          refine ret_bool rfl rfl rfl ?_
          rw [off fun hx => hx.1 (.inr h15) hab]
        · have hab := of_decide_eq_false hab
          refine go hT 10000 rfl ?_
          conv => whnf
          refine ⟨0, ⟨?_, fun _ => hab, fun h => by omega⟩, ⟨⟨_, rfl, .refl _⟩, ⟨_, rfl, .refl _⟩, ⟨_, rfl, .refl _⟩, ⟨_, rfl, .refl _⟩, trivial⟩, .refl _⟩
          unfold rightArgs
          rw [if_neg (by omega), if_neg (by omega)]
      have h15 := of_decide_eq_false h15
      refine go hT 10000 rfl ?_
      conv => whnf
      refine run_split rfl (fun h22 => ?_) (fun h22 => ?_)
      · have h22 := of_decide_eq_true h22
        have ha : belowB m.funcs.length [o.a] = true := by
          have h0 := hall 0 (by omega)
          unfold fieldAt valsO at h0
          rw [h22, show ch (shapeOf 22) 0 = 102 from rfl, fr102] at h0
          exact belowB_one.2 h0
        have okG := MModule.fn_ok hm ha
        have hG1 := okG.result
        have ex : extraP m f o ↔ callOk m f o := by
          unfold extraP
          rw [h22]
          simp
        refine go hT 10000 rfl ?_
        conv => whnf
        refine ops_g rfl (g_funcs hT rfl rfl rfl ha) ?_
        refine go hT 10000 rfl ?_
        conv => whnf
        refine ops_s rfl (s_alloc hT rfl rfl rfl fun b13 => ?_)
        refine go hT 10000 rfl ?_
        conv => whnf
        refine ops_s rfl (s_store (cs' := funcV (m.fn o.a)) hT rfl rfl rfl .here rfl ?_)
        refine ops_freezeH (t := 13) rfl ?_
        have hrg := hf.regs
        repeat' (first
          | (refine go hT 10000 rfl ?_; conv => whnf)
          | refine ops_s rfl (s_boxF rfl rfl rfl ?_)
          | refine ops_s rfl (s_listF hT rfl rfl rfl rfl rfl rfl rfl rfl ?_)
          | refine ops_g rfl (g_len hT rfl rfl rfl rfl rfl rfl (List.length_map _)) ?_
          | refine op_guard rfl rfl rfl rfl (fun h => ?_) (fun h => ?_)
          | refine run_split rfl (fun h => ?_) (fun h => ?_)
          | refine ops_g rfl (g_sub rfl rfl rfl (by simp only [Bool.not_eq_false', Bool.not_eq_true', decide_eq_true_eq, decide_eq_false_iff_not] at *; omega)) ?_)
        all_goals first
          | (refine ret_bool rfl rfl rfl ?_
             rw [off fun hx => ?_]
             have hx := ex.1 hx
             unfold callOk at hx
             simp only [Bool.not_eq_false', Bool.not_eq_true', decide_eq_true_eq, decide_eq_false_iff_not] at *
             omega)
          | (refine ⟨(m.fn o.a).params, ⟨?_, ?_⟩, ⟨⟨_, rfl, .refl _⟩, ⟨_, rfl, .refl _⟩, ⟨_, rfl, .refl _⟩, ⟨_, rfl, .refl _⟩, trivial⟩, .refl _⟩
             · unfold rightArgs
               rw [if_pos h22]
             · rw [ex]
               unfold callOk
               simp only [Bool.not_eq_false', Bool.not_eq_true', decide_eq_true_eq, decide_eq_false_iff_not] at *
               omega)
      have h22 := of_decide_eq_false h22
      refine go hT 10000 rfl ?_
      conv => whnf
      refine run_split rfl (fun h23 => ?_) (fun h23 => ?_)
      · have h23 := of_decide_eq_true h23
        refine go hT 10000 rfl ?_
        conv => whnf
        refine ⟨f.result, ⟨?_, fun h => by omega, fun h => by omega⟩, ⟨⟨_, rfl, .refl _⟩, ⟨_, rfl, .refl _⟩, ⟨_, rfl, .refl _⟩, ⟨_, rfl, .refl _⟩, trivial⟩, .refl _⟩
        unfold rightArgs
        rw [if_neg h22, if_pos h23]
      · have h23 := of_decide_eq_false h23
        refine go hT 10000 rfl ?_
        conv => whnf
        refine ⟨0, ⟨?_, fun h => by omega, fun h => by omega⟩, ⟨⟨_, rfl, .refl _⟩, ⟨_, rfl, .refl _⟩, ⟨_, rfl, .refl _⟩, ⟨_, rfl, .refl _⟩, trivial⟩, .refl _⟩
        unfold rightArgs
        rw [if_neg h22, if_neg h23]
    · rintro _ ⟨rfl, hex⟩
      have hfb : fieldsB m f (sumI m.globals) o = true := (fields_iff hk).2 ⟨hall, hex⟩
      have eqn : rightB m f (sumI m.globals) o = (belowB f.regs o.args && decide ((o.args.length : Int) = rightArgs m f o) && belowB (if o.kind = 23 then 1 else f.code.length) [o.next] && belowB (if o.kind = 21 then f.code.length else 1) [o.els]) := by
        unfold rightB
        rw [hfb, Bool.true_and]
      rw [eqn]
      repeat' (first
        | (refine go hT 10000 rfl ?_; conv => whnf)
        | refine ops_s rfl (s_boxF rfl rfl rfl ?_)
        | refine ops_s rfl (s_listF hT rfl rfl rfl rfl rfl rfl rfl rfl ?_)
        | refine ops_g rfl (g_len hT rfl rfl rfl rfl rfl rfl (List.length_map _)) ?_
        | refine op_guard rfl rfl rfl rfl (fun h => ?_) (fun h => ?_))
      refine run_split rfl (fun hne => ?_) (fun heq => ?_)
      · have hne : ¬ (o.args.length : Int) = rightArgs m f o := by simpa using hne
        refine go hT 10000 rfl ?_
        conv => whnf
        refine ret_bool rfl rfl rfl ?_
        rw [decide_eq_false hne, Bool.and_false, Bool.false_and, Bool.false_and]
      have heq : (o.args.length : Int) = rightArgs m f o := by simpa using heq
      rw [decide_eq_true heq, Bool.and_true]
      refine go hT 10000 rfl ?_
      conv => whnf
      refine run_lq (fun k : Nat => ([(3, .pin (modV m) 0), (4, .pin (funcV f) 0), (5, .pin (opV o) 0), (15, .int .i64 k)], [])) (fun k => k ≤ o.args.length ∧ ∀ a ∈ o.args.take k, 0 ≤ a ∧ a < f.regs) (fun k => o.args.length - k) 0 ⟨Nat.zero_le _, fun a ha => by simp at ha⟩ ⟨⟨⟨_, rfl, .refl _⟩, ⟨_, rfl, .refl _⟩, ⟨_, rfl, .refl _⟩, ⟨_, rfl, .refl _⟩, trivial⟩, .nil⟩ ?_
      rintro k ⟨hk1, hk2⟩
      repeat' (first
        | (refine go hT 10000 rfl ?_; conv => whnf)
        | refine ops_s rfl (s_boxF rfl rfl rfl ?_)
        | refine ops_s rfl (s_listF hT rfl rfl rfl rfl rfl rfl rfl rfl ?_)
        | refine ops_g rfl (g_len hT rfl rfl rfl rfl rfl rfl (List.length_map _)) ?_
        | refine op_guard rfl rfl rfl rfl (fun h => ?_) (fun h => ?_))
      refine run_split rfl (fun hlt => ?_) (fun hlt => ?_)
      · simp only [decide_eq_true_eq, Int.ofNat_lt] at hlt
        have badA : ¬ (0 ≤ o.args[k] ∧ o.args[k] < f.regs) → belowB f.regs o.args = false := fun hx => by
          rw [← Bool.not_eq_true]
          intro hb
          simp only [belowB, Bool.not_eq_true', List.any_eq_false] at hb
          have := hb _ (List.getElem_mem hlt)
          simp at this
          omega
        refine go hT 10000 rfl ?_
        conv => whnf
        intro id
        refine run_drw hT rfl rfl ?_ id
        repeat' (first
          | (refine god hT 2 rfl ?_; conv => whnf)
          | refine vd_fin rfl ?_
          | refine q_g rfl (fun S' => (g_len hT rfl rfl rfl rfl rfl rfl (List.length_map _)).qs) ?_
          | refine q_guard rfl rfl rfl rfl (fun h => ?_) (fun h => ?_)
          | refine q_g rfl (fun S' => (g_indexM (xs := o.args) hT rfl rfl rfl rfl rfl hlt rfl).qs) ?_)
        · have h := of_decide_eq_true h
          refine go hT 10000 rfl ?_
          conv => whnf
          refine ret_bool rfl rfl rfl ?_
          rw [badA (by omega)]; rfl
        · have h := of_decide_eq_false h
          refine go hT 10000 rfl ?_
          conv => whnf
          refine run_split rfl (fun h2 => ?_) (fun h2 => ?_)
          · have h2 := of_decide_eq_true h2
            refine go hT 10000 rfl ?_
            conv => whnf
            refine ret_bool rfl rfl rfl ?_
            rw [badA (by omega)]; rfl
          · have h2 := of_decide_eq_false h2
            refine go hT 10000 rfl ?_
            conv => whnf
            refine ops_g rfl (g_add rfl rfl rfl (by omega)) ?_
            refine go hT 10000 rfl ?_
            conv => whnf
            refine ⟨k + 1, ⟨hlt, fun a ha => ?_⟩, by omega, ⟨⟨_, rfl, .refl _⟩, ⟨_, rfl, .refl _⟩, ⟨_, rfl, .refl _⟩, ⟨_, rfl, .refl _⟩, trivial⟩, .nil⟩
            rw [List.take_succ_eq_append_getElem hlt, List.mem_append, List.mem_singleton] at ha
            rcases ha with ha | rfl
            · exact hk2 a ha
            · omega
      · simp only [decide_eq_false_iff_not, Int.ofNat_lt] at hlt
        rw [List.take_of_length_le (by omega)] at hk2
        have hA : belowB f.regs o.args = true := by
          simp only [belowB, Bool.not_eq_true', List.any_eq_false]
          intro a ha
          have := hk2 a ha
          simp
          omega
        rw [hA, Bool.true_and]
        refine go hT 10000 rfl ?_
        conv => whnf
        refine run_split rfl (fun h23 => ?_) (fun h23 => ?_)
        · have h23 := of_decide_eq_true h23
          rw [if_pos h23, if_neg (by omega)]
          repeat' (first
            | (refine go hT 10000 rfl ?_; conv => whnf)
            | refine ops_s rfl (s_boxF rfl rfl rfl ?_)
            | refine ops_s rfl (s_listF hT rfl rfl rfl rfl rfl rfl rfl rfl ?_)
            | refine ops_g rfl (g_len hT rfl rfl rfl rfl rfl rfl (List.length_map _)) ?_
            | refine op_guard rfl rfl rfl rfl (fun h => ?_) (fun h => ?_))
          all_goals
            refine ret_bool rfl rfl rfl ?_
            refine congrArg V.ob ?_
            simp only [decide_eq_true_eq, decide_eq_false_iff_not] at h
            rw [Bool.eq_iff_iff, Bool.and_eq_true, belowB_one, belowB_one]
            simp only [decide_eq_true_eq, Bool.false_eq_true, false_iff, true_iff]
            omega
        · have h23 := of_decide_eq_false h23
          rw [if_neg h23]
          repeat' (first
            | (refine go hT 10000 rfl ?_; conv => whnf)
            | refine ops_s rfl (s_boxF rfl rfl rfl ?_)
            | refine ops_s rfl (s_listF hT rfl rfl rfl rfl rfl rfl rfl rfl ?_)
            | refine ops_g rfl (g_len hT rfl rfl rfl rfl rfl rfl (List.length_map _)) ?_
            | refine op_guard rfl rfl rfl rfl (fun h => ?_) (fun h => ?_))
          all_goals
            refine ret_bool rfl rfl rfl ?_
            refine congrArg V.ob ?_
            simp only [decide_eq_true_eq, decide_eq_false_iff_not, Bool.not_eq_true', Bool.not_eq_false'] at *
            by_cases h21 : o.kind = 21
            · rw [if_pos h21, Bool.eq_iff_iff, Bool.and_eq_true, belowB_one, belowB_one]
              simp only [decide_eq_true_eq, Bool.false_eq_true, false_iff, true_iff, Bool.not_eq_true', decide_eq_false_iff_not]
              omega
            · rw [if_neg h21, Bool.eq_iff_iff, Bool.and_eq_true, belowB_one, belowB_one]
              simp only [decide_eq_true_eq, Bool.false_eq_true, false_iff, true_iff, Bool.not_eq_true', decide_eq_false_iff_not]
              omega
end
end Go.Vw
namespace Go.Vw
open Go.RowKit Go.Am Go.Proofs
attribute [local irreducible] VOps VRun VNext VD VDn VDq Ret
structure RFacts (m : MModule) : Prop where
  s1 : sizedB m.globals 16 1 2 = true
  s2 : sizedB m.structs 4 0 16 = true
  s3 : sizedB m.chans 4 1 4 = true
  l1 : (m.locks.length : Int) ≤ 8
  l2 : (m.inputs.length : Int) ≤ 8
  l3 : (m.sinks.length : Int) ≤ 4
  l4 : (m.hatches.length : Int) ≤ 8
  f1 : 1 ≤ (m.funcs.length : Int)
  f2 : (m.funcs.length : Int) ≤ 12
  t : (m.threads.length : Int) ≤ 4
  cs : codeSum m.funcs ≤ 4096
  ok : ∀ f ∈ m.funcs, okFB f = true
  thr : ∀ x ∈ m.threads, wrongB m x = false
  ops : ∀ f ∈ m.funcs, ∀ o ∈ f.code, rightB m f (sumI m.globals) o = true
theorem right_iff (m : MModule) : rightModB m = true ↔ RFacts m := by
  constructor
  · intro h
    simp only [rightModB, frameB, countsB, namesB, Bool.and_eq_true, decide_eq_true_eq, List.all_eq_true, Bool.not_eq_true', List.any_eq_false] at h
    obtain ⟨⟨a, ⟨⟨⟨⟨⟨⟨⟨⟨b1, b2⟩, b3⟩, ⟨⟨c1, c2⟩, c3⟩, c4⟩, d1⟩, d2⟩, d3⟩, d4⟩, d5⟩⟩, e⟩ := h
    exact ⟨b1, b2, b3, c1, c2, c3, c4, d1, d2, d3, d4, a, fun x hx => by simpa using d5 x hx, e⟩
  · rintro ⟨b1, b2, b3, c1, c2, c3, c4, d1, d2, d3, d4, a, d5, e⟩
    simp only [rightModB, frameB, countsB, namesB, Bool.and_eq_true, decide_eq_true_eq, List.all_eq_true, Bool.not_eq_true', List.any_eq_false]
    exact ⟨⟨a, ⟨⟨⟨⟨⟨⟨⟨⟨b1, b2⟩, b3⟩, ⟨⟨c1, c2⟩, c3⟩, c4⟩, d1⟩, d2⟩, d3⟩, d4⟩, fun x hx => by simpa using d5 x hx⟩⟩, e⟩
theorem not_right {m : MModule} (h : ¬ RFacts m) : rightModB m = false := by
  rw [← Bool.not_eq_true, right_iff]; exact h
section
variable (hT : TabOk tab Tryz.prog)
include hT
set_option maxRecDepth 100000 in
set_option maxHeartbeats 4000000 in
theorem rightRef (m : MModule) (hs : Small m) : Pure Tryz.prog 26 [.agg (modV m)] (.ob (rightModB m)) := by
  have hfs := hs.funcs
  have hts := hs.threads
  refine VC.code hT 194 rfl rfl rfl rfl fun F W S0 => ?_
  repeat' (first
    | (refine go hT 10000 rfl ?_; conv => whnf)
    | refine ops_s rfl (s_boxF rfl rfl rfl ?_)
    | refine ops_s rfl (s_listF hT rfl rfl rfl rfl rfl rfl rfl rfl ?_)
    | refine ops_g rfl (g_len hT rfl rfl rfl rfl rfl rfl (List.length_map _)) ?_
    | refine op_guard rfl rfl rfl rfl (fun h => ?_) (fun h => ?_)
    | refine ops_s rfl (s_pure hT rfl rfl rfl rfl rfl rfl (sizedRef hT m.globals 16 1 2 hs.globals) ?_)
    | refine ops_s rfl (s_pure hT rfl rfl rfl rfl rfl rfl (sizedRef hT m.structs 4 0 16 hs.structs) ?_)
    | refine ops_s rfl (s_pure hT rfl rfl rfl rfl rfl rfl (sizedRef hT m.chans 4 1 4 hs.chans) ?_))
  all_goals try
    (refine ret_bool rfl rfl rfl ?_
     rw [not_right fun hr => ?_]
     obtain ⟨b1, b2, b3, c1, c2, c3, c4, d1, d2, d3, _, _, _, _⟩ := hr
     first
       | (rw [b1] at h; cases h)
       | (rw [b2] at h; cases h)
       | (rw [b3] at h; cases h)
       | (have h := of_decide_eq_true h; omega))
  refine run_split rfl (fun h => ?_) (fun h => ?_)
  · have h := of_decide_eq_true h
    refine go hT 10000 rfl ?_
    conv => whnf
    refine ret_bool rfl rfl rfl ?_
    rw [not_right fun hr => by have := hr.t; omega]
  rename_i q1 q2 q3 q4 q5 q6 q7 q8 q9
  simp only [Bool.not_eq_false', decide_eq_false_iff_not] at h q1 q2 q3 q4 q5 q6 q7 q8 q9
  have hg : ∀ s ∈ m.globals, 0 ≤ s.size ∧ s.size ≤ 1000 := fun s hsm => by
    unfold sizedB at q1
    rw [Bool.and_eq_true, Bool.not_eq_true', List.any_eq_false] at q1
    have := q1.2 s hsm
    simp at this
    omega
  have hfn : m.funcs.length ≤ 12 := by omega
  refine go hT 10000 rfl ?_
  conv => whnf
  refine run_lq (fun i : Nat => ([(1, .pin (modV m) 0), (3, .int .i64 (codeSum (m.funcs.take i))), (4, .int .i64 i)], [])) (fun i => i ≤ m.funcs.length ∧ ∀ f ∈ m.funcs.take i, okFB f = true) (fun i => m.funcs.length - i) 0 ⟨Nat.zero_le _, fun f hf => by simp at hf⟩ ⟨⟨⟨_, rfl, .refl _⟩, ⟨_, rfl, .refl _⟩, ⟨_, rfl, .refl _⟩, trivial⟩, .nil⟩ ?_
  rintro i ⟨hi, hok⟩
  repeat' (first
    | (refine go hT 10000 rfl ?_; conv => whnf)
    | refine ops_s rfl (s_boxF rfl rfl rfl ?_)
    | refine ops_s rfl (s_listF hT rfl rfl rfl rfl rfl rfl rfl rfl ?_)
    | refine ops_g rfl (g_len hT rfl rfl rfl rfl rfl rfl (List.length_map _)) ?_
    | refine op_guard rfl rfl rfl rfl (fun h => ?_) (fun h => ?_))
  refine run_split rfl (fun hlt => ?_) (fun hlt => ?_)
  · simp only [decide_eq_true_eq, Int.ofNat_lt] at hlt
    have hin := List.getElem_mem hlt
    have hcl := hs.code _ hin
    have bad : okFB m.funcs[i] = false → rightModB m = false := fun hb => not_right fun hr => by rw [hr.ok _ hin] at hb; cases hb
    refine go hT 10000 rfl ?_
    conv => whnf
    refine ops_g rfl (g_indexM (xs := m.funcs) hT rfl rfl rfl rfl rfl hlt rfl) ?_
    refine go hT 10000 rfl ?_
    conv => whnf
    refine ops_s rfl (s_alloc hT rfl rfl rfl fun b5 => ?_)
    refine go hT 10000 rfl ?_
    conv => whnf
    refine ops_s rfl (s_store (cs' := funcV m.funcs[i]) hT rfl rfl rfl .here rfl ?_)
    refine ops_freezeH (t := 5) rfl ?_
    repeat' (first
      | (refine go hT 10000 rfl ?_; conv => whnf)
      | refine ops_s rfl (s_boxF rfl rfl rfl ?_)
      | refine ops_s rfl (s_listF hT rfl rfl rfl rfl rfl rfl rfl rfl ?_)
      | refine ops_g rfl (g_len hT rfl rfl rfl rfl rfl rfl (List.length_map _)) ?_
      | refine op_guard rfl rfl rfl rfl (fun h => ?_) (fun h => ?_))
    all_goals try
      (refine ret_bool rfl rfl rfl ?_
       have h := of_decide_eq_true h
       rw [bad (by
         rw [← Bool.not_eq_true]
         intro hb
         simp only [okFB, Bool.and_eq_true, belowB_one, Bool.not_eq_true', decide_eq_false_iff_not] at hb
         omega)])
    refine run_split rfl (fun h => ?_) (fun h => ?_)
    · have h := of_decide_eq_true h
      refine go hT 10000 rfl ?_
      conv => whnf
      refine ret_bool rfl rfl rfl ?_
      rw [bad (by
         rw [← Bool.not_eq_true]
         intro hb
         simp only [okFB, Bool.and_eq_true, belowB_one, Bool.not_eq_true', decide_eq_false_iff_not] at hb
         omega)]
    · rename_i p1 p2 p3 p4 p5 p6 p7
      simp only [decide_eq_false_iff_not] at h p1 p2 p3 p4 p5 p6 p7
      have hokf : okFB m.funcs[i] = true := by
        simp only [okFB, Bool.and_eq_true, belowB_one, Bool.not_eq_true', decide_eq_false_iff_not]
        omega
      have hall : ∀ f ∈ m.funcs.take (i + 1), okFB f = true := fun f hf => by
        rw [List.take_succ_eq_append_getElem hlt, List.mem_append, List.mem_singleton] at hf
        rcases hf with hf | rfl
        · exact hok f hf
        · exact hokf
      have hb := codeSum_bound _ hok
      have hlen : (m.funcs.take i).length ≤ 12 := by rw [List.length_take]; omega
      refine go hT 10000 rfl ?_
      conv => whnf
      refine ops_g rfl (g_len hT rfl rfl rfl rfl rfl rfl (List.length_map _)) ?_
      refine go hT 10000 rfl ?_
      conv => whnf
      refine ops_g rfl (g_add rfl rfl rfl (by omega)) ?_
      refine go hT 10000 rfl ?_
      conv => whnf
      refine ops_g rfl (g_add rfl rfl rfl (by omega)) ?_
      refine go hT 10000 rfl ?_
      conv => whnf
      refine ⟨i + 1, ⟨hlt, hall⟩, by omega, ⟨⟨_, rfl, .refl _⟩, ⟨_, rfl, ?_⟩, ⟨_, rfl, .refl _⟩, trivial⟩, .nil⟩
      rw [codeSum_take _ _ hlt]
      exact .refl _
  simp only [decide_eq_false_iff_not, Int.ofNat_lt] at hlt
  rw [List.take_of_length_le (by omega)] at hok
  have e1 : m.funcs.take i = m.funcs := List.take_of_length_le (by omega)
  have hmok : ∀ f ∈ m.funcs, OkF f := fun f hf => okFB_spec (hok f hf)
  refine go hT 10000 rfl ?_
  conv => whnf
  refine run_lq (fun i : Nat => ([(1, .pin (modV m) 0), (3, .int .i64 (codeSum m.funcs)), (6, .int .i64 i)], [])) (fun i => i ≤ m.threads.length ∧ ∀ x ∈ m.threads.take i, wrongB m x = false) (fun i => m.threads.length - i) 0 ⟨Nat.zero_le _, fun f hf => by simp at hf⟩ ⟨⟨⟨_, rfl, .refl _⟩, ⟨_, rfl, by rw [e1]; exact .refl _⟩, ⟨_, rfl, .refl _⟩, trivial⟩, .nil⟩ ?_
  rintro j ⟨hj, hwr⟩
  repeat' (first
    | (refine go hT 10000 rfl ?_; conv => whnf)
    | refine ops_s rfl (s_boxF rfl rfl rfl ?_)
    | refine ops_s rfl (s_listF hT rfl rfl rfl rfl rfl rfl rfl rfl ?_)
    | refine ops_g rfl (g_len hT rfl rfl rfl rfl rfl rfl (List.length_map _)) ?_
    | refine op_guard rfl rfl rfl rfl (fun h => ?_) (fun h => ?_))
  refine run_split rfl (fun hjl => ?_) (fun hjl => ?_)
  · simp only [decide_eq_true_eq, Int.ofNat_lt] at hjl
    have hjn := List.getElem_mem hjl
    have bad : wrongB m m.threads[j] = true → rightModB m = false := fun hb => not_right fun hr => by rw [hr.thr _ hjn] at hb; cases hb
    have hwb : ∀ (hb : belowB m.funcs.length [m.threads[j]] = true), wrongB m m.threads[j] = !decide ((m.fn m.threads[j]).params = 0) := fun hb => by
      have hb1 := belowB_one.1 hb
      have hi2 : (m.threads[j]).toNat < m.funcs.length := by omega
      unfold wrongB MModule.fn
      rw [hb, List.getElem?_eq_getElem hi2]
      rfl
    have hnb : ¬ (0 ≤ m.threads[j] ∧ m.threads[j] < m.funcs.length) → wrongB m m.threads[j] = true := fun hx => by
      have : belowB m.funcs.length [m.threads[j]] = false := by
        rw [← Bool.not_eq_true, belowB_one]; exact hx
      unfold wrongB
      rw [this]; rfl
    refine go hT 10000 rfl ?_
    conv => whnf
    refine ops_g rfl (g_indexM (xs := m.threads) hT rfl rfl rfl rfl rfl hjl rfl) ?_
    repeat' (first
      | (refine go hT 10000 rfl ?_; conv => whnf)
      | refine ops_s rfl (s_boxF rfl rfl rfl ?_)
      | refine ops_s rfl (s_listF hT rfl rfl rfl rfl rfl rfl rfl rfl ?_)
      | refine ops_g rfl (g_len hT rfl rfl rfl rfl rfl rfl (List.length_map _)) ?_
      | refine op_guard rfl rfl rfl rfl (fun h => ?_) (fun h => ?_))
    · refine ret_bool rfl rfl rfl ?_
      have h := of_decide_eq_true h
      rw [bad (hnb (by omega))]
    · refine ret_bool rfl rfl rfl ?_
      have h := of_decide_eq_true h
      rw [bad (hnb (by omega))]
    · rename_i h0
      have h0 := of_decide_eq_false h0
      have h1 := of_decide_eq_false h
      have hb : belowB m.funcs.length [m.threads[j]] = true := belowB_one.2 (by omega)
      refine ops_g rfl (g_funcs hT rfl rfl rfl hb) ?_
      refine go hT 10000 rfl ?_
      conv => whnf
      refine run_split rfl (fun h2 => ?_) (fun h2 => ?_)
      · refine go hT 10000 rfl ?_
        conv => whnf
        refine ret_bool rfl rfl rfl ?_
        rw [bad ((hwb hb).trans h2)]
      · refine go hT 10000 rfl ?_
        conv => whnf
        refine ops_g rfl (g_add rfl rfl rfl (by omega)) ?_
        refine go hT 10000 rfl ?_
        conv => whnf
        refine ⟨j + 1, ⟨hjl, fun x hx => ?_⟩, by omega, ⟨⟨_, rfl, .refl _⟩, ⟨_, rfl, .refl _⟩, ⟨_, rfl, .refl _⟩, trivial⟩, .nil⟩
        rw [List.take_succ_eq_append_getElem hjl, List.mem_append, List.mem_singleton] at hx
        rcases hx with hx | rfl
        · exact hwr x hx
        · exact (hwb hb).trans h2
  simp only [decide_eq_false_iff_not, Int.ofNat_lt] at hjl
  rw [List.take_of_length_le (by omega)] at hwr
  refine go hT 10000 rfl ?_
  conv => whnf
  refine run_lq (fun i : Nat => ([(1, .pin (modV m) 0), (3, .int .i64 (codeSum m.funcs)), (8, .int .i64 i)], [])) (fun i => i ≤ m.funcs.length ∧ ∀ f ∈ m.funcs.take i, ∀ o ∈ f.code, rightB m f (sumI m.globals) o = true) (fun i => m.funcs.length - i) 0 ⟨Nat.zero_le _, fun f hf => by simp at hf⟩ ⟨⟨⟨_, rfl, .refl _⟩, ⟨_, rfl, .refl _⟩, ⟨_, rfl, .refl _⟩, trivial⟩, .nil⟩ ?_
  rintro a ⟨ha, hops⟩
  repeat' (first
    | (refine go hT 10000 rfl ?_; conv => whnf)
    | refine ops_s rfl (s_boxF rfl rfl rfl ?_)
    | refine ops_s rfl (s_listF hT rfl rfl rfl rfl rfl rfl rfl rfl ?_)
    | refine ops_g rfl (g_len hT rfl rfl rfl rfl rfl rfl (List.length_map _)) ?_
    | refine op_guard rfl rfl rfl rfl (fun h => ?_) (fun h => ?_))
  refine run_split rfl (fun hal => ?_) (fun hal => ?_)
  · simp only [decide_eq_true_eq, Int.ofNat_lt] at hal
    have han := List.getElem_mem hal
    have hcl := hs.code _ han
    refine go hT 10000 rfl ?_
    conv => whnf
    refine run_lq (fun k : Nat => ([(1, .pin (modV m) 0), (3, .int .i64 (codeSum m.funcs)), (8, .int .i64 a), (9, .int .i64 k)], [])) (fun k => k ≤ m.funcs[a].code.length ∧ ∀ o ∈ m.funcs[a].code.take k, rightB m m.funcs[a] (sumI m.globals) o = true) (fun k => m.funcs[a].code.length - k) 0 ⟨Nat.zero_le _, fun f hf => by simp at hf⟩ ⟨⟨⟨_, rfl, .refl _⟩, ⟨_, rfl, .refl _⟩, ⟨_, rfl, .refl _⟩, ⟨_, rfl, .refl _⟩, trivial⟩, .nil⟩ ?_
    rintro k ⟨hk, hko⟩
    repeat' (first
      | (refine go hT 10000 rfl ?_; conv => whnf)
      | refine ops_s rfl (s_boxF rfl rfl rfl ?_)
      | refine ops_s rfl (s_listF hT rfl rfl rfl rfl rfl rfl rfl rfl ?_)
      | refine ops_g rfl (g_len hT rfl rfl rfl rfl rfl rfl (List.length_map _)) ?_
      | refine op_guard rfl rfl rfl rfl (fun h => ?_) (fun h => ?_)
      | refine ops_g rfl (g_indexM (xs := m.funcs) hT rfl rfl rfl rfl rfl hal rfl) ?_)
    refine run_split rfl (fun hkl => ?_) (fun hkl => ?_)
    · simp only [decide_eq_true_eq, Int.ofNat_lt] at hkl
      have hkn := List.getElem_mem hkl
      refine go hT 10000 rfl ?_
      conv => whnf
      intro id
      refine run_drw hT rfl rfl ?_ id
      repeat' (first
        | (refine god hT 1 rfl ?_; conv => whnf)
        | refine vd_fin rfl ?_
        | refine q_g rfl (fun S' => (g_len hT rfl rfl rfl rfl rfl rfl (List.length_map _)).qs) ?_
        | refine q_guard rfl rfl rfl rfl (fun h => ?_) (fun h => ?_)
        | refine q_g rfl (fun S' => (g_indexM (xs := m.funcs) hT rfl rfl rfl rfl rfl hal rfl).qs) ?_
        | refine q_g rfl (fun S' => (g_indexM (xs := m.funcs[a].code) hT rfl rfl rfl rfl rfl hkl rfl).qs) ?_)
      refine vd_eff1 rfl (eff rfl rfl (s_pure hT rfl rfl rfl rfl rfl rfl (opRef hT m hs hmok hg m.funcs[a] (hmok _ han) m.funcs[a].code[k] (hs.args _ han _ hkn)) (And.intro trivial ?_)))
      refine god hT 1 rfl ?_
      conv => whnf
      refine vd_fin rfl ?_
      refine go hT 10000 rfl ?_
      conv => whnf
      refine run_split rfl (fun h2 => ?_) (fun h2 => ?_)
      · refine go hT 10000 rfl ?_
        conv => whnf
        refine ret_bool rfl rfl rfl ?_
        rw [not_right fun hr => by rw [hr.ops _ han _ hkn] at h2; cases h2]
      · refine go hT 10000 rfl ?_
        conv => whnf
        refine ops_g rfl (g_add rfl rfl rfl (by omega)) ?_
        refine go hT 10000 rfl ?_
        conv => whnf
        refine ⟨k + 1, ⟨hkl, fun o ho => ?_⟩, by omega, ⟨⟨_, rfl, .refl _⟩, ⟨_, rfl, .refl _⟩, ⟨_, rfl, .refl _⟩, ⟨_, rfl, .refl _⟩, trivial⟩, .nil⟩
        rw [List.take_succ_eq_append_getElem hkl, List.mem_append, List.mem_singleton] at ho
        rcases ho with ho | rfl
        · exact hko o ho
        · exact nf h2
    · simp only [decide_eq_false_iff_not, Int.ofNat_lt] at hkl
      rw [List.take_of_length_le (by omega)] at hko
      refine go hT 10000 rfl ?_
      conv => whnf
      refine ops_g rfl (g_add rfl rfl rfl (by omega)) ?_
      refine go hT 10000 rfl ?_
      conv => whnf
      refine ⟨a + 1, ⟨hal, fun f hf => ?_⟩, by omega, ⟨⟨_, rfl, .refl _⟩, ⟨_, rfl, .refl _⟩, ⟨_, rfl, .refl _⟩, trivial⟩, .nil⟩
      rw [List.take_succ_eq_append_getElem hal, List.mem_append, List.mem_singleton] at hf
      rcases hf with hf | rfl
      · exact hops f hf
      · exact hko
  simp only [decide_eq_false_iff_not, Int.ofNat_lt] at hal
  rw [List.take_of_length_le (by omega)] at hops
  refine go hT 10000 rfl ?_
  conv => whnf
  refine ret_bool rfl rfl rfl ?_
  refine congrArg V.ob ?_
  rw [Bool.eq_iff_iff, right_iff, decide_eq_true_eq]
  exact ⟨fun hc => ⟨q1, q2, q3, by omega, by omega, by omega, by omega, by omega, by omega, by omega, hc, hok, hwr, hops⟩, fun hr => hr.cs⟩
end
end Go.Vw
namespace Go.Vw
open Go.RowKit Go.Am Go.Proofs
attribute [local irreducible] VOps VRun VNext VD VDn VDq Ret
theorem threads_short {m : MModule} (hs : Small m) (hr : rightModB m = true) : ∀ {fs : List Int} {us vs : List (List (List Int))}, (∀ f ∈ fs, f ∈ m.threads) → Threads m fs us vs → (∀ t ∈ us, t.length < 2000000 ∧ ∀ r ∈ t, r.length < 2000000) ∧ (∀ t ∈ vs, t.length < 2000000 ∧ ∀ r ∈ t, r.length < 2000000)
  | _, _, _, _, .nil => ⟨fun t ht => (by cases ht), fun t ht => (by cases ht)⟩
  | _, _, _, hf, .cons h k => by
    obtain ⟨k1, k2⟩ := threads_short hs hr (fun f h => hf f (List.mem_cons_of_mem _ h)) k
    have H := thread_facts hs hr (hf _ (List.mem_cons_self ..)) h
    have hfs := hs.funcs
    have hla := H.la
    have hlb := H.lb
    refine ⟨fun t ht => ?_, fun t ht => ?_⟩
    · rcases List.mem_cons.1 ht with rfl | ht
      · refine ⟨by omega, fun r hr => ?_⟩
        obtain ⟨i, hi, rfl⟩ := List.mem_iff_getElem.1 hr
        exact H.short i hi
      · exact k1 t ht
    · rcases List.mem_cons.1 ht with rfl | ht
      · refine ⟨by omega, fun r hr => ?_⟩
        obtain ⟨i, hi, rfl⟩ := List.mem_iff_getElem.1 hr
        rw [← H.row i (by omega) hi]
        exact H.short i (by omega)
      · exact k2 t ht
section
variable (hT : TabOk tab Tryz.prog)
include hT
set_option maxHeartbeats 2000000 in
theorem heldFinds (m : MModule) (hs : Small m) (hn : SmallN m) (S : Hp) (hal : VC Tryz.prog 6 [] S fun v S' => v = .ob true ∧ S' = S) : VC Tryz.prog 3 [.agg (modV m)] S fun v _ => v = .ob true := by
  refine VC.code hT 37 rfl rfl rfl rfl fun F W S0 => ?_
  refine go hT 10000 rfl ?_
  conv => whnf
  refine ops_s rfl (s_boxF rfl rfl rfl ?_)
  refine go hT 10000 rfl ?_
  conv => whnf
  refine ops_s rfl (s_call hT rfl rfl rfl rfl rfl rfl (hal.mono ?_))
  rintro _ _ ⟨rfl, rfl⟩
  refine go hT 10000 rfl ?_
  conv => whnf
  refine run_split rfl (fun h => by cases h) (fun _ => ?_)
  refine go hT 10000 rfl ?_
  conv => whnf
  refine ops_s rfl (s_pureR hT rfl rfl rfl rfl rfl rfl (great hT m hs hn) ?_)
  rintro _ ⟨b, rfl⟩
  refine go hT 10000 rfl ?_
  conv => whnf
  refine run_split rfl (fun _ => ?_) (fun _ => ?_)
  · refine go hT 10000 rfl ?_
    conv => whnf
    exact ret_bool rfl rfl rfl rfl
  refine go hT 10000 rfl ?_
  conv => whnf
  refine ops_s rfl (s_pure hT rfl rfl rfl rfl rfl rfl (copyModule hT m hs) ?_)
  refine go hT 10000 rfl ?_
  conv => whnf
  refine ops_s rfl (s_alloc hT rfl rfl rfl fun b3 => ?_)
  refine go hT 10000 rfl ?_
  conv => whnf
  refine ops_s rfl (s_store (cs' := modV m) hT rfl rfl rfl .here rfl ?_)
  refine ops_freezeH (t := 3) rfl ?_
  refine go hT 10000 rfl ?_
  conv => whnf
  refine ops_s rfl (s_pureR hT rfl rfl rfl rfl rfl rfl (findR hT m hs) ?_)
  rintro _ ⟨must, may, e1, rfl, hv⟩
  refine go hT 10000 rfl ?_
  conv => whnf
  refine ops_s rfl (s_alloc hT rfl rfl rfl fun b4 => ?_)
  refine go hT 10000 rfl ?_
  conv => whnf
  refine ops_s rfl (s_store (cs' := heldV must may) hT rfl rfl rfl .here rfl ?_)
  refine ops_freezeH (t := 4) rfl ?_
  refine go hT 10000 rfl ?_
  conv => whnf
  refine ops_s rfl (s_pureR hT rfl rfl rfl rfl rfl rfl (findRef hT m hs (rightRef hT m hs)) ?_)
  rintro _ ⟨must', may', e2, rfl, hv'⟩
  have hsame : must' = must ∧ may' = may ∧ e2 = e1 ∧ must.length < 2000000 ∧ may.length = must.length ∧ (∀ t ∈ must, t.length < 2000000 ∧ ∀ r ∈ t, r.length < 2000000) ∧ (∀ t ∈ may, t.length < 2000000 ∧ ∀ r ∈ t, r.length < 2000000) := by
    have hth := hs.threads
    rcases hv with ⟨hr, ht, rfl⟩ | ⟨hr, rfl, rfl, rfl⟩
    · rcases hv' with ⟨_, ht', rfl⟩ | ⟨hr', _⟩
      · obtain ⟨q1, q2⟩ := threads_same hr (fun f h => h) ht ht'
        obtain ⟨l1, l2⟩ := ht.lens
        obtain ⟨s1, s2⟩ := threads_short hs hr (fun f h => h) ht
        exact ⟨q1.symm, q2.symm, rfl, by omega, by omega, s1, s2⟩
      · rw [hr] at hr'; cases hr'
    · rcases hv' with ⟨hr', _⟩ | ⟨_, rfl, rfl, rfl⟩
      · rw [hr] at hr'; cases hr'
      · exact ⟨rfl, rfl, rfl, by decide, rfl, fun t ht => (by cases ht), fun t ht => (by cases ht)⟩
  obtain ⟨rfl, rfl, rfl, hl, hle, h1, h2⟩ := hsame
  refine go hT 10000 rfl ?_
  conv => whnf
  refine ops_s rfl (s_alloc hT rfl rfl rfl fun b6 => ?_)
  refine go hT 10000 rfl ?_
  conv => whnf
  refine ops_s rfl (s_store (cs' := heldV must' may') hT rfl rfl rfl .here rfl ?_)
  refine ops_freezeH (t := 6) rfl ?_
  repeat' (first
    | (exfalso; simp at h; done)
    | (refine go hT 10000 rfl ?_; conv => whnf)
    | refine op_guard rfl rfl rfl rfl (fun h => ?_) (fun h => ?_)
    | refine ops_s rfl (s_pure hT rfl rfl rfl rfl rfl rfl (sameHeld_self hT must' may' hl hle h1 h2) ?_)
    | refine ops_s rfl (s_pure hT rfl rfl rfl rfl rfl rfl (sameModule_self hT m hs) ?_))
  exact ret_bool rfl rfl rfl rfl
end
end Go.Vw
