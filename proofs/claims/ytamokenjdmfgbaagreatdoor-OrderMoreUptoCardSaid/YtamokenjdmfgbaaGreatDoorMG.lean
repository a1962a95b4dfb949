/- What order.Find, order.Check and order.Ranks answer; no condition beyond bounds on lengths. -/
import Derived.Test.YtamokenjdmfgbaaGreatDoorMF
import Derived.Test.YtamokenjdmfgbaaGreatDoorME
import Derived.Test.YtamokenjdmfgbaaGreatDoorMD
namespace Go.Vw
open Go.RowKit Go.Am Go.Proofs Go.Ord
attribute [local irreducible] VOps VRun VNext VD VDn VDq Ret
def prK (p : Int × Int) : V × V := (prV p, .agg [])
def addK (ks : List (Int × Int)) (p : Int × Int) : List (Int × Int) := if p ∈ ks then ks else ks ++ [p]
theorem keyP (p q : Int × Int) : keyB tab 44 (prV p) (prV q) = some (decide (p = q)) := by
  rw [pair_eq]
  have : keyB tab 44 (prV p) (prV q) = some (decide (p.1 = q.1) && (decide (p.2 = q.2) && true)) := by rfl
  rw [this, Bool.and_true]
theorem putP (p : Int × Int) : ∀ ks : List (Int × Int), PutV tab 44 (prV p) (.agg []) (ks.map prK) ((addK ks p).map prK)
  | [] => .nil
  | q :: ks => by
    by_cases h : p = q
    · subst h
      have : addK (p :: ks) p = p :: ks := by simp [addK]
      rw [this]
      exact .hit (by rw [keyP, decide_eq_true rfl])
    · have : addK (q :: ks) p = q :: addK ks p := by
        simp only [addK, List.mem_cons, h, false_or]
        split <;> rfl
      rw [this]
      exact .miss (by rw [keyP, decide_eq_false h]) (putP p ks)
theorem addK_nodup {ks : List (Int × Int)} (h : ks.Nodup) (p : Int × Int) : (addK ks p).Nodup := by
  unfold addK
  split
  · exact h
  · next hn => exact List.nodup_append.2 ⟨h, by simp, fun a ha b hb e => hn (by rw [List.mem_singleton.1 hb] at e; exact e ▸ ha)⟩
theorem addK_mem (ks : List (Int × Int)) (p x : Int × Int) : x ∈ addK ks p ↔ x ∈ ks ∨ x = p := by
  unfold addK
  split
  · next h => exact ⟨.inl, fun k => k.elim id fun e => e ▸ h⟩
  · simp
/-- The keys that are laid behind some stops. -/
structure KeysOf (L : Nat) (pre : List Stp) (ks : List (Int × Int)) : Prop where
  nodup : ks.Nodup
  mem : ∀ x, x ∈ ks ↔ ∃ s ∈ pre, ∃ l, l < L ∧ s.1.kind = 16 ∧ hasN s.2.2 l = true ∧ x = ((l : Int), s.1.a)
/-- .. and behind i locks of one more. -/
structure KeysAt (L : Nat) (pre : List Stp) (s : Stp) (i : Nat) (ks : List (Int × Int)) : Prop where
  nodup : ks.Nodup
  mem : ∀ x, x ∈ ks ↔ (∃ s ∈ pre, ∃ l, l < L ∧ s.1.kind = 16 ∧ hasN s.2.2 l = true ∧ x = ((l : Int), s.1.a)) ∨ ∃ l, l < i ∧ s.1.kind = 16 ∧ hasN s.2.2 l = true ∧ x = ((l : Int), s.1.a)
theorem KeysOf.at {L : Nat} {pre : List Stp} {ks : List (Int × Int)} (h : KeysOf L pre ks) (s : Stp) : KeysAt L pre s 0 ks := ⟨h.nodup, fun x => by
  rw [h.mem]
  constructor
  · exact .inl
  · rintro (h | ⟨l, hl, _⟩)
    · exact h
    · omega⟩
theorem KeysAt.done {L : Nat} {pre : List Stp} {s : Stp} {ks : List (Int × Int)} (h : KeysAt L pre s L ks) : KeysOf L (pre ++ [s]) ks := ⟨h.nodup, fun x => by
  rw [h.mem]
  constructor
  · rintro (⟨s', hs, h⟩ | h)
    · exact ⟨s', by simp [hs], h⟩
    · exact ⟨s, by simp, h⟩
  · rintro ⟨s', hs, h⟩
    rcases List.mem_append.1 hs with hs | hs
    · exact .inl ⟨s', hs, h⟩
    · rw [List.mem_singleton.1 hs] at h
      exact .inr h⟩
theorem KeysAt.skip {L : Nat} {pre : List Stp} {s : Stp} {i : Nat} {ks : List (Int × Int)} (h : KeysAt L pre s i ks) (hn : ¬ (s.1.kind = 16 ∧ hasN s.2.2 i = true)) : KeysAt L pre s (i + 1) ks := ⟨h.nodup, fun x => by
  rw [h.mem]
  constructor
  · rintro (h | ⟨l, hl, h⟩)
    · exact .inl h
    · exact .inr ⟨l, by omega, h⟩
  · rintro (h | ⟨l, hl, h1, h2, h3⟩)
    · exact .inl h
    · rcases Nat.lt_or_ge l i with hli | hli
      · exact .inr ⟨l, hli, h1, h2, h3⟩
      · have : l = i := by omega
        subst this
        exact absurd ⟨h1, h2⟩ hn⟩
theorem KeysAt.put {L : Nat} {pre : List Stp} {s : Stp} {i : Nat} {ks : List (Int × Int)} (h : KeysAt L pre s i ks) (h1 : s.1.kind = 16) (h2 : hasN s.2.2 i = true) : KeysAt L pre s (i + 1) (addK ks ((i : Int), s.1.a)) := ⟨addK_nodup h.nodup _, fun x => by
  rw [addK_mem, h.mem]
  constructor
  · rintro ((h | ⟨l, hl, h⟩) | h)
    · exact .inl h
    · exact .inr ⟨l, by omega, h⟩
    · exact .inr ⟨i, by omega, h1, h2, h⟩
  · rintro (h | ⟨l, hl, h3, h4, h5⟩)
    · exact .inl (.inl h)
    · rcases Nat.lt_or_ge l i with hli | hli
      · exact .inl (.inr ⟨l, hli, h3, h4, h5⟩)
      · have : l = i := by omega
        subst this
        exact .inr h5⟩
theorem keys_len {L : Nat} (hL : L ≤ 8) {ss : List Stp} {ks : List (Int × Int)} (h : KeysOf L ss ks) (hs : ∀ s ∈ ss, 0 ≤ s.1.a ∧ s.1.a < L) : ks.length ≤ 64 := by
  have hr : ∀ x ∈ ks, 0 ≤ x.1 ∧ x.1 < 8 ∧ 0 ≤ x.2 ∧ x.2 < 8 := fun x hx => by
    obtain ⟨s, h1, l, hl, _, _, rfl⟩ := (h.mem x).1 hx
    have := hs s h1
    dsimp only
    omega
  have hn : (ks.map fun x => (x.1 * 8 + x.2).toNat).Nodup := by
    unfold List.Nodup
    rw [List.pairwise_map]
    refine h.nodup.imp_of_mem fun {x y} hx hy hne e => hne ?_
    have a := hr x hx
    have b := hr y hy
    exact Prod.ext (by omega) (by omega)
  have := nodup_le 64 _ hn fun x hx => by
    obtain ⟨y, hy, rfl⟩ := List.mem_map.1 hx
    have := hr y hy
    omega
  simpa using this
/-- Stamped keys are keys. -/
theorem unstamp {ks : List (Int × Int)} {es' : List (Nat × V × V)} (h : es'.map (·.2) = ks.map prK) : ∃ es : List (Nat × Int × Int), es' = es.map prB ∧ es.map (·.2) = ks := by
  refine ⟨(es'.map (·.1)).zip ks, ?_, ?_⟩
  · induction ks generalizing es' with
    | nil => cases es' with
      | nil => rfl
      | cons => cases h
    | cons k ks ih =>
      cases es' with
      | nil => cases h
      | cons e es' =>
        simp only [List.map_cons, List.cons.injEq] at h
        simp only [List.map_cons, List.zip_cons_cons]
        rw [← ih h.2]
        congr 1
        exact Prod.ext rfl h.1
  · have hl : es'.length = ks.length := by simpa using congrArg List.length h
    rw [List.map_snd_zip (by simp [hl])]
theorem lens_ok {m : MModule} (hs : Small m) (hr : rightModB m = true) {us vs : List (List (List Int))} (h : Threads m m.threads us vs) : Lens m vs := by
  have hl := h.lens
  have tk := tabs_ok hs hr h
  have key : ∀ r ∈ vs, ∃ (t : Nat) (h1 : t < us.length) (h2 : t < vs.length), r = vs[t] := fun r hr' => by
    obtain ⟨t, ht, rfl⟩ := List.mem_iff_getElem.1 hr'
    exact ⟨t, by omega, ht, rfl⟩
  refine ⟨by rw [hl.2]; exact hs.threads, fun r hr' => ?_, fun r hr' x hx => ?_⟩
  · obtain ⟨t, h1, h2, rfl⟩ := key r hr'
    rw [(tk.fn t h1 h2).2]; exact hs.funcs
  · obtain ⟨t, h1, h2, rfl⟩ := key r hr'
    obtain ⟨f, hf, rfl⟩ := List.mem_iff_getElem.1 hx
    have e1 := tk.fn t h1 h2
    have hfu : f < us[t].length := by omega
    refine Nat.lt_of_le_of_lt (tk.op t f h1 h2 hfu hf).2 ?_
    have hfl : f < m.funcs.length := by omega
    unfold MModule.fn
    rw [Int.toNat_natCast, List.getElem?_eq_getElem hfl]
    exact hs.code _ (List.getElem_mem hfl)
section
variable [Drw] (hT : TabOk tab Tryz.prog)
include hT
theorem stopsOf (m : MModule) (us vs : List (List (List Int))) : Pure Tryz.prog 40 [.agg (modV m), .agg (heldV us vs)] (.func 89 [] [.pin (heldV us vs) 0, .pin (modV m) 0]) := by
  refine VC.code hT 6 rfl rfl rfl rfl fun F w S0 => ?_
  repeat' (first
    | (refine go hT 10000 rfl ?_; conv => whnf)
    | refine ops_s rfl (s_boxF rfl rfl rfl ?_)
    | refine ops_s rfl (s_listF hT rfl rfl rfl rfl rfl rfl rfl rfl ?_)
    | refine ops_g rfl (g_len hT rfl rfl rfl rfl rfl rfl (List.length_map _)) ?_
    | refine op_guard rfl rfl rfl rfl (fun h => ?_) (fun h => ?_))
  exact ret_of (.tmp rfl .nil) rfl
/-- What order.find answers. -/
def FindE (m : MModule) (v : V) : Prop := (rightModB m = true ∧ ∃ us vs, Threads m m.threads us vs ∧ v = .tup [.slice .no ((edgesP m.locks.length (stopsP m us vs)).map prs), .agg (heldV us vs), .int .i64 0]) ∨ (rightModB m = false ∧ v = .tup [.slice .no [], .agg (heldV [] []), .int .i64 70])
set_option maxRecDepth 100000 in
set_option maxHeartbeats 2000000 in
theorem findE (m : MModule) (hs : Small m) : PureR Tryz.prog 37 [.agg (modV m)] (FindE m) := by
  refine VC.code hT 54 rfl rfl rfl rfl fun F w S0 => ?_
  refine go hT 10000 rfl ?_
  conv => whnf
  refine ops_s rfl (s_boxF rfl rfl rfl ?_)
  refine go hT 10000 rfl ?_
  conv => whnf
  refine ops_s rfl (s_alloc hT rfl rfl rfl fun b3 => ?_)
  refine go hT 10000 rfl ?_
  conv => whnf
  refine ops_s rfl (s_pureR hT rfl rfl rfl rfl rfl rfl (findR hT m hs) ?_)
  rintro _ ⟨us, vs, e, rfl, hc⟩
  refine go hT 10000 rfl ?_
  conv => whnf
  refine ops_s rfl (s_alloc hT rfl rfl rfl fun b5 => ?_)
  refine go hT 10000 rfl ?_
  conv => whnf
  refine ops_s rfl (s_store (cs' := heldV us vs) hT rfl rfl rfl .here rfl ?_)
  refine go hT 10000 rfl ?_
  conv => whnf
  refine run_split rfl (fun h => ?_) (fun h => ?_)
  · simp only [Bool.not_eq_true', decide_eq_false_iff_not] at h
    rcases hc with ⟨_, _, rfl⟩ | ⟨hr, rfl, rfl, rfl⟩
    · exact absurd rfl h
    refine go hT 10000 rfl ?_
    conv => whnf
    intro id
    refine run_drw hT rfl rfl ?_ id
    repeat' (first
      | (refine god hT 1 rfl ?_; conv => whnf)
      | refine vd_fin rfl ?_
      | refine q_g rfl (fun S' => (g_len hT rfl rfl rfl rfl rfl rfl (List.length_map _)).qs) ?_
      | refine q_guard rfl rfl rfl rfl (fun h => ?_) (fun h => ?_)
      | refine q_load hT rfl rfl rfl .here rfl ?_)
    refine vd_eff1 rfl (eff rfl rfl (s_store (cs' := heldV [] []) hT rfl rfl rfl (.there .here) rfl (And.intro trivial ?_)))
    refine god hT 1 rfl ?_
    conv => whnf
    refine vd_fin rfl ?_
    refine go hT 10000 rfl ?_
    conv => whnf
    refine ret_of (.tmpL rfl (V.Le.slice _ _) (.cell rfl (.there .here) rfl (.tmp rfl .nil))) (.inr ⟨hr, rfl⟩)
  · simp only [Bool.not_eq_false', decide_eq_true_eq] at h
    subst h
    rcases hc with ⟨hr, hth, _⟩ | ⟨_, _, _, h0⟩
    case inr => exact absurd h0 (by decide)
    have hL := (frame_facts (by simp only [rightModB, Bool.and_eq_true] at hr; exact hr.1)).1
    have tk := tabs_ok hs hr hth
    have hso : ∀ s ∈ stopsP m us vs, StopOk m s := fun s h => stop_ok hs hr hth h
    refine go hT 10000 rfl ?_
    conv => whnf
    refine ops_s rfl (s_makeMap rfl fun b20 => ?_)
    refine go hT 10000 rfl ?_
    conv => whnf
    refine ops_s rfl (s_alloc hT rfl rfl rfl fun b7 => ?_)
    refine go hT 10000 rfl ?_
    conv => whnf
    refine ops_s rfl (s_store (cs' := [.map b20]) hT rfl rfl rfl .here rfl ?_)
    refine go hT 10000 rfl ?_
    conv => whnf
    refine ops_freezeH (t := 7) rfl ?_
    refine ops_freeze (t := 5) rfl (.there .here) ?_
    refine ops_sub (.keep (.drop (.refl _))) ?_
    refine go hT 10000 rfl ?_
    conv => whnf
    refine ops_s rfl (s_pure hT rfl rfl rfl rfl rfl rfl (stopsOf hT m us vs) ?_)
    refine go hT 10000 rfl ?_
    conv => whnf
    refine run_rangeL hT rfl rfl rfl rfl rfl fun l L hL' => ?_
    refine (stops1 hT l m us vs tk (lens_ok hs hr hth) (fun pre S => ∃ ks, KeysOf m.locks.length pre ks ∧ S = [.loop false l L, .map b20 (ks.map prK), .cells b3 [.slice .zero [], .slice .zero []] 81]) ?_ _ ⟨[], ⟨.nil, fun x => by simp⟩, rfl⟩).mono ?_
    · rintro pre ⟨o, p⟩ S1 ⟨ks0, hk0, rfl⟩ hmem _
      have so := hso _ hmem
      obtain ⟨u, v, e, hv⟩ := so.held
      dsimp only at e
      subst e
      have hv8 : v < 256 := lt_of_bits fun i hi => by have := hv i hi; omega
      refine VY.ofL hL' .here rfl rfl fun m0 F w S0 => ?_
      refine go hT 10000 rfl ?_
      conv => whnf
      refine ops_s rfl (s_alloc hT rfl rfl rfl fun b8 => ?_)
      refine go hT 10000 rfl ?_
      conv => whnf
      refine ops_s rfl (s_store (cs' := stpV (o, (u : Int), (v : Int))) hT rfl rfl rfl .here rfl ?_)
      refine go hT 10000 rfl ?_
      conv => whnf
      refine ⟨rfl, _, .there .here, fun F w S0 ds => ?_⟩
      refine go hT 10000 rfl ?_
      conv => whnf
      refine ops_freezeH (t := 8) rfl ?_
      refine ops_g rfl (g_len hT rfl rfl rfl rfl rfl rfl (List.length_map _)) ?_
      refine go hT 10000 rfl ?_
      conv => whnf
      refine run_lq (fun x : Nat × List (Int × Int) => ([(1, .pin (modV m) 0), (7, .pin [.map b20] 0), (8, .pin (stpV (o, (u : Int), (v : Int))) 0), (27, .int .i64 m.locks.length), (28, .int .i64 x.1)], [.loop true l L, .map b20 (x.2.map prK), .cells b3 [.slice .zero [], .slice .zero []] 81]))
        (fun x => x.1 ≤ m.locks.length ∧ KeysAt m.locks.length pre (o, (u : Int), (v : Int)) x.1 x.2) (fun x => m.locks.length - x.1) (0, ks0) ⟨Nat.zero_le _, hk0.at _⟩ ⟨⟨⟨_, rfl, .refl _⟩, ⟨_, rfl, .refl _⟩, ⟨_, rfl, .refl _⟩, ⟨_, rfl, .refl _⟩, ⟨_, rfl, .refl _⟩, trivial⟩, .refl _⟩ ?_
      rintro ⟨i, ks⟩ ⟨hi, hk⟩
      dsimp only at hi hk
      refine go hT 10000 rfl ?_
      conv => whnf
      refine run_split rfl (fun hlt => ?_) (fun hlt => ?_)
      · simp only [decide_eq_true_eq, Int.ofNat_lt] at hlt
        refine go hT 10000 rfl ?_
        conv => whnf
        refine op_guard rfl rfl rfl rfl (fun h16 => ?_) (fun h16 => ?_)
        · simp only [decide_eq_true_eq] at h16
          refine go hT 10000 rfl ?_
          conv => whnf
          refine ops_s rfl (s_pure hT rfl rfl rfl rfl rfl rfl (hasP hT v i hv8 (by omega)) ?_)
          refine go hT 10000 rfl ?_
          conv => whnf
          refine run_split rfl (fun hh => ?_) (fun hh => ?_)
          · have hk2 := hk.put h16 (show hasN (v : Int) i = true by unfold hasN; rw [Int.toNat_natCast]; exact hh)
            refine go hT 10000 rfl ?_
            conv => whnf
            refine ops_s rfl (s_mapUpdate hT (.inl rfl) rfl rfl rfl rfl rfl (.there .here) (putP ((i : Int), o.a) ks) ?_)
            refine go hT 10000 rfl ?_
            conv => whnf
            refine ops_g rfl (g_add rfl rfl rfl (by omega)) ?_
            refine go hT 10000 rfl ?_
            conv => whnf
            exact ⟨(i + 1, _), ⟨hlt, hk2⟩, by dsimp only; omega, ⟨⟨_, rfl, .refl _⟩, ⟨_, rfl, .refl _⟩, ⟨_, rfl, .refl _⟩, ⟨_, rfl, .refl _⟩, ⟨_, rfl, .refl _⟩, trivial⟩, .refl _⟩
          · have hk2 := hk.skip (fun e => by
              have e2 : hasN (v : Int) i = true := e.2
              unfold hasN at e2
              rw [Int.toNat_natCast, hh] at e2; cases e2)
            refine go hT 10000 rfl ?_
            conv => whnf
            refine ops_g rfl (g_add rfl rfl rfl (by omega)) ?_
            refine go hT 10000 rfl ?_
            conv => whnf
            exact ⟨(i + 1, _), ⟨hlt, hk2⟩, by dsimp only; omega, ⟨⟨_, rfl, .refl _⟩, ⟨_, rfl, .refl _⟩, ⟨_, rfl, .refl _⟩, ⟨_, rfl, .refl _⟩, ⟨_, rfl, .refl _⟩, trivial⟩, .refl _⟩
        · simp only [decide_eq_false_iff_not] at h16
          have hk2 := hk.skip (fun e => h16 e.1)
          refine go hT 10000 rfl ?_
          conv => whnf
          refine ops_g rfl (g_add rfl rfl rfl (by omega)) ?_
          refine go hT 10000 rfl ?_
          conv => whnf
          exact ⟨(i + 1, _), ⟨hlt, hk2⟩, by dsimp only; omega, ⟨⟨_, rfl, .refl _⟩, ⟨_, rfl, .refl _⟩, ⟨_, rfl, .refl _⟩, ⟨_, rfl, .refl _⟩, ⟨_, rfl, .refl _⟩, trivial⟩, .refl _⟩
      · simp only [decide_eq_false_iff_not, Int.ofNat_lt] at hlt
        have : i = m.locks.length := by omega
        subst this
        refine go hT 10000 rfl ?_
        conv => whnf
        exact ⟨rfl, _, .here, rfl, ks, hk.done, rfl⟩
    · rintro _ S' hj
      obtain ⟨ks, hk, rfl⟩ := hj
      refine ⟨_, rfl, fun σ' h1 h2 => ?_⟩
      obtain ⟨r', m', n', F', w', S0', ds'⟩ := σ'
      dsimp only at h1 h2
      subst h1 h2
      refine go hT 10000 rfl ?_
      conv => whnf
      refine ops_s rfl (s_pure hT rfl rfl rfl rfl rfl rfl (keysOf hT b20) ?_)
      refine go hT 10000 rfl ?_
      conv => whnf
      have hlk := keys_len hL hk fun s h => (hso s h).lock
      refine ops_s rfl (s_call hT rfl rfl rfl rfl rfl rfl ((VC.stamped (Q := fun v S' => v = .slice .no ((edgesP m.locks.length (stopsP m us vs)).map prs) ∧ S' = [.map b20 (ks.map prK), .cells b3 [.slice .zero [], .slice .zero []] 81]) fun es' cl he => ?_).mono ?_))
      · obtain ⟨es, rfl, rfl⟩ := unstamp he
        rw [List.length_map] at hlk
        refine ((sortedF hT b20 cl es (by omega)).frame [.cells b3 [.slice .zero [], .slice .zero []] 81]).less ?_
        rintro v S' ⟨S1, rfl, ys, hp, hsrt, rfl, rfl⟩
        refine ⟨_, [.map b20 ((es.map (·.2)).map prK), .cells b3 [.slice .zero [], .slice .zero []] 81], .refl _, .stamps ?_ (.refl _), ?_⟩
        · rw [List.map_map, List.map_map]; rfl
        · rw [keys_edges (fun s h => (hso s h).lock) hk.nodup hk.mem hp hsrt]
          exact ⟨rfl, rfl⟩
      · rintro _ S' ⟨rfl, rfl⟩
        refine go hT 10000 rfl ?_
        conv => whnf
        intro id
        refine run_drw hT rfl rfl ?_ id
        repeat' (first
          | (refine god hT 1 rfl ?_; conv => whnf)
          | refine vd_fin rfl ?_
          | refine q_g rfl (fun S' => (g_len hT rfl rfl rfl rfl rfl rfl (List.length_map _)).qs) ?_
          | refine q_guard rfl rfl rfl rfl (fun h => ?_) (fun h => ?_))
        refine vd_eff1 rfl (eff rfl rfl (s_store (cs' := heldV us vs) hT rfl rfl rfl (.there .here) rfl (And.intro trivial ?_)))
        refine god hT 1 rfl ?_
        conv => whnf
        refine vd_fin rfl ?_
        refine go hT 10000 rfl ?_
        conv => whnf
        exact ret_of (.tmp rfl (.cell rfl (.there .here) rfl (.tmp rfl .nil))) (.inl ⟨hr, us, vs, hth, rfl⟩)
end
end Go.Vw
namespace Go.Vw
open Go.RowKit Go.Am Go.Proofs Go.Ord
attribute [local irreducible] VOps VRun VNext VD VDn VDq Ret
def natV (n : Nat) : V := .int .i64 (n : Int)
def natR (n : Nat) : List V := [natV n]
theorem natR_flat (B : List Nat) : (B.map natR).flatten = B.map natV := by
  induction B with
  | nil => rfl
  | cons x B ih => rw [List.map_cons, List.flatten_cons, ih]; rfl
def firstB (L l : Nat) : List Nat := (List.range L).map fun j => if j < l then 2 ^ j else 0
theorem firstB_zero (L : Nat) : (firstB L 0).map natV = repV L [V.int .i64 0] := by
  rw [repV_one]
  refine List.ext_getElem (by simp [firstB]) fun i h1 h2 => ?_
  simp [firstB, natV]
theorem firstB_succ (L l : Nat) : (firstB L l).set l (2 ^ l) = firstB L (l + 1) := by
  refine List.ext_getElem (by simp [firstB]) fun i h1 h2 => ?_
  simp only [firstB, List.getElem_set, List.getElem_map, List.getElem_range]
  by_cases h : l = i
  · subst h; rw [if_pos rfl, if_pos (Nat.lt_succ_self _)]
  · rw [if_neg h]
    by_cases h3 : i < l
    · rw [if_pos h3, if_pos (by omega)]
    · rw [if_neg h3, if_neg (by omega)]
theorem firstB_end (L : Nat) : firstB L L = startB L := by
  unfold firstB startB
  refine List.map_congr_left fun j hj => ?_
  rw [if_pos (List.mem_range.1 hj)]
theorem getN_of {B : List Nat} {i : Nat} (h : i < B.length) : getN B i = B[i] := by unfold getN; rw [List.getElem?_eq_getElem h]; rfl
/-- All below 256. -/
def Low (B : List Nat) : Prop := ∀ x ∈ B, x < 256
theorem getN_low {B : List Nat} (h : Low B) (i : Nat) : getN B i < 256 := by
  by_cases hi : i < B.length
  · rw [getN_of hi]; exact h _ (List.getElem_mem hi)
  · unfold getN; rw [List.getElem?_eq_none (by omega)]; decide
theorem edgeB_low {B : List Nat} (h : Low B) (e : Nat × Nat) : Low (edgeB B e) := fun x hx => by
  rcases List.mem_or_eq_of_mem_set hx with hx | rfl
  · exact h x hx
  · exact Nat.or_lt_two_pow (n := 8) (getN_low h _) (getN_low h _)
theorem startB_low {L : Nat} (hL : L ≤ 8) : Low (startB L) := fun x hx => by
  obtain ⟨j, hj, rfl⟩ := List.mem_map.1 hx
  have := List.mem_range.1 hj
  exact Nat.pow_lt_pow_right (by decide) (show j < 8 by omega)
theorem foldB_low : ∀ (es : List (Nat × Nat)) {B : List Nat}, Low B → Low (es.foldl edgeB B)
  | [], _, h => h
  | e :: es, _, h => foldB_low es (edgeB_low h e)
theorem fold_take {α β : Type} (f : β → α → β) (b : β) (l : List α) (i : Nat) (h : i < l.length) : (l.take (i + 1)).foldl f b = f ((l.take i).foldl f b) l[i] := by
  rw [List.take_succ_eq_append_getElem h, List.foldl_append]; rfl
theorem foldB_len (es : List (Nat × Nat)) (B : List Nat) : (es.foldl edgeB B).length = B.length := roundB_len es B
section
variable [Drw] (hT : TabOk tab Tryz.prog)
include hT
set_option maxRecDepth 100000 in
theorem leadsP {t : Tok} (L : Nat) (hL : L ≤ 8) (es : List (Nat × Nat)) (he : ∀ e ∈ es, e.1 < L ∧ e.2 < L) (hl : es.length < 2000000) :
    Pure Tryz.prog 39 [.int .i64 (L : Int), .slice t ((es.map castE).map prs)] (.slice .no ((leadsB L es).map natR)) := by
  refine VC.code hT 47 rfl rfl rfl rfl fun F w S0 => ?_
  refine go hT 10000 rfl ?_
  conv => whnf
  refine ops_s rfl (s_makeSlice hT rfl rfl rfl rfl rfl rfl rfl (Nat.le_refl _) (by omega) fun b => ?_)
  refine go hT 10000 rfl ?_
  conv => whnf
  refine ops_g rfl (g_lenRef hT rfl rfl rfl rfl rfl rfl) ?_
  refine go hT 10000 rfl ?_
  conv => whnf
  refine run_lq (fun l : Nat => ([(0, .int .i64 (L : Int)), (1, .slice t ((es.map castE).map prs)), (5, .ref b 0 L L), (12, .int .i64 (L : Int)), (13, .int .i64 (l : Int))], [.cells b ((firstB L l).map natV) 3])) (fun l => l ≤ L) (fun l => L - l) 0 (Nat.zero_le _) ⟨⟨⟨_, rfl, .refl _⟩, ⟨_, rfl, .refl _⟩, ⟨_, rfl, .refl _⟩, ⟨_, rfl, .refl _⟩, ⟨_, rfl, .refl _⟩, trivial⟩, by rw [firstB_zero]; exact .refl _⟩ ?_
  intro l hl
  refine go hT 10000 rfl ?_
  conv => whnf
  refine run_split rfl (fun hlt => ?_) (fun hlt => ?_)
  · simp only [decide_eq_true_eq, Int.ofNat_lt] at hlt
    refine go hT 10000 rfl ?_
    conv => whnf
    refine ops_g rfl (g_shl1 rfl rfl rfl) ?_
    rw [bitI_nat (by omega), Int.toNat_natCast]
    refine go hT 10000 rfl ?_
    conv => whnf
    refine ops_g rfl (g_indexRef hT rfl rfl rfl rfl rfl (Int.natCast_nonneg _) (Int.ofNat_lt.2 hlt)) ?_
    refine go hT 10000 rfl ?_
    conv => whnf
    refine ops_s rfl (s_store (cs' := ((firstB L l).map natV).set l (natV (2 ^ l))) hT rfl rfl rfl .here (by
      show storeV tab 3 (natV (2 ^ l)) (0 + ((l : Nat) : Int).toNat * 1) _ = _
      rw [Int.toNat_natCast, Nat.mul_one, Nat.zero_add]; exact store_at rfl rfl rfl (by simpa [firstB] using hlt)) ?_)
    rw [← List.map_set, firstB_succ]
    refine go hT 10000 rfl ?_
    conv => whnf
    refine ops_g rfl (g_add rfl rfl rfl (by omega)) ?_
    refine go hT 10000 rfl ?_
    conv => whnf
    exact ⟨l + 1, hlt, by omega, ⟨⟨_, rfl, .refl _⟩, ⟨_, rfl, .refl _⟩, ⟨_, rfl, .refl _⟩, ⟨_, rfl, .refl _⟩, ⟨_, rfl, .refl _⟩, trivial⟩, .refl _⟩
  simp only [decide_eq_false_iff_not, Int.ofNat_lt] at hlt
  have : l = L := by omega
  subst this
  rw [firstB_end]
  refine go hT 10000 rfl ?_
  conv => whnf
  refine run_lq (fun i : Nat => ([(0, .int .i64 (l : Int)), (1, .slice t ((es.map castE).map prs)), (5, .ref b 0 l l), (23, .int .i64 (l : Int)), (24, .int .i64 (i : Int))], [.cells b ((iter (roundB es) i (startB l)).map natV) 3])) (fun i => i ≤ l ∧ (iter (roundB es) i (startB l)).length = l ∧ Low (iter (roundB es) i (startB l))) (fun i => l - i) 0 ⟨Nat.zero_le _, by simp [iter, startB], startB_low hL⟩ ⟨⟨⟨_, rfl, .refl _⟩, ⟨_, rfl, .refl _⟩, ⟨_, rfl, .refl _⟩, ⟨_, rfl, .refl _⟩, ⟨_, rfl, .refl _⟩, trivial⟩, .refl _⟩ ?_
  rintro i ⟨hi, hlen, hlow⟩
  refine go hT 10000 rfl ?_
  conv => whnf
  refine run_split rfl (fun hlt => ?_) (fun hlt => ?_)
  · simp only [decide_eq_true_eq, Int.ofNat_lt] at hlt
    refine go hT 10000 rfl ?_
    conv => whnf
    refine ops_g rfl (g_len hT rfl rfl rfl rfl rfl rfl (List.length_map _)) ?_
    rw [List.length_map]
    refine go hT 10000 rfl ?_
    conv => whnf
    generalize hB0 : iter (roundB es) i (startB l) = B0 at hlen hlow
    have hnext : iter (roundB es) (i + 1) (startB l) = es.foldl edgeB B0 := by rw [iter_succ, hB0]; rfl
    refine run_lq (fun k : Nat => ([(0, .int .i64 (l : Int)), (1, .slice t ((es.map castE).map prs)), (5, .ref b 0 l l), (23, .int .i64 (l : Int)), (24, .int .i64 (i : Int)), (26, .slice t ((es.map castE).map prs)), (27, .int .i64 (es.length : Int)), (28, .int .i64 (k : Int))], [.cells b (((es.take k).foldl edgeB B0).map natV) 3])) (fun k => k ≤ es.length) (fun k => es.length - k) 0 (Nat.zero_le _) ⟨⟨⟨_, rfl, .refl _⟩, ⟨_, rfl, .refl _⟩, ⟨_, rfl, .refl _⟩, ⟨_, rfl, .refl _⟩, ⟨_, rfl, .refl _⟩, ⟨_, rfl, .refl _⟩, ⟨_, rfl, .refl _⟩, ⟨_, rfl, .refl _⟩, trivial⟩, .refl _⟩ ?_
    intro k hk
    refine go hT 10000 rfl ?_
    conv => whnf
    refine run_split rfl (fun hltk => ?_) (fun hltk => ?_)
    · simp only [decide_eq_true_eq, Int.ofNat_lt] at hltk
      have hB := foldB_len (es.take k) B0
      have hBl := foldB_low (es.take k) hlow
      have htk := fold_take edgeB B0 es k hltk
      generalize (es.take k).foldl edgeB B0 = B at hB hBl htk
      obtain ⟨h1, h2⟩ := he _ (List.getElem_mem hltk)
      refine go hT 10000 rfl ?_
      conv => whnf
      refine ops_g rfl (g_indexM (xs := es.map castE) hT rfl rfl rfl rfl rfl (by simpa using hltk) rfl) ?_
      rw [List.getElem_map]
      refine go hT 10000 rfl ?_
      conv => whnf
      refine ops_s rfl (s_alloc hT rfl rfl rfl fun b8 => ?_)
      refine go hT 10000 rfl ?_
      conv => whnf
      refine ops_s rfl (s_store (cs' := prs (castE es[k])) hT rfl rfl rfl .here rfl ?_)
      refine go hT 10000 rfl ?_
      conv => whnf
      intro id
      refine run_freeze (t := 8) rfl .here ?_
      refine run_sub (.drop (.refl _)) ?_
      refine run_drw hT rfl rfl ?_ id
      have hp1 : partV tab 3 (B.map natV) (0 + ((es[k].1 : Nat) : Int).toNat * 1) = some (natV (getN B es[k].1)) := by
        rw [Int.toNat_natCast, Nat.mul_one, Nat.zero_add, getN_of (by omega)]
        exact part_at rfl (by rw [List.getElem?_map, List.getElem?_eq_getElem (by omega)]; rfl)
      have hp2 : partV tab 3 (B.map natV) (0 + ((es[k].2 : Nat) : Int).toNat * 1) = some (natV (getN B es[k].2)) := by
        rw [Int.toNat_natCast, Nat.mul_one, Nat.zero_add, getN_of (by omega)]
        exact part_at rfl (by rw [List.getElem?_map, List.getElem?_eq_getElem (by omega)]; rfl)
      repeat' (first
        | (refine god hT 1 rfl ?_; conv => whnf)
        | refine vd_fin rfl ?_
        | refine q_g rfl (fun S' => (g_len hT rfl rfl rfl rfl rfl rfl (List.length_map _)).qs) ?_
        | refine q_guard rfl rfl rfl rfl (fun h => ?_) (fun h => ?_)
        | refine q_g rfl (fun S' => (g_indexPin hT rfl rfl rfl rfl rfl (by decide) (by decide)).qs) ?_
        | refine q_g rfl (fun S' => (g_indexRef (i := ((es[k].1 : Nat) : Int)) hT rfl rfl rfl rfl rfl (Int.natCast_nonneg _) (Int.ofNat_lt.2 h1)).qs) ?_
        | refine q_g rfl (fun S' => (g_indexRef (i := ((es[k].2 : Nat) : Int)) hT rfl rfl rfl rfl rfl (Int.natCast_nonneg _) (Int.ofNat_lt.2 h2)).qs) ?_
        | refine q_load hT rfl rfl rfl .here hp1 ?_
        | refine q_load hT rfl rfl rfl .here hp2 ?_)
      refine vd_eff1 rfl (eff rfl rfl (s_store (cs' := (edgeB B es[k]).map natV) hT rfl rfl rfl .here ?_ ?_))
      · show storeV tab 3 (.int .i64 (orI ((getN B es[k].1 : Nat) : Int) ((getN B es[k].2 : Nat) : Int))) (0 + ((es[k].1 : Nat) : Int).toNat * 1) _ = _
        rw [orI_nat (getN_low hBl _) (getN_low hBl _), Int.toNat_natCast, Nat.mul_one, Nat.zero_add]
        unfold edgeB
        rw [List.map_set]
        exact store_at rfl rfl rfl (by rw [List.length_map]; omega)
      · refine And.intro trivial ?_
        refine god hT 1 rfl ?_
        conv => whnf
        refine vd_fin rfl ?_
        refine go hT 10000 rfl ?_
        conv => whnf
        refine ops_g rfl (g_add rfl rfl rfl (by omega)) ?_
        refine go hT 10000 rfl ?_
        conv => whnf
        exact ⟨k + 1, hltk, by omega, ⟨⟨_, rfl, .refl _⟩, ⟨_, rfl, .refl _⟩, ⟨_, rfl, .refl _⟩, ⟨_, rfl, .refl _⟩, ⟨_, rfl, .refl _⟩, ⟨_, rfl, .refl _⟩, ⟨_, rfl, .refl _⟩, ⟨_, rfl, .refl _⟩, trivial⟩, by rw [htk]; exact .refl _⟩
    · simp only [decide_eq_false_iff_not, Int.ofNat_lt] at hltk
      have : k = es.length := by omega
      subst this
      rw [List.take_length]
      refine go hT 10000 rfl ?_
      conv => whnf
      refine ops_g rfl (g_add rfl rfl rfl (by omega)) ?_
      refine go hT 10000 rfl ?_
      conv => whnf
      refine ⟨i + 1, ⟨hlt, ?_, ?_⟩, by omega, ⟨⟨_, rfl, .refl _⟩, ⟨_, rfl, .refl _⟩, ⟨_, rfl, .refl _⟩, ⟨_, rfl, .refl _⟩, ⟨_, rfl, .refl _⟩, trivial⟩, by rw [hnext]; exact .refl _⟩
      · rw [hnext, foldB_len]; exact hlen
      · rw [hnext]; exact foldB_low es hlow
  · simp only [decide_eq_false_iff_not, Int.ofNat_lt] at hlt
    have : i = l := by omega
    subst this
    refine run_freezeS (t := 5) (n := i) (c := i) (sz := 1) (rows := (leadsB i es).map natR) rfl .here (natR_flat _) (fun r hr => by obtain ⟨x, _, rfl⟩ := List.mem_map.1 hr; rfl) (by rw [List.length_map]; exact hlen) (Nat.le_refl _) ?_
    refine go hT 10000 rfl ?_
    conv => whnf
    exact ret_of (.tmp rfl .nil) rfl
end
end Go.Vw
namespace Go.Vw
open Go.RowKit Go.Am Go.Proofs Go.Ord
attribute [local irreducible] VOps VRun VNext VD VDn VDq Ret
section
variable [Drw] (hT : TabOk tab Tryz.prog)
include hT
end
end Go.Vw
namespace Go.Ord
section
variable {α : Type} [DecidableEq α]
theorem compact_snoc : ∀ (l : List α) (y x : α), compactP (l ++ [y, x]) = if y = x then compactP (l ++ [y]) else compactP (l ++ [y]) ++ [x]
  | [], y, x => by
    show (if y = x then compactP [x] else y :: compactP [x]) = _
    split
    · next e => subst e; rfl
    · rfl
  | [a], y, x => by
    show (if a = y then compactP [y, x] else a :: compactP [y, x]) = if y = x then (if a = y then compactP [y] else a :: compactP [y]) else (if a = y then compactP [y] else a :: compactP [y]) ++ [x]
    have := compact_snoc [] y x
    simp only [List.nil_append] at this
    rw [this]
    split <;> split <;> rfl
  | a :: b :: l, y, x => by
    have ih := compact_snoc (b :: l) y x
    show (if a = b then compactP (b :: l ++ [y, x]) else a :: compactP (b :: l ++ [y, x])) = if y = x then (if a = b then compactP (b :: l ++ [y]) else a :: compactP (b :: l ++ [y])) else (if a = b then compactP (b :: l ++ [y]) else a :: compactP (b :: l ++ [y])) ++ [x]
    rw [ih]
    split <;> split <;> rfl
omit [DecidableEq α] in
theorem take_one {D : List α} {j : Nat} {y : α} (hy : D[j]? = some y) : D.take (j + 1) = D.take j ++ [y] := by
  obtain ⟨h, rfl⟩ := List.getElem?_eq_some_iff.1 hy
  rw [List.take_append_getElem]
theorem compact_take {D : List α} {j : Nat} (h1 : 1 ≤ j) {x y : α} (hx : D[j - 1]? = some x) (hy : D[j]? = some y) : compactP (D.take (j + 1)) = if x = y then compactP (D.take j) else compactP (D.take j) ++ [y] := by
  obtain ⟨i, rfl⟩ : ∃ i, j = i + 1 := ⟨j - 1, by omega⟩
  rw [take_one hy]
  rw [Nat.add_sub_cancel] at hx
  rw [take_one hx, List.append_assoc]
  exact compact_snoc _ _ _
/-- Where the second loop stands. -/
structure CAt (D : List α) (k0 k2 k : Nat) (R : List α) : Prop where
  lo : k0 ≤ k
  le : k + 1 ≤ k0 + k2
  fit : k0 + k2 ≤ D.length
  len : R.length = D.length
  same : ∀ j, k0 + k2 ≤ j + 1 → R[j]? = D[j]?
  done : R.take k = compactP (D.take (k0 + k2))
theorem CAt.start {D : List α} {k0 : Nat} (h1 : 1 ≤ k0) (hl : k0 < D.length) (h : compactP (D.take k0) = D.take k0) (he : D[k0 - 1]? = D[k0]?) : CAt D k0 1 k0 D := by
  refine ⟨Nat.le_refl _, Nat.le_refl _, hl, rfl, fun _ _ => rfl, ?_⟩
  have hy : D[k0]? = some D[k0] := List.getElem?_eq_getElem hl
  rw [compact_take h1 (he.trans hy) hy, if_pos rfl, h]
theorem CAt.skip {D R : List α} {k0 k2 k : Nat} (h : CAt D k0 k2 k R) (h1 : 1 ≤ k0 + k2) (hl : k0 + k2 < D.length) (he : D[k0 + k2 - 1]? = D[k0 + k2]?) : CAt D k0 (k2 + 1) k R := by
  refine ⟨h.lo, by have := h.le; omega, by omega, h.len, fun j hj => h.same j (by omega), ?_⟩
  have hy : D[k0 + k2]? = some D[k0 + k2] := List.getElem?_eq_getElem hl
  rw [h.done, ← Nat.add_assoc, compact_take h1 (he.trans hy) hy, if_pos rfl]
theorem CAt.put {D R : List α} {k0 k2 k : Nat} (h : CAt D k0 k2 k R) (h1 : 1 ≤ k0 + k2) (hl : k0 + k2 < D.length) (he : D[k0 + k2 - 1]? ≠ D[k0 + k2]?) : CAt D k0 (k2 + 1) (k + 1) (R.set k D[k0 + k2]) := by
  have hle := h.le
  have hlen := h.len
  refine ⟨by have := h.lo; omega, by omega, by omega, by rw [List.length_set]; exact hlen, fun j hj => ?_, ?_⟩
  · rw [List.getElem?_set_ne (by omega)]
    exact h.same j (by omega)
  · have hy : D[k0 + k2]? = some D[k0 + k2] := List.getElem?_eq_getElem hl
    have hx : D[k0 + k2 - 1]? = some (D[k0 + k2 - 1]'(by omega)) := List.getElem?_eq_getElem (by omega)
    rw [← Nat.add_assoc, compact_take h1 hx hy, if_neg (fun e => he (by rw [hx, hy, e])), ← h.done]
    rw [take_one (y := D[k0 + k2]) (by rw [List.getElem?_set_self (by omega)]), List.take_set_of_le (Nat.le_refl _)]
end
end Go.Ord
namespace Go.Vw
open Go.RowKit Go.Am Go.Proofs Go.Ord
attribute [local irreducible] VOps VRun VNext VD VDn VDq Ret
def dgR (d : MDiag) : List V := [.int .i64 d.1, .int .i64 d.2.1, .str d.2.2]
theorem dg_len (D : List MDiag) : ∀ r ∈ D.map dgR, r.length = 3 := fun r hr => by obtain ⟨x, _, rfl⟩ := List.mem_map.1 hr; rfl
theorem dg_eq (x y : MDiag) : (decide (x.1 = y.1) && (decide (x.2.1 = y.2.1) && (decide (x.2.2 = y.2.2) && true))) = decide (x = y) := by
  obtain ⟨a, b, c⟩ := x
  obtain ⟨d, e, f⟩ := y
  simp only [Bool.and_true, Prod.mk.injEq, Bool.decide_and]
theorem dg_part {D : List MDiag} {X : List V} {z : Int} {o j : Nat} (hz : o + z.toNat * 3 = j * 3) (h : j < D.length) : partV tab 47 ((D.map dgR).flatten ++ X) (o + z.toNat * 3) = some (.agg (dgR D[j])) := by
  rw [hz, rows_part (sz := 3) rfl rfl (dg_len D) (by simpa using h), List.getElem_map]
theorem dg_store {D : List MDiag} {X : List V} {z : Int} {o j : Nat} (x : MDiag) (hz : o + z.toNat * 3 = j * 3) (h : j < D.length) : storeV tab 47 (.agg (dgR x)) (o + z.toNat * 3) ((D.map dgR).flatten ++ X) = some (((D.set j x).map dgR).flatten ++ X) := by
  rw [hz, rows_store (sz := 3) rfl (dg_len D) (by simpa using h) rfl rfl, List.map_set]
section
variable [Drw] (hT : TabOk tab Tryz.prog)
include hT
set_option maxRecDepth 100000 in
set_option maxHeartbeats 2000000 in
theorem compactD (b n c : Nat) (D : List MDiag) (X : List V) (hn : D.length = n) (hc : n ≤ c) (hl : n < 2000000) :
    VC Tryz.prog 48 [.ref b 0 n c] [.cells b ((D.map dgR).flatten ++ X) 47] fun v S' => ∃ Y, v = .ref b 0 (compactP D).length c ∧ S' = [.cells b (((compactP D).map dgR).flatten ++ Y) 47] := by
  refine VC.code hT 61 rfl rfl rfl rfl fun F w S0 => ?_
  refine go hT 10000 rfl ?_
  conv => whnf
  refine ops_g rfl (g_lenRef hT rfl rfl rfl rfl rfl rfl) ?_
  refine go hT 10000 rfl ?_
  conv => whnf
  refine run_split rfl (fun h2 => ?_) (fun h2 => ?_)
  · simp only [decide_eq_true_eq] at h2
    have e : compactP D = D := by
      match D, hn with
      | [], _ => rfl
      | [x], _ => rfl
      | x :: y :: r, h => simp at h; omega
    refine go hT 10000 rfl ?_
    conv => whnf
    exact ret_of (.tmp rfl .nil) ⟨X, by rw [e, hn]; rfl, by rw [e]⟩
  simp only [decide_eq_false_iff_not] at h2
  refine go hT 10000 rfl ?_
  conv => whnf
  refine run_lq (fun k : Nat => ([(0, .ref b 0 n c), (3, .int .i64 (k : Int))], [.cells b ((D.map dgR).flatten ++ X) 47])) (fun k => 1 ≤ k ∧ k ≤ n ∧ compactP (D.take k) = D.take k) (fun k => n - k) 1 ⟨Nat.le_refl _, by omega, by
    match D, hn with
    | [], h => simp at h; omega
    | x :: r, _ => rfl⟩ ⟨⟨⟨_, rfl, .refl _⟩, ⟨_, rfl, .refl _⟩, trivial⟩, .refl _⟩ ?_
  rintro k0 ⟨hk1, hkn, hcp⟩
  refine go hT 10000 rfl ?_
  conv => whnf
  refine ops_g rfl (g_lenRef hT rfl rfl rfl rfl rfl rfl) ?_
  refine go hT 10000 rfl ?_
  conv => whnf
  refine run_split rfl (fun hlt => ?_) (fun hlt => ?_)
  · simp only [decide_eq_true_eq, Int.ofNat_lt] at hlt
    have hx : D[k0]? = some D[k0] := List.getElem?_eq_getElem (by omega)
    have hy : D[k0 - 1]? = some D[k0 - 1] := List.getElem?_eq_getElem (by omega)
    refine go hT 10000 rfl ?_
    conv => whnf
    intro id
    refine run_drw hT rfl rfl ?_ id
    have hp1 : partV tab 47 ((D.map dgR).flatten ++ X) (0 + ((k0 : Nat) : Int).toNat * 3) = some (.agg (dgR D[k0])) := dg_part (by omega) (by omega)
    have hp2 : partV tab 47 ((D.map dgR).flatten ++ X) (0 + (((k0 : Nat) : Int) - 1).toNat * 3) = some (.agg (dgR D[k0 - 1])) := dg_part (by omega) (by omega)
    repeat' (first
      | (refine god hT 1 rfl ?_; conv => whnf)
      | refine vd_fin rfl ?_
      | refine q_g rfl (fun S' => (g_len hT rfl rfl rfl rfl rfl rfl (List.length_map _)).qs) ?_
      | refine q_guard rfl rfl rfl rfl (fun h => ?_) (fun h => ?_)
      | refine q_g rfl (fun S' => (g_indexRef (i := ((k0 : Nat) : Int)) hT rfl rfl rfl rfl rfl (by omega) (by omega)).qs) ?_
      | refine q_g rfl (fun S' => (g_indexRef (i := ((k0 : Nat) : Int) - 1) hT rfl rfl rfl rfl rfl (by omega) (by omega)).qs) ?_
      | refine q_g rfl (fun S' => (g_sub rfl rfl rfl (by omega)).qs) ?_
      | refine q_load hT rfl rfl rfl .here hp1 ?_
      | refine q_load hT rfl rfl rfl .here hp2 ?_)
    refine go hT 10000 rfl ?_
    conv => whnf
    refine run_split rfl (fun heq => ?_) (fun hne => ?_)
    · have heq : D[k0] = D[k0 - 1] := of_decide_eq_true ((dg_eq D[k0] D[k0 - 1]).symm.trans heq)
      have hst := CAt.start (D := D) hk1 (by omega) hcp (by rw [hx, hy, heq])
      clear hx hy hp1 hp2 heq hcp
      refine go hT 10000 rfl ?_
      conv => whnf
      refine ops_g rfl (g_refFrom hT rfl rfl rfl rfl rfl (by omega) (by omega)) ?_
      refine go hT 10000 rfl ?_
      conv => whnf
      refine run_lq (fun x : Nat × Nat × List MDiag => ([(0, .ref b 0 n c), (3, .int .i64 (x.2.1 : Int)), (4, .ref b (0 + k0 * 3) (n - k0) (c - k0)), (5, .int .i64 (x.1 : Int))], [.cells b ((x.2.2.map dgR).flatten ++ X) 47])) (fun x => 1 ≤ x.1 ∧ CAt D k0 x.1 x.2.1 x.2.2) (fun x => n - k0 - x.1) (1, k0, D) ⟨Nat.le_refl _, hst⟩ ⟨⟨⟨_, rfl, .refl _⟩, ⟨_, rfl, .refl _⟩, ⟨_, rfl, .refl _⟩, ⟨_, rfl, .refl _⟩, trivial⟩, .refl _⟩ ?_
      rintro ⟨k2, k, R⟩ ⟨hk2, hat⟩
      dsimp only at hk2 hat
      have a1 := hat.lo
      have a2 := hat.le
      have a3 := hat.fit
      have a4 := hat.len
      refine go hT 10000 rfl ?_
      conv => whnf
      refine ops_g rfl (g_lenRef hT rfl rfl rfl rfl rfl rfl) ?_
      refine go hT 10000 rfl ?_
      conv => whnf
      refine run_split rfl (fun hlt2 => ?_) (fun hlt2 => ?_)
      · simp only [decide_eq_true_eq, Int.ofNat_lt] at hlt2
        have r1 : R[k0 + k2]? = some (D[k0 + k2]'(by omega)) := by rw [hat.same _ (by omega)]; exact List.getElem?_eq_getElem (by omega)
        have r2 : R[k0 + k2 - 1]? = some (D[k0 + k2 - 1]'(by omega)) := by rw [hat.same _ (by omega)]; exact List.getElem?_eq_getElem (by omega)
        obtain ⟨q1, r1⟩ := List.getElem?_eq_some_iff.1 r1
        obtain ⟨q2, r2⟩ := List.getElem?_eq_some_iff.1 r2
        have hx : D[k0 + k2]? = some (D[k0 + k2]'(by omega)) := List.getElem?_eq_getElem (by omega)
        have hy : D[k0 + k2 - 1]? = some (D[k0 + k2 - 1]'(by omega)) := List.getElem?_eq_getElem (by omega)
        have hp1 : partV tab 47 ((R.map dgR).flatten ++ X) (0 + k0 * 3 + ((k2 : Nat) : Int).toNat * 3) = some (.agg (dgR R[k0 + k2])) := dg_part (by omega) (by omega)
        have hp2 : partV tab 47 ((R.map dgR).flatten ++ X) (0 + k0 * 3 + (((k2 : Nat) : Int) - 1).toNat * 3) = some (.agg (dgR R[k0 + k2 - 1])) := dg_part (by omega) (by omega)
        refine go hT 10000 rfl ?_
        conv => whnf
        intro id
        refine run_drw hT rfl rfl ?_ id
        repeat' (first
          | (refine god hT 1 rfl ?_; conv => whnf)
          | refine vd_fin rfl ?_
          | refine q_g rfl (fun S' => (g_len hT rfl rfl rfl rfl rfl rfl (List.length_map _)).qs) ?_
          | refine q_guard rfl rfl rfl rfl (fun h => ?_) (fun h => ?_)
          | refine q_g rfl (fun S' => (g_indexRef (i := ((k2 : Nat) : Int)) hT rfl rfl rfl rfl rfl (by first | omega | (dsimp only; omega)) (by first | omega | (dsimp only; omega))).qs) ?_
          | refine q_g rfl (fun S' => (g_indexRef (i := ((k2 : Nat) : Int) - 1) hT rfl rfl rfl rfl rfl (by first | omega | (dsimp only; omega)) (by first | omega | (dsimp only; omega))).qs) ?_
          | refine q_g rfl (fun S' => (g_sub rfl rfl rfl (by omega)).qs) ?_
          | refine q_load hT rfl rfl rfl .here hp1 ?_
          | refine q_load hT rfl rfl rfl .here hp2 ?_)
        refine go hT 10000 rfl ?_
        conv => whnf
        refine run_split rfl (fun hne => ?_) (fun heq => ?_)
        · have hne : R[k0 + k2] ≠ R[k0 + k2 - 1] := by
            have e := (dg_eq R[k0 + k2] R[k0 + k2 - 1])
            intro e2
            rw [decide_eq_true e2] at e
            have hne : (!(decide (R[k0 + k2].1 = R[k0 + k2 - 1].1) && (decide (R[k0 + k2].2.1 = R[k0 + k2 - 1].2.1) && (decide (R[k0 + k2].2.2 = R[k0 + k2 - 1].2.2) && true)))) = true := hne
            rw [e] at hne
            cases hne
          have hput := hat.put (by omega) (by omega) (fun e => hne (by
            rw [hx, hy] at e
            rw [r1, r2]
            exact (Option.some.inj e).symm))
          rw [← r1] at hput
          refine go hT 10000 rfl ?_
          conv => whnf
          refine ops_g rfl (g_indexRef hT rfl rfl rfl rfl rfl (by first | omega | (dsimp only; omega)) (by first | omega | (dsimp only; omega))) ?_
          refine go hT 10000 rfl ?_
          conv => whnf
          refine ops_g rfl (g_load hT rfl rfl .here hp1) ?_
          refine go hT 10000 rfl ?_
          conv => whnf
          refine ops_g rfl (g_indexRef hT rfl rfl rfl rfl rfl (by first | omega | (dsimp only; omega)) (by first | omega | (dsimp only; omega))) ?_
          refine go hT 10000 rfl ?_
          conv => whnf
          refine ops_s rfl (s_store (cs' := ((R.set k R[k0 + k2]).map dgR).flatten ++ X) hT rfl rfl rfl .here (dg_store (D := R) (z := ((k : Nat) : Int)) (o := 0) (j := k) _ (by omega) (by omega)) ?_)
          refine go hT 10000 rfl ?_
          conv => whnf
          refine ops_g rfl (g_add rfl rfl rfl (by first | omega | (dsimp only; omega))) ?_
          refine go hT 10000 rfl ?_
          conv => whnf
          refine ops_g rfl (g_add rfl rfl rfl (by first | omega | (dsimp only; omega))) ?_
          refine go hT 10000 rfl ?_
          conv => whnf
          exact ⟨(k2 + 1, k + 1, R.set k R[k0 + k2]), ⟨by dsimp only; omega, hput⟩, by dsimp only; omega, ⟨⟨⟨_, rfl, .refl _⟩, ⟨_, rfl, .refl _⟩, ⟨_, rfl, .refl _⟩, ⟨_, rfl, .refl _⟩, trivial⟩, .refl _⟩⟩
        · have heq : R[k0 + k2] = R[k0 + k2 - 1] := by
            have e := (dg_eq R[k0 + k2] R[k0 + k2 - 1])
            have heq : (!(decide (R[k0 + k2].1 = R[k0 + k2 - 1].1) && (decide (R[k0 + k2].2.1 = R[k0 + k2 - 1].2.1) && (decide (R[k0 + k2].2.2 = R[k0 + k2 - 1].2.2) && true)))) = false := heq
            rw [e] at heq
            simpa using heq
          have hsk := hat.skip (by omega) (by omega) (by rw [hx, hy, ← r1, ← r2, heq])
          refine go hT 10000 rfl ?_
          conv => whnf
          refine ops_g rfl (g_add rfl rfl rfl (by first | omega | (dsimp only; omega))) ?_
          refine go hT 10000 rfl ?_
          conv => whnf
          exact ⟨(k2 + 1, k, R), ⟨by dsimp only; omega, hsk⟩, by dsimp only; omega, ⟨⟨⟨_, rfl, .refl _⟩, ⟨_, rfl, .refl _⟩, ⟨_, rfl, .refl _⟩, ⟨_, rfl, .refl _⟩, trivial⟩, .refl _⟩⟩
      · simp only [decide_eq_false_iff_not, Int.ofNat_lt] at hlt2
        have hdone := hat.done
        rw [List.take_of_length_le (l := D) (by omega)] at hdone
        have hcl : (compactP D).length = k := by rw [← hdone, List.length_take]; omega
        have hclr := rows_clear (sz := 3) (rows := R.map dgR) (X := X) (z := [.int .i64 0, .int .i64 0, .str ByteArray.empty]) (i := k) (dg_len R) (by rw [List.length_map]; omega) rfl
        rw [List.length_map, a4, hn, ← List.map_take, hdone] at hclr
        refine go hT 10000 rfl ?_
        conv => whnf
        refine ops_g rfl (g_refFrom hT rfl rfl rfl rfl rfl (by first | omega | (dsimp only; omega)) (by first | omega | (dsimp only; omega))) ?_
        refine go hT 10000 rfl ?_
        conv => whnf
        refine ops_s rfl (s_clear hT rfl rfl rfl rfl rfl rfl rfl rfl rfl (by first | omega | (dsimp only; omega)) (by decide) rfl .here (by rw [Nat.zero_add]; exact hclr) ?_)
        refine go hT 10000 rfl ?_
        conv => whnf
        refine ops_g rfl (g_refTo hT rfl rfl rfl rfl rfl (by first | omega | (dsimp only; omega))) ?_
        refine go hT 10000 rfl ?_
        conv => whnf
        exact ret_of (.tmp rfl .nil) ⟨_, by rw [hcl]; rfl, rfl⟩
    · have hne : D[k0] ≠ D[k0 - 1] := fun e => by
        have e1 := (dg_eq D[k0] D[k0 - 1]).symm.trans hne
        exact of_decide_eq_false e1 e
      refine go hT 10000 rfl ?_
      conv => whnf
      refine ops_g rfl (g_add rfl rfl rfl (by first | omega | (dsimp only; omega))) ?_
      refine go hT 10000 rfl ?_
      conv => whnf
      exact ⟨k0 + 1, ⟨by omega, hlt, by rw [compact_take hk1 hy hx, if_neg (fun e => hne e.symm), hcp, take_one hx]⟩, by omega, ⟨⟨⟨_, rfl, .refl _⟩, ⟨_, rfl, .refl _⟩, trivial⟩, .refl _⟩⟩
  · simp only [decide_eq_false_iff_not, Int.ofNat_lt] at hlt
    have e : compactP D = D := by
      rw [List.take_of_length_le (by omega)] at hcp
      exact hcp
    refine go hT 10000 rfl ?_
    conv => whnf
    exact ret_of (.tmp rfl .nil) ⟨X, by rw [e, hn]; rfl, by rw [e]⟩
end
end Go.Vw
namespace Go.Vw
open Go.RowKit Go.Am Go.Proofs Go.Ord Go.Sort
attribute [local irreducible] VOps VRun VNext VD VDn VDq Ret
def cfD (x y : MDiag) : Int := orL [cmpI x.1 y.1, cmpI x.2.1 y.2.1, cmpS x.2.2 y.2.2]
theorem cmpI_cases (a b : Int) : (a < b ∧ cmpI a b = -1) ∨ (b < a ∧ cmpI a b = 1) ∨ (a = b ∧ cmpI a b = 0) := by
  unfold cmpI
  by_cases h1 : a < b
  · exact .inl ⟨h1, if_pos h1⟩
  · by_cases h2 : b < a
    · exact .inr (.inl ⟨h2, by rw [if_neg h1, if_pos h2]⟩)
    · exact .inr (.inr ⟨by omega, by rw [if_neg h1, if_neg h2]⟩)
theorem ltOf_cfD : ltOf cfD = ltD := by
  funext p q
  obtain ⟨a, b, c⟩ := p
  obtain ⟨d, e, f⟩ := q
  show decide (orL [cmpI a d, cmpI b e, cmpS c f] < 0) = (decide (a < d) || (decide (a = d) && (decide (b < e) || (decide (b = e) && lessS c f))))
  rcases cmpI_cases a d with ⟨h, k⟩ | ⟨h, k⟩ | ⟨rfl, k⟩
  · rw [k]; simp [orL, h]
  · have h1 : ¬ a < d := by omega
    have h2 : a ≠ d := by omega
    rw [k]; simp [orL, h1, h2]
  · rw [k]
    rcases cmpI_cases b e with ⟨h, k⟩ | ⟨h, k⟩ | ⟨rfl, k⟩
    · rw [k]; simp [orL, h]
    · have h1 : ¬ b < e := by omega
      have h2 : b ≠ e := by omega
      rw [k]; simp [orL, h1, h2]
    · rw [k]
      unfold cmpS
      by_cases h1 : lessS c f = true
      · simp [orL, h1]
      · by_cases h2 : c = f
        · subst h2
          have h3 := tot_lessS.irr c
          simp [orL, h3]
        · simp [orL, h1, h2]
theorem swoD : SWO (ltOf cfD) := by rw [ltOf_cfD]; exact swo_of tot_ltD.irr tot_ltD.tr tot_ltD.tot
def dgE (d : MDiag) : List Value := [.int .i64 d.1, .int .i64 d.2.1, .string d.2.2]
theorem dg_det (F : Fz) (w : World) (x : MDiag) (us : List Value) (h : Iss F w (dgR x) us) : us = dgE x := by
  cases h with
  | cons h1 h2 =>
    cases h2 with
    | cons h2 h3 =>
      cases h3 with
      | cons h3 h4 =>
        cases h4
        cases h3
        rw [int_inv h1, int_inv h2]; rfl
theorem dg_of (F : Fz) (w : World) (x : MDiag) : Iss F w (dgR x) (dgE x) := .cons (.int _ _) (.cons (.int _ _) (.cons (.str _) .nil))
theorem dg_cell1 : ∀ (x : MDiag), ∀ v ∈ dgE x, v.oneCell' = true := by
  intro x v hv
  simp only [dgE, List.mem_cons, List.not_mem_nil, or_false] at hv
  rcases hv with rfl | rfl | rfl <;> rfl
/-! ### how many stops -/
theorem flat_bound {α : Type} {g : Nat → List α} {B : Nat} : ∀ n, (∀ i, i < n → (g i).length ≤ B) → ((List.range n).flatMap g).length ≤ n * B
  | 0, _ => by simp
  | n + 1, h => by
    rw [flat_succ, List.length_append, Nat.succ_mul]
    have := flat_bound n fun i hi => h i (by omega)
    have := h n (by omega)
    omega
theorem stopR_len (m : MModule) (f : Nat) (u v : List Int) (n : Nat) : (stopR m f u v n).length ≤ 1 := by
  unfold stopR
  split
  · split <;> simp
  · simp
theorem stopF_len (m : MModule) (f : Nat) (u v : List Int) (n : Nat) : (stopF m f u v n).length ≤ n := by
  have := flat_bound (g := stopR m f u v) (B := 1) n fun i _ => stopR_len m f u v i
  rw [Nat.mul_one] at this
  exact this
theorem code_cons (x : MFunc) (fs : List MFunc) : codeSum (x :: fs) = (x.code.length : Int) + codeSum fs := by
  unfold codeSum
  rw [List.map_cons, List.sum_cons]
theorem code_nonneg : ∀ fs : List MFunc, 0 ≤ codeSum fs
  | [] => by unfold codeSum; exact Int.le_refl _
  | x :: fs => by
    have := code_nonneg fs
    rw [code_cons]
    omega
theorem code_sum : ∀ {fs : List MFunc} {f : MFunc}, f ∈ fs → (f.code.length : Int) ≤ codeSum fs
  | x :: fs, f, h => by
    have h0 := code_nonneg fs
    rw [code_cons]
    rcases List.mem_cons.1 h with e | h
    · rw [e]; omega
    · have := code_sum h; omega
theorem stops_len {m : MModule} (hs : Small m) (hr : rightModB m = true) {us vs : List (List (List Int))} (h : Threads m m.threads us vs) : (stopsP m us vs).length ≤ 200000 := by
  have tk := tabs_ok hs hr h
  have hl := h.lens
  have hf : frameB m = true := by simp only [rightModB, Bool.and_eq_true] at hr; exact hr.1
  simp only [frameB, Bool.and_eq_true, decide_eq_true_eq] at hf
  obtain ⟨_, ⟨⟨⟨⟨⟨_, h12⟩, h4⟩, hc⟩, _⟩⟩⟩ := hf
  have hrow : ∀ (t f : Nat) (ht1 : t < us.length) (ht : t < vs.length) (hf1 : f < us[t].length) (hf2 : f < vs[t].length), vs[t][f].length ≤ 4096 := fun t f ht1 ht hf1 hf2 => by
    obtain ⟨e1, e2⟩ := tk.fn t ht1 ht
    have ho := (tk.op t f ht1 ht hf1 hf2).2
    have hfl : f < m.funcs.length := by omega
    have : m.fn (f : Int) = m.funcs[f] := by unfold MModule.fn; rw [Int.toNat_natCast, List.getElem?_eq_getElem hfl]; rfl
    rw [this] at ho
    have := code_sum (List.getElem_mem hfl)
    omega
  have hT : ∀ t, t < vs.length → (stopM1 m us vs t).length ≤ 12 * 4096 := fun t ht => by
    have ht1 : t < us.length := by rw [tk.len]; exact ht
    unfold stopM1
    rw [List.getElem?_eq_getElem ht1, List.getElem?_eq_getElem ht]
    dsimp only
    obtain ⟨e1, e2⟩ := tk.fn t ht1 ht
    have := flat_bound (g := stopT1 m us[t] vs[t]) (B := 4096) vs[t].length fun f hf => by
      unfold stopT1
      have hfu : f < us[t].length := by omega
      rw [List.getElem?_eq_getElem hfu, List.getElem?_eq_getElem hf]
      exact Nat.le_trans (stopF_len _ _ _ _ _) (hrow t f ht1 ht hfu hf)
    refine Nat.le_trans this (Nat.mul_le_mul_right _ (by omega))
  have := flat_bound (g := stopM1 m us vs) (B := 12 * 4096) vs.length hT
  have e : (stopsP m us vs).length ≤ vs.length * (12 * 4096) := this
  have : vs.length ≤ 4 := by omega
  omega
section
variable [Drw] (hT : TabOk tab Tryz.prog)
include hT
set_option maxRecDepth 100000 in
set_option maxHeartbeats 2000000 in
/-- Diagnostics, as the closure in order.Check holds them against each other. -/
theorem cmpDiag (x y : MDiag) : Pure Tryz.prog 43 [.agg (dgR x), .agg (dgR y)] (.int .i64 (cfD x y)) := by
  refine VC.code hT 22 rfl rfl rfl rfl fun F w S0 => ?_
  repeat' (first
    | (refine go hT 10000 rfl ?_; conv => whnf)
    | refine ops_s rfl (s_boxF rfl rfl rfl ?_)
    | refine ops_s rfl (s_listF hT rfl rfl rfl rfl rfl rfl rfl rfl ?_)
    | refine ops_g rfl (g_len hT rfl rfl rfl rfl rfl rfl (List.length_map _)) ?_
    | refine op_guard rfl rfl rfl rfl (fun h => ?_) (fun h => ?_))
  intro id
  refine run_drw hT rfl rfl ?_ id
  refine god hT 1 rfl ?_
  conv => whnf
  refine vd_eff1 rfl (eff rfl rfl (s_pure hT rfl rfl rfl rfl rfl rfl (compareInt hT x.1 y.1) (And.intro trivial ?_)))
  refine god hT 1 rfl ?_
  conv => whnf
  refine vd_eff1 rfl (eff rfl rfl (s_pure hT rfl rfl rfl rfl rfl rfl (compareErr hT x.2.1 y.2.1) (And.intro trivial ?_)))
  refine god hT 1 rfl ?_
  conv => whnf
  refine vd_eff1 rfl (eff rfl rfl (s_pure hT rfl rfl rfl rfl rfl rfl (compareStr hT x.2.2 y.2.2) (And.intro trivial ?_)))
  refine god hT 1 rfl ?_
  conv => whnf
  refine q_g rfl (fun S' => s_listF hT rfl rfl rfl rfl rfl rfl rfl rfl ⟨rfl, rfl⟩) ?_
  refine god hT 1 rfl ?_
  conv => whnf
  refine vd_eff1 rfl (eff rfl rfl (s_pure hT rfl rfl rfl rfl rfl rfl (orInt hT [cmpI x.1 y.1, cmpI x.2.1 y.2.1, cmpS x.2.2 y.2.2] (by show 3 < _; omega)) (And.intro trivial ?_)))
  refine god hT 1 rfl ?_
  conv => whnf
  refine vd_fin rfl ?_
  refine go hT 10000 rfl ?_
  conv => whnf
  exact ret_of (.tmp rfl .nil) rfl
theorem sortDiagsP (b n c r : Nat) (xs : List MDiag) (hn : xs.length = n) (hl : n < 60000000) :
    VC Tryz.prog 42 [.ref b 0 n c, .func 43 [] []] [.cells b ((xs.map dgR).flatten ++ List.replicate r .any) 47] fun v S' => v = .tup [] ∧ S' = [.cells b (((xs.mergeSort fun x y => !(ltOf cfD) y x).map dgR).flatten ++ List.replicate r .any) 47] :=
  vc_sortFunc (en := dgR) (enc := dgE) Tryz.sortDiags 3 (fun w => run_isAgg hT (t := 47) (b := true) rfl w) (fun w => Am.run_size hT (t := 47) (n := 3) rfl w) dg_det dg_of (fun _ => rfl) dg_cell1 cfD swoD (by rw [ltOf_cfD]; exact tot_ltD.tot) _ (fun args w => run_callFunc hT rfl rfl args w) (fun {_} x y => cmpDiag hT x y) b n c r _ xs hn (by omega)
end
end Go.Vw
namespace Go.Vw
open Go.RowKit Go.Am Go.Proofs Go.Ord Go.Sort
attribute [local irreducible] VOps VRun VNext VD VDn VDq Ret
/-- Diagnostics that have been collected: nil, or cells. -/
def ColD (D : List MDiag) (v : V) (R : Hp) : Prop := (D = [] ∧ v = .slice .zero [] ∧ R = []) ∨ (D ≠ [] ∧ ∃ b' c r, v = .ref b' 0 D.length c ∧ c * 3 = D.length * 3 + r ∧ R = [.cells b' ((D.map dgR).flatten ++ List.replicate r .any) 47])
theorem wrong_snoc (m : MModule) (to : List Nat) (pre : List Stp) (s : Stp) : wrongP m to (pre ++ [s]) = wrongP m to pre ++ wrongS m to s := by
  unfold wrongP
  rw [List.flatMap_append]
  simp
theorem wrongS_len (m : MModule) (to : List Nat) (s : Stp) : (wrongS m to s).length ≤ 1 := by
  unfold wrongS
  split
  · simp
  · split <;> simp
theorem wrongP_len (m : MModule) (to : List Nat) : ∀ ss : List Stp, (wrongP m to ss).length ≤ ss.length
  | [] => Nat.le_refl _
  | s :: ss => by
    have := wrongP_len m to ss
    have := wrongS_len m to s
    unfold wrongP at *
    rw [List.flatMap_cons, List.length_append, List.length_cons]
    omega
theorem sort_diags (D : List MDiag) : compactP (D.mergeSort fun x y => !ltD y x) = sortR ltD D := by
  have hsort : ((D.mergeSort fun x y => !ltD y x).Pairwise fun x y => ltD y x = false) := by
    have := List.pairwise_mergeSort (le := fun x y => !ltD y x) (fun a b c h1 h2 => by
      simp only [Bool.not_eq_true'] at h1 h2 ⊢
      exact (swo_of tot_ltD.irr tot_ltD.tr tot_ltD.tot).ntrans _ _ _ h2 h1) (fun a b => by
      cases e : ltD b a
      · rfl
      · rw [tot_ltD.asym e]; rfl) D
    exact this.imp fun h => by simpa using h
  exact compact_sortR tot_ltD hsort fun z => (List.mergeSort_perm D fun x y => !ltD y x).mem_iff
theorem compact_len : ∀ l : List MDiag, (compactP l).length ≤ l.length
  | [] => Nat.le_refl _
  | [x] => Nat.le_refl _
  | x :: y :: r => by
    have := compact_len (y :: r)
    unfold compactP
    split
    · rw [List.length_cons]; omega
    · rw [List.length_cons, List.length_cons]; omega
theorem sortD_len (D : List MDiag) : (sortR ltD D).length ≤ D.length := by
  rw [← sort_diags]
  have := compact_len (D.mergeSort fun x y => !ltD y x)
  rwa [(List.mergeSort_perm D fun x y => !ltD y x).length_eq] at this
theorem edges_short {L : Nat} (hL : L ≤ 8) (ss : List Stp) : (edgesNat L ss).length ≤ 64 := by
  have h1 : ∀ l, (edgesR L ss l L).length ≤ 8 := fun l => by
    have := flat_bound (g := fun k => if edgeL ss l k then [((l : Int), (k : Int))] else []) (B := 1) L fun k _ => by split <;> simp
    rw [Nat.mul_one] at this
    exact Nat.le_trans this hL
  have h2 := flat_bound (g := fun l => edgesR L ss l L) (B := 8) L fun l _ => h1 l
  have h3 : (edgesNat L ss).length ≤ L * 8 := by unfold edgesNat; rw [List.length_map]; exact h2
  omega
/-- What is wrong with the code's locks, as the walk meets it. -/
def rawM (m : MModule) (us vs : List (List (List Int))) : List MDiag := wrongP m (leadsB m.locks.length (edgesNat m.locks.length (stopsP m us vs))) (stopsP m us vs)
/-- What order.Check answers. -/
def CheckE (m : MModule) (v : V) : Prop := (rightModB m = true ∧ ∃ us vs, Threads m m.threads us vs ∧ v = .slice .no ((sortR ltD (rawM m us vs)).map dgR)) ∨ (rightModB m = false ∧ v = .slice .no [])
/-- .. with the cells told. -/
def CheckQ (m : MModule) (v : V) (S' : Hp) : Prop := (rightModB m = true ∧ ∃ us vs, Threads m m.threads us vs ∧ ((sortR ltD (rawM m us vs) = [] ∧ v = .slice .zero [] ∧ S' = []) ∨ ∃ b c Y, (sortR ltD (rawM m us vs)).length ≤ c ∧ v = .ref b 0 (sortR ltD (rawM m us vs)).length c ∧ S' = [.cells b (((sortR ltD (rawM m us vs)).map dgR).flatten ++ Y) 47])) ∨ (rightModB m = false ∧ v = .slice .zero [] ∧ S' = [])
/-- .. and with no cells. -/
def CheckT (m : MModule) (v : V) (S' : Hp) : Prop := S' = [] ∧ ((rightModB m = true ∧ ∃ us vs t, Threads m m.threads us vs ∧ v = .slice t ((sortR ltD (rawM m us vs)).map dgR)) ∨ (rightModB m = false ∧ v = .slice .zero []))
theorem leads_low {L : Nat} (hL : L ≤ 8) (es : List (Nat × Nat)) : ∀ n, Low (iter (roundB es) n (startB L))
  | 0 => startB_low hL
  | n + 1 => by rw [iter_succ]; exact foldB_low es (leads_low hL es n)
theorem leads_len (L : Nat) (es : List (Nat × Nat)) : ∀ n, (iter (roundB es) n (startB L)).length = L
  | 0 => by show (startB L).length = L; unfold startB; simp
  | n + 1 => by rw [iter_succ, roundB_len]; exact leads_len L es n
section
variable [Drw] (hT : TabOk tab Tryz.prog)
include hT
theorem compact0 : Pure Tryz.prog 48 [.slice .zero []] (.slice .zero []) := by
  refine VC.code hT 61 rfl rfl rfl rfl fun F w S0 => ?_
  refine go hT 10000 rfl ?_
  conv => whnf
  refine ops_g rfl (g_len hT rfl rfl rfl rfl rfl rfl rfl) ?_
  refine go hT 10000 rfl ?_
  conv => whnf
  refine run_split rfl (fun _ => ?_) (fun h => absurd h (by decide))
  refine go hT 10000 rfl ?_
  conv => whnf
  exact ret_of (.tmp rfl .nil) rfl
set_option maxRecDepth 100000 in
set_option maxHeartbeats 4000000 in
theorem checkQ (m : MModule) (hs : Small m) : VC Tryz.prog 17 [.agg (modV m)] [] (CheckQ m) := by
  refine VC.code hT 79 rfl rfl rfl rfl fun F w S0 => ?_
  refine go hT 10000 rfl ?_
  conv => whnf
  refine ops_s rfl (s_boxF rfl rfl rfl ?_)
  refine go hT 10000 rfl ?_
  conv => whnf
  refine ops_s rfl (s_pureR hT rfl rfl rfl rfl rfl rfl (findE hT m hs) ?_)
  rintro _ (⟨hr, us, vs, hth, rfl⟩ | ⟨hr, rfl⟩)
  case inr =>
    refine go hT 10000 rfl ?_
    conv => whnf
    refine ops_s rfl (s_alloc hT rfl rfl rfl fun b4 => ?_)
    refine go hT 10000 rfl ?_
    conv => whnf
    refine ops_s rfl (s_store (cs' := heldV [] []) hT rfl rfl rfl .here rfl ?_)
    refine ops_sub (.drop (.refl _)) ?_
    refine go hT 10000 rfl ?_
    conv => whnf
    refine run_split rfl (fun h => ?_) (fun h => ?_)
    · refine go hT 10000 rfl ?_
      conv => whnf
      exact ret_of (.tmp rfl .nil) (.inr ⟨hr, rfl, rfl⟩)
    · exact absurd h (by decide)
  have hL := (frame_facts (by simp only [rightModB, Bool.and_eq_true] at hr; exact hr.1)).1
  have tk := tabs_ok hs hr hth
  have hso : ∀ s ∈ stopsP m us vs, StopOk m s := fun s h => stop_ok hs hr hth h
  have hsl := stops_len hs hr hth
  rw [← edgesNat_cast]
  have hlt := edgesNat_lt m.locks.length (stopsP m us vs)
  have hlen := edges_short hL (stopsP m us vs)
  refine go hT 10000 rfl ?_
  conv => whnf
  refine ops_s rfl (s_alloc hT rfl rfl rfl fun b4 => ?_)
  refine go hT 10000 rfl ?_
  conv => whnf
  refine ops_s rfl (s_store (cs' := heldV us vs) hT rfl rfl rfl .here rfl ?_)
  refine ops_freezeH (t := 4) rfl ?_
  refine go hT 10000 rfl ?_
  conv => whnf
  refine run_split rfl (fun h => ?_) (fun h => ?_)
  · exact absurd h (by decide)
  refine go hT 10000 rfl ?_
  conv => whnf
  refine ops_g rfl (g_len hT rfl rfl rfl rfl rfl rfl (List.length_map _)) ?_
  refine go hT 10000 rfl ?_
  conv => whnf
  refine ops_s rfl (s_pure hT rfl rfl rfl rfl rfl rfl (leadsP hT m.locks.length hL (edgesNat m.locks.length (stopsP m us vs)) hlt (by omega)) ?_)
  have hlow : Low (leadsB m.locks.length (edgesNat m.locks.length (stopsP m us vs))) := leads_low hL _ _
  have hlb : (leadsB m.locks.length (edgesNat m.locks.length (stopsP m us vs))).length = m.locks.length := leads_len _ _ _
  generalize hto0 : leadsB m.locks.length (edgesNat m.locks.length (stopsP m us vs)) = to at hlow hlb
  have hraw : rawM m us vs = wrongP m to (stopsP m us vs) := by unfold rawM; rw [hto0]
  refine go hT 10000 rfl ?_
  conv => whnf
  refine ops_s rfl (s_alloc hT rfl rfl rfl fun b6 => ?_)
  refine go hT 10000 rfl ?_
  conv => whnf
  refine ops_s rfl (s_store (cs' := [.slice .no (to.map natR)]) hT rfl rfl rfl .here rfl ?_)
  refine ops_freezeH (t := 6) rfl ?_
  refine go hT 10000 rfl ?_
  conv => whnf
  refine ops_s rfl (s_alloc hT rfl rfl rfl fun b7 => ?_)
  refine go hT 10000 rfl ?_
  conv => whnf
  refine ops_s rfl (s_pure hT rfl rfl rfl rfl rfl rfl (stopsOf hT m us vs) ?_)
  refine go hT 10000 rfl ?_
  conv => whnf
  refine run_rangeL hT rfl rfl rfl rfl rfl fun l L hL' => ?_
  refine (stops1 hT l m us vs tk (lens_ok hs hr hth) (fun pre S => ∃ v R, ColD (wrongP m to pre) v R ∧ S = [.loop false l L, .cells b7 [v] 37] ++ R) ?_ _ ⟨_, [], .inl ⟨rfl, rfl, rfl⟩, rfl⟩).mono ?_
  · rintro pre ⟨⟨ok, oa, o2, o3, o4, o5, o6, o7, oargs, onext, oels, oat⟩, p⟩ S1 ⟨v, R, hc, rfl⟩ hmem hle
    have so := hso _ hmem
    obtain ⟨u, q, e, hv⟩ := so.held
    have hu := so.low
    have hk := so.kind
    obtain ⟨ha0, ha1⟩ := so.lock
    dsimp only at e hu hk ha0 ha1
    subst e
    obtain ⟨A, rfl⟩ : ∃ A : Nat, oa = A := ⟨oa.toNat, by omega⟩
    have hA : A < m.locks.length := by omega
    have hu8 : u < 256 := by omega
    have hq8 : q < 256 := lt_of_bits fun i hi => by have := hv i hi; omega
    refine VY.ofL hL' .here rfl rfl fun m0 F w S0 => ?_
    refine go hT 10000 rfl ?_
    conv => whnf
    refine ops_s rfl (s_alloc hT rfl rfl rfl fun b8 => ?_)
    refine go hT 10000 rfl ?_
    conv => whnf
    refine ops_s rfl (s_store (cs' := stpV (⟨ok, A, o2, o3, o4, o5, o6, o7, oargs, onext, oels, oat⟩, (u : Int), (q : Int))) hT rfl rfl rfl .here rfl ?_)
    refine go hT 10000 rfl ?_
    conv => whnf
    refine ⟨rfl, _, .there .here, fun F w S0 ds => ?_⟩
    have hnm : nameAt m ((A : Nat) : Int) = m.locks[A] := by unfold nameAt; rw [Int.toNat_natCast, List.getElem?_eq_getElem hA]; rfl
    have hpl : (wrongP m to pre).length ≤ pre.length := wrongP_len m to pre
    have hle2 : pre.length + 1 ≤ (stopsP m us vs).length := by simpa using hle
    refine go hT 10000 rfl ?_
    conv => whnf
    intro id
    refine run_freeze (t := 8) rfl .here ?_
    refine run_sub (.drop (.refl _)) ?_
    refine run_drw hT rfl rfl ?_ id
    repeat' (first
      | (refine god hT 1 rfl ?_; conv => whnf)
      | refine vd_fin rfl ?_
      | refine q_g rfl (fun S' => (g_len hT rfl rfl rfl rfl rfl rfl (List.length_map _)).qs) ?_
      | refine q_guard rfl rfl rfl rfl (fun h => ?_) (fun h => ?_)
      | refine q_g rfl (fun S' => (g_indexM (i := A) (xs := m.locks) (g := strV) hT rfl rfl rfl rfl rfl hA rfl).qs) ?_)
    refine vd_eff1 rfl (eff rfl rfl (s_alloc hT rfl rfl rfl fun b9 => ⟨trivial, ?_⟩))
    refine god hT 1 rfl ?_
    conv => whnf
    refine vd_eff1 rfl (eff rfl rfl (s_store (cs' := [.int .i64 oat, .int .i64 0, .str m.locks[A]]) hT rfl rfl rfl .here rfl (And.intro trivial ?_)))
    refine god hT 1 rfl ?_
    conv => whnf
    refine vd_fin rfl ?_
    refine go hT 10000 rfl ?_
    conv => whnf
    refine op_guard rfl rfl rfl rfl (fun h17 => ?_) (fun h17 => ?_)
    · simp only [decide_eq_true_eq] at h17
      subst h17
      refine go hT 10000 rfl ?_
      conv => whnf
      refine ops_s rfl (s_pure hT rfl rfl rfl rfl rfl rfl (hasP hT u A hu8 (by omega)) ?_)
      refine go hT 10000 rfl ?_
      conv => whnf
      refine run_split rfl (fun hh => ?_) (fun hh => ?_)
      · have hw : wrongS m to (⟨17, (A : Int), o2, o3, o4, o5, o6, o7, oargs, onext, oels, oat⟩, (u : Int), (q : Int)) = [(oat, 80, m.locks[A])] := by
          unfold wrongS
          rw [if_pos ⟨rfl, by unfold hasN; dsimp only; rw [Int.toNat_natCast, Int.toNat_natCast]; simpa using hh⟩]
          dsimp only
          rw [hnm]
        refine go hT 10000 rfl ?_
        conv => whnf
        refine ops_s rfl (s_store (cs' := [.int .i64 oat, .int .i64 80, .str m.locks[A]]) hT rfl rfl rfl .here rfl ?_)
        rcases hc with ⟨hD, rfl, rfl⟩ | ⟨hne, b', c, r, rfl, hcr, rfl⟩
        · refine go hT 10000 rfl ?_
          conv => whnf
          refine ops_g rfl (g_load hT rfl rfl (.there (.there .here)) rfl) ?_
          refine go hT 10000 rfl ?_
          conv => whnf
          refine ops_g rfl (g_load hT rfl rfl .here rfl) ?_
          refine go hT 10000 rfl ?_
          conv => whnf
          refine ops_s rfl (s_listF hT rfl rfl rfl rfl rfl rfl rfl rfl ?_)
          refine go hT 10000 rfl ?_
          conv => whnf
          refine ops_sub (.no (.drop (.refl _))) ?_
          refine ops_s rfl (s_append0 hT rfl rfl rfl rfl rfl rfl rfl rfl rfl rfl .here (fun r hr => by rw [List.mem_singleton.1 hr]; rfl) Nat.zero_lt_one (by show 1 < _; omega) fun b' c' r' hcr => ?_)
          refine go hT 10000 rfl ?_
          conv => whnf
          refine ops_s rfl (s_store (cs' := [.ref b' 0 1 c']) hT rfl rfl rfl (.there (.there .here)) rfl ?_)
          refine ops_perm (rot3 _ _ _) ?_
          refine go hT 10000 rfl ?_
          conv => whnf
          refine ⟨rfl, _, .here, rfl, .ref b' 0 1 c', _, .inr ⟨by rw [wrong_snoc, hw]; simp, b', c', r', by rw [wrong_snoc, hD, hw]; rfl, by rw [wrong_snoc, hD, hw]; exact hcr, rfl⟩, ?_⟩
          rw [wrong_snoc, hD, hw]
          rfl
        · refine go hT 10000 rfl ?_
          conv => whnf
          refine ops_g rfl (g_load hT rfl rfl (.there (.there .here)) rfl) ?_
          refine go hT 10000 rfl ?_
          conv => whnf
          refine ops_g rfl (g_load hT rfl rfl .here rfl) ?_
          refine go hT 10000 rfl ?_
          conv => whnf
          refine ops_s rfl (s_listF hT rfl rfl rfl rfl rfl rfl rfl rfl ?_)
          refine go hT 10000 rfl ?_
          conv => whnf
          refine ops_sub (.drop (.refl _)) ?_
          have hcl : (((wrongP m to pre).map dgR).flatten).length = (wrongP m to pre).length * 3 := by
            have := (flat_get ((wrongP m to pre).map dgR) (sz := 3) (dg_len _)).1
            rwa [List.length_map] at this
          refine ops_s rfl (s_appendR hT rfl rfl rfl rfl rfl rfl rfl rfl rfl rfl (.there (.there .here)) hcl hcr (fun r hr => by rw [List.mem_singleton.1 hr]; rfl) (fun r hr => by rw [List.mem_singleton.1 hr]; rfl) (by show (wrongP m to pre).length + 1 < _; omega) fun b' c' r' hcr => ?_)
          refine go hT 10000 rfl ?_
          conv => whnf
          refine ops_s rfl (s_store (cs' := [.ref b' 0 ((wrongP m to pre).length + 1) c']) hT rfl rfl rfl (.there .here) rfl ?_)
          refine go hT 10000 rfl ?_
          conv => whnf
          refine ⟨rfl, _, .here, rfl, .ref b' 0 ((wrongP m to pre).length + 1) c', _, .inr ⟨by rw [wrong_snoc, hw]; simp, b', c', r', by rw [wrong_snoc, hw, List.length_append]; rfl, by rw [wrong_snoc, hw, List.length_append]; exact hcr, rfl⟩, ?_⟩
          rw [wrong_snoc, hw, List.map_append, List.flatten_append]
          rfl
      · have hw : wrongS m to (⟨17, (A : Int), o2, o3, o4, o5, o6, o7, oargs, onext, oels, oat⟩, (u : Int), (q : Int)) = [] := by
          unfold wrongS
          rw [if_neg (fun e => by
            have e2 := e.2
            unfold hasN at e2
            dsimp only at e2
            rw [Int.toNat_natCast, Int.toNat_natCast] at e2
            rw [e2] at hh
            cases hh), if_neg (fun e => by have e1 := e.1; dsimp only at e1; omega)]
        refine go hT 10000 rfl ?_
        conv => whnf
        intro id
        refine run_sub (.drop (.refl _)) ?_
        refine run_drw hT rfl rfl ?_ id
        repeat' (first
          | (refine god hT 1 rfl ?_; conv => whnf)
          | refine vd_fin rfl ?_
          | refine q_g rfl (fun S' => (g_len hT rfl rfl rfl rfl rfl rfl (List.length_map _)).qs) ?_
          | refine q_guard rfl rfl rfl rfl (fun h => ?_) (fun h => ?_)
          | fail)
        · exact absurd (show (17 : Int) = 16 from of_decide_eq_true h) (by decide)
        refine go hT 10000 rfl ?_
        conv => whnf
        exact ⟨rfl, _, .here, rfl, v, R, by rw [wrong_snoc, hw, List.append_nil]; exact hc, rfl⟩
    · simp only [decide_eq_false_iff_not] at h17
      have h16 : ok = 16 := hk.resolve_right h17
      subst h16
      refine go hT 10000 rfl ?_
      conv => whnf
      intro id
      refine run_drw hT rfl rfl ?_ id
      repeat' (first
        | (refine god hT 1 rfl ?_; conv => whnf)
        | refine vd_fin rfl ?_
        | refine q_g rfl (fun S' => (g_len hT rfl rfl rfl rfl rfl rfl (List.length_map _)).qs) ?_
        | refine q_guard rfl rfl rfl rfl (fun h => ?_) (fun h => ?_)
        | refine q_g rfl (fun S' => (g_indexM (i := A) (xs := to) (g := natR) hT rfl rfl rfl rfl rfl (by omega) rfl).qs) ?_)
      rotate_left
      · exact absurd (show (16 : Int) = 16 from rfl) (of_decide_eq_false h)
      have hto : to[A]'(by omega) < 256 := hlow _ (List.getElem_mem _)
      have hga : getN to A = to[A]'(by omega) := getN_of (by omega)
      refine go hT 10000 rfl ?_
      conv => whnf
      refine run_split rfl (fun hh => ?_) (fun hh => ?_)
      · have hh : (!(decide (andI ((q : Nat) : Int) ((to[A]'(by omega) : Nat) : Int) = 0))) = true := hh
        rw [andI_nat hq8 hto] at hh
        have hw : wrongS m to (⟨16, (A : Int), o2, o3, o4, o5, o6, o7, oargs, onext, oels, oat⟩, (u : Int), (q : Int)) = [(oat, 82, m.locks[A])] := by
          unfold wrongS
          rw [if_neg (fun e => by have e1 := e.1; dsimp only at e1; omega), if_pos ⟨rfl, by
            dsimp only
            rw [Int.toNat_natCast, Int.toNat_natCast, hga]
            intro e
            rw [e] at hh
            cases hh⟩]
          dsimp only
          rw [hnm]
        refine go hT 10000 rfl ?_
        conv => whnf
        refine ops_s rfl (s_store (cs' := [.int .i64 oat, .int .i64 82, .str m.locks[A]]) hT rfl rfl rfl .here rfl ?_)
        rcases hc with ⟨hD, rfl, rfl⟩ | ⟨hne, b', c, r, rfl, hcr, rfl⟩
        · refine go hT 10000 rfl ?_
          conv => whnf
          refine ops_g rfl (g_load hT rfl rfl (.there (.there .here)) rfl) ?_
          refine go hT 10000 rfl ?_
          conv => whnf
          refine ops_g rfl (g_load hT rfl rfl .here rfl) ?_
          refine go hT 10000 rfl ?_
          conv => whnf
          refine ops_s rfl (s_listF hT rfl rfl rfl rfl rfl rfl rfl rfl ?_)
          refine go hT 10000 rfl ?_
          conv => whnf
          refine ops_sub (.no (.drop (.refl _))) ?_
          refine ops_s rfl (s_append0 hT rfl rfl rfl rfl rfl rfl rfl rfl rfl rfl .here (fun r hr => by rw [List.mem_singleton.1 hr]; rfl) Nat.zero_lt_one (by show 1 < _; omega) fun b' c' r' hcr => ?_)
          refine go hT 10000 rfl ?_
          conv => whnf
          refine ops_s rfl (s_store (cs' := [.ref b' 0 1 c']) hT rfl rfl rfl (.there (.there .here)) rfl ?_)
          refine ops_perm (rot3 _ _ _) ?_
          refine go hT 10000 rfl ?_
          conv => whnf
          refine ⟨rfl, _, .here, rfl, .ref b' 0 1 c', _, .inr ⟨by rw [wrong_snoc, hw]; simp, b', c', r', by rw [wrong_snoc, hD, hw]; rfl, by rw [wrong_snoc, hD, hw]; exact hcr, rfl⟩, ?_⟩
          rw [wrong_snoc, hD, hw]
          rfl
        · refine go hT 10000 rfl ?_
          conv => whnf
          refine ops_g rfl (g_load hT rfl rfl (.there (.there .here)) rfl) ?_
          refine go hT 10000 rfl ?_
          conv => whnf
          refine ops_g rfl (g_load hT rfl rfl .here rfl) ?_
          refine go hT 10000 rfl ?_
          conv => whnf
          refine ops_s rfl (s_listF hT rfl rfl rfl rfl rfl rfl rfl rfl ?_)
          refine go hT 10000 rfl ?_
          conv => whnf
          refine ops_sub (.drop (.refl _)) ?_
          have hcl : (((wrongP m to pre).map dgR).flatten).length = (wrongP m to pre).length * 3 := by
            have := (flat_get ((wrongP m to pre).map dgR) (sz := 3) (dg_len _)).1
            rwa [List.length_map] at this
          refine ops_s rfl (s_appendR hT rfl rfl rfl rfl rfl rfl rfl rfl rfl rfl (.there (.there .here)) hcl hcr (fun r hr => by rw [List.mem_singleton.1 hr]; rfl) (fun r hr => by rw [List.mem_singleton.1 hr]; rfl) (by show (wrongP m to pre).length + 1 < _; omega) fun b' c' r' hcr => ?_)
          refine go hT 10000 rfl ?_
          conv => whnf
          refine ops_s rfl (s_store (cs' := [.ref b' 0 ((wrongP m to pre).length + 1) c']) hT rfl rfl rfl (.there .here) rfl ?_)
          refine go hT 10000 rfl ?_
          conv => whnf
          refine ⟨rfl, _, .here, rfl, .ref b' 0 ((wrongP m to pre).length + 1) c', _, .inr ⟨by rw [wrong_snoc, hw]; simp, b', c', r', by rw [wrong_snoc, hw, List.length_append]; rfl, by rw [wrong_snoc, hw, List.length_append]; exact hcr, rfl⟩, ?_⟩
          rw [wrong_snoc, hw, List.map_append, List.flatten_append]
          rfl
      · have hh : (!(decide (andI ((q : Nat) : Int) ((to[A]'(by omega) : Nat) : Int) = 0))) = false := hh
        rw [andI_nat hq8 hto] at hh
        have hw : wrongS m to (⟨16, (A : Int), o2, o3, o4, o5, o6, o7, oargs, onext, oels, oat⟩, (u : Int), (q : Int)) = [] := by
          unfold wrongS
          rw [if_neg (fun e => by have e1 := e.1; dsimp only at e1; omega), if_neg (fun e => by
            have e2 := e.2
            dsimp only at e2
            rw [Int.toNat_natCast, Int.toNat_natCast, hga] at e2
            rw [decide_eq_false (by omega)] at hh
            cases hh)]
        refine run_sub (.drop (.refl _)) ?_
        refine go hT 10000 rfl ?_
        conv => whnf
        exact ⟨rfl, _, .here, rfl, v, R, by rw [wrong_snoc, hw, List.append_nil]; exact hc, rfl⟩
  · rintro _ S' hj
    obtain ⟨v, R, hc, rfl⟩ := hj
    refine ⟨_, rfl, fun σ' h1 h2 => ?_⟩
    obtain ⟨r', m', n', F', w', S0', ds'⟩ := σ'
    dsimp only at h1 h2
    subst h1 h2
    have hwl : (wrongP m to (stopsP m us vs)).length ≤ 200000 := Nat.le_trans (wrongP_len m to _) hsl
    have hsd := sort_diags (wrongP m to (stopsP m us vs))
    have hml := (List.mergeSort_perm (wrongP m to (stopsP m us vs)) fun x y => !ltD y x).length_eq
    have hsl2 := sortD_len (wrongP m to (stopsP m us vs))
    rcases hc with ⟨hD, rfl, rfl⟩ | ⟨hne, b', c, r, rfl, hcr, rfl⟩
    · refine go hT 10000 rfl ?_
      conv => whnf
      refine ops_g rfl (g_load hT rfl rfl .here rfl) ?_
      refine go hT 10000 rfl ?_
      conv => whnf
      refine ops_s rfl (s_call hT rfl rfl rfl rfl rfl rfl ((vc_sortNone Tryz.sortDiags _ _).mono ?_))
      rintro _ S' ⟨rfl, rfl⟩
      refine go hT 10000 rfl ?_
      conv => whnf
      refine ops_g rfl (g_load hT rfl rfl .here rfl) ?_
      refine ops_sub (.drop (.refl _)) ?_
      refine go hT 10000 rfl ?_
      conv => whnf
      refine ops_s rfl (s_pure hT rfl rfl rfl rfl rfl rfl (compact0 hT) ?_)
      refine go hT 10000 rfl ?_
      conv => whnf
      exact ret_of (.tmp rfl .nil) (.inl ⟨hr, us, vs, hth, .inl ⟨by rw [hraw, hD]; rfl, rfl, rfl⟩⟩)
    · refine go hT 10000 rfl ?_
      conv => whnf
      refine ops_g rfl (g_load hT rfl rfl .here rfl) ?_
      refine ops_perm (.swap _ _ _) ?_
      refine go hT 10000 rfl ?_
      conv => whnf
      refine ops_s rfl (s_call hT rfl rfl rfl rfl rfl rfl (((sortDiagsP hT b' (wrongP m to (stopsP m us vs)).length c r (wrongP m to (stopsP m us vs)) rfl (by omega)).frame [.cells b7 [.ref b' 0 (wrongP m to (stopsP m us vs)).length c] 37]).mono ?_))
      rintro _ S' ⟨S1, rfl, rfl, rfl⟩
      rw [ltOf_cfD]
      generalize (wrongP m to (stopsP m us vs)).mergeSort (fun x y => !ltD y x) = D2 at hsd hml
      refine go hT 10000 rfl ?_
      conv => whnf
      refine ops_g rfl (g_load hT rfl rfl (.there .here) rfl) ?_
      refine ops_sub (.keep (.drop (.refl _))) ?_
      refine go hT 10000 rfl ?_
      conv => whnf
      refine ops_s rfl (s_call hT rfl rfl rfl rfl rfl rfl ((compactD hT b' (wrongP m to (stopsP m us vs)).length c D2 (List.replicate r .any) hml (by omega) (by omega)).mono ?_))
      rintro _ S' ⟨Y, rfl, rfl⟩
      rw [hsd]
      refine go hT 10000 rfl ?_
      conv => whnf
      exact ret_of (.tmp rfl .nil) (.inl ⟨hr, us, vs, hth, .inr ⟨b', c, Y, by rw [hraw]; omega, by rw [hraw]; rfl, by rw [hraw]⟩⟩)
theorem checkE (m : MModule) (hs : Small m) : PureR Tryz.prog 17 [.agg (modV m)] (CheckE m) := by
  have h1 : VC Tryz.prog 17 [.agg (modV m)] [] (CheckT m) := (checkQ hT m hs).freeze fun v S' h => by
    rcases h with ⟨hr, us, vs, hth, ⟨e, rfl, rfl⟩ | ⟨b, c, Y, hc, rfl, rfl⟩⟩ | ⟨hr, rfl, rfl⟩
    · exact .inl ⟨rfl, .inl ⟨hr, us, vs, .zero, hth, by rw [e]; rfl⟩⟩
    · exact .inr ⟨b, _, c, 3, (sortR ltD (rawM m us vs)).map dgR, Y, _, [], rfl, rfl, dg_len _, List.length_map _, hc, rfl, .inl ⟨hr, us, vs, .no, hth, rfl⟩⟩
    · exact .inl ⟨rfl, .inr ⟨hr, rfl⟩⟩
  exact h1.less (Q' := fun v _ => CheckE m v) fun v S1 hq => by
    rcases hq with ⟨rfl, ⟨hr, us, vs, t, hth, rfl⟩ | ⟨hr, rfl⟩⟩
    · exact ⟨_, [], V.Le.slice _ _, .refl _, .inl ⟨hr, us, vs, hth, rfl⟩⟩
    · exact ⟨_, [], V.Le.slice _ _, .refl _, .inr ⟨hr, rfl⟩⟩
end
end Go.Vw
namespace Go.Vw
open Go.RowKit Go.Am Go.Proofs Go.Ord Go.Sort
attribute [local irreducible] VOps VRun VNext VD VDn VDq Ret
theorem Threads.unique {m : MModule} : ∀ {fs : List Int} {us vs us' vs' : List (List (List Int))}, Threads m fs us vs → Threads m fs us' vs' → us = us' ∧ vs = vs' := fun {fs us vs us' vs'} h => by
  induction h generalizing us' vs' with
  | nil => intro k; cases k; exact ⟨rfl, rfl⟩
  | cons h1 _ ih =>
    intro k
    cases k with
    | cons k1 k2 =>
      obtain ⟨e1, e2⟩ := h1.unique k1
      obtain ⟨e3, e4⟩ := ih k2
      exact ⟨by rw [e1, e3], by rw [e2, e4]⟩
section
variable [Drw] (hT : TabOk tab Tryz.prog)
include hT
/-- What order.Find answers. -/
def EdgesE (m : MModule) (v : V) : Prop := (rightModB m = true ∧ ∃ us vs, Threads m m.threads us vs ∧ v = .tup [.slice .no ((edgesP m.locks.length (stopsP m us vs)).map prs), .int .i64 0]) ∨ (rightModB m = false ∧ v = .tup [.slice .no [], .int .i64 70])
theorem edgesE (m : MModule) (hs : Small m) : PureR Tryz.prog 13 [.agg (modV m)] (EdgesE m) := by
  refine VC.code hT 15 rfl rfl rfl rfl fun F w S0 => ?_
  refine go hT 10000 rfl ?_
  conv => whnf
  refine ops_s rfl (s_boxF rfl rfl rfl ?_)
  refine go hT 10000 rfl ?_
  conv => whnf
  refine ops_s rfl (s_pureR hT rfl rfl rfl rfl rfl rfl (findE hT m hs) ?_)
  rintro _ (⟨hr, us, vs, hth, rfl⟩ | ⟨hr, rfl⟩)
  · refine go hT 10000 rfl ?_
    conv => whnf
    refine ops_s rfl (s_alloc hT rfl rfl rfl fun b5 => ?_)
    refine go hT 10000 rfl ?_
    conv => whnf
    refine ops_s rfl (s_store (cs' := heldV us vs) hT rfl rfl rfl .here rfl ?_)
    refine go hT 10000 rfl ?_
    conv => whnf
    exact ret_of (.tmp rfl (.tmp rfl .nil)) (.inl ⟨hr, us, vs, hth, rfl⟩)
  · refine go hT 10000 rfl ?_
    conv => whnf
    refine ops_s rfl (s_alloc hT rfl rfl rfl fun b5 => ?_)
    refine go hT 10000 rfl ?_
    conv => whnf
    refine ops_s rfl (s_store (cs' := heldV [] []) hT rfl rfl rfl .here rfl ?_)
    refine go hT 10000 rfl ?_
    conv => whnf
    exact ret_of (.tmp rfl (.tmp rfl .nil)) (.inr ⟨hr, rfl⟩)
end
end Go.Vw
namespace Go.Vw
open Go.RowKit Go.Am Go.Proofs Go.Ord Go.Sort
/-- The code, with other threads. -/
def withT (m : MModule) (ts : List Int) : MModule := { m with threads := ts }
theorem called_with (m : MModule) (ts : List Int) : ∀ (k : Nat) (g : Int) (s : List Int), calledP (withT m ts) k g s = calledP m k g s
  | 0, _, _ => rfl
  | k + 1, g, s => by
    unfold calledP
    have e : ∀ (c : List MOp) (s : List Int), c.foldl (fun s o => if o.kind = 22 then calledP (withT m ts) k o.a s else s) s = c.foldl (fun s o => if o.kind = 22 then calledP m k o.a s else s) s := fun c => by
      induction c with
      | nil => intro s; rfl
      | cons o c ih =>
        intro s
        rw [List.foldl_cons, List.foldl_cons, called_with m ts k o.a s]
        exact ih _
    rw [e]
    rfl
theorem done_with {m : MModule} {ts : List Int} {x y : Fp} (h : Done (withT m ts) x y) : Done m x y := by
  induction h with
  | stop h => exact .stop h
  | step h _ ih => exact .step h ih
theorem thread_with {m : MModule} {ts : List Int} {g : Int} {a b : List (List Int)} (h : Thread (withT m ts) g a b) : Thread m g a b := by
  obtain ⟨y, hd, rfl, rfl⟩ := h
  have e : seenP (withT m ts) g = seenP m g := called_with m ts _ g []
  exact ⟨y, done_with hd, by rw [e]; rfl, by rw [e]; rfl⟩
theorem threads_with {m : MModule} {ts : List Int} : ∀ {fs : List Int} {us vs : List (List (List Int))}, Threads (withT m ts) fs us vs → Threads m fs us vs
  | _, _, _, .nil => .nil
  | _, _, _, .cons h k => .cons (thread_with h) (threads_with k)
theorem threads_split {m : MModule} {f : Int} : ∀ {fs : List Int} {us vs : List (List (List Int))}, Threads m (fs ++ [f]) us vs → ∃ us' vs' a b, us = us' ++ [a] ∧ vs = vs' ++ [b] ∧ Threads m fs us' vs'
  | [], _, _, .cons _ .nil => ⟨[], [], _, _, rfl, rfl, .nil⟩
  | g :: fs, _, _, .cons h k => by
    obtain ⟨us', vs', a, b, rfl, rfl, h2⟩ := threads_split k
    exact ⟨_ :: us', _ :: vs', a, b, rfl, rfl, .cons h h2⟩
/-- Which threads there are says nothing of the code's own rightness. -/
theorem right_more {m : MModule} {f : Int} (h4 : m.threads.length < 4) (hf : wrongB m f = false) : rightModB (withT m (m.threads ++ [f])) = rightModB m := by
  have key : frameB (withT m (m.threads ++ [f])) = frameB m := by
    have e1 : decide (((m.threads ++ [f]).length : Int) ≤ 4) = true := decide_eq_true (by rw [List.length_append]; simp; omega)
    have e2 : decide ((m.threads.length : Int) ≤ 4) = true := decide_eq_true (by omega)
    have e3 : (m.threads ++ [f]).any (wrongB m) = m.threads.any (wrongB m) := by
      rw [List.any_append]
      simp [hf]
    have e4 : wrongB (withT m (m.threads ++ [f])) = wrongB m := rfl
    have l : frameB (withT m (m.threads ++ [f])) = (m.funcs.all okFB && (countsB m && namesB m && decide (1 ≤ (m.funcs.length : Int)) && decide ((m.funcs.length : Int) ≤ 12) && decide (((m.threads ++ [f]).length : Int) ≤ 4) && decide (codeSum m.funcs ≤ 4096) && !(m.threads ++ [f]).any (wrongB m))) := rfl
    rw [l, e1, e3]
    unfold frameB
    rw [e2]
  have e5 : rightModB (withT m (m.threads ++ [f])) = (frameB (withT m (m.threads ++ [f])) && m.funcs.all fun g => g.code.all (rightB m g (sumI m.globals))) := rfl
  rw [e5, key]
  rfl
theorem stops_more {m : MModule} {ts : List Int} {us vs : List (List (List Int))} {a b : List (List Int)} (hl : us.length = vs.length) {s : Stp} (h : s ∈ stopsP m us vs) : s ∈ stopsP (withT m ts) (us ++ [a]) (vs ++ [b]) := by
  obtain ⟨t, f, n, u, v, x, y, hu, hv, p, q, hp, hq, hx, hy, hst, rfl⟩ := stops_mem.1 h
  have h1 := (List.getElem?_eq_some_iff.1 hu).1
  have h2 := (List.getElem?_eq_some_iff.1 hv).1
  exact stops_mem.2 ⟨t, f, n, u, v, x, y, by rw [List.getElem?_append_left h1]; exact hu, by rw [List.getElem?_append_left h2]; exact hv, p, q, hp, hq, hx, hy, hst, rfl⟩
theorem edgeL_more {ss ss' : List Stp} (h : ∀ s ∈ ss, s ∈ ss') {l k : Nat} (e : edgeL ss l k = true) : edgeL ss' l k = true := by
  unfold edgeL at e ⊢
  rw [List.any_eq_true] at e ⊢
  obtain ⟨s, h1, h2⟩ := e
  exact ⟨s, h s h1, h2⟩
theorem edges_more {L : Nat} {ss ss' : List Stp} (h : ∀ s ∈ ss, s ∈ ss') {x : Int × Int} (hx : x ∈ edgesP L ss) : x ∈ edgesP L ss' := by
  obtain ⟨l, k, h1, h2, h3, e⟩ := (edgesP_mem L ss x).1 hx
  exact (edgesP_mem L ss' x).2 ⟨l, k, h1, h2, edgeL_more h h3, e⟩
theorem Rch.more {es es' : List (Nat × Nat)} (h : ∀ e ∈ es, e ∈ es') {a b : Nat} (k : Rch es a b) : Rch es' a b := by
  induction k with
  | refl => exact .refl _
  | step h1 _ ih => exact .step (h _ h1) ih
theorem wrong_more {m : MModule} {ts : List Int} {L : Nat} (hL : L = m.locks.length) {ss ss' : List Stp} (h : ∀ s ∈ ss, s ∈ ss') (hs : ∀ s ∈ ss, StopOk m s) {d : MDiag} (hd : d ∈ wrongP m (leadsB L (edgesNat L ss)) ss) : d ∈ wrongP (withT m ts) (leadsB L (edgesNat L ss')) ss' := by
  subst hL
  unfold wrongP at hd ⊢
  rw [List.mem_flatMap] at hd ⊢
  obtain ⟨s, h1, h2⟩ := hd
  refine ⟨s, h s h1, ?_⟩
  have so := hs s h1
  have ha : s.1.a.toNat < m.locks.length := by have := so.lock; omega
  have hes : ∀ e ∈ edgesNat m.locks.length ss, e ∈ edgesNat m.locks.length ss' := fun e he => by
    obtain ⟨l, k⟩ := e
    obtain ⟨q1, q2, q3⟩ := (edgesNat_mem _ _ _ _).1 he
    exact (edgesNat_mem _ _ _ _).2 ⟨q1, q2, edgeL_more h q3⟩
  unfold wrongS at h2 ⊢
  split at h2
  · next hc =>
    rw [if_pos hc]
    exact h2
  · next hc =>
    rw [if_neg hc]
    split at h2
    · next hk =>
      obtain ⟨i, p1, p2⟩ := and_ne.1 hk.2
      rw [if_pos ⟨hk.1, and_ne.2 ⟨i, p1, (leadsB_iff (edgesNat_lt _ _) ha).2 (Rch.more hes ((leadsB_iff (edgesNat_lt _ _) ha).1 p2))⟩⟩]
      exact h2
    · cases h2
end Go.Vw
namespace Go.Vw
open Go.RowKit Go.Am Go.Proofs
attribute [local irreducible] VOps VRun VNext VD VDn VDq Ret
def modW (m : MModule) (t : Tok) (fs : V) : List V := [.slice .no (m.globals.map sizedV), .slice .no (m.structs.map sizedV), .slice .no (m.chans.map sizedV), .slice .no (m.locks.map strV), .slice .no (m.inputs.map strV), .slice .no (m.sinks.map strV), .slice .no (m.hatches.map strV), fs, .slice t (m.threads.map intV)]
section
variable [Drw] (hT : TabOk tab Tryz.prog)
include hT
theorem copyIntsT {tok : Tok} (xs : List Int) (hl : xs.length < 2000000) : VC Tryz.prog 35 [.slice tok (xs.map intV)] [] fun v S' => ∃ t, tokB 1 t = true ∧ v = .slice t (xs.map intV) ∧ S' = [.tl t] := by
  refine VC.code hT 9 rfl rfl rfl rfl fun F W S0 => ?_
  refine go hT 10000 rfl ?_
  conv => whnf
  refine ops_s rfl (s_buildSlice hT rfl rfl rfl rfl rfl rfl rfl rfl fun t ht => ?_)
  refine go hT 10000 rfl ?_
  conv => whnf
  refine ops_s rfl (s_append hT rfl rfl rfl rfl rfl rfl rfl rfl rfl rfl ht .here (fun r hr => by cases hr) (intV_len xs) (intV_cell xs) (by simp only [List.length_nil, List.length_map]; omega) fun t' ht' => ?_)
  refine go hT 10000 rfl ?_
  conv => whnf
  exact ret_of (.tmp rfl .nil) ⟨t', ht', rfl, rfl⟩
theorem copyModuleT0 (m : MModule) (hs : Small m) : VC Tryz.prog 12 [.agg (modV m)] [] fun v S' => ∃ b3 b2 t, tokB 1 t = true ∧ v = .agg (modW m t (.slice .no (m.funcs.map funcV))) ∧ S' = [.cells b3 (modW m t (.slice .no (m.funcs.map funcV))) 27, .tl t, .cells b2 (modW m t (.slice .no (m.funcs.map funcV))) 27] := by
  refine VC.code hT 54 rfl rfl rfl rfl fun F W S0 => ?_
  have z8 := hs.funcs
  refine go hT 10000 rfl ?_
  conv => whnf
  refine ops_s rfl (s_boxF rfl rfl rfl ?_)
  refine go hT 10000 rfl ?_
  conv => whnf
  refine ops_s rfl (s_alloc hT rfl rfl rfl fun b2 => ?_)
  refine go hT 10000 rfl ?_
  conv => whnf
  refine run_drw hT rfl rfl ?_
  repeat' (first
    | (refine god hT 2 rfl ?_; conv => whnf)
    | refine vd_fin rfl ?_
    | refine q_g rfl (fun S' => (g_len hT rfl rfl rfl rfl rfl rfl (List.length_map _)).qs) ?_
    | refine q_guard rfl rfl rfl rfl (fun h => ?_) (fun h => ?_)
    | refine q_g rfl (fun S' => s_pure hT rfl rfl rfl rfl rfl rfl (copySized hT m.globals hs.globals) ⟨rfl, rfl⟩) ?_
    | refine q_g rfl (fun S' => s_pure hT rfl rfl rfl rfl rfl rfl (copySized hT m.structs hs.structs) ⟨rfl, rfl⟩) ?_
    | refine q_g rfl (fun S' => s_pure hT rfl rfl rfl rfl rfl rfl (copySized hT m.chans hs.chans) ⟨rfl, rfl⟩) ?_
    | refine q_g rfl (fun S' => s_pure hT rfl rfl rfl rfl rfl rfl (copyTexts hT m.locks hs.locks) ⟨rfl, rfl⟩) ?_
    | refine q_g rfl (fun S' => s_pure hT rfl rfl rfl rfl rfl rfl (copyTexts hT m.inputs hs.inputs) ⟨rfl, rfl⟩) ?_
    | refine q_g rfl (fun S' => s_pure hT rfl rfl rfl rfl rfl rfl (copyTexts hT m.sinks hs.sinks) ⟨rfl, rfl⟩) ?_
    | refine q_g rfl (fun S' => s_pure hT rfl rfl rfl rfl rfl rfl (copyTexts hT m.hatches hs.hatches) ⟨rfl, rfl⟩) ?_)
  unfold VDq
  intro _ _ _
  refine god hT 1 rfl ?_
  conv => whnf
  refine vd_eff2 rfl (eff rfl rfl (s_call hT rfl rfl rfl rfl rfl rfl ?_)) (eff rfl rfl (s_alloc hT rfl rfl rfl fun b3 => ⟨trivial, ?_⟩))
  · refine ((copyIntsT hT m.threads hs.threads).frame [.cells b2 modZ 27]).mono ?_
    rintro _ S' ⟨S1, rfl, tt, htt, rfl, rfl⟩
    refine And.intro trivial ?_
    refine god hT 2 rfl ?_
    conv => whnf
    refine vd_eff1 rfl (eff rfl rfl (s_alloc hT rfl rfl rfl fun b3 => ⟨trivial, ?_⟩))
    refine god hT 2 rfl ?_
    conv => whnf
    refine vd_eff1 rfl (eff rfl rfl (s_store (cs' := modW m tt (.slice .zero [])) hT rfl rfl rfl .here rfl ⟨trivial, ?_⟩))
    refine god hT 2 rfl ?_
    conv => whnf
    refine vd_fin rfl ?_
    refine go hT 10000 rfl ?_
    conv => whnf
    refine run_lq (fun x : Nat × Tok => ([(1, .pin (modV m) 0), (2, .ptr b2 0), (3, .ptr b3 0), (4, .int .i64 x.1)], [.cells b3 (modW m tt (.slice x.2 ((m.funcs.take x.1).map funcV))) 27, .tl tt, .cells b2 modZ 27, .tl x.2])) (fun x => tokB 5 x.2 = true) (fun x => m.funcs.length - x.1) (0, .zero) rfl ⟨⟨⟨_, rfl, .refl _⟩, ⟨_, rfl, .refl _⟩, ⟨_, rfl, .refl _⟩, ⟨_, rfl, .refl _⟩, trivial⟩, .keep (.keep (.keep (.zero .nil)))⟩ fun ⟨i, t⟩ ht => ?_
    refine go hT 10000 rfl ?_
    conv => whnf
    refine ops_g rfl (g_len hT rfl rfl rfl rfl rfl rfl (List.length_map _)) ?_
    refine go hT 10000 rfl ?_
    conv => whnf
    refine run_split rfl (fun hlt => ?_) (fun hlt => ?_)
    · simp only [decide_eq_true_eq, Int.ofNat_lt] at hlt
      have hin := List.getElem_mem hlt
      refine go hT 10000 rfl ?_
      conv => whnf
      refine ops_g rfl (g_indexM hT rfl rfl rfl rfl rfl hlt rfl) ?_
      refine go hT 10000 rfl ?_
      conv => whnf
      refine ops_s rfl (s_alloc hT rfl rfl rfl fun b => ?_)
      refine go hT 10000 rfl ?_
      conv => whnf
      refine ops_s rfl (s_store (cs' := funcV m.funcs[i]) hT rfl rfl rfl .here rfl ?_)
      refine go hT 10000 rfl ?_
      conv => whnf
      refine ops_g rfl (g_load hT rfl rfl .here rfl) ?_
      refine go hT 10000 rfl ?_
      conv => whnf
      refine ops_s rfl (s_pure hT rfl rfl rfl rfl rfl rfl (copyCode hT m.funcs[i].code (hs.code _ hin) (hs.args _ hin)) ?_)
      refine go hT 10000 rfl ?_
      conv => whnf
      refine ops_s rfl (s_store (cs' := funcV m.funcs[i]) hT rfl rfl rfl .here rfl ?_)
      refine go hT 10000 rfl ?_
      conv => whnf
      refine ops_g rfl (g_load hT rfl rfl (.there .here) rfl) ?_
      refine go hT 10000 rfl ?_
      conv => whnf
      refine ops_g rfl (g_load hT rfl rfl .here rfl) ?_
      refine go hT 10000 rfl ?_
      conv => whnf
      refine ops_s rfl (s_listF (rows := [funcV m.funcs[i]]) hT rfl rfl rfl rfl rfl rfl rfl rfl ?_)
      refine go hT 10000 rfl ?_
      conv => whnf
      refine ops_s rfl (s_append hT rfl rfl rfl rfl rfl rfl rfl rfl rfl rfl ht (.there (.there (.there (.there .here)))) (funcV_len _) (funcV_len [m.funcs[i]]) (funcV_cell [m.funcs[i]]) (by simp only [List.length_cons, List.length_nil, List.length_map, List.length_take]; omega) fun t' ht' => ?_)
      refine go hT 10000 rfl ?_
      conv => whnf
      refine ops_s rfl (s_store (cs' := modW m tt (.slice t' ((m.funcs.take i).map funcV ++ [funcV m.funcs[i]]))) hT rfl rfl rfl (.there .here) rfl ?_)
      refine go hT 10000 rfl ?_
      conv => whnf
      refine ops_g rfl (g_add rfl rfl rfl (by dsimp only; omega)) ?_
      refine go hT 10000 rfl ?_
      conv => whnf
      exact ⟨(i + 1, t'), ht', by dsimp only; omega, ⟨⟨_, rfl, .refl _⟩, ⟨_, rfl, .refl _⟩, ⟨_, rfl, .refl _⟩, ⟨_, rfl, .refl _⟩, trivial⟩, by dsimp only; rw [List.take_succ_eq_append_getElem hlt, List.map_append]; exact .drop (.refl _)⟩
    · simp only [decide_eq_false_iff_not, Int.ofNat_lt] at hlt
      have e : m.funcs.take i = m.funcs := List.take_of_length_le (by omega)
      refine run_wkT (fr' := [(2, .ptr b2 0), (3, .ptr b3 0)]) (S' := [.cells b3 (modW m tt (.slice .no (m.funcs.map funcV))) 27, .tl tt, .cells b2 modZ 27]) ⟨⟨⟨_, rfl, .refl _⟩, ⟨_, rfl, .refl _⟩, trivial⟩, by rw [e]; exact .cells (.cons (.refl _) (.cons (.refl _) (.cons (.refl _) (.cons (.refl _) (.cons (.refl _) (.cons (.refl _) (.cons (.refl _) (.cons (V.Le.slice _ _) (.cons (.refl _) .nil))))))))) (.keep (.keep .nil))⟩ ?_
      refine go hT 10000 rfl ?_
      conv => whnf
      refine ops_g rfl (g_load hT rfl rfl .here rfl) ?_
      refine go hT 10000 rfl ?_
      conv => whnf
      refine ops_s rfl (s_store (cs' := modW m tt (.slice .no (m.funcs.map funcV))) hT rfl rfl rfl (.there (.there .here)) rfl ?_)
      refine go hT 10000 rfl ?_
      conv => whnf
      exact ret_of (.cell rfl (.there (.there .here)) rfl .nil) ⟨b3, b2, tt, htt, rfl, rfl⟩
  · refine god hT 1 rfl ?_
    conv => whnf
    refine vd_eff1 rfl (eff rfl rfl (s_call hT rfl rfl rfl rfl rfl rfl ?_))
    refine ((copyIntsT hT m.threads hs.threads).frame [.cells b3 modZ 27, .cells b2 modZ 27]).mono ?_
    rintro _ S' ⟨S1, rfl, tt, htt, rfl, rfl⟩
    refine And.intro trivial ?_
    refine god hT 2 rfl ?_
    conv => whnf
    refine vd_eff1 rfl (eff rfl rfl (s_store (cs' := modW m tt (.slice .zero [])) hT rfl rfl rfl (.there .here) rfl ⟨trivial, ?_⟩))
    refine god hT 2 rfl ?_
    conv => whnf
    refine vd_fin rfl ?_
    refine next_perm (.swap _ _ _) ?_
    refine go hT 10000 rfl ?_
    conv => whnf
    refine run_lq (fun x : Nat × Tok => ([(1, .pin (modV m) 0), (2, .ptr b2 0), (3, .ptr b3 0), (4, .int .i64 x.1)], [.cells b3 (modW m tt (.slice x.2 ((m.funcs.take x.1).map funcV))) 27, .tl tt, .cells b2 modZ 27, .tl x.2])) (fun x => tokB 5 x.2 = true) (fun x => m.funcs.length - x.1) (0, .zero) rfl ⟨⟨⟨_, rfl, .refl _⟩, ⟨_, rfl, .refl _⟩, ⟨_, rfl, .refl _⟩, ⟨_, rfl, .refl _⟩, trivial⟩, .keep (.keep (.keep (.zero .nil)))⟩ fun ⟨i, t⟩ ht => ?_
    refine go hT 10000 rfl ?_
    conv => whnf
    refine ops_g rfl (g_len hT rfl rfl rfl rfl rfl rfl (List.length_map _)) ?_
    refine go hT 10000 rfl ?_
    conv => whnf
    refine run_split rfl (fun hlt => ?_) (fun hlt => ?_)
    · simp only [decide_eq_true_eq, Int.ofNat_lt] at hlt
      have hin := List.getElem_mem hlt
      refine go hT 10000 rfl ?_
      conv => whnf
      refine ops_g rfl (g_indexM hT rfl rfl rfl rfl rfl hlt rfl) ?_
      refine go hT 10000 rfl ?_
      conv => whnf
      refine ops_s rfl (s_alloc hT rfl rfl rfl fun b => ?_)
      refine go hT 10000 rfl ?_
      conv => whnf
      refine ops_s rfl (s_store (cs' := funcV m.funcs[i]) hT rfl rfl rfl .here rfl ?_)
      refine go hT 10000 rfl ?_
      conv => whnf
      refine ops_g rfl (g_load hT rfl rfl .here rfl) ?_
      refine go hT 10000 rfl ?_
      conv => whnf
      refine ops_s rfl (s_pure hT rfl rfl rfl rfl rfl rfl (copyCode hT m.funcs[i].code (hs.code _ hin) (hs.args _ hin)) ?_)
      refine go hT 10000 rfl ?_
      conv => whnf
      refine ops_s rfl (s_store (cs' := funcV m.funcs[i]) hT rfl rfl rfl .here rfl ?_)
      refine go hT 10000 rfl ?_
      conv => whnf
      refine ops_g rfl (g_load hT rfl rfl (.there .here) rfl) ?_
      refine go hT 10000 rfl ?_
      conv => whnf
      refine ops_g rfl (g_load hT rfl rfl .here rfl) ?_
      refine go hT 10000 rfl ?_
      conv => whnf
      refine ops_s rfl (s_listF (rows := [funcV m.funcs[i]]) hT rfl rfl rfl rfl rfl rfl rfl rfl ?_)
      refine go hT 10000 rfl ?_
      conv => whnf
      refine ops_s rfl (s_append hT rfl rfl rfl rfl rfl rfl rfl rfl rfl rfl ht (.there (.there (.there (.there .here)))) (funcV_len _) (funcV_len [m.funcs[i]]) (funcV_cell [m.funcs[i]]) (by simp only [List.length_cons, List.length_nil, List.length_map, List.length_take]; omega) fun t' ht' => ?_)
      refine go hT 10000 rfl ?_
      conv => whnf
      refine ops_s rfl (s_store (cs' := modW m tt (.slice t' ((m.funcs.take i).map funcV ++ [funcV m.funcs[i]]))) hT rfl rfl rfl (.there .here) rfl ?_)
      refine go hT 10000 rfl ?_
      conv => whnf
      refine ops_g rfl (g_add rfl rfl rfl (by dsimp only; omega)) ?_
      refine go hT 10000 rfl ?_
      conv => whnf
      exact ⟨(i + 1, t'), ht', by dsimp only; omega, ⟨⟨_, rfl, .refl _⟩, ⟨_, rfl, .refl _⟩, ⟨_, rfl, .refl _⟩, ⟨_, rfl, .refl _⟩, trivial⟩, by dsimp only; rw [List.take_succ_eq_append_getElem hlt, List.map_append]; exact .drop (.refl _)⟩
    · simp only [decide_eq_false_iff_not, Int.ofNat_lt] at hlt
      have e : m.funcs.take i = m.funcs := List.take_of_length_le (by omega)
      refine run_wkT (fr' := [(2, .ptr b2 0), (3, .ptr b3 0)]) (S' := [.cells b3 (modW m tt (.slice .no (m.funcs.map funcV))) 27, .tl tt, .cells b2 modZ 27]) ⟨⟨⟨_, rfl, .refl _⟩, ⟨_, rfl, .refl _⟩, trivial⟩, by rw [e]; exact .cells (.cons (.refl _) (.cons (.refl _) (.cons (.refl _) (.cons (.refl _) (.cons (.refl _) (.cons (.refl _) (.cons (.refl _) (.cons (V.Le.slice _ _) (.cons (.refl _) .nil))))))))) (.keep (.keep .nil))⟩ ?_
      refine go hT 10000 rfl ?_
      conv => whnf
      refine ops_g rfl (g_load hT rfl rfl .here rfl) ?_
      refine go hT 10000 rfl ?_
      conv => whnf
      refine ops_s rfl (s_store (cs' := modW m tt (.slice .no (m.funcs.map funcV))) hT rfl rfl rfl (.there (.there .here)) rfl ?_)
      refine go hT 10000 rfl ?_
      conv => whnf
      exact ret_of (.cell rfl (.there (.there .here)) rfl .nil) ⟨b3, b2, tt, htt, rfl, rfl⟩
theorem copyModuleT (m : MModule) (hs : Small m) : VC Tryz.prog 12 [.agg (modV m)] [] fun v S' => ∃ t, tokB 1 t = true ∧ v = .agg (modW m t (.slice .no (m.funcs.map funcV))) ∧ S' = [.tl t] :=
  (copyModuleT0 hT m hs).less fun v S1 ⟨b3, b2, t, ht, hv, hS⟩ => ⟨v, [.tl t], .refl _, by rw [hS]; exact .drop (.keep (.drop .nil)), t, ht, hv, rfl⟩
end
end Go.Vw
namespace Go.Vw
open Go.RowKit Go.Am Go.Proofs Go.Ord Go.Sort
attribute [local irreducible] VOps VRun VNext VD VDn VDq Ret
/-- What a thread more does to what is found. -/
theorem threads_more {m : MModule} {f : Int} {us vs us' vs' : List (List (List Int))} (h : Threads m m.threads us vs) (h' : Threads (withT m (m.threads ++ [f])) (withT m (m.threads ++ [f])).threads us' vs') : ∃ a b, us' = us ++ [a] ∧ vs' = vs ++ [b] := by
  obtain ⟨us1, vs1, a, b, e1, e2, h1⟩ := threads_split (threads_with h')
  obtain ⟨rfl, rfl⟩ := h.unique h1
  exact ⟨a, b, e1, e2⟩
theorem edges_le {m : MModule} (hr : rightModB m = true) (ss : List Stp) : (edgesP m.locks.length ss).length ≤ 64 := by
  have hL := (frame_facts (by simp only [rightModB, Bool.and_eq_true] at hr; exact hr.1)).1
  have := edges_short hL ss
  unfold edgesNat at this
  rwa [List.length_map] at this
def EdgesA (m : MModule) (A : List (Int × Int)) (e : Int) : Prop := (rightModB m = true ∧ ∃ us vs, Threads m m.threads us vs ∧ A = edgesP m.locks.length (stopsP m us vs) ∧ e = 0) ∨ (rightModB m = false ∧ A = [] ∧ e = 70)
theorem edges_split {m : MModule} {v : V} (h : EdgesE m v) : ∃ A e, v = .tup [.slice .no (A.map prs), .int .i64 e] ∧ EdgesA m A e := by
  rcases h with ⟨hr, us, vs, hth, rfl⟩ | ⟨hr, rfl⟩
  · exact ⟨_, 0, rfl, .inl ⟨hr, us, vs, hth, rfl, rfl⟩⟩
  · exact ⟨[], 70, rfl, .inr ⟨hr, rfl, rfl⟩⟩
theorem edges_pair {m : MModule} {f : Int} (hrm : rightModB (withT m (m.threads ++ [f])) = rightModB m) {A B : List (Int × Int)} {e e' : Int} (h : EdgesA m A e) (h' : EdgesA (withT m (m.threads ++ [f])) B e') :
    e' = e ∧ (∀ x ∈ A, x ∈ B) ∧ A.length ≤ 64 ∧ B.length ≤ 64 := by
  rcases h with ⟨hr, us, vs, hth, rfl, rfl⟩ | ⟨hr, rfl, rfl⟩
  · rcases h' with ⟨hr', us', vs', hth', rfl, rfl⟩ | ⟨hr', _⟩
    · obtain ⟨a, b, rfl, rfl⟩ := threads_more hth hth'
      have hl := hth.lens
      exact ⟨rfl, fun x hx => edges_more (fun s hs => stops_more (by omega) hs) hx, edges_le hr _, edges_le hr' _⟩
    · rw [hrm, hr] at hr'; cases hr'
  · rcases h' with ⟨hr', _⟩ | ⟨_, rfl, rfl⟩
    · rw [hrm, hr] at hr'; cases hr'
    · exact ⟨rfl, fun x hx => hx, by decide, by decide⟩
theorem checks_pair {m : MModule} {f : Int} (hs : Small m) (hs' : Small (withT m (m.threads ++ [f]))) (hrm : rightModB (withT m (m.threads ++ [f])) = rightModB m) {v v' : V} (h : CheckE m v) (h' : CheckE (withT m (m.threads ++ [f])) v') :
    ∃ D E : List MDiag, v = .slice .no (D.map dgR) ∧ v' = .slice .no (E.map dgR) ∧ (∀ x ∈ D, x ∈ E) ∧ D.length ≤ 200000 ∧ E.length ≤ 200000 := by
  rcases h with ⟨hr, us, vs, hth, rfl⟩ | ⟨hr, rfl⟩
  · rcases h' with ⟨hr', us', vs', hth', rfl⟩ | ⟨hr', _⟩
    · have l1 := stops_len hs hr hth
      have l2 := stops_len hs' hr' hth'
      have hso : ∀ s ∈ stopsP m us vs, StopOk m s := fun s h => stop_ok hs hr hth h
      obtain ⟨a, b, rfl, rfl⟩ := threads_more hth hth'
      have hl := hth.lens
      refine ⟨_, _, rfl, rfl, fun x hx => ?_, Nat.le_trans (sortD_len _) (Nat.le_trans (wrongP_len _ _ _) l1), Nat.le_trans (sortD_len _) (Nat.le_trans (wrongP_len _ _ _) l2)⟩
      have hx := ((sortR_spec tot_ltD _).2 x).1 hx
      exact ((sortR_spec tot_ltD _).2 x).2 (wrong_more rfl (fun s hs => stops_more (by omega) hs) hso hx)
    · rw [hrm, hr] at hr'; cases hr'
  · rcases h' with ⟨hr', _⟩ | ⟨_, rfl⟩
    · rw [hrm, hr] at hr'; cases hr'
    · exact ⟨[], [], rfl, rfl, fun x hx => hx, by decide, by decide⟩
section
variable [Drw] (hT : TabOk tab Tryz.prog)
include hT
set_option maxRecDepth 100000 in
set_option maxHeartbeats 4000000 in
theorem orderMore (m : MModule) (f : Int) (hs : Small m) (hn : SmallN m) (S : Hp) (hal : VC Tryz.prog 10 [] S fun v S' => v = .ob true ∧ S' = S) : VC Tryz.prog 6 [.agg (modV m), .int .i64 f] S fun v _ => v = .ob true := by
  refine VC.code hT 155 rfl rfl rfl rfl fun F0 W S0 => ?_
  refine go hT 10000 rfl ?_
  conv => whnf
  refine ops_s rfl (s_boxF rfl rfl rfl ?_)
  refine go hT 10000 rfl ?_
  conv => whnf
  refine ops_s rfl (s_call hT rfl rfl rfl rfl rfl rfl (hal.mono ?_))
  rintro _ S' ⟨rfl, rfl⟩
  refine go hT 10000 rfl ?_
  conv => whnf
  refine run_f rfl rfl ?_
  refine go hT 10000 rfl ?_
  conv => whnf
  refine ops_s rfl (s_pureR hT rfl rfl rfl rfl rfl rfl (great hT m hs hn) ?_)
  rintro _ ⟨b, rfl⟩
  refine go hT 10000 rfl ?_
  conv => whnf
  refine op_guard rfl rfl rfl rfl (fun hb => ?_) (fun hb => ?_)
  · subst hb
    refine go hT 10000 rfl ?_
    conv => whnf
    exact ret_bool rfl rfl rfl rfl
  subst hb
  refine go hT 10000 rfl ?_
  conv => whnf
  refine op_guard rfl rfl rfl rfl (fun h0 => ?_) (fun h0 => ?_)
  · refine go hT 10000 rfl ?_
    conv => whnf
    exact ret_bool rfl rfl rfl rfl
  simp only [decide_eq_false_iff_not] at h0
  obtain ⟨F, rfl⟩ : ∃ F : Nat, f = F := ⟨f.toNat, by omega⟩
  refine go hT 10000 rfl ?_
  conv => whnf
  refine ops_g rfl (g_len hT rfl rfl rfl rfl rfl rfl (List.length_map _)) ?_
  refine go hT 10000 rfl ?_
  conv => whnf
  refine op_guard rfl rfl rfl rfl (fun h1 => ?_) (fun h1 => ?_)
  · refine go hT 10000 rfl ?_
    conv => whnf
    exact ret_bool rfl rfl rfl rfl
  have hlt : F < m.funcs.length := by simpa using h1
  refine go hT 10000 rfl ?_
  conv => whnf
  refine ops_g rfl (g_len hT rfl rfl rfl rfl rfl rfl (List.length_map _)) ?_
  refine go hT 10000 rfl ?_
  conv => whnf
  refine op_guard rfl rfl rfl rfl (fun h2 => ?_) (fun h2 => ?_)
  · refine go hT 10000 rfl ?_
    conv => whnf
    exact ret_bool rfl rfl rfl rfl
  have h4 : m.threads.length < 4 := by
    have := of_decide_eq_false h2
    omega
  refine go hT 10000 rfl ?_
  conv => whnf
  refine ops_g rfl (g_indexM (xs := m.funcs) (g := funcV) hT rfl rfl rfl rfl rfl hlt rfl) ?_
  refine go hT 10000 rfl ?_
  conv => whnf
  refine run_split rfl (fun h3 => ?_) (fun h3 => ?_)
  · refine go hT 10000 rfl ?_
    conv => whnf
    exact ret_bool rfl rfl rfl rfl
  have hp : (m.funcs[F]).params = 0 := by
    have h3 : (!decide (m.funcs[F].params = 0)) = false := h3
    simpa using h3
  have hwr : wrongB m (F : Int) = false := by
    unfold wrongB
    rw [Int.toNat_natCast, List.getElem?_eq_getElem hlt]
    dsimp only
    rw [decide_eq_true hp, belowB_one.2 ⟨by omega, by omega⟩]
    rfl
  have hrm := right_more h4 hwr
  have hs' : Small (withT m (m.threads ++ [(F : Int)])) := ⟨hs.globals, hs.structs, hs.chans, hs.locks, hs.inputs, hs.sinks, hs.hatches, hs.funcs, by show (m.threads ++ [(F : Int)]).length < 2000000; rw [List.length_append]; simp; omega, hs.code, hs.args⟩
  refine go hT 10000 rfl ?_
  conv => whnf
  refine ops_s rfl (s_call hT rfl rfl rfl rfl rfl rfl (((copyModuleT hT m hs).frame S').mono ?_))
  rintro _ S1 ⟨S2, rfl, t, ht, rfl, rfl⟩
  refine go hT 10000 rfl ?_
  conv => whnf
  refine ops_s rfl (s_alloc hT rfl rfl rfl fun b5 => ?_)
  refine go hT 10000 rfl ?_
  conv => whnf
  refine ops_s rfl (s_store (cs' := modW m t (.slice .no (m.funcs.map funcV))) hT rfl rfl rfl .here rfl ?_)
  refine go hT 10000 rfl ?_
  conv => whnf
  refine ops_g rfl (g_load hT rfl rfl .here rfl) ?_
  refine go hT 10000 rfl ?_
  conv => whnf
  refine ops_s rfl (s_listF (rows := [intV (F : Int)]) hT rfl rfl rfl rfl rfl rfl rfl rfl ?_)
  refine go hT 10000 rfl ?_
  conv => whnf
  refine ops_s rfl (s_append (news := [intV (F : Int)]) hT rfl rfl rfl rfl rfl rfl rfl rfl rfl rfl ht (.there .here) (intV_len _) (intV_len [(F : Int)]) (intV_cell [(F : Int)]) (by simp only [List.length_cons, List.length_nil, List.length_map]; omega) fun t' ht' => ?_)
  refine go hT 10000 rfl ?_
  conv => whnf
  refine ops_s rfl (s_store (cs' := modW (withT m (m.threads ++ [(F : Int)])) t' (.slice .no (m.funcs.map funcV))) hT rfl rfl rfl .here (by
    have e : (m.threads.map intV ++ [intV (F : Int)]) = (m.threads ++ [(F : Int)]).map intV := by rw [List.map_append]; rfl
    rw [e]
    rfl) ?_)
  refine ops_sub (S' := .cells b5 (modV (withT m (m.threads ++ [(F : Int)]))) 27 :: S') (.cells (.cons (.refl _) (.cons (.refl _) (.cons (.refl _) (.cons (.refl _) (.cons (.refl _) (.cons (.refl _) (.cons (.refl _) (.cons (.refl _) (.cons (V.Le.slice _ _) .nil))))))))) (.drop (.refl _))) ?_
  refine ops_freezeH (t := 5) rfl ?_
  refine go hT 10000 rfl ?_
  conv => whnf
  refine ops_s rfl (s_pure hT rfl rfl rfl rfl rfl rfl (copyModule hT m hs) ?_)
  refine go hT 10000 rfl ?_
  conv => whnf
  refine ops_s rfl (s_pureR hT rfl rfl rfl rfl rfl rfl (edgesE hT m hs) ?_)
  rintro _ hv
  obtain ⟨A, e, rfl, hA⟩ := edges_split hv
  refine go hT 10000 rfl ?_
  conv => whnf
  refine ops_s rfl (s_pureR hT rfl rfl rfl rfl rfl rfl (edgesE hT (withT m (m.threads ++ [(F : Int)])) hs') ?_)
  rintro _ hv'
  obtain ⟨B, e', rfl, hB⟩ := edges_split hv'
  obtain ⟨rfl, hAB, hlA, hlB⟩ := edges_pair hrm hA hB
  refine go hT 10000 rfl ?_
  conv => whnf
  refine run_split rfl (fun h => ?_) (fun _ => ?_)
  · have h : (!decide (e' = e')) = true := h
    simp at h
  refine go hT 10000 rfl ?_
  conv => whnf
  refine run_lq (fun i : Nat => ([(2, .pin (modV m) 0), (5, .pin (modV (withT m (m.threads ++ [(F : Int)]))) 0), (6, .slice .no (A.map prs)), (8, .slice .no (B.map prs)), (10, .int .i64 (i : Int))], [])) (fun i => i ≤ A.length) (fun i => A.length - i) 0 (Nat.zero_le _) ⟨⟨⟨_, rfl, .refl _⟩, ⟨_, rfl, .refl _⟩, ⟨_, rfl, .refl _⟩, ⟨_, rfl, .refl _⟩, ⟨_, rfl, .refl _⟩, trivial⟩, .nil⟩ ?_
  intro i hi
  refine go hT 10000 rfl ?_
  conv => whnf
  refine ops_g rfl (g_len hT rfl rfl rfl rfl rfl rfl (List.length_map _)) ?_
  refine go hT 10000 rfl ?_
  conv => whnf
  refine run_split rfl (fun hlt => ?_) (fun hlt => ?_)
  · simp only [decide_eq_true_eq, Int.ofNat_lt] at hlt
    refine go hT 10000 rfl ?_
    conv => whnf
    refine run_lq (fun x : Nat × Bool => ([(2, .pin (modV m) 0), (5, .pin (modV (withT m (m.threads ++ [(F : Int)]))) 0), (6, .slice .no (A.map prs)), (8, .slice .no (B.map prs)), (10, .int .i64 (i : Int)), (11, .ob x.2), (12, .int .i64 (x.1 : Int))], [])) (fun x => x.1 ≤ B.length ∧ (x.2 = true ∨ ∀ (k : Nat) (h : k < B.length), k < x.1 → A[i] ≠ B[k])) (fun x => B.length - x.1) (0, false) ⟨Nat.zero_le _, .inr fun k _ hk => absurd hk (Nat.not_lt_zero _)⟩ ⟨⟨⟨_, rfl, .refl _⟩, ⟨_, rfl, .refl _⟩, ⟨_, rfl, .refl _⟩, ⟨_, rfl, .refl _⟩, ⟨_, rfl, .refl _⟩, ⟨_, rfl, Le_ob rfl⟩, ⟨_, rfl, .refl _⟩, trivial⟩, .nil⟩ ?_
    rintro ⟨k, fd⟩ ⟨hk, hf⟩
    dsimp only at hk hf
    refine go hT 10000 rfl ?_
    conv => whnf
    refine ops_g rfl (g_len hT rfl rfl rfl rfl rfl rfl (List.length_map _)) ?_
    refine go hT 10000 rfl ?_
    conv => whnf
    refine run_split rfl (fun hltk => ?_) (fun hltk => ?_)
    · simp only [decide_eq_true_eq, Int.ofNat_lt] at hltk
      refine go hT 10000 rfl ?_
      conv => whnf
      intro id
      refine run_drw hT rfl rfl ?_ id
      repeat' (first
        | (refine god hT 1 rfl ?_; conv => whnf)
        | refine vd_fin rfl ?_
        | refine q_g rfl (fun S' => (g_len hT rfl rfl rfl rfl rfl rfl (List.length_map _)).qs) ?_
        | refine q_guard rfl rfl rfl rfl (fun h => ?_) (fun h => ?_)
        | refine q_g rfl (fun S' => (g_indexM (i := i) (xs := A) (g := prs) hT rfl rfl rfl rfl rfl hlt rfl).qs) ?_
        | refine q_g rfl (fun S' => (g_indexM (i := k) (xs := B) (g := prs) hT rfl rfl rfl rfl rfl hltk rfl).qs) ?_)
      · have h : fd = true := h
        subst h
        refine go hT 10000 rfl ?_
        conv => whnf
        refine ops_g rfl (g_add rfl rfl rfl (by omega)) ?_
        refine go hT 10000 rfl ?_
        conv => whnf
        exact ⟨(k + 1, true), ⟨hltk, .inl rfl⟩, by dsimp only; omega, ⟨⟨⟨_, rfl, .refl _⟩, ⟨_, rfl, .refl _⟩, ⟨_, rfl, .refl _⟩, ⟨_, rfl, .refl _⟩, ⟨_, rfl, .refl _⟩, ⟨_, rfl, Le_ob rfl⟩, ⟨_, rfl, .refl _⟩, trivial⟩, .nil⟩⟩
      · have h : fd = false := h
        subst h
        rcases hf with hf | hf
        · cases hf
        refine go hT 10000 rfl ?_
        conv => whnf
        refine ops_g rfl (g_add rfl rfl rfl (by omega)) ?_
        refine go hT 10000 rfl ?_
        conv => whnf
        refine ⟨(k + 1, (decide (A[i].1 = B[k].1) && (decide (A[i].2 = B[k].2) && true))), ⟨hltk, ?_⟩, by dsimp only; omega, ⟨⟨⟨_, rfl, .refl _⟩, ⟨_, rfl, .refl _⟩, ⟨_, rfl, .refl _⟩, ⟨_, rfl, .refl _⟩, ⟨_, rfl, .refl _⟩, ⟨_, rfl, .refl _⟩, ⟨_, rfl, .refl _⟩, trivial⟩, .nil⟩⟩
        dsimp only
        by_cases hq : A[i] = B[k]
        · left; rw [hq]; simp
        · right
          refine fun k' h' hk' => ?_
          by_cases ek : k' = k
          · subst ek; exact hq
          · exact hf k' h' (by omega)
    · simp only [decide_eq_false_iff_not, Int.ofNat_lt] at hltk
      have hfd : fd = true := by
        rcases hf with h | h
        · exact h
        · obtain ⟨k', h2, h3⟩ := List.mem_iff_getElem.1 (hAB _ (List.getElem_mem hlt))
          exact absurd h3.symm (h k' h2 (by omega))
      subst hfd
      refine go hT 10000 rfl ?_
      conv => whnf
      refine run_split rfl (fun h => ?_) (fun h => ?_)
      · cases h
      refine go hT 10000 rfl ?_
      conv => whnf
      refine ops_g rfl (g_add rfl rfl rfl (by omega)) ?_
      refine go hT 10000 rfl ?_
      conv => whnf
      exact ⟨i + 1, hlt, by omega, ⟨⟨⟨_, rfl, .refl _⟩, ⟨_, rfl, .refl _⟩, ⟨_, rfl, .refl _⟩, ⟨_, rfl, .refl _⟩, ⟨_, rfl, .refl _⟩, trivial⟩, .nil⟩⟩
  refine go hT 10000 rfl ?_
  conv => whnf
  refine ops_s rfl (s_pure hT rfl rfl rfl rfl rfl rfl (copyModule hT m hs) ?_)
  refine go hT 10000 rfl ?_
  conv => whnf
  refine ops_s rfl (s_pureR hT rfl rfl rfl rfl rfl rfl (checkE hT m hs) ?_)
  rintro _ hc
  refine go hT 10000 rfl ?_
  conv => whnf
  refine ops_s rfl (s_pureR hT rfl rfl rfl rfl rfl rfl (checkE hT (withT m (m.threads ++ [(F : Int)])) hs') ?_)
  rintro _ hc'
  obtain ⟨D, E, rfl, rfl, hDE, hlD, hlE⟩ := checks_pair hs hs' hrm hc hc'
  refine go hT 10000 rfl ?_
  conv => whnf
  refine run_lq (fun i : Nat => ([(13, .slice .no (D.map dgR)), (14, .slice .no (E.map dgR)), (15, .int .i64 (i : Int))], [])) (fun i => i ≤ D.length) (fun i => D.length - i) 0 (Nat.zero_le _) ⟨⟨⟨_, rfl, .refl _⟩, ⟨_, rfl, .refl _⟩, ⟨_, rfl, .refl _⟩, trivial⟩, .nil⟩ ?_
  clear hlt hi
  intro i hi
  refine go hT 10000 rfl ?_
  conv => whnf
  refine ops_g rfl (g_len hT rfl rfl rfl rfl rfl rfl (List.length_map _)) ?_
  refine go hT 10000 rfl ?_
  conv => whnf
  refine run_split rfl (fun hlt => ?_) (fun hlt => ?_)
  · simp only [decide_eq_true_eq, Int.ofNat_lt] at hlt
    refine go hT 10000 rfl ?_
    conv => whnf
    refine run_lq (fun x : Nat × Bool => ([(13, .slice .no (D.map dgR)), (14, .slice .no (E.map dgR)), (15, .int .i64 (i : Int)), (16, .ob x.2), (17, .int .i64 (x.1 : Int))], [])) (fun x => x.1 ≤ E.length ∧ (x.2 = true ∨ ∀ (k : Nat) (h : k < E.length), k < x.1 → D[i] ≠ E[k])) (fun x => E.length - x.1) (0, false) ⟨Nat.zero_le _, .inr fun k _ hk => absurd hk (Nat.not_lt_zero _)⟩ ⟨⟨⟨_, rfl, .refl _⟩, ⟨_, rfl, .refl _⟩, ⟨_, rfl, .refl _⟩, ⟨_, rfl, Le_ob rfl⟩, ⟨_, rfl, .refl _⟩, trivial⟩, .nil⟩ ?_
    rintro ⟨k, fd⟩ ⟨hk, hf⟩
    dsimp only at hk hf
    refine go hT 10000 rfl ?_
    conv => whnf
    refine ops_g rfl (g_len hT rfl rfl rfl rfl rfl rfl (List.length_map _)) ?_
    refine go hT 10000 rfl ?_
    conv => whnf
    refine run_split rfl (fun hltk => ?_) (fun hltk => ?_)
    · simp only [decide_eq_true_eq, Int.ofNat_lt] at hltk
      have step : ∀ r : Bool, (r = false → D[i] ≠ E[k]) → (∀ (k' : Nat) (h : k' < E.length), k' < k → D[i] ≠ E[k']) → r = true ∨ ∀ (k' : Nat) (h : k' < E.length), k' < k + 1 → D[i] ≠ E[k'] := fun r h1 h2 => by
        cases r
        · right
          refine fun k' h' hk' => ?_
          by_cases ek : k' = k
          · subst ek; exact h1 rfl
          · exact h2 k' h' (by omega)
        · exact .inl rfl
      refine go hT 10000 rfl ?_
      conv => whnf
      intro id
      refine run_drw hT rfl rfl ?_ id
      repeat' (first
        | (refine god hT 1 rfl ?_; conv => whnf)
        | refine vd_fin rfl ?_
        | refine q_g rfl (fun S' => (g_len hT rfl rfl rfl rfl rfl rfl (List.length_map _)).qs) ?_
        | refine q_guard rfl rfl rfl rfl (fun h => ?_) (fun h => ?_)
        | refine q_g rfl (fun S' => (g_indexM (i := i) (xs := D) (g := dgR) hT rfl rfl rfl rfl rfl hlt rfl).qs) ?_
        | refine q_g rfl (fun S' => (g_indexM (i := k) (xs := E) (g := dgR) hT rfl rfl rfl rfl rfl hltk rfl).qs) ?_)
      · have h : fd = true := h
        subst h
        refine go hT 10000 rfl ?_
        conv => whnf
        refine ops_g rfl (g_add rfl rfl rfl (by omega)) ?_
        refine go hT 10000 rfl ?_
        conv => whnf
        exact ⟨(k + 1, true), ⟨hltk, .inl rfl⟩, by dsimp only; omega, ⟨⟨⟨_, rfl, .refl _⟩, ⟨_, rfl, .refl _⟩, ⟨_, rfl, .refl _⟩, ⟨_, rfl, Le_ob rfl⟩, ⟨_, rfl, .refl _⟩, trivial⟩, .nil⟩⟩
      · rename_i hfd he1
        have hfd : fd = false := hfd
        subst hfd
        rcases hf with hf | hf
        · cases hf
        refine go hT 10000 rfl ?_
        conv => whnf
        refine ops_g rfl (g_add rfl rfl rfl (by omega)) ?_
        refine go hT 10000 rfl ?_
        conv => whnf
        exact ⟨(k + 1, decide (D[i].2.2 = E[k].2.2)), ⟨hltk, step _ (fun hr e => by rw [e] at hr; simp at hr) hf⟩, by dsimp only; omega, ⟨⟨⟨_, rfl, .refl _⟩, ⟨_, rfl, .refl _⟩, ⟨_, rfl, .refl _⟩, ⟨_, rfl, .refl _⟩, ⟨_, rfl, .refl _⟩, trivial⟩, .nil⟩⟩
      · rename_i hfd he1
        have hfd : fd = false := hfd
        have h : decide (D[i].2.1 = E[k].2.1) = false := h
        subst hfd
        rcases hf with hf | hf
        · cases hf
        refine go hT 10000 rfl ?_
        conv => whnf
        refine ops_g rfl (g_add rfl rfl rfl (by omega)) ?_
        refine go hT 10000 rfl ?_
        conv => whnf
        exact ⟨(k + 1, false), ⟨hltk, step _ (fun _ e => by rw [e] at h; simp at h) hf⟩, by dsimp only; omega, ⟨⟨⟨_, rfl, .refl _⟩, ⟨_, rfl, .refl _⟩, ⟨_, rfl, .refl _⟩, ⟨_, rfl, Le_ob rfl⟩, ⟨_, rfl, .refl _⟩, trivial⟩, .nil⟩⟩
      · rename_i hfd
        have hfd : fd = false := hfd
        have h : decide (D[i].1 = E[k].1) = false := h
        subst hfd
        rcases hf with hf | hf
        · cases hf
        refine go hT 10000 rfl ?_
        conv => whnf
        refine ops_g rfl (g_add rfl rfl rfl (by omega)) ?_
        refine go hT 10000 rfl ?_
        conv => whnf
        exact ⟨(k + 1, false), ⟨hltk, step _ (fun _ e => by rw [e] at h; simp at h) hf⟩, by dsimp only; omega, ⟨⟨⟨_, rfl, .refl _⟩, ⟨_, rfl, .refl _⟩, ⟨_, rfl, .refl _⟩, ⟨_, rfl, Le_ob rfl⟩, ⟨_, rfl, .refl _⟩, trivial⟩, .nil⟩⟩
    · simp only [decide_eq_false_iff_not, Int.ofNat_lt] at hltk
      have hfd : fd = true := by
        rcases hf with h | h
        · exact h
        · obtain ⟨k', h2, h3⟩ := List.mem_iff_getElem.1 (hDE _ (List.getElem_mem hlt))
          exact absurd h3.symm (h k' h2 (by omega))
      subst hfd
      refine go hT 10000 rfl ?_
      conv => whnf
      refine run_split rfl (fun h => ?_) (fun h => ?_)
      · cases h
      refine go hT 10000 rfl ?_
      conv => whnf
      refine ops_g rfl (g_add rfl rfl rfl (by omega)) ?_
      refine go hT 10000 rfl ?_
      conv => whnf
      exact ⟨i + 1, hlt, by omega, ⟨⟨⟨_, rfl, .refl _⟩, ⟨_, rfl, .refl _⟩, ⟨_, rfl, .refl _⟩, trivial⟩, .nil⟩⟩
  · refine go hT 10000 rfl ?_
    conv => whnf
    exact ret_bool rfl rfl rfl rfl
end
end Go.Vw
