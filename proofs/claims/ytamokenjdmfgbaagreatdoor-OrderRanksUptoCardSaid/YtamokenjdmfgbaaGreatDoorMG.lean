/- What order.Ranks and the ranks of the document answer; no condition beyond bounds on lengths. -/
import Derived.Test.YtamokenjdmfgbaaGreatDoorMF
import Derived.Test.YtamokenjdmfgbaaGreatDoorME
import Derived.Test.YtamokenjdmfgbaaGreatDoorMD
namespace Go.Vw
open Go.RowKit Go.Am Go.Proofs Go.Ord
attribute [local irreducible] VOps VRun VNext VD VDn VDq Ret
section
variable [Drw] (hT : TabOk tab Tryz.prog)
include hT
end
end Go.Vw
namespace Go.Vw
open Go.RowKit Go.Am Go.Proofs Go.Ord
attribute [local irreducible] VOps VRun VNext VD VDn VDq Ret
def natV (n : Nat) : V := .int .i64 (n : Int)
def natR (n : Nat) : List V := [natV n]
theorem natR_flat (B : List Nat) : (B.map natR).flatten = B.map natV := by
  induction B with
  | nil => rfl
  | cons x B ih => rw [List.map_cons, List.flatten_cons, ih]; rfl
def firstB (L l : Nat) : List Nat := (List.range L).map fun j => if j < l then 2 ^ j else 0
theorem firstB_zero (L : Nat) : (firstB L 0).map natV = repV L [V.int .i64 0] := by
  rw [repV_one]
  refine List.ext_getElem (by simp [firstB]) fun i h1 h2 => ?_
  simp [firstB, natV]
theorem firstB_succ (L l : Nat) : (firstB L l).set l (2 ^ l) = firstB L (l + 1) := by
  refine List.ext_getElem (by simp [firstB]) fun i h1 h2 => ?_
  simp only [firstB, List.getElem_set, List.getElem_map, List.getElem_range]
  by_cases h : l = i
  · subst h; rw [if_pos rfl, if_pos (Nat.lt_succ_self _)]
  · rw [if_neg h]
    by_cases h3 : i < l
    · rw [if_pos h3, if_pos (by omega)]
    · rw [if_neg h3, if_neg (by omega)]
theorem firstB_end (L : Nat) : firstB L L = startB L := by
  unfold firstB startB
  refine List.map_congr_left fun j hj => ?_
  rw [if_pos (List.mem_range.1 hj)]
theorem getN_of {B : List Nat} {i : Nat} (h : i < B.length) : getN B i = B[i] := by unfold getN; rw [List.getElem?_eq_getElem h]; rfl
/-- All below 256. -/
def Low (B : List Nat) : Prop := ∀ x ∈ B, x < 256
theorem getN_low {B : List Nat} (h : Low B) (i : Nat) : getN B i < 256 := by
  by_cases hi : i < B.length
  · rw [getN_of hi]; exact h _ (List.getElem_mem hi)
  · unfold getN; rw [List.getElem?_eq_none (by omega)]; decide
theorem edgeB_low {B : List Nat} (h : Low B) (e : Nat × Nat) : Low (edgeB B e) := fun x hx => by
  rcases List.mem_or_eq_of_mem_set hx with hx | rfl
  · exact h x hx
  · exact Nat.or_lt_two_pow (n := 8) (getN_low h _) (getN_low h _)
theorem startB_low {L : Nat} (hL : L ≤ 8) : Low (startB L) := fun x hx => by
  obtain ⟨j, hj, rfl⟩ := List.mem_map.1 hx
  have := List.mem_range.1 hj
  exact Nat.pow_lt_pow_right (by decide) (show j < 8 by omega)
theorem foldB_low : ∀ (es : List (Nat × Nat)) {B : List Nat}, Low B → Low (es.foldl edgeB B)
  | [], _, h => h
  | e :: es, _, h => foldB_low es (edgeB_low h e)
theorem fold_take {α β : Type} (f : β → α → β) (b : β) (l : List α) (i : Nat) (h : i < l.length) : (l.take (i + 1)).foldl f b = f ((l.take i).foldl f b) l[i] := by
  rw [List.take_succ_eq_append_getElem h, List.foldl_append]; rfl
theorem foldB_len (es : List (Nat × Nat)) (B : List Nat) : (es.foldl edgeB B).length = B.length := roundB_len es B
section
variable [Drw] (hT : TabOk tab Tryz.prog)
include hT
set_option maxRecDepth 100000 in
theorem leadsP {t : Tok} (L : Nat) (hL : L ≤ 8) (es : List (Nat × Nat)) (he : ∀ e ∈ es, e.1 < L ∧ e.2 < L) (hl : es.length < 2000000) :
    Pure Tryz.prog 39 [.int .i64 (L : Int), .slice t ((es.map castE).map prs)] (.slice .no ((leadsB L es).map natR)) := by
  refine VC.code hT 47 rfl rfl rfl rfl fun F w S0 => ?_
  refine go hT 10000 rfl ?_
  conv => whnf
  refine ops_s rfl (s_makeSlice hT rfl rfl rfl rfl rfl rfl rfl (Nat.le_refl _) (by omega) fun b => ?_)
  refine go hT 10000 rfl ?_
  conv => whnf
  refine ops_g rfl (g_lenRef hT rfl rfl rfl rfl rfl rfl) ?_
  refine go hT 10000 rfl ?_
  conv => whnf
  refine run_lq (fun l : Nat => ([(0, .int .i64 (L : Int)), (1, .slice t ((es.map castE).map prs)), (5, .ref b 0 L L), (12, .int .i64 (L : Int)), (13, .int .i64 (l : Int))], [.cells b ((firstB L l).map natV) 3])) (fun l => l ≤ L) (fun l => L - l) 0 (Nat.zero_le _) ⟨⟨⟨_, rfl, .refl _⟩, ⟨_, rfl, .refl _⟩, ⟨_, rfl, .refl _⟩, ⟨_, rfl, .refl _⟩, ⟨_, rfl, .refl _⟩, trivial⟩, by rw [firstB_zero]; exact .refl _⟩ ?_
  intro l hl
  refine go hT 10000 rfl ?_
  conv => whnf
  refine run_split rfl (fun hlt => ?_) (fun hlt => ?_)
  · simp only [decide_eq_true_eq, Int.ofNat_lt] at hlt
    refine go hT 10000 rfl ?_
    conv => whnf
    refine ops_g rfl (g_shl1 rfl rfl rfl) ?_
    rw [bitI_nat (by omega), Int.toNat_natCast]
    refine go hT 10000 rfl ?_
    conv => whnf
    refine ops_g rfl (g_indexRef hT rfl rfl rfl rfl rfl (Int.natCast_nonneg _) (Int.ofNat_lt.2 hlt)) ?_
    refine go hT 10000 rfl ?_
    conv => whnf
    refine ops_s rfl (s_store (cs' := ((firstB L l).map natV).set l (natV (2 ^ l))) hT rfl rfl rfl .here (by
      show storeV tab 3 (natV (2 ^ l)) (0 + ((l : Nat) : Int).toNat * 1) _ = _
      rw [Int.toNat_natCast, Nat.mul_one, Nat.zero_add]; exact store_at rfl rfl rfl (by simpa [firstB] using hlt)) ?_)
    rw [← List.map_set, firstB_succ]
    refine go hT 10000 rfl ?_
    conv => whnf
    refine ops_g rfl (g_add rfl rfl rfl (by omega)) ?_
    refine go hT 10000 rfl ?_
    conv => whnf
    exact ⟨l + 1, hlt, by omega, ⟨⟨_, rfl, .refl _⟩, ⟨_, rfl, .refl _⟩, ⟨_, rfl, .refl _⟩, ⟨_, rfl, .refl _⟩, ⟨_, rfl, .refl _⟩, trivial⟩, .refl _⟩
  simp only [decide_eq_false_iff_not, Int.ofNat_lt] at hlt
  have : l = L := by omega
  subst this
  rw [firstB_end]
  refine go hT 10000 rfl ?_
  conv => whnf
  refine run_lq (fun i : Nat => ([(0, .int .i64 (l : Int)), (1, .slice t ((es.map castE).map prs)), (5, .ref b 0 l l), (23, .int .i64 (l : Int)), (24, .int .i64 (i : Int))], [.cells b ((iter (roundB es) i (startB l)).map natV) 3])) (fun i => i ≤ l ∧ (iter (roundB es) i (startB l)).length = l ∧ Low (iter (roundB es) i (startB l))) (fun i => l - i) 0 ⟨Nat.zero_le _, by simp [iter, startB], startB_low hL⟩ ⟨⟨⟨_, rfl, .refl _⟩, ⟨_, rfl, .refl _⟩, ⟨_, rfl, .refl _⟩, ⟨_, rfl, .refl _⟩, ⟨_, rfl, .refl _⟩, trivial⟩, .refl _⟩ ?_
  rintro i ⟨hi, hlen, hlow⟩
  refine go hT 10000 rfl ?_
  conv => whnf
  refine run_split rfl (fun hlt => ?_) (fun hlt => ?_)
  · simp only [decide_eq_true_eq, Int.ofNat_lt] at hlt
    refine go hT 10000 rfl ?_
    conv => whnf
    refine ops_g rfl (g_len hT rfl rfl rfl rfl rfl rfl (List.length_map _)) ?_
    rw [List.length_map]
    refine go hT 10000 rfl ?_
    conv => whnf
    generalize hB0 : iter (roundB es) i (startB l) = B0 at hlen hlow
    have hnext : iter (roundB es) (i + 1) (startB l) = es.foldl edgeB B0 := by rw [iter_succ, hB0]; rfl
    refine run_lq (fun k : Nat => ([(0, .int .i64 (l : Int)), (1, .slice t ((es.map castE).map prs)), (5, .ref b 0 l l), (23, .int .i64 (l : Int)), (24, .int .i64 (i : Int)), (26, .slice t ((es.map castE).map prs)), (27, .int .i64 (es.length : Int)), (28, .int .i64 (k : Int))], [.cells b (((es.take k).foldl edgeB B0).map natV) 3])) (fun k => k ≤ es.length) (fun k => es.length - k) 0 (Nat.zero_le _) ⟨⟨⟨_, rfl, .refl _⟩, ⟨_, rfl, .refl _⟩, ⟨_, rfl, .refl _⟩, ⟨_, rfl, .refl _⟩, ⟨_, rfl, .refl _⟩, ⟨_, rfl, .refl _⟩, ⟨_, rfl, .refl _⟩, ⟨_, rfl, .refl _⟩, trivial⟩, .refl _⟩ ?_
    intro k hk
    refine go hT 10000 rfl ?_
    conv => whnf
    refine run_split rfl (fun hltk => ?_) (fun hltk => ?_)
    · simp only [decide_eq_true_eq, Int.ofNat_lt] at hltk
      have hB := foldB_len (es.take k) B0
      have hBl := foldB_low (es.take k) hlow
      have htk := fold_take edgeB B0 es k hltk
      generalize (es.take k).foldl edgeB B0 = B at hB hBl htk
      obtain ⟨h1, h2⟩ := he _ (List.getElem_mem hltk)
      refine go hT 10000 rfl ?_
      conv => whnf
      refine ops_g rfl (g_indexM (xs := es.map castE) hT rfl rfl rfl rfl rfl (by simpa using hltk) rfl) ?_
      rw [List.getElem_map]
      refine go hT 10000 rfl ?_
      conv => whnf
      refine ops_s rfl (s_alloc hT rfl rfl rfl fun b8 => ?_)
      refine go hT 10000 rfl ?_
      conv => whnf
      refine ops_s rfl (s_store (cs' := prs (castE es[k])) hT rfl rfl rfl .here rfl ?_)
      refine go hT 10000 rfl ?_
      conv => whnf
      intro id
      refine run_freeze (t := 8) rfl .here ?_
      refine run_sub (.drop (.refl _)) ?_
      refine run_drw hT rfl rfl ?_ id
      have hp1 : partV tab 3 (B.map natV) (0 + ((es[k].1 : Nat) : Int).toNat * 1) = some (natV (getN B es[k].1)) := by
        rw [Int.toNat_natCast, Nat.mul_one, Nat.zero_add, getN_of (by omega)]
        exact part_at rfl (by rw [List.getElem?_map, List.getElem?_eq_getElem (by omega)]; rfl)
      have hp2 : partV tab 3 (B.map natV) (0 + ((es[k].2 : Nat) : Int).toNat * 1) = some (natV (getN B es[k].2)) := by
        rw [Int.toNat_natCast, Nat.mul_one, Nat.zero_add, getN_of (by omega)]
        exact part_at rfl (by rw [List.getElem?_map, List.getElem?_eq_getElem (by omega)]; rfl)
      repeat' (first
        | (refine god hT 1 rfl ?_; conv => whnf)
        | refine vd_fin rfl ?_
        | refine q_g rfl (fun S' => (g_len hT rfl rfl rfl rfl rfl rfl (List.length_map _)).qs) ?_
        | refine q_guard rfl rfl rfl rfl (fun h => ?_) (fun h => ?_)
        | refine q_g rfl (fun S' => (g_indexPin hT rfl rfl rfl rfl rfl (by decide) (by decide)).qs) ?_
        | refine q_g rfl (fun S' => (g_indexRef (i := ((es[k].1 : Nat) : Int)) hT rfl rfl rfl rfl rfl (Int.natCast_nonneg _) (Int.ofNat_lt.2 h1)).qs) ?_
        | refine q_g rfl (fun S' => (g_indexRef (i := ((es[k].2 : Nat) : Int)) hT rfl rfl rfl rfl rfl (Int.natCast_nonneg _) (Int.ofNat_lt.2 h2)).qs) ?_
        | refine q_load hT rfl rfl rfl .here hp1 ?_
        | refine q_load hT rfl rfl rfl .here hp2 ?_)
      refine vd_eff1 rfl (eff rfl rfl (s_store (cs' := (edgeB B es[k]).map natV) hT rfl rfl rfl .here ?_ ?_))
      · show storeV tab 3 (.int .i64 (orI ((getN B es[k].1 : Nat) : Int) ((getN B es[k].2 : Nat) : Int))) (0 + ((es[k].1 : Nat) : Int).toNat * 1) _ = _
        rw [orI_nat (getN_low hBl _) (getN_low hBl _), Int.toNat_natCast, Nat.mul_one, Nat.zero_add]
        unfold edgeB
        rw [List.map_set]
        exact store_at rfl rfl rfl (by rw [List.length_map]; omega)
      · refine And.intro trivial ?_
        refine god hT 1 rfl ?_
        conv => whnf
        refine vd_fin rfl ?_
        refine go hT 10000 rfl ?_
        conv => whnf
        refine ops_g rfl (g_add rfl rfl rfl (by omega)) ?_
        refine go hT 10000 rfl ?_
        conv => whnf
        exact ⟨k + 1, hltk, by omega, ⟨⟨_, rfl, .refl _⟩, ⟨_, rfl, .refl _⟩, ⟨_, rfl, .refl _⟩, ⟨_, rfl, .refl _⟩, ⟨_, rfl, .refl _⟩, ⟨_, rfl, .refl _⟩, ⟨_, rfl, .refl _⟩, ⟨_, rfl, .refl _⟩, trivial⟩, by rw [htk]; exact .refl _⟩
    · simp only [decide_eq_false_iff_not, Int.ofNat_lt] at hltk
      have : k = es.length := by omega
      subst this
      rw [List.take_length]
      refine go hT 10000 rfl ?_
      conv => whnf
      refine ops_g rfl (g_add rfl rfl rfl (by omega)) ?_
      refine go hT 10000 rfl ?_
      conv => whnf
      refine ⟨i + 1, ⟨hlt, ?_, ?_⟩, by omega, ⟨⟨_, rfl, .refl _⟩, ⟨_, rfl, .refl _⟩, ⟨_, rfl, .refl _⟩, ⟨_, rfl, .refl _⟩, ⟨_, rfl, .refl _⟩, trivial⟩, by rw [hnext]; exact .refl _⟩
      · rw [hnext, foldB_len]; exact hlen
      · rw [hnext]; exact foldB_low es hlow
  · simp only [decide_eq_false_iff_not, Int.ofNat_lt] at hlt
    have : i = l := by omega
    subst this
    refine run_freezeS (t := 5) (n := i) (c := i) (sz := 1) (rows := (leadsB i es).map natR) rfl .here (natR_flat _) (fun r hr => by obtain ⟨x, _, rfl⟩ := List.mem_map.1 hr; rfl) (by rw [List.length_map]; exact hlen) (Nat.le_refl _) ?_
    refine go hT 10000 rfl ?_
    conv => whnf
    exact ret_of (.tmp rfl .nil) rfl
end
end Go.Vw
namespace Go.Vw
open Go.RowKit Go.Am Go.Proofs Go.Ord
attribute [local irreducible] VOps VRun VNext VD VDn VDq Ret
def wrongE (m : Int) (x : Int) : Bool := decide (x < 0) || decide (m ≤ x)
def toNatE (e : Int × Int) : Nat × Nat := (e.1.toNat, e.2.toNat)
theorem cast_toNat {m : Int} {es : List (Int × Int)} (h : es.any (fun e => wrongE m e.1 || wrongE m e.2) = false) : (es.map toNatE).map castE = es ∧ ∀ e ∈ es.map toNatE, e.1 < m.toNat ∧ e.2 < m.toNat := by
  rw [List.any_eq_false] at h
  have key : ∀ e ∈ es, (0 ≤ e.1 ∧ e.1 < m) ∧ (0 ≤ e.2 ∧ e.2 < m) := fun e he => by
    have := h e he
    simp only [wrongE, Bool.or_eq_true, decide_eq_true_eq, not_or] at this
    omega
  refine ⟨?_, fun e he => ?_⟩
  · rw [List.map_map]
    conv => rhs; rw [← List.map_id es]
    refine List.map_congr_left fun e he => ?_
    obtain ⟨⟨h1, _⟩, h2, _⟩ := key e he
    simp only [Function.comp, castE, toNatE, id, Int.toNat_of_nonneg h1, Int.toNat_of_nonneg h2]
  · obtain ⟨x, hx, rfl⟩ := List.mem_map.1 he
    have := key x hx
    simp only [toNatE]
    omega
/-- Is there a ring? -/
def ringB (L : Nat) (es : List (Nat × Nat)) : Bool := es.any fun e => (getN (leadsB L es) e.2).testBit e.1
/-- What Ranks answers. -/
def ranksD (m : Int) (es : List (Int × Int)) : List Nat × Bool :=
  if (decide (m < 0) || decide (8 < m) || es.any fun e => wrongE m e.1 || wrongE m e.2) = true then ([], false)
  else if ringB m.toNat (es.map toNatE) = true then ([], false) else (ranksK m.toNat (es.map toNatE), true)
def RanksR (m : Int) (es : List (Int × Int)) (v : V) : Prop := v = .tup [.slice .no ((ranksD m es).1.map natR), .ob (ranksD m es).2]
/-- No rank is beyond a bound. -/
def Most (n : Nat) (r : List Nat) : Prop := ∀ x ∈ r, x ≤ n
theorem getN_most {n : Nat} {r : List Nat} (h : Most n r) (i : Nat) : getN r i ≤ n := by
  by_cases hi : i < r.length
  · rw [getN_of hi]; exact h _ (List.getElem_mem hi)
  · unfold getN; rw [List.getElem?_eq_none (by omega)]; exact Nat.zero_le _
theorem edgeK_most {n : Nat} {r : List Nat} (h : Most n r) (e : Nat × Nat) : Most (n + 1) (edgeK r e) := fun x hx => by
  rcases List.mem_or_eq_of_mem_set hx with hx | rfl
  · exact Nat.le_succ_of_le (h x hx)
  · have a := getN_most h e.1
    have b := getN_most h e.2
    omega
section
variable [Drw] (hT : TabOk tab Tryz.prog)
include hT
theorem indexPairs {p : (Int × Int) → Bool} {tok : Tok} {xs : List (Int × Int)} {fid : FuncId} {first cap : List V} {fn : Func} {body : Code} (hl : xs.length < 4611686018427387904) (hf : tab.func fid = some fn) (hb : fn.body = some body)
    (hp : ∀ x ∈ xs, Pure Tryz.prog fid (first ++ [.agg (prs x)] ++ cap) (.ob (p x))) : Pure Tryz.prog 95 [.slice tok (xs.map prs), .func fid first cap] (.int .i64 (idxI p xs)) := by
  refine VC.code hT 19 rfl rfl rfl rfl fun F w S0 => ?_
  refine go hT 10000 rfl ?_
  conv => whnf
  refine ops_g rfl (g_len hT rfl rfl rfl rfl rfl rfl (List.length_map _)) ?_
  refine go hT 10000 rfl ?_
  conv => whnf
  refine run_lq (fun i : Nat => ([(0, .slice tok (xs.map prs)), (1, .func fid first cap), (7, .int .i64 xs.length), (8, .int .i64 i)], [])) (fun i => ∀ j (h : j < i) (h' : j < xs.length), p xs[j] = false) (fun i => xs.length - i) 0 (fun j h => by omega) ⟨⟨⟨_, rfl, .refl _⟩, ⟨_, rfl, .refl _⟩, ⟨_, rfl, .refl _⟩, ⟨_, rfl, .refl _⟩, trivial⟩, .nil⟩ fun i hi => ?_
  refine go hT 10000 rfl ?_
  conv => whnf
  refine run_split rfl (fun h => ?_) (fun h => ?_)
  · simp only [decide_eq_true_eq, Int.ofNat_lt] at h
    refine go hT 10000 rfl ?_
    conv => whnf
    refine ops_g rfl (g_indexM hT rfl rfl rfl rfl rfl h rfl) ?_
    refine go hT 10000 rfl ?_
    conv => whnf
    refine ops_s rfl (s_pure hT rfl rfl rfl rfl hf hb (hp _ (List.getElem_mem h)) ?_)
    refine go hT 10000 rfl ?_
    conv => whnf
    refine run_split rfl (fun h2 => ?_) (fun h2 => ?_)
    · refine go hT 10000 rfl ?_
      conv => whnf
      refine ret_of (.tmp rfl .nil) ?_
      show V.int .i64 (i : Int) = _
      rw [idxI_hit p xs i h h2 fun j hj => hi j hj (by omega)]
    · refine go hT 10000 rfl ?_
      conv => whnf
      refine ops_g rfl (g_add rfl rfl rfl (by omega)) ?_
      refine go hT 10000 rfl ?_
      conv => whnf
      refine ⟨i + 1, fun j hj hx => ?_, by omega, ⟨⟨_, rfl, .refl _⟩, ⟨_, rfl, .refl _⟩, ⟨_, rfl, .refl _⟩, ⟨_, rfl, .refl _⟩, trivial⟩, .nil⟩
      by_cases hji : j = i
      · subst hji; exact h2
      · exact hi j (by omega) hx
  · simp only [decide_eq_false_iff_not, Int.ofNat_lt] at h
    refine go hT 10000 rfl ?_
    conv => whnf
    refine ret_of (.tmp rfl .nil) ?_
    rw [idxI_miss p xs fun j hj => hi j (by omega) hj]
    rfl
theorem containsPairs {p : (Int × Int) → Bool} {tok : Tok} {xs : List (Int × Int)} {fid : FuncId} {first cap : List V} {fn : Func} {body : Code} (hl : xs.length < 4611686018427387904) (hf : tab.func fid = some fn) (hb : fn.body = some body)
    (hp : ∀ x ∈ xs, Pure Tryz.prog fid (first ++ [.agg (prs x)] ++ cap) (.ob (p x))) : Pure Tryz.prog 55 [.slice tok (xs.map prs), .func fid first cap] (.ob (xs.any p)) := by
  refine VC.code hT 9 rfl rfl rfl rfl fun F w S0 => ?_
  refine go hT 10000 rfl ?_
  conv => whnf
  refine ops_s rfl (s_pure hT rfl rfl rfl rfl rfl rfl (indexPairs hT hl hf hb hp) ?_)
  refine go hT 10000 rfl ?_
  conv => whnf
  refine ret_of (.tmp rfl .nil) ?_
  rw [← idxI_ge]; rfl
theorem wrong1 (x m : Int) : Pure Tryz.prog 54 [.int .i64 x, .pin [.int .i64 m] 0] (.ob (wrongE m x)) := by
  refine VC.code hT 11 rfl rfl rfl rfl fun F w S0 => ?_
  refine go hT 10000 rfl ?_
  conv => whnf
  refine op_guard rfl rfl rfl rfl (fun h => ?_) (fun h => ?_)
  · refine go hT 10000 rfl ?_
    conv => whnf
    exact ret_bool rfl rfl rfl (by unfold wrongE; rw [h]; rfl)
  · refine go hT 10000 rfl ?_
    conv => whnf
    exact ret_bool rfl rfl rfl (by unfold wrongE; rw [h]; rfl)
theorem wrong2 (e : Int × Int) (m : Int) : Pure Tryz.prog 56 [.agg (prs e), .pin [.func 54 [] [.pin [.int .i64 m] 0]] 0] (.ob (wrongE m e.1 || wrongE m e.2)) := by
  refine VC.code hT 14 rfl rfl rfl rfl fun F w S0 => ?_
  refine go hT 10000 rfl ?_
  conv => whnf
  refine ops_s rfl (s_boxF rfl rfl rfl ?_)
  refine go hT 10000 rfl ?_
  conv => whnf
  refine ops_g rfl (g_indexPin hT rfl rfl rfl rfl rfl (by decide) (by decide)) ?_
  refine go hT 10000 rfl ?_
  conv => whnf
  refine ops_s rfl (s_pure hT rfl rfl rfl rfl rfl rfl (wrong1 hT e.1 m) ?_)
  refine go hT 10000 rfl ?_
  conv => whnf
  refine op_guard rfl rfl rfl rfl (fun h => ?_) (fun h => ?_)
  · refine go hT 10000 rfl ?_
    conv => whnf
    exact ret_bool rfl rfl rfl (by rw [h]; rfl)
  · refine go hT 10000 rfl ?_
    conv => whnf
    refine ops_g rfl (g_indexPin hT rfl rfl rfl rfl rfl (by decide) (by decide)) ?_
    refine go hT 10000 rfl ?_
    conv => whnf
    refine ops_s rfl (s_pure hT rfl rfl rfl rfl rfl rfl (wrong1 hT e.2 m) ?_)
    refine go hT 10000 rfl ?_
    conv => whnf
    exact ret_bool rfl rfl rfl (by rw [h]; rfl)
theorem ring1 (B : List Nat) (hB : Low B) (e : Nat × Nat) (h1 : e.1 < 8) (h2 : e.2 < B.length) (b : Bool) (hb : (getN B e.2).testBit e.1 = b) : Pure Tryz.prog 57 [.agg (prs (castE e)), .pin [.slice .no (B.map natR)] 0] (.ob b) := by
  subst hb
  refine VC.code hT 12 rfl rfl rfl rfl fun F w S0 => ?_
  refine go hT 10000 rfl ?_
  conv => whnf
  refine ops_s rfl (s_boxF rfl rfl rfl ?_)
  refine go hT 10000 rfl ?_
  conv => whnf
  intro id
  refine run_drw hT rfl rfl ?_ id
  repeat' (first
    | (refine god hT 1 rfl ?_; conv => whnf)
    | refine vd_fin rfl ?_
    | refine q_g rfl (fun S' => (g_len hT rfl rfl rfl rfl rfl rfl (List.length_map _)).qs) ?_
    | refine q_guard rfl rfl rfl rfl (fun h => ?_) (fun h => ?_)
    | refine q_g rfl (fun S' => (g_indexPin hT rfl rfl rfl rfl rfl (by decide) (by decide)).qs) ?_
    | refine q_g rfl (fun S' => (g_indexM (i := e.2) (xs := B) (g := natR) hT rfl rfl rfl rfl rfl h2 rfl).qs) ?_)
  refine vd_eff1 rfl (eff rfl rfl (s_pure hT rfl rfl rfl rfl rfl rfl (hasP hT B[e.2] e.1 (hB _ (List.getElem_mem h2)) (by omega)) (And.intro trivial ?_)))
  refine god hT 1 rfl ?_
  conv => whnf
  refine vd_fin rfl ?_
  refine go hT 10000 rfl ?_
  conv => whnf
  exact ret_bool rfl rfl rfl (by rw [getN_of h2])
set_option maxRecDepth 100000 in
theorem ranksOf {t : Tok} (m : Int) (es : List (Int × Int)) (hl : es.length < 2000000) : PureR Tryz.prog 20 [.int .i64 m, .slice t (es.map prs)] (RanksR m es) := by
  refine VC.code hT 59 rfl rfl rfl rfl fun F w S0 => ?_
  refine go hT 10000 rfl ?_
  conv => whnf
  refine ops_s rfl (s_boxF rfl rfl rfl ?_)
  refine go hT 10000 rfl ?_
  conv => whnf
  refine ops_s rfl (s_alloc hT rfl rfl rfl fun b6 => ?_)
  refine go hT 10000 rfl ?_
  conv => whnf
  refine ops_s rfl (s_store (cs' := [.func 54 [] [.pin [.int .i64 m] 0]]) hT rfl rfl rfl .here rfl ?_)
  refine go hT 10000 rfl ?_
  conv => whnf
  refine ops_freezeH (t := 6) rfl ?_
  have bad : (decide (m < 0) || decide (8 < m) || es.any fun e => wrongE m e.1 || wrongE m e.2) = true → RanksR m es (.tup [.slice .no [], .ob false]) := fun h => by
    unfold RanksR ranksD; rw [if_pos h]; rfl
  refine op_guard rfl rfl rfl rfl (fun h1 => ?_) (fun h1 => ?_)
  · refine go hT 10000 rfl ?_
    conv => whnf
    exact ret_of (.tmpL rfl (V.Le.slice _ _) (.tmpL rfl (Le_ob rfl) .nil)) (bad (by rw [h1]; rfl))
  refine go hT 10000 rfl ?_
  conv => whnf
  refine op_guard rfl rfl rfl rfl (fun h2 => ?_) (fun h2 => ?_)
  · refine go hT 10000 rfl ?_
    conv => whnf
    exact ret_of (.tmpL rfl (V.Le.slice _ _) (.tmpL rfl (Le_ob rfl) .nil)) (bad (by rw [h1]; exact (by rw [show decide (8 < m) = true from h2]; rfl)))
  refine go hT 10000 rfl ?_
  conv => whnf
  refine ops_s rfl (s_pure hT rfl rfl rfl rfl rfl rfl (containsPairs hT (p := fun e => wrongE m e.1 || wrongE m e.2) (by omega) rfl rfl fun e _ => wrong2 hT e m) ?_)
  refine go hT 10000 rfl ?_
  conv => whnf
  refine run_split rfl (fun h3 => ?_) (fun h3 => ?_)
  · refine go hT 10000 rfl ?_
    conv => whnf
    exact ret_of (.tmpL rfl (V.Le.slice _ _) (.tmpL rfl (Le_ob rfl) .nil)) (bad (by rw [h3, Bool.or_true]))
  have h2 : decide (8 < m) = false := h2
  have hgood : (decide (m < 0) || decide (8 < m) || es.any fun e => wrongE m e.1 || wrongE m e.2) ≠ true := by rw [h1, h2, h3]; decide
  clear bad
  simp only [decide_eq_false_iff_not] at h1 h2
  obtain ⟨hc, hlt⟩ := cast_toNat h3
  obtain ⟨L, rfl⟩ : ∃ L : Nat, m = (L : Int) := ⟨m.toNat, by omega⟩
  have hL : L ≤ 8 := by omega
  unfold RanksR ranksD
  rw [if_neg hgood]
  rw [Int.toNat_natCast] at hlt ⊢
  clear hgood h3
  have hlen : (es.map toNatE).length < 2000000 := by rw [List.length_map]; exact hl
  generalize es.map toNatE = en at hc hlt hlen ⊢
  subst hc
  refine go hT 10000 rfl ?_
  conv => whnf
  refine ops_s rfl (s_pure hT rfl rfl rfl rfl rfl rfl (leadsP hT L hL en hlt hlen) ?_)
  have hB : (leadsB L en).length = L ∧ Low (leadsB L en) := by
    have : ∀ i, (iter (roundB en) i (startB L)).length = L ∧ Low (iter (roundB en) i (startB L)) := by
      intro i
      induction i with
      | zero => exact ⟨by simp [iter, startB], startB_low hL⟩
      | succ i ih => rw [iter_succ]; exact ⟨(roundB_len _ _).trans ih.1, foldB_low en ih.2⟩
    exact this L
  have hring : ((en.map castE).any fun x => (getN (leadsB L en) x.2.toNat).testBit x.1.toNat) = ringB L en := by
    unfold ringB
    rw [List.any_map]
    rfl
  generalize leadsB L en = B at hB hring ⊢
  refine go hT 10000 rfl ?_
  conv => whnf
  refine ops_s rfl (s_alloc hT rfl rfl rfl fun b7 => ?_)
  refine go hT 10000 rfl ?_
  conv => whnf
  refine ops_s rfl (s_store (cs' := [.slice .no (B.map natR)]) hT rfl rfl rfl .here rfl ?_)
  refine ops_freezeH (t := 7) rfl ?_
  refine go hT 10000 rfl ?_
  conv => whnf
  refine ops_s rfl (s_pure hT rfl rfl rfl rfl rfl rfl (containsPairs hT (p := fun x => (getN B x.2.toNat).testBit x.1.toNat) (by rw [List.length_map]; omega) rfl rfl fun x hx => by
    obtain ⟨e, he, rfl⟩ := List.mem_map.1 hx
    obtain ⟨e1, e2⟩ := hlt e he
    exact ring1 hT B hB.2 e (by omega) (by omega) _ rfl) ?_)
  rw [hring]
  refine go hT 10000 rfl ?_
  conv => whnf
  refine run_split rfl (fun h3 => ?_) (fun h3 => ?_)
  · rw [if_pos h3]
    refine go hT 10000 rfl ?_
    conv => whnf
    exact ret_of (.tmpL rfl (V.Le.slice _ _) (.tmpL rfl (Le_ob rfl) .nil)) rfl
  rw [if_neg (by rw [h3]; decide)]
  refine go hT 10000 rfl ?_
  conv => whnf
  refine ops_s rfl (s_makeSlice hT rfl rfl rfl rfl rfl rfl rfl (Nat.le_refl _) (by omega) fun b => ?_)
  refine go hT 10000 rfl ?_
  conv => whnf
  have h0 : repV L [V.int .i64 0] = (List.replicate L 0).map natV := by rw [repV_one, List.map_replicate]; rfl
  refine run_lq (fun i : Nat => ([(1, .slice t ((en.map castE).map prs)), (8, .ref b 0 L L), (31, .int .i64 (L : Int)), (32, .int .i64 (i : Int))], [.cells b ((iter (roundK en) i (List.replicate L 0)).map natV) 3])) (fun i => i ≤ L ∧ (iter (roundK en) i (List.replicate L 0)).length = L ∧ Most (i * en.length) (iter (roundK en) i (List.replicate L 0))) (fun i => L - i) 0 ⟨Nat.zero_le _, by simp [iter], fun x hx => by simp [iter] at hx; omega⟩ ⟨⟨⟨_, rfl, .refl _⟩, ⟨_, rfl, .refl _⟩, ⟨_, rfl, .refl _⟩, ⟨_, rfl, .refl _⟩, trivial⟩, by show Sub _ [.cells b ((List.replicate L 0).map natV) 3]; rw [← h0]; exact .refl _⟩ ?_
  rintro i ⟨hi, hlen2, hmost⟩
  refine go hT 10000 rfl ?_
  conv => whnf
  refine run_split rfl (fun hlt2 => ?_) (fun hlt2 => ?_)
  · simp only [decide_eq_true_eq, Int.ofNat_lt] at hlt2
    refine go hT 10000 rfl ?_
    conv => whnf
    refine ops_g rfl (g_len hT rfl rfl rfl rfl rfl rfl (List.length_map _)) ?_
    rw [List.length_map]
    refine go hT 10000 rfl ?_
    conv => whnf
    have hnext : iter (roundK en) (i + 1) (List.replicate L 0) = en.foldl edgeK (iter (roundK en) i (List.replicate L 0)) := iter_succ _ _ _
    generalize iter (roundK en) i (List.replicate L 0) = R0 at hlen2 hmost hnext
    have hmul : i * en.length ≤ 8 * 2000000 := Nat.mul_le_mul (by omega) (by omega)
    refine run_lq (fun k : Nat => ([(1, .slice t ((en.map castE).map prs)), (8, .ref b 0 L L), (31, .int .i64 (L : Int)), (32, .int .i64 (i : Int)), (34, .slice t ((en.map castE).map prs)), (35, .int .i64 (en.length : Int)), (36, .int .i64 (k : Int))], [.cells b (((en.take k).foldl edgeK R0).map natV) 3])) (fun k => k ≤ en.length ∧ Most (i * en.length + k) ((en.take k).foldl edgeK R0)) (fun k => en.length - k) 0 ⟨Nat.zero_le _, hmost⟩ ⟨⟨⟨_, rfl, .refl _⟩, ⟨_, rfl, .refl _⟩, ⟨_, rfl, .refl _⟩, ⟨_, rfl, .refl _⟩, ⟨_, rfl, .refl _⟩, ⟨_, rfl, .refl _⟩, ⟨_, rfl, .refl _⟩, trivial⟩, .refl _⟩ ?_
    rintro k ⟨hk, hmk⟩
    refine go hT 10000 rfl ?_
    conv => whnf
    refine run_split rfl (fun hltk => ?_) (fun hltk => ?_)
    · simp only [decide_eq_true_eq, Int.ofNat_lt] at hltk
      have hR := foldK_len (en.take k) R0
      have htk := fold_take edgeK R0 en k hltk
      generalize (en.take k).foldl edgeK R0 = R at hR htk hmk
      obtain ⟨e1, e2⟩ := hlt _ (List.getElem_mem hltk)
      refine go hT 10000 rfl ?_
      conv => whnf
      refine ops_g rfl (g_indexM (xs := en.map castE) hT rfl rfl rfl rfl rfl (by simpa using hltk) rfl) ?_
      rw [List.getElem_map]
      refine go hT 10000 rfl ?_
      conv => whnf
      refine ops_s rfl (s_alloc hT rfl rfl rfl fun b8 => ?_)
      refine go hT 10000 rfl ?_
      conv => whnf
      refine ops_s rfl (s_store (cs' := prs (castE en[k])) hT rfl rfl rfl .here rfl ?_)
      refine go hT 10000 rfl ?_
      conv => whnf
      intro id
      refine run_freeze (t := 10) rfl .here ?_
      refine run_sub (.drop (.refl _)) ?_
      refine run_drw hT rfl rfl ?_ id
      have hp1 : partV tab 3 (R.map natV) (0 + ((en[k].1 : Nat) : Int).toNat * 1) = some (natV (getN R en[k].1)) := by
        rw [Int.toNat_natCast, Nat.mul_one, Nat.zero_add, getN_of (by omega)]
        exact part_at rfl (by rw [List.getElem?_map, List.getElem?_eq_getElem (by omega)]; rfl)
      have hp2 : partV tab 3 (R.map natV) (0 + ((en[k].2 : Nat) : Int).toNat * 1) = some (natV (getN R en[k].2)) := by
        rw [Int.toNat_natCast, Nat.mul_one, Nat.zero_add, getN_of (by omega)]
        exact part_at rfl (by rw [List.getElem?_map, List.getElem?_eq_getElem (by omega)]; rfl)
      have hm1 := getN_most hmk en[k].1
      repeat' (first
        | (refine god hT 1 rfl ?_; conv => whnf)
        | refine vd_fin rfl ?_
        | refine q_g rfl (fun S' => (g_len hT rfl rfl rfl rfl rfl rfl (List.length_map _)).qs) ?_
        | refine q_guard rfl rfl rfl rfl (fun h => ?_) (fun h => ?_)
        | refine q_g rfl (fun S' => (g_indexPin hT rfl rfl rfl rfl rfl (by decide) (by decide)).qs) ?_
        | refine q_g rfl (fun S' => (g_indexRef (i := ((en[k].1 : Nat) : Int)) hT rfl rfl rfl rfl rfl (Int.natCast_nonneg _) (Int.ofNat_lt.2 e1)).qs) ?_
        | refine q_g rfl (fun S' => (g_indexRef (i := ((en[k].2 : Nat) : Int)) hT rfl rfl rfl rfl rfl (Int.natCast_nonneg _) (Int.ofNat_lt.2 e2)).qs) ?_
        | refine q_load hT rfl rfl rfl .here hp1 ?_
        | refine q_load hT rfl rfl rfl .here hp2 ?_
        | refine q_g rfl (fun S' => (g_add rfl rfl rfl (by omega)).qs) ?_
        | refine q_g rfl (fun S' => (g_max rfl rfl rfl rfl rfl).qs) ?_)
      refine vd_eff1 rfl (eff rfl rfl (s_store (cs' := (edgeK R en[k]).map natV) hT rfl rfl rfl .here ?_ ?_))
      · show storeV tab 3 (.int .i64 (if ((getN R en[k].1 : Nat) : Int) + 1 > ((getN R en[k].2 : Nat) : Int) then ((getN R en[k].1 : Nat) : Int) + 1 else ((getN R en[k].2 : Nat) : Int))) (0 + ((en[k].2 : Nat) : Int).toNat * 1) _ = _
        have hx : (if ((getN R en[k].1 : Nat) : Int) + 1 > ((getN R en[k].2 : Nat) : Int) then ((getN R en[k].1 : Nat) : Int) + 1 else ((getN R en[k].2 : Nat) : Int)) = ((max (getN R en[k].2) (getN R en[k].1 + 1) : Nat) : Int) := by
          split <;> omega
        rw [hx, Int.toNat_natCast, Nat.mul_one, Nat.zero_add]
        unfold edgeK
        rw [List.map_set]
        exact store_at rfl rfl rfl (by rw [List.length_map]; omega)
      · refine And.intro trivial ?_
        refine god hT 1 rfl ?_
        conv => whnf
        refine vd_fin rfl ?_
        refine go hT 10000 rfl ?_
        conv => whnf
        refine ops_g rfl (g_add rfl rfl rfl (by omega)) ?_
        refine go hT 10000 rfl ?_
        conv => whnf
        exact ⟨k + 1, ⟨hltk, by rw [htk]; exact edgeK_most hmk _⟩, by omega, ⟨⟨_, rfl, .refl _⟩, ⟨_, rfl, .refl _⟩, ⟨_, rfl, .refl _⟩, ⟨_, rfl, .refl _⟩, ⟨_, rfl, .refl _⟩, ⟨_, rfl, .refl _⟩, ⟨_, rfl, .refl _⟩, trivial⟩, by rw [htk]; exact .refl _⟩
    · simp only [decide_eq_false_iff_not, Int.ofNat_lt] at hltk
      have : k = en.length := by omega
      subst this
      rw [List.take_length] at hmk ⊢
      refine go hT 10000 rfl ?_
      conv => whnf
      refine ops_g rfl (g_add rfl rfl rfl (by omega)) ?_
      refine go hT 10000 rfl ?_
      conv => whnf
      refine ⟨i + 1, ⟨hlt2, ?_, ?_⟩, by omega, ⟨⟨_, rfl, .refl _⟩, ⟨_, rfl, .refl _⟩, ⟨_, rfl, .refl _⟩, ⟨_, rfl, .refl _⟩, trivial⟩, by rw [hnext]; exact .refl _⟩
      · rw [hnext, foldK_len]; exact hlen2
      · rw [hnext, Nat.succ_mul]; exact hmk
  · simp only [decide_eq_false_iff_not, Int.ofNat_lt] at hlt2
    have : i = L := by omega
    subst this
    refine run_freezeS (t := 8) (n := i) (c := i) (sz := 1) (rows := (ranksK i en).map natR) rfl .here (natR_flat _) (fun r hr => by obtain ⟨x, _, rfl⟩ := List.mem_map.1 hr; rfl) (by rw [List.length_map]; exact hlen2) (Nat.le_refl _) ?_
    refine go hT 10000 rfl ?_
    conv => whnf
    exact ret_of (.tmp rfl (.tmpL rfl (Le_ob rfl) .nil)) rfl
end
end Go.Vw
namespace Go.Vw
open Go.RowKit Go.Am Go.Proofs
attribute [local irreducible] VOps VRun VNext VD VDn VDq Ret
theorem At.idx {l : Hp} : ∀ {i : Nat} {h : HE}, l[i]? = some h → At l h (fun x => l.set i x) := by
  induction l with
  | nil => intro i h e; simp at e
  | cons y l ih =>
    intro i h e
    cases i with
    | zero =>
      simp only [List.getElem?_cons_zero, Option.some.injEq] at e
      subst e
      exact .here
    | succ i =>
      simp only [List.getElem?_cons_succ] at e
      exact .there (ih e)
section
variable [Drw] (hT : TabOk tab Tryz.prog)
include hT
end
end Go.Vw
namespace Go.Vw
open Go.RowKit Go.Am Go.Proofs Go.Ord
attribute [local irreducible] VOps VRun VNext VD VDn VDq Ret
abbrev Mat := Nat → Nat → Bool
def rowR (n : Nat) (R : Mat) (i : Nat) : List V := (List.range n).map fun j => V.ob (R i j)
def rowRR (n : Nat) (R : Mat) (i : Nat) : List (List V) := (List.range n).map fun j => [V.ob (R i j)]
theorem rowRR_flat (n : Nat) (R : Mat) (i : Nat) : (rowRR n R i).flatten = rowR n R i := by
  unfold rowRR rowR
  generalize List.range n = l
  induction l with
  | nil => rfl
  | cons x l ih => rw [List.map_cons, List.flatten_cons, ih]; rfl
/-- A table as rows of blocks. -/
def matS (bl : List Nat) (n : Nat) (R : Mat) : Hp := (List.range bl.length).map fun i => .cells (bl.getD i 0) (rowR n R i) 4
def outR (bl : List Nat) (n : Nat) : List (List V) := bl.map fun b => [V.ref b 0 n n]
def tabR (n : Nat) (R : Mat) : List (List V) := (List.range n).map fun i => [V.slice .no (rowRR n R i)]
def setM (R : Mat) (i j : Nat) : Mat := fun a b => if a = i ∧ b = j then true else R a b
theorem rowR_set (n : Nat) (R : Mat) (i j : Nat) : (rowR n R i).set j (.ob true) = rowR n (setM R i j) i := by
  refine List.ext_getElem (by simp [rowR]) fun k h1 h2 => ?_
  simp only [rowR, List.getElem_set, List.getElem_map, List.getElem_range, setM, true_and]
  by_cases h : j = k
  · subst h; simp
  · rw [if_neg h, if_neg fun e => h e.symm]
theorem rowR_other (n : Nat) (R : Mat) (i j k : Nat) (h : k ≠ i) : rowR n (setM R i j) k = rowR n R k := by
  unfold rowR
  refine List.map_congr_left fun b _ => ?_
  simp [setM, h]
theorem matS_at {bl : List Nat} {n : Nat} {R : Mat} {i : Nat} (h : i < bl.length) : (matS bl n R)[i]? = some (.cells bl[i] (rowR n R i) 4) := by
  unfold matS
  rw [List.getElem?_map, List.getElem?_range h]
  simp [h]
theorem matS_set {bl : List Nat} {n : Nat} {R : Mat} {i : Nat} (h : i < bl.length) (j : Nat) : (matS bl n R).set i (.cells bl[i] (rowR n (setM R i j) i) 4) = matS bl n (setM R i j) := by
  refine List.ext_getElem (by simp [matS]) fun k h1 h2 => ?_
  simp only [matS, List.getElem_set, List.getElem_map, List.getElem_range]
  by_cases e : i = k
  · subst e
    rw [if_pos rfl]
    simp [h]
  · rw [if_neg e, rowR_other _ _ _ _ _ fun h => e h.symm]
theorem matS_snoc (bl : List Nat) (b n : Nat) (R : Mat) : matS (bl ++ [b]) n R = matS bl n R ++ [.cells b (rowR n R bl.length) 4] := by
  unfold matS
  rw [List.length_append, List.length_singleton, List.range_succ, List.map_append]
  congr 1
  · refine List.map_congr_left fun i hi => ?_
    have := List.mem_range.1 hi
    simp [List.getD_eq_getElem?_getD, List.getElem?_append_left this]
  · simp [List.getD_eq_getElem?_getD]
/-! ### the loops -/
def edgeM (R : Mat) (e : Nat × Nat) : Mat := setM R e.1 e.2
def colM (k i : Nat) (R : Mat) (j : Nat) : Mat := if R i k && R k j then setM R i j else R
/-- j from 0 to n. -/
def upJ (k i : Nat) (R : Mat) : Nat → Mat
  | 0 => R
  | j + 1 => colM k i (upJ k i R j) j
def upI (n k : Nat) (R : Mat) : Nat → Mat
  | 0 => R
  | i + 1 => upJ k i (upI n k R i) n
def upK (n : Nat) (R : Mat) : Nat → Mat
  | 0 => R
  | k + 1 => upI n k (upK n R k) n
theorem upJ_spec (k i : Nat) (R : Mat) : ∀ (j a b : Nat), upJ k i R j a b = (R a b || (decide (a = i ∧ b < j) && (R i k && R k b)))
  | 0, a, b => by simp [upJ]
  | j + 1, a, b => by
    have h1 := upJ_spec k i R j i k
    have h2 := upJ_spec k i R j k j
    have hik : upJ k i R j i k = R i k := by
      rw [h1]
      by_cases h : R i k = true
      · simp [h]
      · have : R i k = false := by simpa using h
        simp [this]
    have hkj : (R i k && upJ k i R j k j) = (R i k && R k j) := by
      rw [h2]
      have : decide (k = i ∧ j < j) = false := by simp
      rw [this]; simp
    show colM k i (upJ k i R j) j a b = _
    unfold colM
    rw [hik]
    by_cases hc : (R i k && upJ k i R j k j) = true
    · rw [if_pos hc]
      rw [hkj] at hc
      unfold setM
      by_cases hab : a = i ∧ b = j
      · obtain ⟨rfl, rfl⟩ := hab
        simp [hc]
      · rw [if_neg hab, upJ_spec k i R j a b]
        congr 2
        by_cases ha : a = i
        · have : b ≠ j := fun e => hab ⟨ha, e⟩
          simp only [ha, true_and]
          congr 1
          exact propext ⟨fun h => by omega, fun h => by omega⟩
        · simp [ha]
    · rw [if_neg hc, upJ_spec k i R j a b]
      rw [hkj] at hc
      have hc : (R i k && R k j) = false := by simpa using hc
      by_cases ha : a = i
      · by_cases hb : b = j
        · subst hb; simp [ha, hc]
        · congr 2
          simp only [ha, true_and]
          congr 1
          exact propext ⟨fun h => by omega, fun h => by omega⟩
      · simp [ha]
theorem upI_spec (n k : Nat) (R : Mat) : ∀ (i a b : Nat), i ≤ n → a < n → b < n → k < n → upI n k R i a b = (R a b || (decide (a < i) && (R a k && R k b)))
  | 0, a, b, _, _, _, _ => by simp [upI]
  | i + 1, a, b, hi, ha, hb, hk => by
    show upJ k i (upI n k R i) n a b = _
    rw [upJ_spec]
    rw [upI_spec n k R i a b (by omega) ha hb hk, upI_spec n k R i i k (by omega) (by omega) hk hk, upI_spec n k R i k b (by omega) hk hb hk]
    by_cases hai : a = i
    · subst hai
      have h1 : decide (a < a) = false := by simp
      have h2 : decide (a < a + 1) = true := by simp
      simp only [h1, h2, Bool.false_and, Bool.or_false, hb, and_self, decide_true, Bool.true_and]
      cases R a b <;> cases R a k <;> cases R k b <;> cases R k k <;> cases decide (k < a) <;> rfl
    · have h1 : decide (a = i ∧ b < n) = false := by simp [hai]
      have h2 : decide (a < i + 1) = decide (a < i) := by
        congr 1
        exact propext ⟨fun h => by omega, fun h => by omega⟩
      rw [h1, h2]
      simp
theorem upK_spec (n : Nat) (R : Mat) : ∀ (k a b : Nat), k ≤ n → a < n → b < n → upK n R k a b = fw R k a b
  | 0, a, b, _, _, _ => rfl
  | k + 1, a, b, hk, ha, hb => by
    show upI n k (upK n R k) n a b = _
    rw [upI_spec n k (upK n R k) n a b (Nat.le_refl _) ha hb (by omega)]
    rw [upK_spec n R k a b (by omega) ha hb, upK_spec n R k a k (by omega) ha (by omega), upK_spec n R k k b (by omega) (by omega) hb]
    have : decide (a < n) = true := by simp [ha]
    rw [this]
    rfl
theorem edges_spec : ∀ (es : List (Nat × Nat)) (R : Mat) (a b : Nat), es.foldl edgeM R a b = (R a b || es.contains (a, b))
  | [], R, a, b => by simp
  | e :: es, R, a, b => by
    rw [List.foldl_cons, edges_spec es]
    obtain ⟨x, y⟩ := e
    unfold edgeM setM
    by_cases h : a = x ∧ b = y
    · obtain ⟨rfl, rfl⟩ := h; simp
    · rw [if_neg h]
      have : ((a, b) == (x, y)) = false := by
        rw [beq_eq_false_iff_ne]
        intro e
        exact h (by simpa using e)
      rw [List.contains_cons, this, Bool.false_or]
def idM : Mat := fun i j => i == j
theorem closed_spec (n : Nat) (es : List (Nat × Nat)) (a b : Nat) (ha : a < n) (hb : b < n) : upK n (es.foldl edgeM idM) n a b = closedR n es a b := by
  rw [upK_spec n _ n a b (Nat.le_refl _) ha hb]
  unfold closedR
  congr 1
  funext i j
  rw [edges_spec]
  rfl
end Go.Vw
namespace Go.Vw
open Go.RowKit Go.Am Go.Proofs Go.Ord
attribute [local irreducible] VOps VRun VNext VD VDn VDq Ret
theorem falses (n : Nat) : VsLe (repV n [V.bool false]) ((List.replicate n (V.ob false))) := by
  rw [repV_one]
  induction n with
  | zero => exact .nil
  | succ n ih => exact .cons (Le_ob rfl) ih
theorem row0 (n i : Nat) (hi : i < n) : (List.replicate n (V.ob false)).set i (.ob true) = rowR n idM i := by
  refine List.ext_getElem (by simp [rowR]) fun k h1 h2 => ?_
  simp only [rowR, List.getElem_set, List.getElem_map, List.getElem_range, idM, List.getElem_replicate]
  by_cases h : i = k
  · subst h; simp
  · rw [if_neg h]
    have : (i == k) = false := by rw [beq_eq_false_iff_ne]; exact h
    rw [this]
theorem set_le : ∀ (l : List V) (i : Nat), VsLe (l.set i (.bool true)) (l.set i (.ob true))
  | [], _ => .nil
  | x :: l, 0 => .cons (Le_ob rfl) (VsLe.refl l)
  | x :: l, i + 1 => .cons (.refl x) (set_le l i)
theorem sub_at {l : Hp} {b : Nat} {cs cs' : List V} {e : TypeId} (h : VsLe cs cs') : ∀ (i : Nat), Sub (l.set i (.cells b cs e)) (l.set i (.cells b cs' e)) := by
  induction l with
  | nil => intro i; exact .nil
  | cons x l ih =>
    intro i
    cases i with
    | zero => exact .cells h (.refl l)
    | succ i => exact .keep (ih i)
section
variable [Drw] (hT : TabOk tab Tryz.prog)
include hT
set_option maxRecDepth 100000 in
set_option maxHeartbeats 2000000 in
theorem closed0 {t : Tok} (n : Nat) (hn : n ≤ 8) (es : List (Nat × Nat)) (he : ∀ e ∈ es, e.1 < n ∧ e.2 < n) (hl : es.length < 2000000) :
    VC Tryz.prog 49 [.int .i64 (n : Int), .slice t ((es.map castE).map prs)] [] fun v S' => ∃ tok bl, bl.length = n ∧ v = .slice tok (outR bl n) ∧ S' = matS bl n (upK n (es.foldl edgeM idM) n) := by
  refine VC.code hT 86 rfl rfl rfl rfl fun F w S0 => ?_
  refine go hT 10000 rfl ?_
  conv => whnf
  refine ops_s rfl (s_emptyList hT rfl rfl rfl ?_)
  refine go hT 10000 rfl ?_
  conv => whnf
  refine run_lq (fun x : Nat × Tok × List Nat => ([(0, .int .i64 (n : Int)), (1, .slice t ((es.map castE).map prs)), (5, .slice x.2.1 (outR x.2.2 n)), (6, .int .i64 (x.1 : Int))], .tl x.2.1 :: matS x.2.2 n idM)) (fun x => x.1 ≤ n ∧ x.2.2.length = x.1 ∧ tokB 1 x.2.1 = true) (fun x => n - x.1) (0, .zero, []) ⟨Nat.zero_le _, rfl, rfl⟩ ⟨⟨⟨_, rfl, .refl _⟩, ⟨_, rfl, .refl _⟩, ⟨_, rfl, .refl _⟩, ⟨_, rfl, .refl _⟩, trivial⟩, .zero .nil⟩ ?_
  rintro ⟨i, tok, bl⟩ ⟨hi, hbl, htok⟩
  dsimp only at hi hbl htok
  refine go hT 10000 rfl ?_
  conv => whnf
  refine run_split rfl (fun hlt => ?_) (fun hlt => ?_)
  · simp only [decide_eq_true_eq, Int.ofNat_lt] at hlt
    refine go hT 10000 rfl ?_
    conv => whnf
    refine ops_s rfl (s_makeSlice hT rfl rfl rfl rfl rfl rfl rfl (Nat.le_refl _) (by omega) fun b => ?_)
    refine ops_sub (.cells (falses n) (.refl _)) ?_
    refine go hT 10000 rfl ?_
    conv => whnf
    refine ops_s rfl (s_listF hT rfl rfl rfl rfl rfl rfl rfl rfl ?_)
    refine go hT 10000 rfl ?_
    conv => whnf
    refine ops_s rfl (s_append hT rfl rfl rfl rfl rfl rfl rfl rfl rfl rfl htok (.there .here) (fun r hr => by obtain ⟨x, _, rfl⟩ := List.mem_map.1 hr; rfl) (fun r hr => by rw [List.mem_singleton.1 hr]; rfl) (fun r hr => by rw [List.mem_singleton.1 hr]; rfl) (by simp [outR]; omega) fun tok' ht' => ?_)
    have ho : outR bl n ++ [[V.ref b 0 n n]] = outR (bl ++ [b]) n := by simp [outR]
    rw [ho]
    have hib : i < (bl ++ [b]).length := by simp; omega
    have hget : (bl ++ [b])[i] = b := by simp [← hbl]
    refine go hT 10000 rfl ?_
    conv => whnf
    refine ops_g rfl (g_indexM (xs := bl ++ [b]) (g := fun b => [V.ref b 0 n n]) hT rfl rfl rfl rfl rfl hib rfl) ?_
    rw [hget]
    refine go hT 10000 rfl ?_
    conv => whnf
    refine ops_g rfl (g_indexRef hT rfl rfl rfl rfl rfl (Int.natCast_nonneg _) (Int.ofNat_lt.2 hlt)) ?_
    refine go hT 10000 rfl ?_
    conv => whnf
    refine ops_s rfl (s_store (cs' := (List.replicate n (V.ob false)).set i (.bool true)) hT rfl rfl rfl .here (by
      show storeV tab 4 (.bool true) (0 + ((i : Nat) : Int).toNat * 1) _ = _
      rw [Int.toNat_natCast, Nat.mul_one, Nat.zero_add]; exact store_at rfl rfl rfl (by simpa using hlt)) ?_)
    refine ops_sub (.cells (set_le _ _) (.refl _)) ?_
    rw [row0 n i hlt]
    refine ops_perm (S' := .tl tok' :: matS (bl ++ [b]) n idM) (by
      rw [matS_snoc, hbl]
      refine (List.Perm.swap _ _ _).trans (.cons _ ?_)
      exact List.perm_append_comm (l₁ := [_])) ?_
    refine go hT 10000 rfl ?_
    conv => whnf
    refine ops_g rfl (g_add rfl rfl rfl (by omega)) ?_
    refine go hT 10000 rfl ?_
    conv => whnf
    exact ⟨(i + 1, tok', bl ++ [b]), ⟨hlt, by simp [hbl], ht'⟩, by dsimp only; omega, ⟨⟨_, rfl, .refl _⟩, ⟨_, rfl, .refl _⟩, ⟨_, rfl, .refl _⟩, ⟨_, rfl, .refl _⟩, trivial⟩, .refl _⟩
  simp only [decide_eq_false_iff_not, Int.ofNat_lt] at hlt
  have hin : i = n := by omega
  subst hin
  clear hlt hi
  refine run_sub (.drop (.refl _)) ?_
  refine go hT 10000 rfl ?_
  conv => whnf
  refine run_lq (fun k : Nat => ([(0, .int .i64 (i : Int)), (1, .slice t ((es.map castE).map prs)), (5, .slice tok (outR bl i)), (7, .int .i64 (k : Int))], matS bl i ((es.take k).foldl edgeM idM))) (fun k => k ≤ es.length) (fun k => es.length - k) 0 (Nat.zero_le _) ⟨⟨⟨_, rfl, .refl _⟩, ⟨_, rfl, .refl _⟩, ⟨_, rfl, .refl _⟩, ⟨_, rfl, .refl _⟩, trivial⟩, .refl _⟩ ?_
  intro k hk
  refine go hT 10000 rfl ?_
  conv => whnf
  refine ops_g rfl (g_len hT rfl rfl rfl rfl rfl rfl (List.length_map _)) ?_
  rw [List.length_map]
  refine go hT 10000 rfl ?_
  conv => whnf
  refine run_split rfl (fun hltk => ?_) (fun hltk => ?_)
  · simp only [decide_eq_true_eq, Int.ofNat_lt] at hltk
    have htk := fold_take edgeM idM es k hltk
    generalize (es.take k).foldl edgeM idM = R at htk
    obtain ⟨h1, h2⟩ := he _ (List.getElem_mem hltk)
    have hb1 : es[k].1 < bl.length := by omega
    refine go hT 10000 rfl ?_
    conv => whnf
    intro id
    refine run_drw hT rfl rfl ?_ id
    repeat' (first
      | (refine god hT 1 rfl ?_; conv => whnf)
      | refine vd_fin rfl ?_
      | refine q_g rfl (fun S' => (g_len hT rfl rfl rfl rfl rfl rfl (List.length_map _)).qs) ?_
      | refine q_guard rfl rfl rfl rfl (fun h => ?_) (fun h => ?_)
      | refine q_g rfl (fun S' => (g_indexM (xs := es.map castE) hT rfl rfl rfl rfl rfl (by simpa using hltk) rfl).qs) ?_; rw [List.getElem_map]
      | refine q_g rfl (fun S' => (g_indexPin hT rfl rfl rfl rfl rfl (by decide) (by decide)).qs) ?_
      | refine q_g rfl (fun S' => (g_indexM (i := es[k].1) (xs := bl) (g := fun b => [V.ref b 0 i i]) hT rfl rfl rfl rfl rfl hb1 rfl).qs) ?_
      | refine q_g rfl (fun S' => (g_indexRef (i := ((es[k].2 : Nat) : Int)) hT rfl rfl rfl rfl rfl (Int.natCast_nonneg _) (Int.ofNat_lt.2 h2)).qs) ?_)
    refine vd_eff1 rfl (eff rfl rfl (s_store (cs' := (rowR i R es[k].1).set es[k].2 (.bool true)) hT rfl rfl rfl (At.idx (matS_at hb1)) (by
      show storeV tab 4 (.bool true) (0 + ((es[k].2 : Nat) : Int).toNat * 1) _ = _
      rw [Int.toNat_natCast, Nat.mul_one, Nat.zero_add]; exact store_at rfl rfl rfl (by simpa [rowR] using h2)) (And.intro trivial ?_)))
    refine god hT 1 rfl ?_
    conv => whnf
    refine vd_fin rfl ?_
    refine next_sub (sub_at (set_le _ _) _) ?_
    rw [rowR_set, matS_set hb1]
    refine go hT 10000 rfl ?_
    conv => whnf
    refine ops_g rfl (g_add rfl rfl rfl (by omega)) ?_
    refine go hT 10000 rfl ?_
    conv => whnf
    exact ⟨k + 1, hltk, by omega, ⟨⟨_, rfl, .refl _⟩, ⟨_, rfl, .refl _⟩, ⟨_, rfl, .refl _⟩, ⟨_, rfl, .refl _⟩, trivial⟩, by rw [htk]; exact .refl _⟩
  · simp only [decide_eq_false_iff_not, Int.ofNat_lt] at hltk
    have : k = es.length := by omega
    subst this
    rw [List.take_length]
    clear hk hltk
    generalize es.foldl edgeM idM = R0
    refine go hT 10000 rfl ?_
    conv => whnf
    refine run_lq (fun k : Nat => ([(0, .int .i64 (i : Int)), (5, .slice tok (outR bl i)), (8, .int .i64 (k : Int))], matS bl i (upK i R0 k))) (fun k => k ≤ i) (fun k => i - k) 0 (Nat.zero_le _) ⟨⟨⟨_, rfl, .refl _⟩, ⟨_, rfl, .refl _⟩, ⟨_, rfl, .refl _⟩, trivial⟩, .refl _⟩ ?_
    intro k hk
    refine go hT 10000 rfl ?_
    conv => whnf
    refine run_split rfl (fun hltk => ?_) (fun hltk => ?_)
    · simp only [decide_eq_true_eq, Int.ofNat_lt] at hltk
      have hnext : upK i R0 (k + 1) = upI i k (upK i R0 k) i := rfl
      generalize upK i R0 k = R1 at hnext
      refine go hT 10000 rfl ?_
      conv => whnf
      refine run_lq (fun a : Nat => ([(0, .int .i64 (i : Int)), (5, .slice tok (outR bl i)), (8, .int .i64 (k : Int)), (9, .int .i64 (a : Int))], matS bl i (upI i k R1 a))) (fun a => a ≤ i) (fun a => i - a) 0 (Nat.zero_le _) ⟨⟨⟨_, rfl, .refl _⟩, ⟨_, rfl, .refl _⟩, ⟨_, rfl, .refl _⟩, ⟨_, rfl, .refl _⟩, trivial⟩, .refl _⟩ ?_
      intro a ha
      refine go hT 10000 rfl ?_
      conv => whnf
      refine run_split rfl (fun hlta => ?_) (fun hlta => ?_)
      · simp only [decide_eq_true_eq, Int.ofNat_lt] at hlta
        have hnext2 : upI i k R1 (a + 1) = upJ k a (upI i k R1 a) i := rfl
        generalize upI i k R1 a = R2 at hnext2
        refine go hT 10000 rfl ?_
        conv => whnf
        refine run_lq (fun c : Nat => ([(0, .int .i64 (i : Int)), (5, .slice tok (outR bl i)), (8, .int .i64 (k : Int)), (9, .int .i64 (a : Int)), (10, .int .i64 (c : Int))], matS bl i (upJ k a R2 c))) (fun c => c ≤ i) (fun c => i - c) 0 (Nat.zero_le _) ⟨⟨⟨_, rfl, .refl _⟩, ⟨_, rfl, .refl _⟩, ⟨_, rfl, .refl _⟩, ⟨_, rfl, .refl _⟩, ⟨_, rfl, .refl _⟩, trivial⟩, .refl _⟩ ?_
        intro c hc
        refine go hT 10000 rfl ?_
        conv => whnf
        refine run_split rfl (fun hltc => ?_) (fun hltc => ?_)
        · simp only [decide_eq_true_eq, Int.ofNat_lt] at hltc
          have hnext3 : upJ k a R2 (c + 1) = colM k a (upJ k a R2 c) c := rfl
          generalize upJ k a R2 c = R at hnext3
          have hba : a < bl.length := by omega
          have hbk : k < bl.length := by omega
          have hp1 : partV tab 4 (rowR i R a) (0 + ((k : Nat) : Int).toNat * 1) = some (.ob (R a k)) := by
            rw [Int.toNat_natCast, Nat.mul_one, Nat.zero_add]
            exact part_at rfl (by unfold rowR; rw [List.getElem?_map, List.getElem?_range hltk]; rfl)
          have hp2 : partV tab 4 (rowR i R k) (0 + ((c : Nat) : Int).toNat * 1) = some (.ob (R k c)) := by
            rw [Int.toNat_natCast, Nat.mul_one, Nat.zero_add]
            exact part_at rfl (by unfold rowR; rw [List.getElem?_map, List.getElem?_range hltc]; rfl)
          refine go hT 10000 rfl ?_
          conv => whnf
          refine ops_g rfl (g_indexM (i := a) (xs := bl) (g := fun b => [V.ref b 0 i i]) hT rfl rfl rfl rfl rfl hba rfl) ?_
          refine go hT 10000 rfl ?_
          conv => whnf
          refine ops_g rfl (g_indexRef (i := ((k : Nat) : Int)) hT rfl rfl rfl rfl rfl (Int.natCast_nonneg _) (Int.ofNat_lt.2 hltk)) ?_
          refine go hT 10000 rfl ?_
          conv => whnf
          refine ops_g rfl (g_load hT rfl rfl (At.idx (matS_at hba)) hp1) ?_
          refine go hT 10000 rfl ?_
          conv => whnf
          refine op_guard rfl rfl rfl rfl (fun hg => ?_) (fun hg => ?_)
          · refine go hT 10000 rfl ?_
            conv => whnf
            refine ops_g rfl (g_indexM (i := k) (xs := bl) (g := fun b => [V.ref b 0 i i]) hT rfl rfl rfl rfl rfl hbk rfl) ?_
            refine go hT 10000 rfl ?_
            conv => whnf
            refine ops_g rfl (g_indexRef (i := ((c : Nat) : Int)) hT rfl rfl rfl rfl rfl (Int.natCast_nonneg _) (Int.ofNat_lt.2 hltc)) ?_
            refine go hT 10000 rfl ?_
            conv => whnf
            refine ops_g rfl (g_load hT rfl rfl (At.idx (matS_at hbk)) hp2) ?_
            refine go hT 10000 rfl ?_
            conv => whnf
            refine run_split rfl (fun hg2 => ?_) (fun hg2 => ?_)
            · have hcol : colM k a R c = setM R a c := by unfold colM; rw [hg, hg2]; rfl
              refine go hT 10000 rfl ?_
              conv => whnf
              refine ops_g rfl (g_indexM (i := a) (xs := bl) (g := fun b => [V.ref b 0 i i]) hT rfl rfl rfl rfl rfl hba rfl) ?_
              refine go hT 10000 rfl ?_
              conv => whnf
              refine ops_g rfl (g_indexRef (i := ((c : Nat) : Int)) hT rfl rfl rfl rfl rfl (Int.natCast_nonneg _) (Int.ofNat_lt.2 hltc)) ?_
              refine go hT 10000 rfl ?_
              conv => whnf
              refine ops_s rfl (s_store (cs' := (rowR i R a).set c (.bool true)) hT rfl rfl rfl (At.idx (matS_at hba)) (by
                show storeV tab 4 (.bool true) (0 + ((c : Nat) : Int).toNat * 1) _ = _
                rw [Int.toNat_natCast, Nat.mul_one, Nat.zero_add]; exact store_at rfl rfl rfl (by simpa [rowR] using hltc)) ?_)
              refine ops_sub (sub_at (set_le _ _) _) ?_
              rw [rowR_set, matS_set hba]
              refine go hT 10000 rfl ?_
              conv => whnf
              refine ops_g rfl (g_add rfl rfl rfl (by omega)) ?_
              refine go hT 10000 rfl ?_
              conv => whnf
              exact ⟨c + 1, hltc, by omega, ⟨⟨_, rfl, .refl _⟩, ⟨_, rfl, .refl _⟩, ⟨_, rfl, .refl _⟩, ⟨_, rfl, .refl _⟩, ⟨_, rfl, .refl _⟩, trivial⟩, by rw [hnext3, hcol]; exact .refl _⟩
            · have hcol : colM k a R c = R := by unfold colM; rw [hg2, Bool.and_false]; rfl
              refine go hT 10000 rfl ?_
              conv => whnf
              refine ops_g rfl (g_add rfl rfl rfl (by omega)) ?_
              refine go hT 10000 rfl ?_
              conv => whnf
              exact ⟨c + 1, hltc, by omega, ⟨⟨_, rfl, .refl _⟩, ⟨_, rfl, .refl _⟩, ⟨_, rfl, .refl _⟩, ⟨_, rfl, .refl _⟩, ⟨_, rfl, .refl _⟩, trivial⟩, by rw [hnext3, hcol]; exact .refl _⟩
          · have hcol : colM k a R c = R := by unfold colM; rw [hg, Bool.false_and]; rfl
            refine go hT 10000 rfl ?_
            conv => whnf
            refine ops_g rfl (g_add rfl rfl rfl (by omega)) ?_
            refine go hT 10000 rfl ?_
            conv => whnf
            exact ⟨c + 1, hltc, by omega, ⟨⟨_, rfl, .refl _⟩, ⟨_, rfl, .refl _⟩, ⟨_, rfl, .refl _⟩, ⟨_, rfl, .refl _⟩, ⟨_, rfl, .refl _⟩, trivial⟩, by rw [hnext3, hcol]; exact .refl _⟩
        · simp only [decide_eq_false_iff_not, Int.ofNat_lt] at hltc
          have hci : c = i := by omega
          subst hci
          refine go hT 10000 rfl ?_
          conv => whnf
          refine ops_g rfl (g_add rfl rfl rfl (by omega)) ?_
          refine go hT 10000 rfl ?_
          conv => whnf
          exact ⟨a + 1, hlta, by omega, ⟨⟨_, rfl, .refl _⟩, ⟨_, rfl, .refl _⟩, ⟨_, rfl, .refl _⟩, ⟨_, rfl, .refl _⟩, trivial⟩, by rw [hnext2]; exact .refl _⟩
      · simp only [decide_eq_false_iff_not, Int.ofNat_lt] at hlta
        have hai : a = i := by omega
        subst hai
        refine go hT 10000 rfl ?_
        conv => whnf
        refine ops_g rfl (g_add rfl rfl rfl (by omega)) ?_
        refine go hT 10000 rfl ?_
        conv => whnf
        exact ⟨k + 1, hltk, by omega, ⟨⟨_, rfl, .refl _⟩, ⟨_, rfl, .refl _⟩, ⟨_, rfl, .refl _⟩, trivial⟩, by rw [hnext]; exact .refl _⟩
    · simp only [decide_eq_false_iff_not, Int.ofNat_lt] at hltk
      have hki : k = i := by omega
      subst hki
      refine go hT 10000 rfl ?_
      conv => whnf
      exact ret_of (.tmp rfl .nil) ⟨tok, bl, hbl, rfl, rfl⟩
theorem closedP {t : Tok} (n : Nat) (hn : n ≤ 8) (es : List (Nat × Nat)) (he : ∀ e ∈ es, e.1 < n ∧ e.2 < n) (hl : es.length < 2000000) :
    Pure Tryz.prog 49 [.int .i64 (n : Int), .slice t ((es.map castE).map prs)] (.slice .no (tabR n (closedR n es))) := by
  refine (closed0 hT n hn es he hl).freezeM ?_
  rintro v S' ⟨tok, bl, hbl, rfl, rfl⟩
  refine ⟨tok, n, 1, 4, [], (List.range n).map fun i => (bl.getD i 0, rowRR n (upK n (es.foldl edgeM idM) n) i), ?_, ?_, fun x hx => ?_, ?_⟩
  · congr 1
    rw [List.map_map]
    refine List.ext_getElem (by simp [outR, hbl]) fun i h1 h2 => ?_
    have : i < bl.length := by simpa [outR] using h1
    simp [outR, this]
  · rw [List.append_nil, List.map_map]
    unfold matS
    rw [hbl]
    refine List.map_congr_left fun i _ => ?_
    simp only [Function.comp, rowRR_flat]
  · obtain ⟨i, _, rfl⟩ := List.mem_map.1 hx
    refine ⟨by simp [rowRR], fun r hr => ?_⟩
    obtain ⟨j, _, rfl⟩ := List.mem_map.1 hr
    rfl
  · congr 1
    rw [List.map_map]
    unfold tabR
    refine List.map_congr_left fun i hi => ?_
    simp only [Function.comp]
    congr 2
    unfold rowRR
    refine List.map_congr_left fun j hj => ?_
    rw [closed_spec n es i j (List.mem_range.1 hi) (List.mem_range.1 hj)]
end
end Go.Vw
namespace Go.Vw
open Go.RowKit Go.Am Go.Proofs Go.Ord
attribute [local irreducible] VOps VRun VNext VD VDn VDq Ret
theorem ring_closed {L : Nat} {es : List (Nat × Nat)} (he : ∀ e ∈ es, e.1 < L ∧ e.2 < L) : ringB L es = es.any fun e => closedR L es e.2 e.1 := by
  have key : ∀ ds : List (Nat × Nat), (∀ e ∈ ds, e.1 < L ∧ e.2 < L) → (ds.any fun e => (getN (leadsB L es) e.2).testBit e.1) = ds.any fun e => closedR L es e.2 e.1 := by
    intro ds
    induction ds with
    | nil => intro _; rfl
    | cons e ds ih =>
      intro h
      rw [List.any_cons, List.any_cons, ih fun x hx => h x (List.mem_cons_of_mem _ hx)]
      congr 1
      have h1 := leadsB_iff he (c := e.1) (h e (List.mem_cons_self ..)).2
      have h2 := closedR_iff he (a := e.2) (c := e.1)
      cases h3 : (getN (leadsB L es) e.2).testBit e.1 <;> cases h4 : closedR L es e.2 e.1 <;> try rfl
      · rw [h1.2 (h2.1 h4)] at h3; cases h3
      · rw [h2.2 (h1.1 h3)] at h4; cases h4
  exact key es he
theorem any_take {α : Type} {p : α → Bool} {l : List α} {i : Nat} (h : i < l.length) (h1 : (l.take i).any p = false) (h2 : p l[i] = false) : (l.take (i + 1)).any p = false := by
  rw [List.take_succ_eq_append_getElem h, List.any_append, h1]
  simp [h2]
theorem any_hit {α : Type} {p : α → Bool} {l : List α} {i : Nat} (h : i < l.length) (h2 : p l[i] = true) : l.any p = true := List.any_eq_true.2 ⟨_, List.getElem_mem h, h2⟩
theorem tabR_get {n i : Nat} {R : Mat} (h : i < n) : (tabR n R)[i]? = some [V.slice .no (rowRR n R i)] := by
  unfold tabR; rw [List.getElem?_map, List.getElem?_range h]; rfl
theorem rowRR_get {n i j : Nat} {R : Mat} (h : j < n) : (rowRR n R i)[j]? = some [V.ob (R i j)] := by
  unfold rowRR; rw [List.getElem?_map, List.getElem?_range h]; rfl
section
variable [Drw] (hT : TabOk tab Tryz.prog)
include hT
set_option maxRecDepth 100000 in
set_option maxHeartbeats 2000000 in
theorem ranksRef {t : Tok} (m : Int) (es : List (Int × Int)) (hl : es.length < 2000000) : PureR Tryz.prog 21 [.int .i64 m, .slice t (es.map prs)] (RanksR m es) := by
  refine VC.code hT 127 rfl rfl rfl rfl fun F w S0 => ?_
  have bad : (decide (m < 0) || decide (8 < m) || es.any fun e => wrongE m e.1 || wrongE m e.2) = true → RanksR m es (.tup [.slice .no [], .ob false]) := fun h => by
    unfold RanksR ranksD; rw [if_pos h]; rfl
  refine go hT 10000 rfl ?_
  conv => whnf
  refine op_guard rfl rfl rfl rfl (fun h1 => ?_) (fun h1 => ?_)
  · refine go hT 10000 rfl ?_
    conv => whnf
    exact ret_of (.tmpL rfl (V.Le.slice _ _) (.tmpL rfl (Le_ob rfl) .nil)) (bad (by rw [h1]; rfl))
  refine go hT 10000 rfl ?_
  conv => whnf
  refine run_split rfl (fun h2 => ?_) (fun h2 => ?_)
  · refine go hT 10000 rfl ?_
    conv => whnf
    exact ret_of (.tmpL rfl (V.Le.slice _ _) (.tmpL rfl (Le_ob rfl) .nil)) (bad (by rw [h1]; exact (by rw [show decide (8 < m) = true from h2]; rfl)))
  have h2 : decide (8 < m) = false := h2
  refine go hT 10000 rfl ?_
  conv => whnf
  refine run_lq (fun i : Nat => ([(0, .int .i64 m), (1, .slice t (es.map prs)), (6, .int .i64 (i : Int))], [])) (fun i => i ≤ es.length ∧ (es.take i).any (fun e => wrongE m e.1 || wrongE m e.2) = false) (fun i => es.length - i) 0 ⟨Nat.zero_le _, rfl⟩ ⟨⟨⟨_, rfl, .refl _⟩, ⟨_, rfl, .refl _⟩, ⟨_, rfl, .refl _⟩, trivial⟩, .nil⟩ ?_
  rintro i ⟨hi, hany⟩
  refine go hT 10000 rfl ?_
  conv => whnf
  refine ops_g rfl (g_len hT rfl rfl rfl rfl rfl rfl (List.length_map _)) ?_
  refine go hT 10000 rfl ?_
  conv => whnf
  refine run_split rfl (fun hlt => ?_) (fun hlt => ?_)
  · simp only [decide_eq_true_eq, Int.ofNat_lt] at hlt
    have hit : (wrongE m es[i].1 || wrongE m es[i].2) = true → RanksR m es (.tup [.slice .no [], .ob false]) := fun h => bad (by rw [any_hit hlt (p := fun e => wrongE m e.1 || wrongE m e.2) h, Bool.or_true])
    clear bad
    repeat' (first
      | (refine go hT 10000 rfl ?_; conv => whnf)
      | refine ops_s rfl (s_boxF rfl rfl rfl ?_)
      | refine ops_s rfl (s_listF hT rfl rfl rfl rfl rfl rfl rfl rfl ?_)
      | refine ops_g rfl (g_len hT rfl rfl rfl rfl rfl rfl (List.length_map _)) ?_
      | refine op_guard rfl rfl rfl rfl (fun h => ?_) (fun h => ?_)
      | refine run_split rfl (fun h => ?_) (fun h => ?_)
      | refine ops_g rfl (g_indexM (xs := es) hT rfl rfl rfl rfl rfl hlt rfl) ?_
      | refine ops_g rfl (g_indexPin hT rfl rfl rfl rfl rfl (by decide) (by decide)) ?_)
    · exact ret_of (.tmpL rfl (V.Le.slice _ _) (.tmpL rfl (Le_ob rfl) .nil)) (hit (by unfold wrongE; rw [show decide (es[i].1 < 0) = true from ‹_›]; rfl))
    · exact ret_of (.tmpL rfl (V.Le.slice _ _) (.tmpL rfl (Le_ob rfl) .nil)) (hit (by unfold wrongE; rw [show decide (m ≤ es[i].1) = true from ‹_›]; simp))
    · exact ret_of (.tmpL rfl (V.Le.slice _ _) (.tmpL rfl (Le_ob rfl) .nil)) (hit (by unfold wrongE; rw [show decide (es[i].2 < 0) = true from ‹_›]; simp))
    · exact ret_of (.tmpL rfl (V.Le.slice _ _) (.tmpL rfl (Le_ob rfl) .nil)) (hit (by unfold wrongE; rw [show decide (m ≤ es[i].2) = true from ‹_›]; simp))
    · refine ops_g rfl (g_add rfl rfl rfl (by omega)) ?_
      refine go hT 10000 rfl ?_
      conv => whnf
      exact ⟨i + 1, ⟨hlt, any_take hlt hany (by
        show (wrongE m es[i].1 || wrongE m es[i].2) = false
        unfold wrongE
        rw [show decide (es[i].1 < 0) = false from ‹_›, show decide (m ≤ es[i].1) = false from ‹_›, show decide (es[i].2 < 0) = false from ‹_›, show decide (m ≤ es[i].2) = false from ‹_›]
        rfl)⟩, by omega, ⟨⟨_, rfl, .refl _⟩, ⟨_, rfl, .refl _⟩, ⟨_, rfl, .refl _⟩, trivial⟩, .nil⟩
  simp only [decide_eq_false_iff_not, Int.ofNat_lt] at hlt
  have : i = es.length := by omega
  subst this
  rw [List.take_length] at hany
  clear hlt hi
  have hgood : (decide (m < 0) || decide (8 < m) || es.any fun e => wrongE m e.1 || wrongE m e.2) ≠ true := by rw [h1, h2, hany]; decide
  clear bad
  simp only [decide_eq_false_iff_not] at h1 h2
  obtain ⟨hc, hlt⟩ := cast_toNat hany
  obtain ⟨L, rfl⟩ : ∃ L : Nat, m = (L : Int) := ⟨m.toNat, by omega⟩
  have hL : L ≤ 8 := by omega
  unfold RanksR ranksD
  rw [if_neg hgood]
  rw [Int.toNat_natCast] at hlt ⊢
  clear hgood hany
  have hlen : (es.map toNatE).length < 2000000 := by rw [List.length_map]; exact hl
  generalize es.map toNatE = en at hc hlt hlen ⊢
  subst hc
  rw [ring_closed hlt]
  refine go hT 10000 rfl ?_
  conv => whnf
  refine ops_s rfl (s_pure hT rfl rfl rfl rfl rfl rfl (closedP hT L hL en hlt hlen) ?_)
  generalize closedR L en = R
  refine go hT 10000 rfl ?_
  conv => whnf
  refine run_lq (fun i : Nat => ([(0, .int .i64 (L : Int)), (1, .slice t ((en.map castE).map prs)), (7, .slice .no (tabR L R)), (8, .int .i64 (i : Int))], [])) (fun i => i ≤ en.length ∧ (en.take i).any (fun e => R e.2 e.1) = false) (fun i => en.length - i) 0 ⟨Nat.zero_le _, rfl⟩ ⟨⟨⟨_, rfl, .refl _⟩, ⟨_, rfl, .refl _⟩, ⟨_, rfl, .refl _⟩, ⟨_, rfl, .refl _⟩, trivial⟩, .nil⟩ ?_
  rintro i ⟨hi, hany⟩
  refine go hT 10000 rfl ?_
  conv => whnf
  refine ops_g rfl (g_len hT rfl rfl rfl rfl rfl rfl (List.length_map _)) ?_
  rw [List.length_map]
  refine go hT 10000 rfl ?_
  conv => whnf
  refine run_split rfl (fun hlti => ?_) (fun hlti => ?_)
  · simp only [decide_eq_true_eq, Int.ofNat_lt] at hlti
    obtain ⟨e1, e2⟩ := hlt _ (List.getElem_mem hlti)
    refine go hT 10000 rfl ?_
    conv => whnf
    intro id
    refine run_drw hT rfl rfl ?_ id
    repeat' (first
      | (refine god hT 1 rfl ?_; conv => whnf)
      | refine vd_fin rfl ?_
      | refine q_g rfl (fun S' => (g_len hT rfl rfl rfl rfl rfl rfl (List.length_map _)).qs) ?_
      | refine q_guard rfl rfl rfl rfl (fun h => ?_) (fun h => ?_)
      | refine q_g rfl (fun S' => (g_indexM (xs := en.map castE) hT rfl rfl rfl rfl rfl (by simpa using hlti) rfl).qs) ?_; rw [List.getElem_map]
      | refine q_g rfl (fun S' => (g_indexPin hT rfl rfl rfl rfl rfl (by decide) (by decide)).qs) ?_
      | refine q_g rfl (fun S' => (g_indexN (i := en[i].2) hT rfl rfl rfl rfl rfl (tabR_get e2) rfl).qs) ?_
      | refine q_g rfl (fun S' => (g_indexN (i := en[i].1) hT rfl rfl rfl rfl rfl (rowRR_get e1) rfl).qs) ?_)
    refine go hT 10000 rfl ?_
    conv => whnf
    refine run_split rfl (fun h => ?_) (fun h => ?_)
    · rw [if_pos (any_hit hlti (p := fun e => R e.2 e.1) h)]
      refine go hT 10000 rfl ?_
      conv => whnf
      exact ret_of (.tmpL rfl (V.Le.slice _ _) (.tmpL rfl (Le_ob rfl) .nil)) rfl
    · refine go hT 10000 rfl ?_
      conv => whnf
      refine ops_g rfl (g_add rfl rfl rfl (by omega)) ?_
      refine go hT 10000 rfl ?_
      conv => whnf
      exact ⟨i + 1, ⟨hlti, any_take hlti hany h⟩, by omega, ⟨⟨_, rfl, .refl _⟩, ⟨_, rfl, .refl _⟩, ⟨_, rfl, .refl _⟩, ⟨_, rfl, .refl _⟩, trivial⟩, .nil⟩
  simp only [decide_eq_false_iff_not, Int.ofNat_lt] at hlti
  have : i = en.length := by omega
  subst this
  rw [List.take_length] at hany
  rw [if_neg (by rw [hany]; decide)]
  clear hany hlti hi
  refine go hT 10000 rfl ?_
  conv => whnf
  refine ops_s rfl (s_makeSlice hT rfl rfl rfl rfl rfl rfl rfl (Nat.le_refl _) (by omega) fun b => ?_)
  refine go hT 10000 rfl ?_
  conv => whnf
  have h0 : repV L [V.int .i64 0] = (List.replicate L 0).map natV := by rw [repV_one, List.map_replicate]; rfl
  refine run_lq (fun i : Nat => ([(0, .int .i64 (L : Int)), (1, .slice t ((en.map castE).map prs)), (9, .ref b 0 L L), (10, .int .i64 (i : Int))], [.cells b ((iter (roundK en) i (List.replicate L 0)).map natV) 3])) (fun i => i ≤ L ∧ (iter (roundK en) i (List.replicate L 0)).length = L ∧ Most (i * en.length) (iter (roundK en) i (List.replicate L 0))) (fun i => L - i) 0 ⟨Nat.zero_le _, by simp [iter], fun x hx => by simp [iter] at hx; omega⟩ ⟨⟨⟨_, rfl, .refl _⟩, ⟨_, rfl, .refl _⟩, ⟨_, rfl, .refl _⟩, ⟨_, rfl, .refl _⟩, trivial⟩, by show Sub _ [.cells b ((List.replicate L 0).map natV) 3]; rw [← h0]; exact .refl _⟩ ?_
  rintro i ⟨hi, hlen2, hmost⟩
  refine go hT 10000 rfl ?_
  conv => whnf
  refine run_split rfl (fun hlt2 => ?_) (fun hlt2 => ?_)
  · simp only [decide_eq_true_eq, Int.ofNat_lt] at hlt2
    refine go hT 10000 rfl ?_
    conv => whnf
    have hnext : iter (roundK en) (i + 1) (List.replicate L 0) = en.foldl edgeK (iter (roundK en) i (List.replicate L 0)) := iter_succ _ _ _
    generalize iter (roundK en) i (List.replicate L 0) = R0 at hlen2 hmost hnext
    have hmul : i * en.length ≤ 8 * 2000000 := Nat.mul_le_mul (by omega) (by omega)
    refine run_lq (fun k : Nat => ([(0, .int .i64 (L : Int)), (1, .slice t ((en.map castE).map prs)), (9, .ref b 0 L L), (10, .int .i64 (i : Int)), (11, .int .i64 (k : Int))], [.cells b (((en.take k).foldl edgeK R0).map natV) 3])) (fun k => k ≤ en.length ∧ Most (i * en.length + k) ((en.take k).foldl edgeK R0)) (fun k => en.length - k) 0 ⟨Nat.zero_le _, hmost⟩ ⟨⟨⟨_, rfl, .refl _⟩, ⟨_, rfl, .refl _⟩, ⟨_, rfl, .refl _⟩, ⟨_, rfl, .refl _⟩, ⟨_, rfl, .refl _⟩, trivial⟩, .refl _⟩ ?_
    rintro k ⟨hk, hmk⟩
    refine go hT 10000 rfl ?_
    conv => whnf
    refine ops_g rfl (g_len hT rfl rfl rfl rfl rfl rfl (List.length_map _)) ?_
    rw [List.length_map]
    refine go hT 10000 rfl ?_
    conv => whnf
    refine run_split rfl (fun hltk => ?_) (fun hltk => ?_)
    · simp only [decide_eq_true_eq, Int.ofNat_lt] at hltk
      have hR := foldK_len (en.take k) R0
      have htk := fold_take edgeK R0 en k hltk
      generalize (en.take k).foldl edgeK R0 = R2 at hR htk hmk
      obtain ⟨e1, e2⟩ := hlt _ (List.getElem_mem hltk)
      have hp1 : partV tab 3 (R2.map natV) (0 + ((en[k].1 : Nat) : Int).toNat * 1) = some (natV (getN R2 en[k].1)) := by
        rw [Int.toNat_natCast, Nat.mul_one, Nat.zero_add, getN_of (by omega)]
        exact part_at rfl (by rw [List.getElem?_map, List.getElem?_eq_getElem (by omega)]; rfl)
      have hp2 : partV tab 3 (R2.map natV) (0 + ((en[k].2 : Nat) : Int).toNat * 1) = some (natV (getN R2 en[k].2)) := by
        rw [Int.toNat_natCast, Nat.mul_one, Nat.zero_add, getN_of (by omega)]
        exact part_at rfl (by rw [List.getElem?_map, List.getElem?_eq_getElem (by omega)]; rfl)
      have hm1 := getN_most hmk en[k].1
      have hm2 := edgeK_most hmk en[k]
      refine go hT 10000 rfl ?_
      conv => whnf
      intro id
      refine run_drw hT rfl rfl ?_ id
      repeat' (first
        | (refine god hT 1 rfl ?_; conv => whnf)
        | refine vd_fin rfl ?_
        | refine q_g rfl (fun S' => (g_len hT rfl rfl rfl rfl rfl rfl (List.length_map _)).qs) ?_
        | refine q_guard rfl rfl rfl rfl (fun h => ?_) (fun h => ?_)
        | refine q_g rfl (fun S' => (g_indexM (xs := en.map castE) hT rfl rfl rfl rfl rfl (by simpa using hltk) rfl).qs) ?_; rw [List.getElem_map]
        | refine q_g rfl (fun S' => (g_indexPin hT rfl rfl rfl rfl rfl (by decide) (by decide)).qs) ?_
        | refine q_g rfl (fun S' => (g_indexRef (i := ((en[k].1 : Nat) : Int)) hT rfl rfl rfl rfl rfl (Int.natCast_nonneg _) (Int.ofNat_lt.2 e1)).qs) ?_
        | refine q_g rfl (fun S' => (g_indexRef (i := ((en[k].2 : Nat) : Int)) hT rfl rfl rfl rfl rfl (Int.natCast_nonneg _) (Int.ofNat_lt.2 e2)).qs) ?_
        | refine q_load hT rfl rfl rfl .here hp1 ?_
        | refine q_load hT rfl rfl rfl .here hp2 ?_)
      refine go hT 10000 rfl ?_
      conv => whnf
      refine run_split rfl (fun h => ?_) (fun h => ?_)
      · have h : decide (((getN R2 en[k].2 : Nat) : Int) ≤ ((getN R2 en[k].1 : Nat) : Int)) = true := h
        simp only [decide_eq_true_eq, Int.ofNat_le] at h
        have hnew : edgeK R2 en[k] = R2.set en[k].2 (getN R2 en[k].1 + 1) := by
          unfold edgeK; congr 1; omega
        refine go hT 10000 rfl ?_
        conv => whnf
        intro id
        refine run_drw hT rfl rfl ?_ id
        repeat' (first
          | (refine god hT 1 rfl ?_; conv => whnf)
          | refine vd_fin rfl ?_
          | refine q_g rfl (fun S' => (g_len hT rfl rfl rfl rfl rfl rfl (List.length_map _)).qs) ?_
          | refine q_guard rfl rfl rfl rfl (fun h => ?_) (fun h => ?_)
          | refine q_g rfl (fun S' => (g_indexM (xs := en.map castE) hT rfl rfl rfl rfl rfl (by simpa using hltk) rfl).qs) ?_; rw [List.getElem_map]
          | refine q_g rfl (fun S' => (g_indexPin hT rfl rfl rfl rfl rfl (by decide) (by decide)).qs) ?_
          | refine q_g rfl (fun S' => (g_indexRef (i := ((en[k].1 : Nat) : Int)) hT rfl rfl rfl rfl rfl (Int.natCast_nonneg _) (Int.ofNat_lt.2 e1)).qs) ?_
          | refine q_g rfl (fun S' => (g_indexRef (i := ((en[k].2 : Nat) : Int)) hT rfl rfl rfl rfl rfl (Int.natCast_nonneg _) (Int.ofNat_lt.2 e2)).qs) ?_
          | refine q_load hT rfl rfl rfl .here hp1 ?_
          | refine q_g rfl (fun S' => (g_add rfl rfl rfl (by omega)).qs) ?_)
        refine vd_eff1 rfl (eff rfl rfl (s_store (cs' := (edgeK R2 en[k]).map natV) hT rfl rfl rfl .here ?_ ?_))
        · show storeV tab 3 (.int .i64 (((getN R2 en[k].1 : Nat) : Int) + 1)) (0 + ((en[k].2 : Nat) : Int).toNat * 1) _ = _
          rw [Int.toNat_natCast, Nat.mul_one, Nat.zero_add, hnew, List.map_set]
          exact store_at rfl rfl rfl (by rw [List.length_map]; omega)
        · refine And.intro trivial ?_
          refine god hT 1 rfl ?_
          conv => whnf
          refine vd_fin rfl ?_
          refine go hT 10000 rfl ?_
          conv => whnf
          refine ops_g rfl (g_add rfl rfl rfl (by omega)) ?_
          refine go hT 10000 rfl ?_
          conv => whnf
          exact ⟨k + 1, ⟨hltk, by rw [htk]; exact hm2⟩, by omega, ⟨⟨_, rfl, .refl _⟩, ⟨_, rfl, .refl _⟩, ⟨_, rfl, .refl _⟩, ⟨_, rfl, .refl _⟩, ⟨_, rfl, .refl _⟩, trivial⟩, by rw [htk]; exact .refl _⟩
      · have h : decide (((getN R2 en[k].2 : Nat) : Int) ≤ ((getN R2 en[k].1 : Nat) : Int)) = false := h
        simp only [decide_eq_false_iff_not, Int.ofNat_le] at h
        have hnew : edgeK R2 en[k] = R2 := by
          unfold edgeK
          have : max (getN R2 en[k].2) (getN R2 en[k].1 + 1) = R2[en[k].2]'(by omega) := by rw [← getN_of]; omega
          rw [this, List.set_getElem_self]
        rw [hnew] at htk hm2
        refine go hT 10000 rfl ?_
        conv => whnf
        refine ops_g rfl (g_add rfl rfl rfl (by omega)) ?_
        refine go hT 10000 rfl ?_
        conv => whnf
        exact ⟨k + 1, ⟨hltk, by rw [htk]; exact hm2⟩, by omega, ⟨⟨_, rfl, .refl _⟩, ⟨_, rfl, .refl _⟩, ⟨_, rfl, .refl _⟩, ⟨_, rfl, .refl _⟩, ⟨_, rfl, .refl _⟩, trivial⟩, by rw [htk]; exact .refl _⟩
    · simp only [decide_eq_false_iff_not, Int.ofNat_lt] at hltk
      have : k = en.length := by omega
      subst this
      rw [List.take_length] at hmk ⊢
      refine go hT 10000 rfl ?_
      conv => whnf
      refine ops_g rfl (g_add rfl rfl rfl (by omega)) ?_
      refine go hT 10000 rfl ?_
      conv => whnf
      refine ⟨i + 1, ⟨hlt2, ?_, ?_⟩, by omega, ⟨⟨_, rfl, .refl _⟩, ⟨_, rfl, .refl _⟩, ⟨_, rfl, .refl _⟩, ⟨_, rfl, .refl _⟩, trivial⟩, by rw [hnext]; exact .refl _⟩
      · rw [hnext, foldK_len]; exact hlen2
      · rw [hnext, Nat.succ_mul]; exact hmk
  · simp only [decide_eq_false_iff_not, Int.ofNat_lt] at hlt2
    have : i = L := by omega
    subst this
    refine run_freezeS (t := 9) (n := i) (c := i) (sz := 1) (rows := (ranksK i en).map natR) rfl .here (natR_flat _) (fun r hr => by obtain ⟨x, _, rfl⟩ := List.mem_map.1 hr; rfl) (by rw [List.length_map]; exact hlen2) (Nat.le_refl _) ?_
    refine go hT 10000 rfl ?_
    conv => whnf
    exact ret_of (.tmp rfl (.tmpL rfl (Le_ob rfl) .nil)) rfl
end
end Go.Vw
namespace Go.Vw
open Go.RowKit Go.Am Go.Proofs Go.Ord
attribute [local irreducible] VOps VRun VNext VD VDn VDq Ret
/-- What ranks are worth, if there are any. -/
structure RankOk (es : List (Int × Int)) (r : List Nat) : Prop where
  edge : ∀ e ∈ es, ∃ (a b : Nat) (h1 : a < r.length) (h2 : b < r.length), e = ((a : Int), (b : Int)) ∧ r[a] < r[b]
  low : ∀ (i : Nat) (h : i < r.length), r[i] < 8
  gap : ∀ (i : Nat) (h : i < r.length), r[i] ≠ 0 → ∃ (k : Nat) (h2 : k < r.length), r[k] + 1 = r[i]
theorem ranks_ok (m : Int) (es : List (Int × Int)) : ((ranksD m es).2 = true ∧ RankOk es (ranksD m es).1) ∨ ((ranksD m es).2 = false ∧ (ranksD m es).1 = []) := by
  unfold ranksD
  split
  · exact .inr ⟨rfl, rfl⟩
  · next h =>
    split
    · exact .inr ⟨rfl, rfl⟩
    · next h2 =>
      refine .inl ⟨rfl, ?_⟩
      dsimp only
      have h : (decide (m < 0) || decide (8 < m) || es.any fun e => wrongE m e.1 || wrongE m e.2) = false := by simpa using h
      rw [Bool.or_eq_false_iff] at h
      obtain ⟨hc, hlt⟩ := cast_toNat h.2
      generalize es.map toNatE = en at hc hlt h2 ⊢
      have hL8 : m.toNat ≤ 8 := by
        have := h.1
        simp only [Bool.or_eq_false_iff, decide_eq_false_iff_not] at this
        omega
      generalize m.toNat = L at hlt h2 hL8 ⊢
      subst hc
      have hr : ∀ e ∈ en, ¬ Go.Ord.Rch en e.2 e.1 := fun e he hrc => by
        have : ringB L en = true := any_ring he ((leadsB_iff hlt (hlt e he).2).2 hrc)
        exact h2 this
      have hlen : (ranksK L en).length = L := iterK_len en L L
      refine ⟨fun e he => ?_, fun i hi => ?_, fun i hi hne => ?_⟩
      · obtain ⟨x, hx, rfl⟩ := List.mem_map.1 he
        obtain ⟨h3, h4⟩ := hlt x hx
        have := ranksK_rise hlt hr x hx
        rw [getN_of (by omega), getN_of (by omega)] at this
        exact ⟨x.1, x.2, by omega, by omega, rfl, this⟩
      · have h5 := ends_lt hlt hr (iterK_ends hlt L i) (by have : i < (ranksK L en).length := hi; omega)
        have h6 : getN (ranksK L en) i < L := h5
        rw [getN_of hi] at h6
        omega
      · obtain ⟨n, hn⟩ : ∃ n, (ranksK L en)[i] = n + 1 := ⟨(ranksK L en)[i] - 1, by omega⟩
        obtain ⟨u, hu, e⟩ := ranksK_gap hlt hr (v := i) (n := n) (by rw [getN_of hi]; exact hn)
        rw [getN_of (by omega)] at e
        exact ⟨u, by omega, by omega⟩
where
  any_ring {L : Nat} {en : List (Nat × Nat)} {e : Nat × Nat} (he : e ∈ en) (h : (getN (leadsB L en) e.2).testBit e.1 = true) : ringB L en = true := by
    unfold ringB
    exact List.any_eq_true.2 ⟨e, he, h⟩
theorem natR_intV (B : List Nat) : B.map natR = (B.map fun n : Nat => (n : Int)).map intV := by rw [List.map_map]; rfl
theorem ranks_len (m : Int) (es : List (Int × Int)) : (ranksD m es).1.length < 2000000 := by
  unfold ranksD
  split
  · decide
  · next h =>
    split
    · decide
    · show (ranksK _ _).length < _
      rw [iterK_len' m.toNat]
      simp only [Bool.or_eq_true, decide_eq_true_eq, not_or] at h
      omega
where
  iterK_len' (L : Nat) : (ranksK L (es.map toNatE)).length = L := iterK_len _ L L
section
variable [Drw] (hT : TabOk tab Tryz.prog)
include hT
theorem sameEdges {t1 t2 : Tok} (xs ys : List (Int × Int)) (hl : xs.length < 2000000) : Pure Tryz.prog 15 [.slice t1 (xs.map prs), .slice t2 (ys.map prs)] (.ob (decide (xs = ys))) := by
  refine VC.code hT 26 rfl rfl rfl rfl fun F W S0 => ?_
  repeat' (first
    | (refine go hT 10000 rfl ?_; conv => whnf)
    | refine ops_s rfl (s_boxF rfl rfl rfl ?_)
    | refine ops_s rfl (s_listF hT rfl rfl rfl rfl rfl rfl rfl rfl ?_)
    | refine ops_g rfl (g_len hT rfl rfl rfl rfl rfl rfl (List.length_map _)) ?_
    | refine op_guard rfl rfl rfl rfl (fun h => ?_) (fun h => ?_))
  refine run_split rfl (fun h => ?_) (fun h => ?_)
  · refine go hT 10000 rfl ?_
    conv => whnf
    refine ret_bool rfl rfl rfl ?_
    rw [decide_eq_false fun e => by subst e; simp at h]
  · simp only [Bool.not_eq_false', decide_eq_true_eq, Int.ofNat_inj] at h
    refine go hT 10000 rfl ?_
    conv => whnf
    refine run_lq (fun i : Nat => ([(0, .slice t1 (xs.map prs)), (1, .slice t2 (ys.map prs)), (5, .int .i64 i)], [])) (fun i => i ≤ xs.length ∧ xs.take i = ys.take i) (fun i => xs.length - i) 0 ⟨Nat.zero_le _, rfl⟩ ⟨⟨⟨_, rfl, .refl _⟩, ⟨_, rfl, .refl _⟩, ⟨_, rfl, .refl _⟩, trivial⟩, .nil⟩ ?_
    rintro i ⟨hi, ht⟩
    repeat' (first
      | (refine go hT 10000 rfl ?_; conv => whnf)
      | refine ops_s rfl (s_boxF rfl rfl rfl ?_)
      | refine ops_s rfl (s_listF hT rfl rfl rfl rfl rfl rfl rfl rfl ?_)
      | refine ops_g rfl (g_len hT rfl rfl rfl rfl rfl rfl (List.length_map _)) ?_
      | refine op_guard rfl rfl rfl rfl (fun h => ?_) (fun h => ?_))
    refine run_split rfl (fun hlt => ?_) (fun hlt => ?_)
    · simp only [decide_eq_true_eq, Int.ofNat_lt] at hlt
      have hlt2 : i < ys.length := by omega
      refine go hT 10000 rfl ?_
      conv => whnf
      intro id
      refine run_drw hT rfl rfl ?_ id
      repeat' (first
        | (refine god hT 1 rfl ?_; conv => whnf)
        | refine vd_fin rfl ?_
        | refine q_g rfl (fun S' => (g_len hT rfl rfl rfl rfl rfl rfl (List.length_map _)).qs) ?_
        | refine q_guard rfl rfl rfl rfl (fun h => ?_) (fun h => ?_)
        | refine q_g rfl (fun S' => (g_indexM (xs := xs) hT rfl rfl rfl rfl rfl hlt rfl).qs) ?_
        | refine q_g rfl (fun S' => (g_indexM (xs := ys) hT rfl rfl rfl rfl rfl hlt2 rfl).qs) ?_)
      refine go hT 10000 rfl ?_
      conv => whnf
      refine run_split rfl (fun hne => ?_) (fun hne => ?_)
      · refine go hT 10000 rfl ?_
        conv => whnf
        refine ret_bool rfl rfl rfl ?_
        rw [decide_eq_false fun e => by subst e; simp at hne]
      · have he : xs[i] = ys[i] := by
          simp only [Bool.and_true, Bool.not_eq_false', Bool.and_eq_true, decide_eq_true_eq] at hne
          exact Prod.ext hne.1 hne.2
        refine go hT 10000 rfl ?_
        conv => whnf
        refine ops_g rfl (g_add rfl rfl rfl (by omega)) ?_
        refine go hT 10000 rfl ?_
        conv => whnf
        exact ⟨i + 1, ⟨hlt, take_same hlt hlt2 ht he⟩, by omega, ⟨⟨_, rfl, .refl _⟩, ⟨_, rfl, .refl _⟩, ⟨_, rfl, .refl _⟩, trivial⟩, .nil⟩
    · simp only [decide_eq_false_iff_not, Int.ofNat_lt] at hlt
      refine go hT 10000 rfl ?_
      conv => whnf
      refine ret_bool rfl rfl rfl ?_
      rw [decide_eq_true (take_all hlt h ht)]
set_option maxRecDepth 100000 in
set_option maxHeartbeats 2000000 in
theorem orderRanks (m : Int) (es : List (Int × Int)) (hl : es.length < 2000000) (S : Hp) (hal : VC Tryz.prog 10 [] S fun v S' => v = .ob true ∧ S' = S) : VC Tryz.prog 4 [.int .i64 m, .slice .no (es.map prs)] S fun v _ => v = .ob true := by
  refine VC.code hT 108 rfl rfl rfl rfl fun F w S0 => ?_
  refine go hT 10000 rfl ?_
  conv => whnf
  refine ops_s rfl (s_call hT rfl rfl rfl rfl rfl rfl (hal.mono ?_))
  rintro _ S' ⟨rfl, rfl⟩
  refine go hT 10000 rfl ?_
  conv => whnf
  refine run_f rfl rfl ?_
  refine go hT 10000 rfl ?_
  conv => whnf
  refine ops_g rfl (g_len hT rfl rfl rfl rfl rfl rfl (List.length_map _)) ?_
  refine go hT 10000 rfl ?_
  conv => whnf
  refine run_split rfl (fun h200 => ?_) (fun h200 => ?_)
  · refine go hT 10000 rfl ?_
    conv => whnf
    exact ret_bool rfl rfl rfl rfl
  simp only [decide_eq_false_iff_not] at h200
  refine go hT 10000 rfl ?_
  conv => whnf
  refine ops_s rfl (s_emptyList hT rfl rfl rfl ?_)
  refine go hT 10000 rfl ?_
  conv => whnf
  refine ops_sub (.zero .nil) ?_
  refine ops_s rfl (s_append hT rfl rfl rfl rfl rfl rfl rfl rfl rfl rfl rfl .here (fun r hr => by cases hr) (fun r hr => by obtain ⟨x, _, rfl⟩ := List.mem_map.1 hr; rfl) (fun r hr => by obtain ⟨x, _, rfl⟩ := List.mem_map.1 hr; rfl) (by simp; omega) fun tok ht => ?_)
  rw [List.nil_append]
  refine go hT 10000 rfl ?_
  conv => whnf
  refine ops_s rfl (s_pureR hT rfl rfl rfl rfl rfl rfl (ranksOf hT m es hl) ?_)
  rintro _ rfl
  refine go hT 10000 rfl ?_
  conv => whnf
  refine ops_s rfl (s_pureR hT rfl rfl rfl rfl rfl rfl (ranksRef hT m es hl) ?_)
  rintro _ rfl
  have hok := ranks_ok m es
  have hrl := ranks_len m es
  generalize ranksD m es = D at hok hrl
  obtain ⟨r, ok⟩ := D
  dsimp only at hok hrl ⊢
  refine go hT 10000 rfl ?_
  conv => whnf
  refine op_guard rfl rfl rfl rfl (fun h => ?_) (fun h => ?_)
  · simp at h
  refine go hT 10000 rfl ?_
  conv => whnf
  refine ops_s rfl (s_pure hT rfl rfl rfl rfl rfl rfl (show Pure Tryz.prog _ _ (.ob true) by
    have := sameInts hT (t1 := .no) (t2 := .no) (r.map fun n : Nat => (n : Int)) (r.map fun n : Nat => (n : Int)) (by rw [List.length_map]; exact hrl)
    rw [← natR_intV, decide_eq_true rfl] at this
    exact this) ?_)
  refine go hT 10000 rfl ?_
  conv => whnf
  refine op_guard rfl rfl rfl rfl (fun h => ?_) (fun h => ?_)
  · cases h
  refine go hT 10000 rfl ?_
  conv => whnf
  refine ops_s rfl (s_pure hT rfl rfl rfl rfl rfl rfl (sameEdges hT es es hl) ?_)
  rw [decide_eq_true rfl]
  refine go hT 10000 rfl ?_
  conv => whnf
  refine run_f rfl rfl ?_
  refine go hT 10000 rfl ?_
  conv => whnf
  refine run_cutK 1 (fun _ : Unit => ([(6, .slice .no (r.map natR))], [])) (fun _ => True) ?_ fun _ _ => ?_
  · show VT _ _ (.run _ _ _) _ _
    refine run_lq (fun i : Nat => ([(1, .slice .no (es.map prs)), (6, .slice .no (r.map natR)), (7, .ob ok), (10, .int .i64 (i : Int))], [])) (fun i => i ≤ es.length) (fun i => es.length - i) 0 (Nat.zero_le _) ⟨⟨⟨_, rfl, .refl _⟩, ⟨_, rfl, .refl _⟩, ⟨_, rfl, .refl _⟩, ⟨_, rfl, .refl _⟩, trivial⟩, .nil⟩ ?_
    intro i hi
    refine go hT 10000 rfl ?_
    conv => whnf
    refine ops_g rfl (g_len hT rfl rfl rfl rfl rfl rfl (List.length_map _)) ?_
    refine go hT 10000 rfl ?_
    conv => whnf
    refine op_guard rfl rfl rfl rfl (fun hlt => ?_) (fun hlt => ?_)
    · simp only [decide_eq_true_eq, Int.ofNat_lt] at hlt
      refine go hT 10000 rfl ?_
      conv => whnf
      refine run_split rfl (fun hk => ?_) (fun hk => ?_)
      · subst hk
        rcases hok with ⟨_, hok⟩ | ⟨h0, _⟩
        case inr => cases h0
        obtain ⟨a, b, h1, h2, he, hlt3⟩ := hok.edge _ (List.getElem_mem hlt)
        refine go hT 10000 rfl ?_
        conv => whnf
        intro id
        refine run_drw hT rfl rfl ?_ id
        repeat' (first
          | (refine god hT 1 rfl ?_; conv => whnf)
          | refine vd_fin rfl ?_
          | refine q_g rfl (fun S' => (g_len hT rfl rfl rfl rfl rfl rfl (List.length_map _)).qs) ?_
          | refine q_guard rfl rfl rfl rfl (fun h => ?_) (fun h => ?_)
          | refine q_g rfl (fun S' => (g_indexM (xs := es) hT rfl rfl rfl rfl rfl hlt rfl).qs) ?_; rw [he]
          | refine q_g rfl (fun S' => (g_indexPin hT rfl rfl rfl rfl rfl (by decide) (by decide)).qs) ?_
          | refine q_g rfl (fun S' => (g_indexM (i := a) (xs := r) (g := natR) hT rfl rfl rfl rfl rfl h1 rfl).qs) ?_
          | refine q_g rfl (fun S' => (g_indexM (i := b) (xs := r) (g := natR) hT rfl rfl rfl rfl rfl h2 rfl).qs) ?_)
        refine go hT 10000 rfl ?_
        conv => whnf
        refine run_split rfl (fun h => ?_) (fun h => ?_)
        · have h : decide (((r[b] : Nat) : Int) ≤ ((r[a] : Nat) : Int)) = true := h
          simp only [decide_eq_true_eq, Int.ofNat_le] at h
          omega
        · refine go hT 10000 rfl ?_
          conv => whnf
          refine ops_g rfl (g_add rfl rfl rfl (by omega)) ?_
          refine go hT 10000 rfl ?_
          conv => whnf
          exact ⟨i + 1, hlt, by omega, ⟨⟨_, rfl, .refl _⟩, ⟨_, rfl, .refl _⟩, ⟨_, rfl, .refl _⟩, ⟨_, rfl, .refl _⟩, trivial⟩, .nil⟩
      · refine go hT 10000 rfl ?_
        conv => whnf
        exact ⟨(), trivial, ⟨⟨_, rfl, .refl _⟩, trivial⟩, .nil⟩
    · refine go hT 10000 rfl ?_
      conv => whnf
      exact ⟨(), trivial, ⟨⟨_, rfl, .refl _⟩, trivial⟩, .nil⟩
  refine go hT 10000 rfl ?_
  conv => whnf
  refine run_lq (fun i : Nat => ([(6, .slice .no (r.map natR)), (11, .int .i64 (i : Int))], [])) (fun i => i ≤ r.length) (fun i => r.length - i) 0 (Nat.zero_le _) ⟨⟨⟨_, rfl, .refl _⟩, ⟨_, rfl, .refl _⟩, trivial⟩, .nil⟩ ?_
  intro i hi
  refine go hT 10000 rfl ?_
  conv => whnf
  refine ops_g rfl (g_len hT rfl rfl rfl rfl rfl rfl (List.length_map _)) ?_
  refine go hT 10000 rfl ?_
  conv => whnf
  refine run_split rfl (fun hlt => ?_) (fun hlt => ?_)
  · simp only [decide_eq_true_eq, Int.ofNat_lt] at hlt
    rcases hok with ⟨_, hok⟩ | ⟨_, h0⟩
    case inr => subst h0; exact absurd hlt (Nat.not_lt_zero _)
    have hgap := hok.gap i hlt
    have hlow := hok.low i hlt
    refine go hT 10000 rfl ?_
    conv => whnf
    refine ops_g rfl (g_indexM (xs := r) (g := natR) hT rfl rfl rfl rfl rfl hlt rfl) ?_
    refine go hT 10000 rfl ?_
    conv => whnf
    refine run_lq (fun x : Nat × Bool => ([(6, .slice .no (r.map natR)), (11, .int .i64 (i : Int)), (12, .ob x.2), (13, .int .i64 (x.1 : Int))], [])) (fun x => x.1 ≤ r.length ∧ (x.2 = true ∨ (r[i] ≠ 0 ∧ ∀ (k : Nat) (h : k < r.length), k < x.1 → r[k] + 1 ≠ r[i]))) (fun x => r.length - x.1) (0, decide (((r[i] : Nat) : Int) = 0)) ⟨Nat.zero_le _, by
      by_cases h : r[i] = 0
      · left; rw [h]; rfl
      · right; exact ⟨h, fun k _ hk => absurd hk (Nat.not_lt_zero _)⟩⟩ ⟨⟨⟨_, rfl, .refl _⟩, ⟨_, rfl, .refl _⟩, ⟨_, rfl, .refl _⟩, ⟨_, rfl, .refl _⟩, trivial⟩, .nil⟩ ?_
    rintro ⟨k, fd⟩ ⟨hk, hf⟩
    dsimp only at hk hf
    refine go hT 10000 rfl ?_
    conv => whnf
    refine ops_g rfl (g_len hT rfl rfl rfl rfl rfl rfl (List.length_map _)) ?_
    refine go hT 10000 rfl ?_
    conv => whnf
    refine run_split rfl (fun hltk => ?_) (fun hltk => ?_)
    · simp only [decide_eq_true_eq, Int.ofNat_lt] at hltk
      refine go hT 10000 rfl ?_
      conv => whnf
      intro id
      refine run_drw hT rfl rfl ?_ id
      repeat' (first
        | (refine god hT 1 rfl ?_; conv => whnf)
        | refine vd_fin rfl ?_
        | refine q_g rfl (fun S' => (g_len hT rfl rfl rfl rfl rfl rfl (List.length_map _)).qs) ?_
        | refine q_guard rfl rfl rfl rfl (fun h => ?_) (fun h => ?_)
        | refine q_g rfl (fun S' => (g_indexM (i := k) (xs := r) (g := natR) hT rfl rfl rfl rfl rfl hltk rfl).qs) ?_
        | refine q_g rfl (fun S' => (g_indexM (i := i) (xs := r) (g := natR) hT rfl rfl rfl rfl rfl hlt rfl).qs) ?_
        | refine q_g rfl (fun S' => (g_sub rfl rfl rfl (by omega)).qs) ?_)
      · have h : fd = true := h
        subst h
        refine go hT 10000 rfl ?_
        conv => whnf
        refine ops_g rfl (g_add rfl rfl rfl (by omega)) ?_
        refine go hT 10000 rfl ?_
        conv => whnf
        exact ⟨(k + 1, true), ⟨hltk, .inl rfl⟩, by dsimp only; omega, ⟨⟨_, rfl, .refl _⟩, ⟨_, rfl, .refl _⟩, ⟨_, rfl, Le_ob rfl⟩, ⟨_, rfl, .refl _⟩, trivial⟩, .nil⟩
      · have h : fd = false := h
        subst h
        rcases hf with hf | ⟨hf0, hf⟩
        · cases hf
        refine go hT 10000 rfl ?_
        conv => whnf
        refine ops_g rfl (g_add rfl rfl rfl (by omega)) ?_
        refine go hT 10000 rfl ?_
        conv => whnf
        refine ⟨(k + 1, decide (((r[k] : Nat) : Int) = ((r[i] : Nat) : Int) - 1)), ⟨hltk, ?_⟩, by dsimp only; omega, ⟨⟨_, rfl, .refl _⟩, ⟨_, rfl, .refl _⟩, ⟨_, rfl, .refl _⟩, ⟨_, rfl, .refl _⟩, trivial⟩, .nil⟩
        dsimp only
        by_cases hq : ((r[k] : Nat) : Int) = ((r[i] : Nat) : Int) - 1
        · left; exact decide_eq_true hq
        · right
          refine ⟨hf0, fun k' h hk' => ?_⟩
          by_cases e : k' = k
          · subst e; omega
          · exact hf k' h (by omega)
    · simp only [decide_eq_false_iff_not, Int.ofNat_lt] at hltk
      have hfd : fd = true := by
        rcases hf with h | ⟨h0, h⟩
        · exact h
        · obtain ⟨k', h2, h3⟩ := hgap h0
          exact absurd h3 (h k' h2 (by omega))
      subst hfd
      refine go hT 10000 rfl ?_
      conv => whnf
      refine run_split rfl (fun h => ?_) (fun h => ?_)
      · cases h
      refine go hT 10000 rfl ?_
      conv => whnf
      refine ops_g rfl (g_add rfl rfl rfl (by omega)) ?_
      refine go hT 10000 rfl ?_
      conv => whnf
      exact ⟨i + 1, hlt, by omega, ⟨⟨_, rfl, .refl _⟩, ⟨_, rfl, .refl _⟩, trivial⟩, .nil⟩
  · simp only [decide_eq_false_iff_not, Int.ofNat_lt] at hlt
    refine go hT 10000 rfl ?_
    conv => whnf
    exact ret_bool rfl rfl rfl rfl
end
end Go.Vw
