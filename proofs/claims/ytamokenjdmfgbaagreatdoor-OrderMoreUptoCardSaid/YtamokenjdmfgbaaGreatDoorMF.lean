/- Edges, stops, sorted keys and rows; no condition beyond bounds on lengths. -/
import Derived.Test.YtamokenjdmfgbaaGreatDoorProg
import Derived.Ground.SlsfProg
import Derived.Shelf.SlLaysF0
import Derived.Test.YtamokenjdmfgbaaGreatDoorME
import Derived.Test.YtamokenjdmfgbaaGreatDoorMD
namespace Go.Proofs
open Go.Shelf
def Tryz.sortPairs_ren : Go.Shelf.Ren := ⟨fun | 6 => 148 | 15 => 91 | 14 => 200 | 28 => 158 | 29 => 159 | 20 => 249 | 21 => 250 | 22 => 251 | 23 => 252 | 24 => 253 | 25 => 254 | 26 => 255 | 27 => 256 | 46 => 306 | 47 => 202 | 48 => 203 | 49 => 307 | 50 => 308 | 57 => 332 | n => n, fun | 22 => 31 | 24 => 44 | 25 => 162 | 3 => 3 | 39 => 86 | 0 => 0 | 53 => 274 | 55 => 276 | 4 => 4 | 46 => 267 | 45 => 266 | 50 => 271 | 5 => 5 | 9 => 9 | 66 => 319 | 70 => 323 | 76 => 359 | 77 => 288 | n => n, fun | n => n⟩
theorem Tryz.sortPairs : Go.Proofs.SlLaysF0.n6 Tryz.prog Tryz.sortPairs_ren := {
  mixed := by kernel_rfl
  f6 := ⟨Tryz.f148.name, by decide, Tryz.func148.trans (congrArg some (by kernel_rfl))⟩
  f14 := ⟨Tryz.f200.name, by decide, Tryz.func200.trans (congrArg some (by kernel_rfl))⟩
  f15 := Tryz.func91.trans (congrArg some (by kernel_rfl))
  f20 := ⟨Tryz.f249.name, by decide, Tryz.func249.trans (congrArg some (by kernel_rfl))⟩
  f21 := ⟨Tryz.f250.name, by decide, Tryz.func250.trans (congrArg some (by kernel_rfl))⟩
  f22 := ⟨Tryz.f251.name, by decide, Tryz.func251.trans (congrArg some (by kernel_rfl))⟩
  f23 := ⟨Tryz.f252.name, by decide, Tryz.func252.trans (congrArg some (by kernel_rfl))⟩
  f24 := ⟨Tryz.f253.name, by decide, Tryz.func253.trans (congrArg some (by kernel_rfl))⟩
  f25 := ⟨Tryz.f254.name, by decide, Tryz.func254.trans (congrArg some (by kernel_rfl))⟩
  f26 := ⟨Tryz.f255.name, by decide, Tryz.func255.trans (congrArg some (by kernel_rfl))⟩
  f27 := ⟨Tryz.f256.name, by decide, Tryz.func256.trans (congrArg some (by kernel_rfl))⟩
  f28 := Tryz.func158.trans (congrArg some (by kernel_rfl))
  f29 := Tryz.func159.trans (congrArg some (by kernel_rfl))
  f46 := ⟨Tryz.f306.name, by decide, Tryz.func306.trans (congrArg some (by kernel_rfl))⟩
  f47 := Tryz.func202.trans (congrArg some (by kernel_rfl))
  f48 := Tryz.func203.trans (congrArg some (by kernel_rfl))
  f49 := ⟨Tryz.f307.name, by decide, Tryz.func307.trans (congrArg some (by kernel_rfl))⟩
  f50 := ⟨Tryz.f308.name, by decide, Tryz.func308.trans (congrArg some (by kernel_rfl))⟩
  f57 := ⟨Tryz.f332.name, by decide, Tryz.func332.trans (congrArg some (by kernel_rfl))⟩
  t0 := Tryz.underlying0
  a0 := Tryz.isAgg0
  z0 := Tryz.sizeOf0
  v0 := Tryz.zeroValue0
  t3 := Tryz.underlying3
  a3 := Tryz.isAgg3
  z3 := Tryz.sizeOf3
  v3 := Tryz.zeroValue3
  t4 := Tryz.underlying4
  a4 := Tryz.isAgg4
  z4 := Tryz.sizeOf4
  v4 := Tryz.zeroValue4
  t5 := Tryz.underlying5
  a5 := Tryz.isAgg5
  z5 := Tryz.sizeOf5
  v5 := Tryz.zeroValue5
  t9 := Tryz.underlying9
  a9 := Tryz.isAgg9
  z9 := Tryz.sizeOf9
  v9 := Tryz.zeroValue9
  t22 := Tryz.underlying31
  a22 := Tryz.isAgg31
  z22 := Tryz.sizeOf31
  v22 := Tryz.zeroValue31
  t25 := Tryz.underlying162
  a25 := Tryz.isAgg162
  z25 := Tryz.sizeOf162
  v25 := Tryz.zeroValue162
  t39 := Tryz.underlying86
  a39 := Tryz.isAgg86
  z39 := Tryz.sizeOf86
  v39 := Tryz.zeroValue86
  t45 := Tryz.underlying266
  a45 := Tryz.isAgg266
  z45 := Tryz.sizeOf266
  v45 := Tryz.zeroValue266
  t46 := Tryz.underlying267
  a46 := Tryz.isAgg267
  z46 := Tryz.sizeOf267
  v46 := Tryz.zeroValue267
  t50 := Tryz.underlying271
  a50 := Tryz.isAgg271
  z50 := Tryz.sizeOf271
  v50 := Tryz.zeroValue271
  t53 := Tryz.underlying274
  a53 := Tryz.isAgg274
  z53 := Tryz.sizeOf274
  v53 := Tryz.zeroValue274
  t55 := Tryz.underlying276
  a55 := Tryz.isAgg276
  z55 := Tryz.sizeOf276
  v55 := Tryz.zeroValue276
  t66 := Tryz.underlying319
  a66 := Tryz.isAgg319
  z66 := Tryz.sizeOf319
  v66 := Tryz.zeroValue319
  t70 := Tryz.underlying323
  a70 := Tryz.isAgg323
  z70 := Tryz.sizeOf323
  v70 := Tryz.zeroValue323
  t76 := Tryz.underlying359
  a76 := Tryz.isAgg359
  z76 := Tryz.sizeOf359
  v76 := Tryz.zeroValue359
  t77 := Tryz.underlying288
  a77 := Tryz.isAgg288
  z77 := Tryz.sizeOf288
  v77 := Tryz.zeroValue288 }
def Tryz.sortDiags_ren : Go.Shelf.Ren := ⟨fun | 6 => 42 | 15 => 91 | 14 => 90 | 28 => 158 | 29 => 159 | 20 => 150 | 21 => 151 | 22 => 152 | 23 => 153 | 24 => 154 | 25 => 155 | 26 => 156 | 27 => 157 | 46 => 201 | 47 => 202 | 48 => 203 | 49 => 204 | 50 => 205 | 57 => 257 | n => n, fun | 22 => 37 | 24 => 47 | 25 => 98 | 3 => 3 | 39 => 86 | 0 => 0 | 53 => 274 | 55 => 276 | 4 => 4 | 46 => 267 | 45 => 266 | 50 => 271 | 5 => 5 | 9 => 9 | 66 => 319 | 70 => 323 | 76 => 359 | 77 => 288 | n => n, fun | n => n⟩
theorem Tryz.sortDiags : Go.Proofs.SlLaysF0.n6 Tryz.prog Tryz.sortDiags_ren := {
  mixed := by kernel_rfl
  f6 := ⟨Tryz.f42.name, by decide, Tryz.func42.trans (congrArg some (by kernel_rfl))⟩
  f14 := ⟨Tryz.f90.name, by decide, Tryz.func90.trans (congrArg some (by kernel_rfl))⟩
  f15 := Tryz.func91.trans (congrArg some (by kernel_rfl))
  f20 := ⟨Tryz.f150.name, by decide, Tryz.func150.trans (congrArg some (by kernel_rfl))⟩
  f21 := ⟨Tryz.f151.name, by decide, Tryz.func151.trans (congrArg some (by kernel_rfl))⟩
  f22 := ⟨Tryz.f152.name, by decide, Tryz.func152.trans (congrArg some (by kernel_rfl))⟩
  f23 := ⟨Tryz.f153.name, by decide, Tryz.func153.trans (congrArg some (by kernel_rfl))⟩
  f24 := ⟨Tryz.f154.name, by decide, Tryz.func154.trans (congrArg some (by kernel_rfl))⟩
  f25 := ⟨Tryz.f155.name, by decide, Tryz.func155.trans (congrArg some (by kernel_rfl))⟩
  f26 := ⟨Tryz.f156.name, by decide, Tryz.func156.trans (congrArg some (by kernel_rfl))⟩
  f27 := ⟨Tryz.f157.name, by decide, Tryz.func157.trans (congrArg some (by kernel_rfl))⟩
  f28 := Tryz.func158.trans (congrArg some (by kernel_rfl))
  f29 := Tryz.func159.trans (congrArg some (by kernel_rfl))
  f46 := ⟨Tryz.f201.name, by decide, Tryz.func201.trans (congrArg some (by kernel_rfl))⟩
  f47 := Tryz.func202.trans (congrArg some (by kernel_rfl))
  f48 := Tryz.func203.trans (congrArg some (by kernel_rfl))
  f49 := ⟨Tryz.f204.name, by decide, Tryz.func204.trans (congrArg some (by kernel_rfl))⟩
  f50 := ⟨Tryz.f205.name, by decide, Tryz.func205.trans (congrArg some (by kernel_rfl))⟩
  f57 := ⟨Tryz.f257.name, by decide, Tryz.func257.trans (congrArg some (by kernel_rfl))⟩
  t0 := Tryz.underlying0
  a0 := Tryz.isAgg0
  z0 := Tryz.sizeOf0
  v0 := Tryz.zeroValue0
  t3 := Tryz.underlying3
  a3 := Tryz.isAgg3
  z3 := Tryz.sizeOf3
  v3 := Tryz.zeroValue3
  t4 := Tryz.underlying4
  a4 := Tryz.isAgg4
  z4 := Tryz.sizeOf4
  v4 := Tryz.zeroValue4
  t5 := Tryz.underlying5
  a5 := Tryz.isAgg5
  z5 := Tryz.sizeOf5
  v5 := Tryz.zeroValue5
  t9 := Tryz.underlying9
  a9 := Tryz.isAgg9
  z9 := Tryz.sizeOf9
  v9 := Tryz.zeroValue9
  t22 := Tryz.underlying37
  a22 := Tryz.isAgg37
  z22 := Tryz.sizeOf37
  v22 := Tryz.zeroValue37
  t25 := Tryz.underlying98
  a25 := Tryz.isAgg98
  z25 := Tryz.sizeOf98
  v25 := Tryz.zeroValue98
  t39 := Tryz.underlying86
  a39 := Tryz.isAgg86
  z39 := Tryz.sizeOf86
  v39 := Tryz.zeroValue86
  t45 := Tryz.underlying266
  a45 := Tryz.isAgg266
  z45 := Tryz.sizeOf266
  v45 := Tryz.zeroValue266
  t46 := Tryz.underlying267
  a46 := Tryz.isAgg267
  z46 := Tryz.sizeOf267
  v46 := Tryz.zeroValue267
  t50 := Tryz.underlying271
  a50 := Tryz.isAgg271
  z50 := Tryz.sizeOf271
  v50 := Tryz.zeroValue271
  t53 := Tryz.underlying274
  a53 := Tryz.isAgg274
  z53 := Tryz.sizeOf274
  v53 := Tryz.zeroValue274
  t55 := Tryz.underlying276
  a55 := Tryz.isAgg276
  z55 := Tryz.sizeOf276
  v55 := Tryz.zeroValue276
  t66 := Tryz.underlying319
  a66 := Tryz.isAgg319
  z66 := Tryz.sizeOf319
  v66 := Tryz.zeroValue319
  t70 := Tryz.underlying323
  a70 := Tryz.isAgg323
  z70 := Tryz.sizeOf323
  v70 := Tryz.zeroValue323
  t76 := Tryz.underlying359
  a76 := Tryz.isAgg359
  z76 := Tryz.sizeOf359
  v76 := Tryz.zeroValue359
  t77 := Tryz.underlying288
  a77 := Tryz.isAgg288
  z77 := Tryz.sizeOf288
  v77 := Tryz.zeroValue288 }
end Go.Proofs
namespace Go.Vw
open Go.RowKit Go.Am Go.Proofs Go.Ord

/-- An operation, what must be held there, what may be. -/
abbrev Stp := MOp × Int × Int
def opAt (m : MModule) (f n : Nat) : MOp := (m.fn (f : Int)).op (n : Int)
def stopB (o : MOp) (v : Int) : Bool := decide (0 ≤ v) && (decide (o.kind = 16) || decide (o.kind = 17))
def stopR (m : MModule) (f : Nat) (u v : List Int) (n : Nat) : List Stp := match u[n]?, v[n]? with
  | some a, some b => if stopB (opAt m f n) b then [(opAt m f n, a, b)] else []
  | _, _ => []
def stopF (m : MModule) (f : Nat) (u v : List Int) (n : Nat) : List Stp := (List.range n).flatMap (stopR m f u v)
def stopT1 (m : MModule) (us vs : List (List Int)) (f : Nat) : List Stp := match us[f]?, vs[f]? with
  | some u, some v => stopF m f u v v.length
  | _, _ => []
def stopT (m : MModule) (us vs : List (List Int)) (f : Nat) : List Stp := (List.range f).flatMap (stopT1 m us vs)
def stopM1 (m : MModule) (us vs : List (List (List Int))) (t : Nat) : List Stp := match us[t]?, vs[t]? with
  | some u, some v => stopT m u v v.length
  | _, _ => []
def stopM (m : MModule) (us vs : List (List (List Int))) (t : Nat) : List Stp := (List.range t).flatMap (stopM1 m us vs)
/-- All of them, thread by thread. -/
def stopsP (m : MModule) (us vs : List (List (List Int))) : List Stp := stopM m us vs vs.length
theorem flat_succ {α : Type} (g : Nat → List α) (n : Nat) : (List.range (n + 1)).flatMap g = (List.range n).flatMap g ++ g n := by
  rw [List.range_succ, List.flatMap_append]; simp
theorem stopF_succ (m : MModule) (f : Nat) (u v : List Int) (n : Nat) (h1 : n < u.length) (h2 : n < v.length) : stopF m f u v (n + 1) = stopF m f u v n ++ (if stopB (opAt m f n) v[n] then [(opAt m f n, u[n], v[n])] else []) := by
  unfold stopF
  rw [flat_succ]
  congr 1
  unfold stopR
  rw [List.getElem?_eq_getElem h1, List.getElem?_eq_getElem h2]
theorem stopT_succ (m : MModule) (us vs : List (List Int)) (f : Nat) (h1 : f < us.length) (h2 : f < vs.length) : stopT m us vs (f + 1) = stopT m us vs f ++ stopF m f us[f] vs[f] vs[f].length := by
  unfold stopT
  rw [flat_succ]
  congr 1
  unfold stopT1
  rw [List.getElem?_eq_getElem h1, List.getElem?_eq_getElem h2]
theorem stopM_succ (m : MModule) (us vs : List (List (List Int))) (t : Nat) (h1 : t < us.length) (h2 : t < vs.length) : stopM m us vs (t + 1) = stopM m us vs t ++ stopT m us[t] vs[t] vs[t].length := by
  unfold stopM
  rw [flat_succ]
  congr 1
  unfold stopM1
  rw [List.getElem?_eq_getElem h1, List.getElem?_eq_getElem h2]

/-- Tables that fit the code. -/
structure TabsOk (m : MModule) (us vs : List (List (List Int))) : Prop where
  len : us.length = vs.length
  fn : ∀ (t : Nat) (h1 : t < us.length) (h2 : t < vs.length), us[t].length = m.funcs.length ∧ vs[t].length = m.funcs.length
  op : ∀ (t f : Nat) (h1 : t < us.length) (h2 : t < vs.length) (h3 : f < us[t].length) (h4 : f < vs[t].length), us[t][f].length = vs[t][f].length ∧ vs[t][f].length ≤ (m.fn (f : Int)).code.length
  cell : ∀ (t f n : Nat) (h1 : t < us.length) (h2 : t < vs.length) (h3 : f < us[t].length) (h4 : f < vs[t].length) (h5 : n < us[t][f].length) (h6 : n < vs[t][f].length), CellOk m.locks.length us[t][f][n] vs[t][f][n]
theorem Threads.mem {m : MModule} : ∀ {fs : List Int} {us vs : List (List (List Int))}, Threads m fs us vs → ∀ (t : Nat) (h1 : t < us.length) (h2 : t < vs.length), ∃ f ∈ fs, Thread m f us[t] vs[t] := fun {fs us vs} h t h1 h2 => by
  obtain ⟨l1, l2⟩ := h.lens
  exact ⟨fs[t]'(by omega), List.getElem_mem _, threads_at h t (by omega) h1 h2⟩
theorem thread_rows {m : MModule} {f : Int} {a b : List (List Int)} (h : Thread m f a b) (g : Nat) (h1 : g < b.length) : b[g].length ≤ (m.fn (g : Int)).code.length := by
  obtain ⟨y, hd, rfl, rfl⟩ := h
  simp only [tableP, List.getElem_map, List.getElem_range]
  unfold rowP
  split
  · simp
  · simp
theorem tabs_ok {m : MModule} (hs : Small m) (hr : rightModB m = true) {us vs : List (List (List Int))} (h : Threads m m.threads us vs) : TabsOk m us vs := by
  obtain ⟨l1, l2⟩ := h.lens
  have th := fun t h1 h2 => h.mem t h1 h2
  refine ⟨by omega, fun t h1 h2 => ?_, fun t f h1 h2 h3 h4 => ?_, fun t f n h1 h2 h3 h4 h5 h6 => ?_⟩
  · obtain ⟨g, hg, k⟩ := th t h1 h2
    have := thread_facts hs hr hg k
    exact ⟨this.la, this.lb⟩
  · obtain ⟨g, hg, k⟩ := th t h1 h2
    have := thread_facts hs hr hg k
    exact ⟨this.row f h3 h4, thread_rows k f h4⟩
  · obtain ⟨g, hg, k⟩ := th t h1 h2
    exact (thread_facts hs hr hg k).cell f n h3 h4 h5 h6
theorem mem_flat {α : Type} {g : Nat → List α} {n : Nat} {x : α} : x ∈ (List.range n).flatMap g ↔ ∃ i, i < n ∧ x ∈ g i := by
  rw [List.mem_flatMap]
  simp only [List.mem_range]
/-- What a stop is. -/
theorem stops_mem {m : MModule} {us vs : List (List (List Int))} {s : Stp} : s ∈ stopsP m us vs ↔ ∃ (t f n : Nat) (u v : List (List Int)) (a b : Int), us[t]? = some u ∧ vs[t]? = some v ∧ ∃ (p q : List Int), u[f]? = some p ∧ v[f]? = some q ∧ p[n]? = some a ∧ q[n]? = some b ∧ stopB (opAt m f n) b = true ∧ s = (opAt m f n, a, b) := by
  unfold stopsP stopM
  rw [mem_flat]
  constructor
  · rintro ⟨t, ht, h⟩
    unfold stopM1 at h
    split at h
    · next u v hu hv =>
      unfold stopT at h
      rw [mem_flat] at h
      obtain ⟨f, hf, h⟩ := h
      unfold stopT1 at h
      split at h
      · next p q hp hq =>
        unfold stopF at h
        rw [mem_flat] at h
        obtain ⟨n, hn, h⟩ := h
        unfold stopR at h
        split at h
        · next a b ha hb =>
          split at h
          · next hs =>
            rw [List.mem_singleton] at h
            exact ⟨t, f, n, u, v, a, b, hu, hv, p, q, hp, hq, ha, hb, hs, h⟩
          · cases h
        · cases h
      · cases h
    · cases h
  · rintro ⟨t, f, n, u, v, a, b, hu, hv, p, q, hp, hq, ha, hb, hs, rfl⟩
    refine ⟨t, (List.getElem?_eq_some_iff.1 hv).1, ?_⟩
    unfold stopM1
    rw [hu, hv]
    dsimp only
    unfold stopT
    rw [mem_flat]
    refine ⟨f, (List.getElem?_eq_some_iff.1 hq).1, ?_⟩
    unfold stopT1
    rw [hp, hq]
    dsimp only
    unfold stopF
    rw [mem_flat]
    refine ⟨n, (List.getElem?_eq_some_iff.1 hb).1, ?_⟩
    unfold stopR
    rw [ha, hb]
    dsimp only
    rw [if_pos hs]
    simp

theorem andI_all {L : Nat} (hL : L ≤ 8) {v : Int} (h : andI v (allI L) = v) : ∃ w : Nat, v = w ∧ w < 2 ^ L := by
  have hp : 2 ^ L ≤ 2 ^ 8 := Nat.pow_le_pow_right (by omega) hL
  have h1 : 0 < 2 ^ L := Nat.two_pow_pos L
  rw [allI_nat hL] at h
  unfold andI at h
  rw [bits_ofInt (2 ^ L - 1)] at h
  change IntKind.i64.wrap (((BitVec.ofInt 64 v : BitVec 64) &&& BitVec.ofNat 64 (2 ^ L - 1)).toNat : Int) = v at h
  have hle : ((BitVec.ofInt 64 v : BitVec 64) &&& BitVec.ofNat 64 (2 ^ L - 1)).toNat ≤ 2 ^ L - 1 := by
    rw [BitVec.toNat_and]
    exact Nat.le_trans Nat.and_le_right (by rw [BitVec.toNat_ofNat]; exact Nat.mod_le _ _)
  rw [wrap_small (by omega)] at h
  exact ⟨_, h.symm, by omega⟩
theorem andI_low {w : Nat} (hw : w < 256) {u : Int} (h : andI u (w : Int) = u) : u < 256 := by
  unfold andI at h
  rw [bits_ofInt w] at h
  change IntKind.i64.wrap (((BitVec.ofInt 64 u : BitVec 64) &&& BitVec.ofNat 64 w).toNat : Int) = u at h
  have hle : ((BitVec.ofInt 64 u : BitVec 64) &&& BitVec.ofNat 64 w).toNat ≤ w := by
    rw [BitVec.toNat_and]
    exact Nat.le_trans Nat.and_le_right (by rw [BitVec.toNat_ofNat]; exact Nat.mod_le _ _)
  rw [wrap_small (by omega)] at h
  omega
/-- A stop's lock, and what is held there, in numbers. -/
structure StopOk (m : MModule) (s : Stp) : Prop where
  kind : s.1.kind = 16 ∨ s.1.kind = 17
  lock : 0 ≤ s.1.a ∧ s.1.a < m.locks.length
  held : ∃ u v : Nat, s.2 = ((u : Int), (v : Int)) ∧ ∀ i, v.testBit i = true → i < m.locks.length
  low : s.2.1 < 256
theorem stop_ok {m : MModule} (hs : Small m) (hr : rightModB m = true) {us vs : List (List (List Int))} (h : Threads m m.threads us vs) {s : Stp} (hm : s ∈ stopsP m us vs) : StopOk m s := by
  obtain ⟨t, f, n, u, v, a, b, hu, hv, p, q, hp, hq, ha, hb, hst, rfl⟩ := stops_mem.1 hm
  have tk := tabs_ok hs hr h
  obtain ⟨h1, rfl⟩ := List.getElem?_eq_some_iff.1 hu
  obtain ⟨h2, rfl⟩ := List.getElem?_eq_some_iff.1 hv
  obtain ⟨h3, rfl⟩ := List.getElem?_eq_some_iff.1 hp
  obtain ⟨h4, rfl⟩ := List.getElem?_eq_some_iff.1 hq
  obtain ⟨h5, rfl⟩ := List.getElem?_eq_some_iff.1 ha
  obtain ⟨h6, rfl⟩ := List.getElem?_eq_some_iff.1 hb
  simp only [stopB, Bool.and_eq_true, Bool.or_eq_true, decide_eq_true_eq] at hst
  obtain ⟨h0, hk⟩ := hst
  obtain ⟨hfn1, hfn2⟩ := tk.fn t h1 h2
  obtain ⟨ho1, ho2⟩ := tk.op t f h1 h2 h3 h4
  have hval : valid m ((f : Int), (n : Int)) := ⟨belowB_one.2 ⟨by omega, by omega⟩, by show (0 : Int) ≤ _; omega, by show (n : Int) < _; dsimp only; omega⟩
  have hof := op_facts hr _ hval
  have hcell := tk.cell t f n h1 h2 h3 h4 h5 h6
  have hL := (frame_facts (by simp only [rightModB, Bool.and_eq_true] at hr; exact hr.1)).1
  rcases hcell with ⟨_, e⟩ | ⟨c1, c2, c3, c4⟩
  · omega
  · obtain ⟨w, hw, hw2⟩ := andI_all hL c4
    have hw3 : w < 256 := Nat.lt_of_lt_of_le hw2 (Nat.pow_le_pow_right (by omega) hL)
    refine ⟨hk, hof.lock hk, ⟨_, w, Prod.ext (Int.toNat_of_nonneg c1).symm hw, fun i hi => ?_⟩, andI_low hw3 (by rw [← hw]; exact c3)⟩
    rcases Nat.lt_or_ge i m.locks.length with h | h
    · exact h
    · rw [Nat.testBit_lt_two_pow (Nat.lt_of_lt_of_le hw2 (Nat.pow_le_pow_right (by omega) h))] at hi
      cases hi
end Go.Vw
namespace Go.Vw
open Go.RowKit Go.Am Go.Proofs Go.Ord

def hasN (v : Int) (l : Nat) : Bool := v.toNat.testBit l
/-- Is k taken while l is held? -/
def edgeL (ss : List Stp) (l k : Nat) : Bool := ss.any fun s => decide (s.1.kind = 16) && (decide (s.1.a = k) && hasN s.2.2 l)
def edgesR (_L : Nat) (ss : List Stp) (l k : Nat) : List (Int × Int) := (List.range k).flatMap fun k => if edgeL ss l k then [((l : Int), (k : Int))] else []
def edgesQ (L : Nat) (ss : List Stp) (l : Nat) : List (Int × Int) := (List.range l).flatMap fun l => edgesR L ss l L
def edgesP (L : Nat) (ss : List Stp) : List (Int × Int) := edgesQ L ss L
theorem edgesP_mem (L : Nat) (ss : List Stp) (x : Int × Int) : x ∈ edgesP L ss ↔ ∃ l k, l < L ∧ k < L ∧ edgeL ss l k = true ∧ x = ((l : Int), (k : Int)) := by
  unfold edgesP edgesQ
  rw [mem_flat]
  constructor
  · rintro ⟨l, hl, h⟩
    unfold edgesR at h
    rw [mem_flat] at h
    obtain ⟨k, hk, h⟩ := h
    split at h
    · next e => exact ⟨l, k, hl, hk, e, List.mem_singleton.1 h⟩
    · cases h
  · rintro ⟨l, k, hl, hk, e, rfl⟩
    refine ⟨l, hl, ?_⟩
    unfold edgesR
    rw [mem_flat]
    exact ⟨k, hk, by rw [if_pos e]; simp⟩
theorem flat_sorted {g : Nat → List (Int × Int)} (h1 : ∀ i, SSorted ltP (g i)) (h2 : ∀ i j, i < j → ∀ x ∈ g i, ∀ y ∈ g j, ltP x y = true) : ∀ n, SSorted ltP ((List.range n).flatMap g)
  | 0 => .nil
  | n + 1 => by
    rw [flat_succ]
    refine List.pairwise_append.2 ⟨flat_sorted h1 h2 n, h1 n, fun x hx y hy => ?_⟩
    obtain ⟨i, hi, hx⟩ := mem_flat.1 hx
    exact h2 i n hi x hx y hy
theorem edgesP_sorted (L : Nat) (ss : List Stp) : SSorted ltP (edgesP L ss) := by
  refine flat_sorted (fun l => flat_sorted (fun k => ?_) (fun i j h x hx y hy => ?_) L) (fun i j h x hx y hy => ?_) L
  · split <;> simp [SSorted]
  · split at hx
    · split at hy
      · rw [List.mem_singleton] at hx hy
        subst hx hy
        have : ((i : Nat) : Int) < (j : Int) := by omega
        simp [ltP, this]
      · cases hy
    · cases hx
  · obtain ⟨k, _, hx⟩ := mem_flat.1 hx
    obtain ⟨k', _, hy⟩ := mem_flat.1 hy
    split at hx
    · split at hy
      · rw [List.mem_singleton] at hx hy
        subst hx hy
        have : ((i : Nat) : Int) < (j : Int) := by omega
        simp [ltP, this]
      · cases hy
    · cases hx

/-- The edges, as pairs of numbers. -/
def edgesNat (L : Nat) (ss : List Stp) : List (Nat × Nat) := (edgesP L ss).map fun e => (e.1.toNat, e.2.toNat)
def castE (e : Nat × Nat) : Int × Int := ((e.1 : Int), (e.2 : Int))
theorem edgesNat_cast (L : Nat) (ss : List Stp) : (edgesNat L ss).map castE = edgesP L ss := by
  unfold edgesNat
  rw [List.map_map]
  conv => rhs; rw [← List.map_id (edgesP L ss)]
  refine List.map_congr_left fun x hx => ?_
  obtain ⟨l, k, _, _, _, rfl⟩ := (edgesP_mem L ss x).1 hx
  simp [castE]
theorem edgesNat_mem (L : Nat) (ss : List Stp) (l k : Nat) : (l, k) ∈ edgesNat L ss ↔ l < L ∧ k < L ∧ edgeL ss l k = true := by
  unfold edgesNat
  rw [List.mem_map]
  constructor
  · rintro ⟨x, hx, e⟩
    obtain ⟨l', k', h1, h2, h3, rfl⟩ := (edgesP_mem L ss x).1 hx
    simp only [Int.toNat_natCast, Prod.mk.injEq] at e
    obtain ⟨rfl, rfl⟩ := e
    exact ⟨h1, h2, h3⟩
  · rintro ⟨h1, h2, h3⟩
    exact ⟨((l : Int), (k : Int)), (edgesP_mem L ss _).2 ⟨l, k, h1, h2, h3, rfl⟩, by simp⟩
theorem edgesNat_lt (L : Nat) (ss : List Stp) : ∀ e ∈ edgesNat L ss, e.1 < L ∧ e.2 < L := fun e he => by
  obtain ⟨l, k⟩ := e
  obtain ⟨h1, h2, _⟩ := (edgesNat_mem L ss l k).1 he
  exact ⟨h1, h2⟩

/-! ### what is wrong -/
def nameAt (m : MModule) (a : Int) : ByteArray := (m.locks[a.toNat]?).getD ByteArray.empty
/-- At a stop: nothing, or one thing. -/
def wrongS (m : MModule) (to : List Nat) (s : Stp) : List MDiag :=
  if s.1.kind = 17 ∧ hasN s.2.1 s.1.a.toNat = false then [(s.1.at_, 80, nameAt m s.1.a)]
  else if s.1.kind = 16 ∧ s.2.2.toNat &&& getN to s.1.a.toNat ≠ 0 then [(s.1.at_, 82, nameAt m s.1.a)] else []
def wrongP (m : MModule) (to : List Nat) (ss : List Stp) : List MDiag := ss.flatMap (wrongS m to)
theorem and_ne {a b : Nat} : a &&& b ≠ 0 ↔ ∃ i, a.testBit i = true ∧ b.testBit i = true := by
  constructor
  · intro h
    rcases Classical.em (∃ i, a.testBit i = true ∧ b.testBit i = true) with k | k
    · exact k
    · exfalso
      apply h
      apply Nat.eq_of_testBit_eq
      intro i
      rw [Nat.testBit_and, Nat.zero_testBit]
      cases h1 : a.testBit i <;> cases h2 : b.testBit i <;> try rfl
      exact absurd ⟨i, h1, h2⟩ k
  · rintro ⟨i, h1, h2⟩ e
    have := congrArg (fun n => Nat.testBit n i) e
    simp [Nat.testBit_and, h1, h2] at this
/-- The keys that the walk lays, sorted, are the edges. -/
theorem keys_edges {L : Nat} {ss : List Stp} (hs : ∀ s ∈ ss, 0 ≤ s.1.a ∧ s.1.a < L) {ks ys : List (Int × Int)} (hn : ks.Nodup) (hm : ∀ x, x ∈ ks ↔ ∃ s ∈ ss, ∃ l, l < L ∧ s.1.kind = 16 ∧ hasN s.2.2 l = true ∧ x = ((l : Int), s.1.a)) (hp : ys.Perm ks) (ho : ys.Pairwise fun a b => ltP b a = false) : ys = edgesP L ss := by
  have hn' : ys.Nodup := hp.nodup_iff.2 hn
  have h1 : SSorted ltP ys := by
    unfold SSorted
    have := ho.and hn'
    refine this.imp fun {a b} ⟨h1, h2⟩ => ?_
    cases e : ltP a b
    · exact absurd (tot_ltP.tot _ _ e h1) h2
    · rfl
  refine SSorted.unique tot_ltP h1 (edgesP_sorted L ss) fun x => ?_
  rw [hp.mem_iff, hm, edgesP_mem]
  constructor
  · rintro ⟨s, h2, l, hl, h3, h4, rfl⟩
    obtain ⟨a0, a1⟩ := hs s h2
    refine ⟨l, s.1.a.toNat, hl, by omega, ?_, by rw [Int.toNat_of_nonneg a0]⟩
    unfold edgeL
    rw [List.any_eq_true]
    refine ⟨s, h2, ?_⟩
    rw [decide_eq_true h3, h4, decide_eq_true (Int.toNat_of_nonneg a0).symm]
    rfl
  · rintro ⟨l, k, hl, hk, h, rfl⟩
    unfold edgeL at h
    rw [List.any_eq_true] at h
    obtain ⟨s, h2, h⟩ := h
    simp only [Bool.and_eq_true, decide_eq_true_eq] at h
    exact ⟨s, h2, l, hl, h.1, h.2.2, by rw [h.2.1]⟩
end Go.Vw
namespace Go.Vw
open Go.RowKit Go.Am Go.Proofs Go.Ord
attribute [local irreducible] VOps VRun VNext VD VDn VDq Ret
theorem u64_small {l : Nat} (h : l < 64) : IntKind.u64.wrap (l : Int) = l := by
  simp [IntKind.wrap, IntKind.bits, IntKind.signed]
  omega
theorem g_shrN {P : Program} {S : Hp} {o : Oper} {ρ : Operand → Option V} {t z : TypeId} {x y : Operand} {n l : Nat} (hl : l < 64) (ho : o.op = .binOp .shr t x y z) (hx : ρ x = some (.int .i64 (n : Int))) (hy : ρ y = some (.int .u64 (IntKind.u64.wrap (l : Int)))) : QG P o ρ S (.int .i64 ((n >>> l : Nat) : Int)) :=
  g_int (u := .int .i64 ((n >>> l : Nat) : Int)) ho hx hy (by
    rw [u64_small hl]
    unfold intOp
    have h1 : decide ((l : Int) < 0) = false := decide_eq_false (by omega)
    simp only [h1, cond_false, Int.toNat_natCast]
    have h2 : min l IntKind.i64.bits = l := Nat.min_eq_left (by show l ≤ 64; omega)
    rw [h2, Nat.shiftRight_eq_div_pow]
    congr 2
    have : ((2 : Int) ^ l) = ((2 ^ l : Nat) : Int) := by simp
    rw [this, Int.fdiv_eq_ediv_of_nonneg _ (Int.natCast_nonneg _), Int.natCast_ediv])
theorem andI_one {n : Nat} (hn : n < 256) : andI (n : Int) 1 = ((n % 2 : Nat) : Int) := by
  have h := andI_nat (u := n) (v := 1) hn (by omega)
  rw [Nat.and_one_is_mod] at h
  exact h
theorem testBit_mod (n l : Nat) : decide ((((n >>> l) % 2 : Nat) : Int) = 1) = n.testBit l := by
  have h : n.testBit l = decide ((n >>> l) % 2 = 1) := by
    rw [Nat.testBit, Nat.and_comm, Nat.and_one_is_mod]
    have h2 : (n >>> l) % 2 < 2 := Nat.mod_lt _ (by omega)
    generalize (n >>> l) % 2 = q at h2
    have : q = 0 ∨ q = 1 := by omega
    rcases this with rfl | rfl <;> rfl
  rw [h]
  by_cases e : (n >>> l) % 2 = 1
  · rw [e]; rfl
  · rw [decide_eq_false e, decide_eq_false (by omega)]
section
variable [Drw] (hT : TabOk tab Tryz.prog)
include hT
theorem hasP (n l : Nat) (hn : n < 256) (hl : l < 64) : Pure Tryz.prog 41 [.int .i64 (n : Int), .int .i64 (l : Int)] (.ob (n.testBit l)) := by
  refine VC.code hT 11 rfl rfl rfl rfl fun F w S0 => ?_
  refine go hT 10000 rfl ?_
  conv => whnf
  refine ops_g rfl (g_shrN hl rfl rfl rfl) ?_
  generalize hq : n >>> l = q
  have hq2 : q < 256 := by rw [← hq, Nat.shiftRight_eq_div_pow]; exact Nat.lt_of_le_of_lt (Nat.div_le_self _ _) hn
  refine go hT 10000 rfl ?_
  conv => whnf
  refine ret_bool rfl rfl rfl ?_
  have : andI (q : Int) 1 = ((q % 2 : Nat) : Int) := andI_one hq2
  unfold andI at this
  rw [← testBit_mod, hq, ← this]
end
end Go.Vw
namespace Go.Vw
open Go.RowKit Go.Am Go.Proofs Go.Ord
attribute [local irreducible] VOps VRun VNext VD VDn VDq Ret
def stpV (s : Stp) : List V := opV s.1 ++ [.int .i64 s.2.1, .int .i64 s.2.2]
structure Lens (m : MModule) (vs : List (List (List Int))) : Prop where
  t : vs.length < 2000000
  f : ∀ r ∈ vs, r.length < 2000000
  n : ∀ r ∈ vs, ∀ x ∈ r, x.length < 2000000
theorem flat_mono {α : Type} {g : Nat → List α} {a b : Nat} (h : a ≤ b) : ((List.range a).flatMap g).length ≤ ((List.range b).flatMap g).length := by
  induction b with
  | zero => rw [Nat.le_zero.1 h]; exact Nat.le_refl _
  | succ b ih =>
    rcases Nat.lt_or_ge a (b + 1) with k | k
    · rw [flat_succ, List.length_append]
      have := ih (by omega)
      omega
    · have : a = b + 1 := by omega
      subst this
      exact Nat.le_refl _
theorem op_nat2 (f : MFunc) (k : Nat) (h : k < f.code.length) : f.op (k : Int) = f.code[k] := by
  unfold MFunc.op
  rw [Int.toNat_natCast, List.getElem?_eq_getElem h]
  rfl
section
variable [Drw] (hT : TabOk tab Tryz.prog)
include hT
set_option maxRecDepth 100000 in
set_option maxHeartbeats 2000000 in
theorem stops1 (l : Nat) (m : MModule) (us vs : List (List (List Int))) (tk : TabsOk m us vs) (hl : Lens m vs) (J : List Stp → Hp → Prop)
    (hY : ∀ pre s S, J pre S → s ∈ stopsP m us vs → (pre ++ [s]).length ≤ (stopsP m us vs).length → VY Tryz.prog l [.agg (stpV s)] S fun v S' => v = .bool true ∧ J (pre ++ [s]) S') (S : Hp) (h0 : J [] S) :
    VC Tryz.prog 89 [.yield l, .pin (heldV us vs) 0, .pin (modV m) 0] S fun _ S' => J (stopsP m us vs) S' := by
  refine VC.code hT 76 rfl rfl rfl rfl fun F w S0 => ?_
  refine go hT 10000 rfl ?_
  conv => whnf
  refine ops_g rfl (g_len hT rfl rfl rfl rfl rfl rfl (List.length_map _)) ?_
  refine go hT 10000 rfl ?_
  conv => whnf
  refine run_lq (fun x : Nat × Hp => ([(0, .yield l), (1, .pin (heldV us vs) 0), (2, .pin (modV m) 0), (12, .slice .no (vs.map tabV)), (13, .int .i64 vs.length), (14, .int .i64 x.1)], x.2))
    (fun x => x.1 ≤ vs.length ∧ J (stopM m us vs x.1) x.2) (fun x => vs.length - x.1) (0, S) ⟨Nat.zero_le _, h0⟩ ⟨⟨⟨_, rfl, .refl _⟩, ⟨_, rfl, .refl _⟩, ⟨_, rfl, .refl _⟩, ⟨_, rfl, .refl _⟩, ⟨_, rfl, .refl _⟩, ⟨_, rfl, .refl _⟩, trivial⟩, .refl _⟩ ?_
  rintro ⟨t, S1⟩ ⟨ht, hj⟩
  dsimp only at ht hj
  refine go hT 10000 rfl ?_
  conv => whnf
  refine run_split rfl (fun hlt => ?_) (fun hlt => ?_)
  · simp only [decide_eq_true_eq, Int.ofNat_lt] at hlt
    have hlu : t < us.length := by rw [tk.len]; exact hlt
    refine go hT 10000 rfl ?_
    conv => whnf
    refine ops_g rfl (g_indexM (xs := vs) hT rfl rfl rfl rfl rfl hlt rfl) ?_
    refine go hT 10000 rfl ?_
    conv => whnf
    refine ops_g rfl (g_len hT rfl rfl rfl rfl rfl rfl (List.length_map _)) ?_
    refine go hT 10000 rfl ?_
    conv => whnf
    have hmem : vs[t] ∈ vs := List.getElem_mem hlt
    have hf := hl.f _ hmem
    refine run_lq (fun x : Nat × Hp => ([(0, .yield l), (1, .pin (heldV us vs) 0), (2, .pin (modV m) 0), (12, .slice .no (vs.map tabV)), (13, .int .i64 vs.length), (14, .int .i64 t), (4, .int .i64 t), (5, .slice .no (vs[t].map oneRow)), (19, .slice .no (vs[t].map oneRow)), (20, .int .i64 vs[t].length), (21, .int .i64 x.1)], x.2))
      (fun x => x.1 ≤ vs[t].length ∧ J (stopM m us vs t ++ stopT m us[t] vs[t] x.1) x.2) (fun x => vs[t].length - x.1) (0, S1) ⟨Nat.zero_le _, by simpa [stopT] using hj⟩ ⟨⟨⟨_, rfl, .refl _⟩, ⟨_, rfl, .refl _⟩, ⟨_, rfl, .refl _⟩, ⟨_, rfl, .refl _⟩, ⟨_, rfl, .refl _⟩, ⟨_, rfl, .refl _⟩, ⟨_, rfl, .refl _⟩, ⟨_, rfl, .refl _⟩, ⟨_, rfl, .refl _⟩, ⟨_, rfl, .refl _⟩, ⟨_, rfl, .refl _⟩, trivial⟩, .refl _⟩ ?_
    rintro ⟨f, S2⟩ ⟨hfle, hj2⟩
    dsimp only at hfle hj2
    refine go hT 10000 rfl ?_
    conv => whnf
    refine run_split rfl (fun hltf => ?_) (fun hltf => ?_)
    · simp only [decide_eq_true_eq, Int.ofNat_lt] at hltf
      obtain ⟨hfn1, hfn2⟩ := tk.fn t hlu hlt
      have hlfu : f < us[t].length := by omega
      obtain ⟨ho1, ho2⟩ := tk.op t f hlu hlt hlfu hltf
      refine go hT 10000 rfl ?_
      conv => whnf
      refine ops_g rfl (g_indexM (xs := vs[t]) hT rfl rfl rfl rfl rfl hltf rfl) ?_
      refine go hT 10000 rfl ?_
      conv => whnf
      refine ops_g rfl (g_len hT rfl rfl rfl rfl rfl rfl (List.length_map _)) ?_
      refine go hT 10000 rfl ?_
      conv => whnf
      have hmem2 : vs[t][f] ∈ vs[t] := List.getElem_mem hltf
      have hn := hl.n _ hmem _ hmem2
      refine run_lq (fun x : Nat × Hp => ([(0, .yield l), (1, .pin (heldV us vs) 0), (2, .pin (modV m) 0), (12, .slice .no (vs.map tabV)), (13, .int .i64 vs.length), (14, .int .i64 t), (4, .int .i64 t), (5, .slice .no (vs[t].map oneRow)), (19, .slice .no (vs[t].map oneRow)), (20, .int .i64 vs[t].length), (21, .int .i64 f), (6, .int .i64 f), (26, .slice .no (vs[t][f].map intV)), (27, .int .i64 vs[t][f].length), (28, .int .i64 x.1)], x.2))
        (fun x => x.1 ≤ vs[t][f].length ∧ J (stopM m us vs t ++ stopT m us[t] vs[t] f ++ stopF m f us[t][f] vs[t][f] x.1) x.2) (fun x => vs[t][f].length - x.1) (0, S2) ⟨Nat.zero_le _, by simpa [stopF] using hj2⟩ ⟨⟨⟨_, rfl, .refl _⟩, ⟨_, rfl, .refl _⟩, ⟨_, rfl, .refl _⟩, ⟨_, rfl, .refl _⟩, ⟨_, rfl, .refl _⟩, ⟨_, rfl, .refl _⟩, ⟨_, rfl, .refl _⟩, ⟨_, rfl, .refl _⟩, ⟨_, rfl, .refl _⟩, ⟨_, rfl, .refl _⟩, ⟨_, rfl, .refl _⟩, ⟨_, rfl, .refl _⟩, ⟨_, rfl, .refl _⟩, ⟨_, rfl, .refl _⟩, ⟨_, rfl, .refl _⟩, trivial⟩, .refl _⟩ ?_
      rintro ⟨n, S3⟩ ⟨hnle, hj3⟩
      dsimp only at hnle hj3
      refine go hT 10000 rfl ?_
      conv => whnf
      refine run_split rfl (fun hltn => ?_) (fun hltn => ?_)
      · simp only [decide_eq_true_eq, Int.ofNat_lt] at hltn
        have hlnu : n < us[t][f].length := by omega
        have hfl : f < m.funcs.length := by omega
        have hnl : n < m.funcs[f].code.length := by
          have : m.fn (f : Int) = m.funcs[f] := by unfold MModule.fn; rw [Int.toNat_natCast, List.getElem?_eq_getElem hfl]; rfl
          rw [this] at ho2; omega
        have hop : opAt m f n = m.funcs[f].code[n] := by
          unfold opAt MModule.fn
          rw [Int.toNat_natCast, List.getElem?_eq_getElem hfl]
          exact op_nat2 _ _ hnl
        have hin : stopB (opAt m f n) vs[t][f][n] = true → (m.funcs[f].code[n], us[t][f][n], vs[t][f][n]) ∈ stopsP m us vs := fun hst =>
          stops_mem.2 ⟨t, f, n, us[t], vs[t], us[t][f][n], vs[t][f][n], List.getElem?_eq_getElem hlu, List.getElem?_eq_getElem hlt, us[t][f], vs[t][f], List.getElem?_eq_getElem hlfu, List.getElem?_eq_getElem hltf, List.getElem?_eq_getElem hlnu, List.getElem?_eq_getElem hltn, hst, by rw [hop]⟩
        have hlen : stopB (opAt m f n) vs[t][f][n] = true → (stopM m us vs t ++ stopT m us[t] vs[t] f ++ stopF m f us[t][f] vs[t][f] n ++ [(m.funcs[f].code[n], us[t][f][n], vs[t][f][n])]).length ≤ (stopsP m us vs).length := fun hst => by
          have e1 := flat_mono (g := stopR m f us[t][f] vs[t][f]) (a := n + 1) (b := vs[t][f].length) hltn
          have e2 := flat_mono (g := stopT1 m us[t] vs[t]) (a := f + 1) (b := vs[t].length) hltf
          have e3 := flat_mono (g := stopM1 m us vs) (a := t + 1) (b := vs.length) hlt
          have f1 := congrArg List.length (stopF_succ m f us[t][f] vs[t][f] n hlnu hltn)
          have f2 := congrArg List.length (stopT_succ m us[t] vs[t] f hlfu hltf)
          have f3 := congrArg List.length (stopM_succ m us vs t hlu hlt)
          rw [if_pos hst] at f1
          simp only [List.length_append, List.length_singleton] at f1 f2 f3 ⊢
          unfold stopsP
          unfold stopF at *
          unfold stopT at *
          unfold stopM at *
          omega
        refine go hT 10000 rfl ?_
        conv => whnf
        refine ops_g rfl (g_indexM (xs := vs[t][f]) hT rfl rfl rfl rfl rfl hltn rfl) ?_
        refine go hT 10000 rfl ?_
        conv => whnf
        refine ops_g rfl (g_indexM (xs := m.funcs) hT rfl rfl rfl rfl rfl hfl rfl) ?_
        refine go hT 10000 rfl ?_
        conv => whnf
        refine ops_g rfl (g_indexM (xs := m.funcs[f].code) hT rfl rfl rfl rfl rfl hnl rfl) ?_
        refine go hT 10000 rfl ?_
        conv => whnf
        refine ops_s rfl (s_alloc hT rfl rfl rfl fun b10 => ?_)
        refine go hT 10000 rfl ?_
        conv => whnf
        refine ops_s rfl (s_store (cs' := opV m.funcs[f].code[n]) hT rfl rfl rfl .here rfl ?_)
        refine go hT 10000 rfl ?_
        conv => whnf
        intro id
        refine run_freeze (t := 10) rfl .here ?_
        refine run_sub (.drop (.refl _)) ?_
        refine run_drw hT rfl rfl ?_ id
        repeat' (first
          | (refine god hT 1 rfl ?_; conv => whnf)
          | refine vd_fin rfl ?_
          | refine q_g rfl (fun S' => (g_len hT rfl rfl rfl rfl rfl rfl (List.length_map _)).qs) ?_
          | refine q_guard rfl rfl rfl rfl (fun h => ?_) (fun h => ?_)
          | refine q_g rfl (fun S' => (g_indexM (xs := us) hT rfl rfl rfl rfl rfl hlu rfl).qs) ?_
          | refine q_g rfl (fun S' => (g_indexM (xs := us[t]) hT rfl rfl rfl rfl rfl hlfu rfl).qs) ?_
          | refine q_g rfl (fun S' => (g_indexM (xs := us[t][f]) hT rfl rfl rfl rfl rfl hlnu rfl).qs) ?_)
        · rename_i h1
          have hst : stopB (opAt m f n) vs[t][f][n] = true := by
            rw [hop]; unfold stopB; rw [h1, h]; rfl
          refine vd_eff1 rfl (eff rfl rfl (s_yield rfl rfl rfl rfl ((hY _ (m.funcs[f].code[n], us[t][f][n], vs[t][f][n]) S3 hj3 (hin hst) (hlen hst)).mono ?_)))
          rintro _ S4 ⟨rfl, hj4⟩
          refine And.intro trivial ?_
          refine god hT 1 rfl ?_
          conv => whnf
          refine vd_fin rfl ?_
          refine go hT 10000 rfl ?_
          conv => whnf
          refine ops_g rfl (g_add rfl rfl rfl (by omega)) ?_
          refine go hT 10000 rfl ?_
          conv => whnf
          refine ⟨(n + 1, S4), ⟨hltn, ?_⟩, by dsimp only; omega, ⟨⟨_, rfl, .refl _⟩, ⟨_, rfl, .refl _⟩, ⟨_, rfl, .refl _⟩, ⟨_, rfl, .refl _⟩, ⟨_, rfl, .refl _⟩, ⟨_, rfl, .refl _⟩, ⟨_, rfl, .refl _⟩, ⟨_, rfl, .refl _⟩, ⟨_, rfl, .refl _⟩, ⟨_, rfl, .refl _⟩, ⟨_, rfl, .refl _⟩, ⟨_, rfl, .refl _⟩, ⟨_, rfl, .refl _⟩, ⟨_, rfl, .refl _⟩, ⟨_, rfl, .refl _⟩, trivial⟩, .refl _⟩
          rw [stopF_succ _ _ _ _ _ hlnu hltn, if_pos hst, hop, ← List.append_assoc]
          exact hj4
        · rename_i h1 h2
          have hst : stopB (opAt m f n) vs[t][f][n] = true := by
            rw [hop]; unfold stopB; rw [h1, h2, h]; rfl
          refine vd_eff1 rfl (eff rfl rfl (s_yield rfl rfl rfl rfl ((hY _ (m.funcs[f].code[n], us[t][f][n], vs[t][f][n]) S3 hj3 (hin hst) (hlen hst)).mono ?_)))
          rintro _ S4 ⟨rfl, hj4⟩
          refine And.intro trivial ?_
          refine god hT 1 rfl ?_
          conv => whnf
          refine vd_fin rfl ?_
          refine go hT 10000 rfl ?_
          conv => whnf
          refine ops_g rfl (g_add rfl rfl rfl (by omega)) ?_
          refine go hT 10000 rfl ?_
          conv => whnf
          refine ⟨(n + 1, S4), ⟨hltn, ?_⟩, by dsimp only; omega, ⟨⟨_, rfl, .refl _⟩, ⟨_, rfl, .refl _⟩, ⟨_, rfl, .refl _⟩, ⟨_, rfl, .refl _⟩, ⟨_, rfl, .refl _⟩, ⟨_, rfl, .refl _⟩, ⟨_, rfl, .refl _⟩, ⟨_, rfl, .refl _⟩, ⟨_, rfl, .refl _⟩, ⟨_, rfl, .refl _⟩, ⟨_, rfl, .refl _⟩, ⟨_, rfl, .refl _⟩, ⟨_, rfl, .refl _⟩, ⟨_, rfl, .refl _⟩, ⟨_, rfl, .refl _⟩, trivial⟩, .refl _⟩
          rw [stopF_succ _ _ _ _ _ hlnu hltn, if_pos hst, hop, ← List.append_assoc]
          exact hj4
        · rename_i h1 h2
          have hst : ¬ stopB (opAt m f n) vs[t][f][n] = true := by
            rw [hop]; unfold stopB; rw [h1, h2, h]; decide
          refine go hT 10000 rfl ?_
          conv => whnf
          refine ops_g rfl (g_add rfl rfl rfl (by omega)) ?_
          refine go hT 10000 rfl ?_
          conv => whnf
          refine ⟨(n + 1, S3), ⟨hltn, ?_⟩, by dsimp only; omega, ⟨⟨_, rfl, .refl _⟩, ⟨_, rfl, .refl _⟩, ⟨_, rfl, .refl _⟩, ⟨_, rfl, .refl _⟩, ⟨_, rfl, .refl _⟩, ⟨_, rfl, .refl _⟩, ⟨_, rfl, .refl _⟩, ⟨_, rfl, .refl _⟩, ⟨_, rfl, .refl _⟩, ⟨_, rfl, .refl _⟩, ⟨_, rfl, .refl _⟩, ⟨_, rfl, .refl _⟩, ⟨_, rfl, .refl _⟩, ⟨_, rfl, .refl _⟩, ⟨_, rfl, .refl _⟩, trivial⟩, .refl _⟩
          rw [stopF_succ _ _ _ _ _ hlnu hltn, if_neg hst, List.append_nil]
          exact hj3
        · have hst : ¬ stopB (opAt m f n) vs[t][f][n] = true := by
            rw [hop]; unfold stopB; rw [h, Bool.false_and]; decide
          refine go hT 10000 rfl ?_
          conv => whnf
          refine ops_g rfl (g_add rfl rfl rfl (by omega)) ?_
          refine go hT 10000 rfl ?_
          conv => whnf
          refine ⟨(n + 1, S3), ⟨hltn, ?_⟩, by dsimp only; omega, ⟨⟨_, rfl, .refl _⟩, ⟨_, rfl, .refl _⟩, ⟨_, rfl, .refl _⟩, ⟨_, rfl, .refl _⟩, ⟨_, rfl, .refl _⟩, ⟨_, rfl, .refl _⟩, ⟨_, rfl, .refl _⟩, ⟨_, rfl, .refl _⟩, ⟨_, rfl, .refl _⟩, ⟨_, rfl, .refl _⟩, ⟨_, rfl, .refl _⟩, ⟨_, rfl, .refl _⟩, ⟨_, rfl, .refl _⟩, ⟨_, rfl, .refl _⟩, ⟨_, rfl, .refl _⟩, trivial⟩, .refl _⟩
          rw [stopF_succ _ _ _ _ _ hlnu hltn, if_neg hst, List.append_nil]
          exact hj3
      · simp only [decide_eq_false_iff_not, Int.ofNat_lt] at hltn
        have : n = vs[t][f].length := by omega
        subst this
        refine go hT 10000 rfl ?_
        conv => whnf
        refine ops_g rfl (g_add rfl rfl rfl (by omega)) ?_
        refine go hT 10000 rfl ?_
        conv => whnf
        refine ⟨(f + 1, S3), ⟨hltf, ?_⟩, by dsimp only; omega, ⟨⟨_, rfl, .refl _⟩, ⟨_, rfl, .refl _⟩, ⟨_, rfl, .refl _⟩, ⟨_, rfl, .refl _⟩, ⟨_, rfl, .refl _⟩, ⟨_, rfl, .refl _⟩, ⟨_, rfl, .refl _⟩, ⟨_, rfl, .refl _⟩, ⟨_, rfl, .refl _⟩, ⟨_, rfl, .refl _⟩, ⟨_, rfl, .refl _⟩, trivial⟩, .refl _⟩
        rw [stopT_succ _ _ _ _ hlfu hltf, ← List.append_assoc]
        exact hj3
    · simp only [decide_eq_false_iff_not, Int.ofNat_lt] at hltf
      have : f = vs[t].length := by omega
      subst this
      refine go hT 10000 rfl ?_
      conv => whnf
      have := hl.t
      refine ops_g rfl (g_add rfl rfl rfl (by omega)) ?_
      refine go hT 10000 rfl ?_
      conv => whnf
      refine ⟨(t + 1, S2), ⟨hlt, ?_⟩, by dsimp only; omega, ⟨⟨_, rfl, .refl _⟩, ⟨_, rfl, .refl _⟩, ⟨_, rfl, .refl _⟩, ⟨_, rfl, .refl _⟩, ⟨_, rfl, .refl _⟩, ⟨_, rfl, .refl _⟩, trivial⟩, .refl _⟩
      rw [stopM_succ _ _ _ _ hlu hlt]
      exact hj2
  · simp only [decide_eq_false_iff_not, Int.ofNat_lt] at hlt
    refine go hT 10000 rfl ?_
    conv => whnf
    refine ret_of .nil ?_
    have : t = vs.length := by omega
    subst this
    exact hj
end
end Go.Vw
namespace Go.Vw
open Go.RowKit Go.Am Go.Proofs Go.Ord
attribute [local irreducible] VOps VRun VNext VD VDn VDq Ret
theorem At.end : ∀ (S : Hp) (h : HE), At (S ++ [h]) h (fun x => S ++ [x])
  | [], _ => .here
  | _ :: S, h => .there (At.end S h)
theorem rot_perm {α : Type} (a m : α) (l : List α) : List.Perm (a :: (l ++ [m])) (l ++ [m, a]) := by
  have := List.perm_append_comm (l₁ := [a]) (l₂ := l ++ [m])
  simpa using this
theorem rot_perm2 {α : Type} (a m : α) (l : List α) : List.Perm (l ++ [m, a]) (a :: (l ++ [m])) := (rot_perm a m l).symm
def prs (p : Int × Int) : List V := [.int .i64 p.1, .int .i64 p.2]
def prV (p : Int × Int) : V := .agg (prs p)
def prB (e : Nat × Int × Int) : Nat × V × V := (e.1, prV e.2, .agg [])
section
variable [Drw] (hT : TabOk tab Tryz.prog)
include hT
/-- maps.Keys(m): a function that goes through the map. -/
theorem keysOf (b : Nat) : Pure Tryz.prog 84 [.map b] (.func 149 [] [.pin [.map b] 0]) := by
  refine VC.code hT 4 rfl rfl rfl rfl fun F w S0 => ?_
  refine go hT 10000 rfl ?_
  conv => whnf
  refine ops_s rfl (s_boxF rfl rfl rfl ?_)
  refine go hT 10000 rfl ?_
  conv => whnf
  exact ret_of (.tmp rfl .nil) rfl
/-- Where a loop over the keys goes through the map. -/
theorem keysP (l b cl : Nat) (es : List (Nat × Int × Int)) (J : List (Int × Int) → Hp → Prop)
    (hY : ∀ pre p S, J pre S → pre.length < es.length → VY Tryz.prog l [prV p] S fun v S' => v = .bool true ∧ J (pre ++ [p]) S') (S : Hp) (h0 : J [] S) :
    VC Tryz.prog 149 [.yield l, .pin [.map b] 0] (S ++ [.mapB b (es.map prB) cl]) fun _ S' => ∃ ks S1, List.Perm ks (es.map (·.2)) ∧ J ks S1 ∧ S' = S1 ++ [.mapB b (es.map prB) cl] := by
  refine VC.code hT 14 rfl rfl rfl rfl fun F w S0 => ?_
  refine go hT 10000 rfl ?_
  conv => whnf
  refine ops_s rfl (s_rangeB hT rfl rfl rfl (At.end S _) fun r e2 => ?_)
  have e2' : (es.map (·.1)).Nodup := by rw [List.map_map] at e2; exact e2
  refine go hT 10000 rfl ?_
  conv => whnf
  refine run_lq (fun x : List (Nat × Int × Int) × List (Nat × Int × Int) × Hp => ([(0, .yield l), (5, .ptr r 0)], .iter r b cl (x.1.map (·.1)) :: (x.2.2 ++ [.mapB b (es.map prB) cl])))
    (fun x => List.Perm (x.1 ++ x.2.1) es ∧ J (x.1.map (·.2)) x.2.2) (fun x => x.2.1.length) ([], es, S) ⟨.refl _, h0⟩ ⟨⟨⟨_, rfl, .refl _⟩, ⟨_, rfl, .refl _⟩, trivial⟩, .refl _⟩ ?_
  rintro ⟨ds, left, Sx⟩ ⟨hp, hj⟩
  dsimp only at hp hj
  have hnd : ((ds ++ left).map (·.1)).Nodup := (hp.map (·.1)).nodup_iff.2 e2'
  refine go hT 10000 rfl ?_
  conv => whnf
  refine ops_s rfl (s_next rfl rfl rfl .here (es := es.map prB) (by simp) (fun hall => ?_) fun e he hne => ?_)
  · have hleft : left = [] := by
      cases left with
      | nil => rfl
      | cons x left =>
        exfalso
        have hx : x ∈ es := hp.mem_iff.1 (by simp)
        have hs := hall _ (List.mem_map.2 ⟨x, hx, rfl⟩)
        rw [List.map_append, List.nodup_append] at hnd
        exact hnd.2.2 x.1 hs x.1 (by simp) rfl
    subst hleft
    refine ops_sub (.drop (.refl _)) ?_
    refine go hT 10000 rfl ?_
    conv => whnf
    exact ret_of .nil ⟨ds.map (·.2), Sx, by have := hp.map (·.2); rwa [List.append_nil] at this, hj, rfl⟩
  · obtain ⟨x, hx, rfl⟩ := List.mem_map.1 he
    have hxl : x ∈ left := by
      rcases List.mem_append.1 (hp.mem_iff.2 hx) with h | h
      · exact absurd (List.mem_map.2 ⟨x, h, rfl⟩) hne
      · exact h
    obtain ⟨l1, l2, rfl⟩ := List.append_of_mem hxl
    obtain ⟨n, p⟩ := x
    have hlen : (ds.map (·.2)).length < es.length := by
      rw [← hp.length_eq]; simp
      omega
    refine go hT 10000 rfl ?_
    conv => whnf
    refine ops_s rfl (s_entry (b := b) (cl := cl) rfl rfl rfl (seen := ds.map (·.1)) (List.mem_cons_self ..) (by simp) he (by rw [List.map_map]; exact e2') ?_)
    refine go hT 10000 rfl ?_
    conv => whnf
    refine ops_s rfl (s_alloc hT rfl rfl rfl fun b3 => ?_)
    refine go hT 10000 rfl ?_
    conv => whnf
    refine ops_s rfl (s_store (cs' := prs p) hT rfl rfl rfl .here rfl ?_)
    refine go hT 10000 rfl ?_
    conv => whnf
    refine ops_g rfl (g_load hT rfl rfl .here rfl) ?_
    refine go hT 10000 rfl ?_
    conv => whnf
    refine ops_sub (.drop (.refl _)) ?_
    refine ops_perm (S' := Sx ++ [.mapB b (es.map prB) cl, .iter r b cl (ds.map (·.1) ++ [n])]) ?_ ?_
    · exact rot_perm _ _ _
    refine ops_s rfl (s_yield rfl rfl rfl rfl (((hY _ p Sx hj hlen).frame [.mapB b (es.map prB) cl, .iter r b cl (ds.map (·.1) ++ [n])]).mono ?_))
    rintro v S' ⟨S1, rfl, rfl, hj1⟩
    refine ops_perm (S' := .iter r b cl (ds.map (·.1) ++ [n]) :: (S1 ++ [.mapB b (es.map prB) cl])) ?_ ?_
    · exact rot_perm2 _ _ _
    refine go hT 10000 rfl ?_
    conv => whnf
    refine ⟨(ds ++ [(n, p)], l1 ++ l2, S1), ⟨?_, by simpa using hj1⟩, by simp, ⟨⟨_, rfl, .refl _⟩, ⟨_, rfl, .refl _⟩, trivial⟩, by simp only [List.map_append]; exact Sub.refl _⟩
    refine List.Perm.trans ?_ hp
    simp only [List.append_assoc]
    refine List.Perm.append_left _ ?_
    exact (List.perm_middle (l₁ := l1)).symm
end
end Go.Vw
namespace Go.Vw
open Go.RowKit Go.Am Go.Proofs Go.Ord
attribute [local irreducible] VOps VRun VNext VD VDn VDq Ret
/-- A row of pairs that has been collected: nil, or cells. -/
def ColP (ks : List (Int × Int)) (v : V) (R : Hp) : Prop := (ks = [] ∧ v = .slice .zero [] ∧ R = []) ∨ (ks ≠ [] ∧ ∃ b' c r, v = .ref b' 0 ks.length c ∧ c * 2 = ks.length * 2 + r ∧ R = [.cells b' ((ks.map prs).flatten ++ List.replicate r .any) 44])
theorem rot3 {α : Type} (a b c : α) : List.Perm [a, b, c] [b, c, a] := List.perm_append_comm (l₁ := [a]) (l₂ := [b, c])
section
variable [Drw] (hT : TabOk tab Tryz.prog)
include hT
theorem appendP (b cl : Nat) (es : List (Nat × Int × Int)) (hl : es.length < 60000000) :
    VC Tryz.prog 199 [.slice .zero [], .func 149 [] [.pin [.map b] 0]] [.mapB b (es.map prB) cl] fun v S' => ∃ ks R, List.Perm ks (es.map (·.2)) ∧ ColP ks v R ∧ S' = R ++ [.mapB b (es.map prB) cl] := by
  refine VC.code hT 13 rfl rfl rfl rfl fun F w S0 => ?_
  refine go hT 10000 rfl ?_
  conv => whnf
  refine ops_s rfl (s_box rfl rfl rfl fun bs => ?_)
  refine go hT 10000 rfl ?_
  conv => whnf
  refine run_rangeL hT rfl rfl rfl rfl rfl fun l L hL => ?_
  refine (keysP hT l b cl es (fun pre S => ∃ v R, ColP pre v R ∧ S = [.loop false l L, .cells bs [v] 31] ++ R) ?_ [.loop false l L, .cells bs [.slice .zero []] 31] ⟨_, [], .inl ⟨rfl, rfl, rfl⟩, rfl⟩).mono ?_
  · rintro pre p S1 ⟨v, R, hc, rfl⟩ hle
    subst hL
    refine VY.of .here rfl rfl fun m F w S0 => ?_
    refine go hT 10000 rfl ?_
    conv => whnf
    refine ops_s rfl (s_alloc hT rfl rfl rfl fun b5 => ?_)
    refine go hT 10000 rfl ?_
    conv => whnf
    refine ops_s rfl (s_store (cs' := prs p) hT rfl rfl rfl .here rfl ?_)
    refine go hT 10000 rfl ?_
    conv => whnf
    refine ⟨rfl, _, .there .here, fun F w S0 ds => ?_⟩
    rcases hc with ⟨rfl, rfl, rfl⟩ | ⟨hne, b', c, r, rfl, hcr, rfl⟩
    · refine go hT 10000 rfl ?_
      conv => whnf
      refine ops_g rfl (g_load hT rfl rfl (.there (.there .here)) rfl) ?_
      refine go hT 10000 rfl ?_
      conv => whnf
      refine ops_g rfl (g_load hT rfl rfl .here rfl) ?_
      refine go hT 10000 rfl ?_
      conv => whnf
      refine ops_s rfl (s_listF hT rfl rfl rfl rfl rfl rfl rfl rfl ?_)
      refine go hT 10000 rfl ?_
      conv => whnf
      refine ops_sub (.no (.drop (.refl _))) ?_
      refine ops_s rfl (s_append0 hT rfl rfl rfl rfl rfl rfl rfl rfl rfl rfl .here (fun r hr => by rw [List.mem_singleton.1 hr]; rfl) Nat.zero_lt_one (by show 1 < _; omega) fun b' c' r' hcr => ?_)
      refine go hT 10000 rfl ?_
      conv => whnf
      refine ops_s rfl (s_store (cs' := [.ref b' 0 1 c']) hT rfl rfl rfl (.there (.there .here)) rfl ?_)
      refine ops_perm (rot3 _ _ _) ?_
      refine go hT 10000 rfl ?_
      conv => whnf
      refine ⟨rfl, _, .here, rfl, .ref b' 0 1 c', _, .inr ⟨by simp, b', c', r', rfl, hcr, rfl⟩, ?_⟩
      simp [prs]
    · refine go hT 10000 rfl ?_
      conv => whnf
      refine ops_g rfl (g_load hT rfl rfl (.there (.there .here)) rfl) ?_
      refine go hT 10000 rfl ?_
      conv => whnf
      refine ops_g rfl (g_load hT rfl rfl .here rfl) ?_
      refine go hT 10000 rfl ?_
      conv => whnf
      refine ops_s rfl (s_listF hT rfl rfl rfl rfl rfl rfl rfl rfl ?_)
      refine go hT 10000 rfl ?_
      conv => whnf
      refine ops_sub (.drop (.refl _)) ?_
      have hcl : ((pre.map prs).flatten).length = pre.length * 2 := by
        have := (flat_get (pre.map prs) (sz := 2) fun r hr => by obtain ⟨x, _, rfl⟩ := List.mem_map.1 hr; rfl).1
        rwa [List.length_map] at this
      refine ops_s rfl (s_appendR hT rfl rfl rfl rfl rfl rfl rfl rfl rfl rfl (.there (.there .here)) hcl hcr (fun r hr => by rw [List.mem_singleton.1 hr]; rfl) (fun r hr => by rw [List.mem_singleton.1 hr]; rfl) (by show pre.length + 1 < _; omega) fun b' c' r' hcr => ?_)
      refine go hT 10000 rfl ?_
      conv => whnf
      refine ops_s rfl (s_store (cs' := [.ref b' 0 (pre.length + 1) c']) hT rfl rfl rfl (.there .here) rfl ?_)
      refine go hT 10000 rfl ?_
      conv => whnf
      refine ⟨rfl, _, .here, rfl, .ref b' 0 (pre.length + 1) c', _, .inr ⟨by simp, b', c', r', by simp, by rw [List.length_append]; exact hcr, rfl⟩, ?_⟩
      simp [prs]
  · rintro _ S' ⟨ks, S1, hperm, hj, rfl⟩
    obtain ⟨v, R, hc, rfl⟩ := hj
    refine ⟨_, rfl, fun σ' h1 h2 => ?_⟩
    obtain ⟨r', m', n', F', w', S0', ds'⟩ := σ'
    dsimp only at h1 h2
    subst h1 h2
    rcases hc with ⟨rfl, rfl, rfl⟩ | ⟨hne, b', c, r, rfl, hcr, rfl⟩
    · refine go hT 10000 rfl ?_
      conv => whnf
      refine ops_g rfl (g_load hT rfl rfl .here rfl) ?_
      refine ops_sub (.drop (.refl _)) ?_
      refine go hT 10000 rfl ?_
      conv => whnf
      exact ret_of (.tmp rfl .nil) ⟨[], [], hperm, .inl ⟨rfl, rfl, rfl⟩, rfl⟩
    · refine go hT 10000 rfl ?_
      conv => whnf
      refine ops_g rfl (g_load hT rfl rfl .here rfl) ?_
      refine ops_sub (.drop (.refl _)) ?_
      refine go hT 10000 rfl ?_
      conv => whnf
      exact ret_of (.tmp rfl .nil) ⟨ks, _, hperm, .inr ⟨hne, b', c, r, rfl, hcr, rfl⟩, rfl⟩
end
end Go.Vw
namespace Go.Vw
open Go.RowKit Go.Am Go.Proofs Go.Ord
attribute [local irreducible] VOps VRun VNext VD VDn VDq Ret
def cmpI (x y : Int) : Int := if x < y then -1 else if y < x then 1 else 0
def cmpS (x y : ByteArray) : Int := if lessS x y = true then -1 else if x = y then 0 else 1
def cmpL : List Int → List Int → Int
  | [], [] => 0
  | [], _ :: _ => -1
  | _ :: _, [] => 1
  | x :: xs, y :: ys => if cmpI x y = 0 then cmpL xs ys else cmpI x y
/-- The first that is not 0. -/
def orL : List Int → Int
  | [] => 0
  | x :: xs => if x = 0 then orL xs else x
section
variable [Drw] (hT : TabOk tab Tryz.prog)
include hT
theorem nanInt (x : Int) : Pure Tryz.prog 92 [.int .i64 x] (.ob false) := by
  refine VC.code hT 6 rfl rfl rfl rfl fun F w S0 => ?_
  refine go hT 10000 rfl ?_
  conv => whnf
  refine ret_bool rfl rfl rfl ?_
  simp
theorem nanErr (x : Int) : Pure Tryz.prog 93 [.int .i64 x] (.ob false) := by
  refine VC.code hT 6 rfl rfl rfl rfl fun F w S0 => ?_
  refine go hT 10000 rfl ?_
  conv => whnf
  refine ret_bool rfl rfl rfl ?_
  simp
theorem nanStr (x : ByteArray) : Pure Tryz.prog 94 [.str x] (.ob false) := by
  refine VC.code hT 6 rfl rfl rfl rfl fun F w S0 => ?_
  refine go hT 10000 rfl ?_
  conv => whnf
  refine ret_bool rfl rfl rfl ?_
  simp
theorem compareInt (x y : Int) : Pure Tryz.prog 45 [.int .i64 x, .int .i64 y] (.int .i64 (cmpI x y)) := by
  refine VC.code hT 20 rfl rfl rfl rfl fun F w S0 => ?_
  refine go hT 10000 rfl ?_
  conv => whnf
  refine ops_s rfl (s_pure hT rfl rfl rfl rfl rfl rfl (nanInt hT x) ?_)
  refine go hT 10000 rfl ?_
  conv => whnf
  refine ops_s rfl (s_pure hT rfl rfl rfl rfl rfl rfl (nanInt hT y) ?_)
  refine go hT 10000 rfl ?_
  conv => whnf
  refine run_f rfl rfl ?_
  refine go hT 10000 rfl ?_
  conv => whnf
  refine run_f rfl rfl ?_
  refine go hT 10000 rfl ?_
  conv => whnf
  refine run_split rfl (fun h => ?_) (fun h => ?_)
  · simp only [decide_eq_true_eq] at h
    refine go hT 10000 rfl ?_
    conv => whnf
    refine ret_of (.tmp rfl .nil) ?_
    unfold cmpI; rw [if_pos h]; rfl
  · simp only [decide_eq_false_iff_not] at h
    refine go hT 10000 rfl ?_
    conv => whnf
    refine run_split rfl (fun h2 => ?_) (fun h2 => ?_)
    · simp only [decide_eq_true_eq] at h2
      refine go hT 10000 rfl ?_
      conv => whnf
      refine ret_of (.tmp rfl .nil) ?_
      unfold cmpI; rw [if_neg h, if_pos h2]; rfl
    · simp only [decide_eq_false_iff_not] at h2
      refine go hT 10000 rfl ?_
      conv => whnf
      refine ret_of (.tmp rfl .nil) ?_
      unfold cmpI; rw [if_neg h, if_neg h2]; rfl
theorem compareErr (x y : Int) : Pure Tryz.prog 46 [.int .i64 x, .int .i64 y] (.int .i64 (cmpI x y)) := by
  refine VC.code hT 20 rfl rfl rfl rfl fun F w S0 => ?_
  refine go hT 10000 rfl ?_
  conv => whnf
  refine ops_s rfl (s_pure hT rfl rfl rfl rfl rfl rfl (nanErr hT x) ?_)
  refine go hT 10000 rfl ?_
  conv => whnf
  refine ops_s rfl (s_pure hT rfl rfl rfl rfl rfl rfl (nanErr hT y) ?_)
  refine go hT 10000 rfl ?_
  conv => whnf
  refine run_f rfl rfl ?_
  refine go hT 10000 rfl ?_
  conv => whnf
  refine run_f rfl rfl ?_
  refine go hT 10000 rfl ?_
  conv => whnf
  refine run_split rfl (fun h => ?_) (fun h => ?_)
  · simp only [decide_eq_true_eq] at h
    refine go hT 10000 rfl ?_
    conv => whnf
    refine ret_of (.tmp rfl .nil) ?_
    unfold cmpI; rw [if_pos h]; rfl
  · simp only [decide_eq_false_iff_not] at h
    refine go hT 10000 rfl ?_
    conv => whnf
    refine run_split rfl (fun h2 => ?_) (fun h2 => ?_)
    · simp only [decide_eq_true_eq] at h2
      refine go hT 10000 rfl ?_
      conv => whnf
      refine ret_of (.tmp rfl .nil) ?_
      unfold cmpI; rw [if_neg h, if_pos h2]; rfl
    · simp only [decide_eq_false_iff_not] at h2
      refine go hT 10000 rfl ?_
      conv => whnf
      refine ret_of (.tmp rfl .nil) ?_
      unfold cmpI; rw [if_neg h, if_neg h2]; rfl
theorem compareStr (x y : ByteArray) : Pure Tryz.prog 47 [.str x, .str y] (.int .i64 (cmpS x y)) := by
  refine VC.code hT 20 rfl rfl rfl rfl fun F w S0 => ?_
  refine go hT 10000 rfl ?_
  conv => whnf
  refine ops_s rfl (s_pure hT rfl rfl rfl rfl rfl rfl (nanStr hT x) ?_)
  refine go hT 10000 rfl ?_
  conv => whnf
  refine ops_s rfl (s_pure hT rfl rfl rfl rfl rfl rfl (nanStr hT y) ?_)
  refine go hT 10000 rfl ?_
  conv => whnf
  refine run_f rfl rfl ?_
  refine go hT 10000 rfl ?_
  conv => whnf
  refine run_f rfl rfl ?_
  refine go hT 10000 rfl ?_
  conv => whnf
  refine run_split rfl (fun h => ?_) (fun h => ?_)
  · have h : lessS x y = true := h
    refine go hT 10000 rfl ?_
    conv => whnf
    refine ret_of (.tmp rfl .nil) ?_
    unfold cmpS; rw [if_pos h]; rfl
  · have h : lessS x y = false := h
    refine go hT 10000 rfl ?_
    conv => whnf
    refine run_split rfl (fun h2 => ?_) (fun h2 => ?_)
    · have h2 : (!(lessS x y || eqB (Am.bytes x) (Am.bytes y))) = true := h2
      rw [beq_bytes, beq_str, h] at h2
      refine go hT 10000 rfl ?_
      conv => whnf
      refine ret_of (.tmp rfl .nil) ?_
      unfold cmpS; rw [if_neg (by rw [h]; decide), if_neg (by simpa using h2)]; rfl
    · have h2 : (!(lessS x y || eqB (Am.bytes x) (Am.bytes y))) = false := h2
      rw [beq_bytes, beq_str, h] at h2
      refine go hT 10000 rfl ?_
      conv => whnf
      refine ret_of (.tmp rfl .nil) ?_
      unfold cmpS; rw [if_neg (by rw [h]; decide), if_pos (by simpa using h2)]; rfl
theorem orInt {t : Tok} (xs : List Int) (hl : xs.length < 2000000) : Pure Tryz.prog 44 [.slice t (xs.map intV)] (.int .i64 (orL xs)) := by
  refine VC.code hT 18 rfl rfl rfl rfl fun F w S0 => ?_
  refine go hT 10000 rfl ?_
  conv => whnf
  refine ops_g rfl (g_len hT rfl rfl rfl rfl rfl rfl (List.length_map _)) ?_
  refine go hT 10000 rfl ?_
  conv => whnf
  refine run_lq (fun i : Nat => ([(3, .int .i64 0), (6, .slice t (xs.map intV)), (7, .int .i64 xs.length), (8, .int .i64 i)], [])) (fun i => i ≤ xs.length ∧ orL xs = orL (xs.drop i)) (fun i => xs.length - i) 0 ⟨Nat.zero_le _, rfl⟩ ⟨⟨⟨_, rfl, .refl _⟩, ⟨_, rfl, .refl _⟩, ⟨_, rfl, .refl _⟩, ⟨_, rfl, .refl _⟩, trivial⟩, .nil⟩ ?_
  rintro i ⟨hi, ho⟩
  refine go hT 10000 rfl ?_
  conv => whnf
  refine run_split rfl (fun hlt => ?_) (fun hlt => ?_)
  · simp only [decide_eq_true_eq, Int.ofNat_lt] at hlt
    rw [List.drop_eq_getElem_cons hlt] at ho
    refine go hT 10000 rfl ?_
    conv => whnf
    refine ops_g rfl (g_indexM (xs := xs) hT rfl rfl rfl rfl rfl hlt rfl) ?_
    refine go hT 10000 rfl ?_
    conv => whnf
    refine run_split rfl (fun h => ?_) (fun h => ?_)
    · simp only [Bool.not_eq_true', decide_eq_false_iff_not] at h
      refine go hT 10000 rfl ?_
      conv => whnf
      refine ret_of (.tmp rfl .nil) ?_
      rw [ho, orL, if_neg h]; rfl
    · simp only [Bool.not_eq_false', decide_eq_true_eq] at h
      refine go hT 10000 rfl ?_
      conv => whnf
      refine ops_g rfl (g_add rfl rfl rfl (by omega)) ?_
      refine go hT 10000 rfl ?_
      conv => whnf
      exact ⟨i + 1, ⟨hlt, by rw [ho, orL, if_pos h]⟩, by omega, ⟨⟨_, rfl, .refl _⟩, ⟨_, rfl, .refl _⟩, ⟨_, rfl, .refl _⟩, ⟨_, rfl, .refl _⟩, trivial⟩, .nil⟩
  · simp only [decide_eq_false_iff_not, Int.ofNat_lt] at hlt
    refine go hT 10000 rfl ?_
    conv => whnf
    refine ret_of (.tmp rfl .nil) ?_
    rw [ho, List.drop_of_length_le (by omega)]; rfl
theorem compareInts {t1 t2 : Tok} (xs ys : List Int) (hl : xs.length < 2000000) : Pure Tryz.prog 86 [.slice t1 (xs.map intV), .slice t2 (ys.map intV)] (.int .i64 (cmpL xs ys)) := by
  refine VC.code hT 36 rfl rfl rfl rfl fun F w S0 => ?_
  refine go hT 10000 rfl ?_
  conv => whnf
  refine ops_g rfl (g_len hT rfl rfl rfl rfl rfl rfl (List.length_map _)) ?_
  refine go hT 10000 rfl ?_
  conv => whnf
  refine run_lq (fun i : Nat => ([(0, .slice t1 (xs.map intV)), (1, .slice t2 (ys.map intV)), (9, .slice t1 (xs.map intV)), (10, .int .i64 xs.length), (11, .int .i64 i)], [])) (fun i => i ≤ xs.length ∧ i ≤ ys.length ∧ cmpL xs ys = cmpL (xs.drop i) (ys.drop i)) (fun i => xs.length - i) 0 ⟨Nat.zero_le _, Nat.zero_le _, rfl⟩ ⟨⟨⟨_, rfl, .refl _⟩, ⟨_, rfl, .refl _⟩, ⟨_, rfl, .refl _⟩, ⟨_, rfl, .refl _⟩, ⟨_, rfl, .refl _⟩, trivial⟩, .nil⟩ ?_
  rintro i ⟨hi, hi2, ho⟩
  refine go hT 10000 rfl ?_
  conv => whnf
  refine run_split rfl (fun hlt => ?_) (fun hlt => ?_)
  · simp only [decide_eq_true_eq, Int.ofNat_lt] at hlt
    rw [List.drop_eq_getElem_cons hlt] at ho
    refine go hT 10000 rfl ?_
    conv => whnf
    refine ops_g rfl (g_indexM (xs := xs) hT rfl rfl rfl rfl rfl hlt rfl) ?_
    refine go hT 10000 rfl ?_
    conv => whnf
    refine ops_g rfl (g_len hT rfl rfl rfl rfl rfl rfl (List.length_map _)) ?_
    refine go hT 10000 rfl ?_
    conv => whnf
    refine run_split rfl (fun h => ?_) (fun h => ?_)
    · simp only [decide_eq_true_eq, Int.ofNat_le] at h
      refine go hT 10000 rfl ?_
      conv => whnf
      refine ret_of (.tmp rfl .nil) ?_
      rw [ho, List.drop_of_length_le h]; rfl
    · simp only [decide_eq_false_iff_not, Int.ofNat_le] at h
      have hly : i < ys.length := by omega
      rw [List.drop_eq_getElem_cons hly, cmpL] at ho
      refine go hT 10000 rfl ?_
      conv => whnf
      refine ops_g rfl (g_indexM (xs := ys) hT rfl rfl rfl rfl rfl hly rfl) ?_
      refine go hT 10000 rfl ?_
      conv => whnf
      refine ops_s rfl (s_pure hT rfl rfl rfl rfl rfl rfl (compareInt hT xs[i] ys[i]) ?_)
      refine go hT 10000 rfl ?_
      conv => whnf
      refine run_split rfl (fun h => ?_) (fun h => ?_)
      · simp only [Bool.not_eq_true', decide_eq_false_iff_not] at h
        refine go hT 10000 rfl ?_
        conv => whnf
        refine ret_of (.tmp rfl .nil) ?_
        rw [ho, if_neg h]; rfl
      · simp only [Bool.not_eq_false', decide_eq_true_eq] at h
        refine go hT 10000 rfl ?_
        conv => whnf
        refine ops_g rfl (g_add rfl rfl rfl (by omega)) ?_
        refine go hT 10000 rfl ?_
        conv => whnf
        exact ⟨i + 1, ⟨hlt, hly, by rw [ho, if_pos h]⟩, by omega, ⟨⟨_, rfl, .refl _⟩, ⟨_, rfl, .refl _⟩, ⟨_, rfl, .refl _⟩, ⟨_, rfl, .refl _⟩, ⟨_, rfl, .refl _⟩, trivial⟩, .nil⟩
  · simp only [decide_eq_false_iff_not, Int.ofNat_lt] at hlt
    refine go hT 10000 rfl ?_
    conv => whnf
    refine ops_g rfl (g_len hT rfl rfl rfl rfl rfl rfl (List.length_map _)) ?_
    refine go hT 10000 rfl ?_
    conv => whnf
    refine ops_g rfl (g_len hT rfl rfl rfl rfl rfl rfl (List.length_map _)) ?_
    refine go hT 10000 rfl ?_
    conv => whnf
    rw [List.drop_of_length_le (by omega : xs.length ≤ i)] at ho
    refine run_split rfl (fun h => ?_) (fun h => ?_)
    · simp only [decide_eq_true_eq, Int.ofNat_lt] at h
      refine go hT 10000 rfl ?_
      conv => whnf
      refine ret_of (.tmp rfl .nil) ?_
      rw [ho, List.drop_eq_getElem_cons (by omega : i < ys.length)]; rfl
    · simp only [decide_eq_false_iff_not, Int.ofNat_lt] at h
      refine go hT 10000 rfl ?_
      conv => whnf
      refine ret_of (.tmp rfl .nil) ?_
      rw [ho, List.drop_of_length_le (by omega)]; rfl
/-- Pairs, as the closure in order.find holds them against each other. -/
theorem lessPairs (p q : Int × Int) : Pure Tryz.prog 85 [.agg (prs p), .agg (prs q)] (.int .i64 (cmpL [p.1, p.2] [q.1, q.2])) := by
  refine VC.code hT 8 rfl rfl rfl rfl fun F w S0 => ?_
  repeat' (first
    | (refine go hT 10000 rfl ?_; conv => whnf)
    | refine ops_s rfl (s_boxF rfl rfl rfl ?_)
    | refine ops_s rfl (s_listF hT rfl rfl rfl rfl rfl rfl rfl rfl ?_)
    | refine ops_g rfl (g_len hT rfl rfl rfl rfl rfl rfl (List.length_map _)) ?_
    | refine op_guard rfl rfl rfl rfl (fun h => ?_) (fun h => ?_))
  intro id
  refine run_drw hT rfl rfl ?_ id
  repeat' (first
    | (refine god hT 1 rfl ?_; conv => whnf)
    | refine vd_fin rfl ?_
    | refine q_g rfl (fun S' => (g_len hT rfl rfl rfl rfl rfl rfl (List.length_map _)).qs) ?_
    | refine q_guard rfl rfl rfl rfl (fun h => ?_) (fun h => ?_)
    | refine q_g rfl (fun S' => (g_sliceArr hT rfl rfl rfl rfl rfl).qs) ?_)
  refine vd_eff1 rfl (eff rfl rfl (s_pure hT rfl rfl rfl rfl rfl rfl (compareInts hT [p.1, p.2] [q.1, q.2] (by show 2 < _; omega)) (And.intro trivial ?_)))
  refine god hT 1 rfl ?_
  conv => whnf
  refine vd_fin rfl ?_
  refine go hT 10000 rfl ?_
  conv => whnf
  exact ret_of (.tmp rfl .nil) rfl
end
end Go.Vw
namespace Go.Vw
open Go.RowKit Go.Am Go.Proofs Go.Ord Go.Sort
attribute [local irreducible] VOps VRun VNext VD VDn VDq Ret
def cfP (p q : Int × Int) : Int := cmpL [p.1, p.2] [q.1, q.2]
theorem ltOf_cfP : ltOf cfP = ltP := by
  funext p q
  obtain ⟨a, b⟩ := p
  obtain ⟨c, d⟩ := q
  simp only [ltOf, cfP, ltP, cmpL, cmpI]
  by_cases h1 : a < c
  · simp [h1]
  · by_cases h2 : c < a
    · have : a ≠ c := by omega
      simp [h1, h2, this]
    · have : a = c := by omega
      subst this
      by_cases h3 : b < d
      · simp [h3]
      · by_cases h4 : d < b <;> simp [h3, h4]
theorem swoP : SWO (ltOf cfP) := by rw [ltOf_cfP]; exact swo_of tot_ltP.irr tot_ltP.tr tot_ltP.tot
def prE' (p : Int × Int) : List Value := [.int .i64 p.1, .int .i64 p.2]
theorem prs_det (F : Fz) (w : World) (x : Int × Int) (us : List Value) (h : Iss F w (prs x) us) : us = prE' x := by
  cases h with
  | cons h1 h2 =>
    cases h2 with
    | cons h2 h3 =>
      cases h3
      rw [int_inv h1, int_inv h2]; rfl
theorem prs_of (F : Fz) (w : World) (x : Int × Int) : Iss F w (prs x) (prE' x) := .cons (.int _ _) (.cons (.int _ _) .nil)
theorem cell1 : ∀ (x : Int × Int), ∀ v ∈ prE' x, v.oneCell' = true := by
  intro x v hv
  simp only [prE', List.mem_cons, List.not_mem_nil, or_false] at hv
  rcases hv with rfl | rfl <;> rfl
section
variable [Drw] (hT : TabOk tab Tryz.prog)
include hT
theorem collectP (b cl : Nat) (es : List (Nat × Int × Int)) (hl : es.length < 60000000) :
    VC Tryz.prog 147 [.func 149 [] [.pin [.map b] 0]] [.mapB b (es.map prB) cl] fun v S' => ∃ ks R, List.Perm ks (es.map (·.2)) ∧ ColP ks v R ∧ S' = R ++ [.mapB b (es.map prB) cl] := by
  refine VC.code hT 5 rfl rfl rfl rfl fun F w S0 => ?_
  refine go hT 10000 rfl ?_
  conv => whnf
  refine ops_s rfl (s_call hT rfl rfl rfl rfl rfl rfl ((appendP hT b cl es hl).mono ?_))
  rintro v S' ⟨ks, R, hp, hc, rfl⟩
  rcases hc with ⟨rfl, rfl, rfl⟩ | ⟨hne, b', c, r, rfl, hcr, rfl⟩
  · refine go hT 10000 rfl ?_
    conv => whnf
    exact ret_of (.tmp rfl .nil) ⟨[], [], hp, .inl ⟨rfl, rfl, rfl⟩, rfl⟩
  · refine go hT 10000 rfl ?_
    conv => whnf
    exact ret_of (.tmp rfl .nil) ⟨ks, _, hp, .inr ⟨hne, b', c, r, rfl, hcr, rfl⟩, rfl⟩
theorem sortPairsP (b n c r : Nat) (xs : List (Int × Int)) (hn : xs.length = n) (hl : n < 60000000) :
    VC Tryz.prog 148 [.ref b 0 n c, .func 85 [] []] [.cells b ((xs.map prs).flatten ++ List.replicate r .any) 44] fun v S' => v = .tup [] ∧ S' = [.cells b (((xs.mergeSort fun x y => !(ltOf cfP) y x).map prs).flatten ++ List.replicate r .any) 44] :=
  vc_sortFunc (en := prs) (enc := prE') Tryz.sortPairs 2 (fun w => run_isAgg hT (t := 44) (b := true) rfl w) (fun w => Am.run_size hT (t := 44) (n := 2) rfl w) prs_det prs_of (fun _ => rfl) cell1 cfP swoP (by rw [ltOf_cfP]; exact tot_ltP.tot) _ (fun args w => run_callFunc hT rfl rfl args w) (fun {_} x y => lessPairs hT x y) b n c r _ xs hn (by omega)
theorem sortedP (b cl : Nat) (es : List (Nat × Int × Int)) (hl : es.length < 60000000) :
    VC Tryz.prog 83 [.func 149 [] [.pin [.map b] 0], .func 85 [] []] [.mapB b (es.map prB) cl] fun v S' => ∃ ys R, List.Perm ys (es.map (·.2)) ∧ (ys.Pairwise fun x y => ltP y x = false) ∧ ColP ys v R ∧ S' = R ++ [.mapB b (es.map prB) cl] := by
  refine VC.code hT 12 rfl rfl rfl rfl fun F w S0 => ?_
  refine go hT 10000 rfl ?_
  conv => whnf
  refine ops_s rfl (s_call hT rfl rfl rfl rfl rfl rfl ((collectP hT b cl es hl).mono ?_))
  rintro v S' ⟨ks, R, hp, hc, rfl⟩
  have hlen : ks.length = es.length := by rw [hp.length_eq, List.length_map]
  rcases hc with ⟨rfl, rfl, rfl⟩ | ⟨hne, b', c, r, rfl, hcr, rfl⟩
  · refine go hT 10000 rfl ?_
    conv => whnf
    refine ops_s rfl (s_call hT rfl rfl rfl rfl rfl rfl ((vc_sortNone Tryz.sortPairs _ _).mono ?_))
    rintro _ S' ⟨rfl, rfl⟩
    refine go hT 10000 rfl ?_
    conv => whnf
    exact ret_of (.tmp rfl .nil) ⟨[], [], hp, .nil, .inl ⟨rfl, rfl, rfl⟩, rfl⟩
  · refine go hT 10000 rfl ?_
    conv => whnf
    refine ops_s rfl (s_call hT rfl rfl rfl rfl rfl rfl (((sortPairsP hT b' ks.length c r ks rfl (by omega)).frame [.mapB b (es.map prB) cl]).mono ?_))
    rintro _ S' ⟨S1, rfl, rfl, rfl⟩
    rw [ltOf_cfP]
    have hsort : ((ks.mergeSort fun x y => !ltP y x).Pairwise fun x y => ltP y x = false) := by
      have := List.pairwise_mergeSort (le := fun x y => !ltP y x) (fun a b c h1 h2 => by
        simp only [Bool.not_eq_true'] at h1 h2 ⊢
        exact (swo_of tot_ltP.irr tot_ltP.tr tot_ltP.tot).ntrans _ _ _ h2 h1) (fun a b => by
        cases e : ltP b a
        · rfl
        · rw [tot_ltP.asym e]; rfl) ks
      exact this.imp fun h => by simpa using h
    have hperm := List.mergeSort_perm ks fun x y => !ltP y x
    have hl2 : (ks.mergeSort fun x y => !ltP y x).length = ks.length := hperm.length_eq
    generalize (ks.mergeSort fun x y => !ltP y x) = ys at hsort hperm hl2
    refine go hT 10000 rfl ?_
    conv => whnf
    refine ret_of (.tmp rfl .nil) ⟨ys, _, hperm.trans hp, hsort, .inr ⟨fun e => hne (by subst e; exact hperm.symm.eq_nil), b', c, r, by rw [hl2]; rfl, by rw [hl2]; exact hcr, rfl⟩, rfl⟩
/-- The keys, sorted, as rows that nobody writes. -/
theorem sortedF (b cl : Nat) (es : List (Nat × Int × Int)) (hl : es.length < 60000000) :
    VC Tryz.prog 83 [.func 149 [] [.pin [.map b] 0], .func 85 [] []] [.mapB b (es.map prB) cl] fun v S' => ∃ ys, List.Perm ys (es.map (·.2)) ∧ (ys.Pairwise fun x y => ltP y x = false) ∧ v = .slice .no (ys.map prs) ∧ S' = [.mapB b (es.map prB) cl] := by
  refine ((sortedP hT b cl es hl).freeze (Q' := fun v S' => ∃ ys t, List.Perm ys (es.map (·.2)) ∧ (ys.Pairwise fun x y => ltP y x = false) ∧ v = .slice t (ys.map prs) ∧ S' = [.mapB b (es.map prB) cl]) ?_).less ?_
  · rintro v S' ⟨ys, R, hp, hs, hc, rfl⟩
    rcases hc with ⟨rfl, rfl, rfl⟩ | ⟨hne, b', c, r, rfl, hcr, rfl⟩
    · exact .inl ⟨[], .zero, hp, hs, rfl, rfl⟩
    · exact .inr ⟨b', _, c, 2, ys.map prs, _, _, _, rfl, rfl, fun r hr => by obtain ⟨x, _, rfl⟩ := List.mem_map.1 hr; rfl, List.length_map _, by omega, ys, .no, hp, hs, rfl, rfl⟩
  · rintro v S' ⟨ys, t, hp, hs, rfl, rfl⟩
    exact ⟨_, _, V.Le.slice _ _, .refl _, ys, hp, hs, rfl, rfl⟩
end
end Go.Vw
