/- The law WordSigns: the program's Sign and the reference's tell the same of each operator's text and number of arguments; no condition. -/
import Derived.Test.YtiflghlhlkabdaaSignRef
import Derived.Test.YtiflghlhlkabdaaRows
import Derived.ProofKit
import Derived.OpenShut
import Derived.ShutString
import Derived.ChangeOld
import Derived.SizedLaws
import Derived.Below
import Derived.WalkKit
namespace Go.Proofs.Ytiflghlhlkabdaa.SignLaw
open Go.RowKit Go.Proofs.Ytiflghlhlkabdaa.SignRef Go.Proofs.Ytiflghlhlkabdaa.PWordSigns Go.Proofs.YtiflghlhlkabdaaW.PrintWords

theorem bang : word_Sign.f 20 (⟨#[33]⟩ : ByteArray) 1 = some 2 := by decide +kernel

theorem idx_end (k : Nat) (xs : List ByteArray) (s : ByteArray) (n : Nat) (h : n = xs.length) : slices_Index_string_string.l0 (k + 1) xs s (xs.length : Int) (n : Int) = some (-1) := by
  subst h
  simp [slices_Index_string_string.l0]

/-- One round of the search at a place that is there. -/
theorem idx_step (k : Nat) (xs : List ByteArray) (s : ByteArray) (i : Nat) (h : i < xs.length) (hs : xs.length ≤ 1000) :
    slices_Index_string_string.l0 (k + 1) xs s (xs.length : Int) (i : Int) =
      if s.toList = (rdOf ByteArray.empty xs (i : Int)).toList then some (i : Int) else slices_Index_string_string.l0 k xs s (xs.length : Int) ((i + 1 : Nat) : Int) := by
  have hw : wrap64 ((i : Int) + 1) = ((i + 1 : Nat) : Int) := by unfold wrap64; omega
  simp only [slices_Index_string_string.l0]
  rw [if_pos (by omega), if_pos (by omega), if_pos (by omega), hw]

theorem at_head (a : ByteArray) (l : List UInt8) (h : a.toList = l) (s : ByteArray) (x y : Option Int) :
    (if s.toList = a.toList then x else y) = if s.toList = l then x else y := by rw [h]

theorem bind_ite (c : Prop) [Decidable c] (x : Int) (y : Option Int) (f : Int → Option Int) : (if c then some x else y).bind f = if c then f x else y.bind f := by
  by_cases h : c
  · rw [if_pos h, if_pos h]; rfl
  · rw [if_neg h, if_neg h]

theorem some_ite (c : Prop) [Decidable c] (x y : Int) : (if c then some x else some y) = some (if c then x else y) := by
  by_cases h : c
  · rw [if_pos h, if_pos h]
  · rw [if_neg h, if_neg h]

theorem prog_sign (s : ByteArray) (n : Int) : word_Sign.f 20 s n = some (refSign s n) := by
  have w0 : ∀ i : Nat, i ≤ 1000 → wrap64 ((i : Int) + 1) = (i : Int) + 1 := fun i h => by unfold wrap64; omega
  have w1 : wrap64 (-1 + 1) = 0 := by decide +kernel
  unfold word_Sign.f slices_Index_string_string.f
  by_cases h1 : n = 1
  · subst h1
    rw [if_pos rfl]
    rw [show (0 : Int) = ((0 : Nat) : Int) from rfl]
    rw [idx_step 19 _ s 0 (by decide) (by decide), show (rdOf ByteArray.empty _ ((0 : Nat) : Int)).toList = [45] from by decide +kernel, bind_ite, w0 0 (by decide)]
    rw [idx_step 18 _ s 1 (by decide) (by decide), show (rdOf ByteArray.empty _ ((1 : Nat) : Int)).toList = [33] from by decide +kernel, bind_ite, w0 1 (by decide)]
    rw [idx_end _ _ _ 2 rfl]
    simp only [Option.bind_some, w1, some_ite]
    rfl
  · by_cases h2 : n = 2
    · subst h2
      rw [if_neg (by decide), if_pos rfl]
      rw [show (0 : Int) = ((0 : Nat) : Int) from rfl]
      rw [idx_step 19 _ s 0 (by decide) (by decide), show (rdOf ByteArray.empty _ ((0 : Nat) : Int)).toList = [43] from by decide +kernel, bind_ite, w0 0 (by decide)]
      rw [idx_step 18 _ s 1 (by decide) (by decide), show (rdOf ByteArray.empty _ ((1 : Nat) : Int)).toList = [45] from by decide +kernel, bind_ite, w0 1 (by decide)]
      rw [idx_step 17 _ s 2 (by decide) (by decide), show (rdOf ByteArray.empty _ ((2 : Nat) : Int)).toList = [42] from by decide +kernel, bind_ite, w0 2 (by decide)]
      rw [idx_step 16 _ s 3 (by decide) (by decide), show (rdOf ByteArray.empty _ ((3 : Nat) : Int)).toList = [47] from by decide +kernel, bind_ite, w0 3 (by decide)]
      rw [idx_step 15 _ s 4 (by decide) (by decide), show (rdOf ByteArray.empty _ ((4 : Nat) : Int)).toList = [37] from by decide +kernel, bind_ite, w0 4 (by decide)]
      rw [idx_step 14 _ s 5 (by decide) (by decide), show (rdOf ByteArray.empty _ ((5 : Nat) : Int)).toList = [38] from by decide +kernel, bind_ite, w0 5 (by decide)]
      rw [idx_step 13 _ s 6 (by decide) (by decide), show (rdOf ByteArray.empty _ ((6 : Nat) : Int)).toList = [124] from by decide +kernel, bind_ite, w0 6 (by decide)]
      rw [idx_step 12 _ s 7 (by decide) (by decide), show (rdOf ByteArray.empty _ ((7 : Nat) : Int)).toList = [60] from by decide +kernel, bind_ite, w0 7 (by decide)]
      rw [idx_step 11 _ s 8 (by decide) (by decide), show (rdOf ByteArray.empty _ ((8 : Nat) : Int)).toList = [60, 61] from by decide +kernel, bind_ite, w0 8 (by decide)]
      rw [idx_step 10 _ s 9 (by decide) (by decide), show (rdOf ByteArray.empty _ ((9 : Nat) : Int)).toList = [61, 61] from by decide +kernel, bind_ite, w0 9 (by decide)]
      rw [idx_step 9 _ s 10 (by decide) (by decide), show (rdOf ByteArray.empty _ ((10 : Nat) : Int)).toList = [33, 61] from by decide +kernel, bind_ite, w0 10 (by decide)]
      rw [idx_end _ _ _ 11 rfl]
      simp only [Option.bind_some, w1, some_ite]
      rfl
    · rw [if_neg h1, if_neg h2]
      simp [slices_Index_string_string.l0, refSign, h1, h2]
      decide +kernel

theorem law (s : ByteArray) (n : Int) (w : World) :
    Calls Try.prog 3 #[.string s, .int .i64 n] w fun e w' => e = .returned (.bool true) ∧ Below w.heap.size w w' := by
  go_enter Try.func3, Try.ntmps3
  go_wp2_with fail
  refine (word_Sign.calls 20 _ _ _ _ bang).mono ?_
  rintro e w1 ⟨rfl, hb1⟩
  go_wp2_with fail
  refine (word_Sign.calls 20 _ _ _ _ (prog_sign s n)).mono ?_
  rintro e w2 ⟨rfl, hb2⟩
  go_wp2_with fail
  refine (ref_any s n _).mono ?_
  rintro e w3 ⟨rfl, hb3⟩
  go_wp2
  go_ret
  exact ⟨rfl, (hb1.trans (hb2.mono hb1.size)).trans (hb3.mono (Nat.le_trans hb1.size hb2.size))⟩
end Go.Proofs.Ytiflghlhlkabdaa.SignLaw
namespace Go.Proofs.Ytiflghlhlkabdaa.wordSigns
open Go.ChangeShapes Go.WideShapes Go.ChangeAt Go.RowKit
open Go.ChangeMaps (open_string shut_string)
theorem own : ownKnob Try.prog.godebug = none := by kernel_rfl
set_option maxRecDepth 100000 in
theorem lifted (os : Os) (started : os.Started) (H : Type) (enc : TypeId × Value → H) :
    ReturnsInHanded {} Try.checked os 3 .any (Rows.wordSignsSpec.pre6 enc Try.prog Try.f3 Rows.wordSignsRow.domain false) (Rows.wordSignsSpec.post enc Try.prog Try.f3 false true false false) := by
  refine returnsInHanded_of_change_sized (C := Try.checked) own started (by kernel_rfl) Try.func3
    (ChangeSpec.witness6 (enc := enc) (C := Try.checked) false ⟨#[], #[.string ByteArray.empty, .int .i64 0], []⟩ 8 (by kernel_rfl) (by kernel_rfl) (by kernel_rfl) (by kernel_rfl)) ?_
  intro W base args ds gs before hval0 hW hcnd hsz0 _
  have hval : ∀ (j : Nat) t v, Try.f3.params[j]? = some t → args[j]? = some v → Value.okWide Try.prog W .any base t v := hval0
  have hW' := hW
  obtain ⟨p, q, hA0, hV, rfl, hfz, hnd⟩ := hW
  have hA : DataW.TrodAll enc Try.prog W 0 (fun _ => true) true Try.f3.params.toList args.toList ds p := hA0
  rw [Try.params3] at hA hval
  obtain ⟨v0, vs0, d0, ds0, p0, q0, hargs, rfl, rfl, h0, r0⟩ := trodAll_cons hA
  obtain ⟨v1, vs1, d1, ds1, p1, q1, rfl, rfl, rfl, h1, r1⟩ := trodAll_cons r0
  obtain ⟨rfl, rfl, rfl⟩ := trodAll_nil r1
  obtain rfl : args = #[v0, v1] := by cases args; simp_all
  obtain ⟨rfl, rfl⟩ := trodVars_none hV
  obtain ⟨s, rfl, rfl, rfl, w0⟩ := open_string Try.underlying9 (hval 0 9 v0 rfl rfl) h0
  obtain ⟨n, rfl, rfl, rfl, w1⟩ := open_int Try.underlying3 (hval 1 3 v1 rfl rfl) h1
  clear hA0 hval0 hsz0
  refine (SignLaw.law s n W).mono fun e W' ⟨he, bel⟩ => ?_
  subst he
  exact ⟨_, rfl, _, _, _, [], _, [], hW', trodAll_mk1 (shut_bool Try.underlying4 _), (trodAll_cons_mk (shut_string Try.underlying9 w0) (trodAll_cons_mk (shut_int Try.underlying3 w1) trodAll_mk0)), rfl, bel.frame _, fun h => by cases h⟩
theorem over : Rows.wordSignsRow.holds Try.pinned (OpenSpec.ofChange Rows.wordSignsSpec) :=
  OpenClaim.holds_of_wide 3 Try.f3 rfl rfl rfl rfl rfl rfl rfl ⟨rfl, rfl, rfl, rfl, rfl⟩ rfl rfl rfl rfl rfl (by kernel_rfl) Try.func3 (by kernel_rfl)
    (of_decide_eq_true (by kernel_rfl)) (by unfold Func.isWrapper; first | (rw [if_pos (by decide +kernel)]; kernel_rfl) | (rw [if_neg (by decide +kernel)]; exact ⟨rfl, rfl⟩))
    (fun os started H enc _ => lifted os started H enc)
theorem proved : Rows.WordSignsSaid := over
end Go.Proofs.Ytiflghlhlkabdaa.wordSigns
namespace Go.Proofs.Ytiflghlhlkabdaa
theorem wordSigns_holds : Rows.WordSignsSaid := wordSigns.proved
#print axioms wordSigns_holds
end Go.Proofs.Ytiflghlhlkabdaa
