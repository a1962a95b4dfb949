/- A place to stand: a world in which what is listed is laid, and what the laws of this chapter share; no condition. -/
import Derived.Test.YtamokenjdmfgbaaGreatDoorCards
import Derived.Test.YtamokenjdmfgbaaGreatDoorTie
import Derived.Test.YtamokenjdmfgbaaGreatDoorME
import Derived.Deep.DeepHandedRow
import Derived.Deep.DeepWitnessRowRef
import Derived.Shelf.Vars
import Derived.WalkKit
import Derived.ProofKit
import Derived.OpenShut
import Derived.ChangeOld
import Derived.Below
import Derived.Test.YtamokenjdmfgbaaGreatDoorMG
import Derived.Test.YtamokenjdmfgbaaGreatDoorMK
namespace Go.Proofs.YtamokenjdmfgbaaGreatDoor
open Go.ChangeShapes Go.WideShapes Go.ChangeAt Go.RowKit
theorem own : ownKnob Tryz.prog.godebug = none := by kernel_rfl
theorem laidOut : laidOutB Tryz.prog = true := by kernel_rfl

theorem one_le {H : Type} (d : DataW H) : 1 ≤ Rows.uptoBulk d := by
  cases d with
  | lit l => cases l <;> simp [Rows.uptoBulk]
  | _ => simp [Rows.uptoBulk]
theorem part_le {H : Type} {d : DataW H} {l : List (DataW H)} (h : d ∈ l) : Rows.uptoBulk d ≤ Rows.uptoBulkAll l := by
  induction l with
  | nil => cases h
  | cons x r ih =>
    simp only [Rows.uptoBulkAll]
    cases List.mem_cons.1 h with
    | inl e => subst e; omega
    | inr e => have := ih e; omega
theorem length_le {H : Type} (l : List (DataW H)) : l.length ≤ Rows.uptoBulkAll l := by
  induction l with
  | nil => simp [Rows.uptoBulkAll]
  | cons x r ih => have := one_le x; simp only [Rows.uptoBulkAll, List.length_cons]; omega
theorem bulk {H : Type} : Vw.Bulk (Rows.uptoBulk (H := H)) where
  str := fun b => by simp [Rows.uptoBulk]
  part := fun l d h => by have := part_le h; simp only [Rows.uptoBulk]; omega
  elem := fun l r d h => by have := part_le h; simp only [Rows.uptoBulk]; omega
  len := fun l r => by have := length_le l; simp only [Rows.uptoBulk]; omega
theorem bound {H : Type} {l : List (DataW H)} (hk : Rows.uptoSmall H l = true) : Rows.uptoBulkAll l ≤ 1048576 := of_decide_eq_true hk

/-- The cells of a plain datum. -/
def cellsD : Nat → DataW Unit → List Value
  | n + 1, .agg ds => ds.flatMap (cellsD n)
  | _, .lit (.int k z) => [.int k z]
  | _, _ => []
def bytesOf : DataW Unit → List UInt8
  | .iface _ (.ptr (.agg [.lit (.string b)])) => b
  | _ => []
/-- A start: the settled world; the listed variables hold what is listed. -/
noncomputable def laidWorld (os : Os) : World :=
  let N := (World.settled Tryz.prog os).heap.size
  let w0 := World.holding Tryz.prog os ⟨#[.cells #[.string ⟨(bytesOf Rows.laid_strconv_ErrSyntax).toArray⟩] 427, .cells #[.string ⟨(bytesOf Rows.laid_strconv_ErrRange).toArray⟩] 427], #[], []⟩
  let put (h : Array Obj) (g : Nat) (cs : Array Value) : Array Obj := h.modify g fun
    | .cells _ t frozen => .cells cs t frozen
    | o => o
  let h1 := put w0.heap 1 #[.iface 425 (.pointer (some ⟨N, 0, none⟩))]
  let h2 := put h1 2 #[.iface 425 (.pointer (some ⟨N + 1, 0, none⟩))]
  let h3 := put h2 3 (cellsD 4 Rows.laid_unicode_utf8_first).toArray
  let h4 := put h3 4 (cellsD 4 Rows.laid_unicode_utf8_acceptRanges).toArray
  let h5 := put h4 5 (cellsD 4 Rows.laid_internal_strconv_uint64pow10).toArray
  let h6 := put h5 6 (cellsD 4 Rows.laid_math_bits_deBruijn32tab).toArray
  let h7 := put h6 7 (cellsD 4 Rows.laid_math_bits_deBruijn64tab).toArray
  { w0 with heap := h7 }
theorem laid_met (os : Os) (args : Array Value) : laidMet Tryz.prog Rows.orderRanksUptoRow.laid ((laidWorld os).forCall (fun _ _ => 0) ⟨#[], args, []⟩).memory :=
  laidMet_of_run' 8 (by kernel_rfl) (by kernel_rfl)
/-- What stands in the variable that strings.Index reads: some number. -/
theorem maxLen_there {W : World} (h : W.ShapedOpen Tryz.prog) : ∃ k, W.cell? ⟨0, 0, none⟩ = some (.int .i64 k) :=
  cell_of_shapedOpen_int h (of_decide_eq_true (by kernel_rfl)) (t := 3) (zero := #[.int .i64 0]) (by kernel_rfl) rfl (by kernel_rfl) (by kernel_rfl) Tryz.underlying3
end Go.Proofs.YtamokenjdmfgbaaGreatDoor
namespace Go.Vw
open Go.RowKit Go.Am Go.Proofs
theorem sat_all {W : World} {k : Int} (h : W.cell? ⟨0, 0, none⟩ = some (.int .i64 k)) : Sat (allF W) W [.eq 0 0 (.int .i64 k)] :=
  ⟨fun _ _ h => h, List.nodup_nil, fun x hx => by rw [List.mem_singleton.1 hx]; exact ⟨⟨_, h⟩, h⟩⟩
theorem keep_below [Drw] {F F' : Fz} {w w' : World} {k : Int} {S' : Hp} (h : Keep F w [.eq 0 0 (.int .i64 k)] F' w' S') : Below w.heap.size w w' :=
  (h.more (S0 := []) fun b hb => by simp [Hp.dom, HE.blk] at hb).below
end Go.Vw
namespace Go.Vw
open Go.RowKit Go.Am Go.Proofs
theorem alive_vc20 [Drw] (hd : ¬ Drw.on) (k : Int) : VC Tryz.prog 10 [] [.eq 0 0 (.int .i64 k)] fun v S' => v = .ob true ∧ S' = [.eq 0 0 (.int .i64 k)] :=
  vc_below hd fun F w s => alive20 (s.ok _ (List.mem_singleton.2 rfl)).2
theorem cells44 : Tryz.prog.cellsOf 44 = 2 := by kernel_rfl
section
variable {H : Type} {enc : TypeId × Value → H} {w : World} {K : DataW H → Nat} (hK : Bulk K) {B : Nat}
theorem pair_arm {P : Program} {t e : TypeId} {fuel : Nat} {cs : List Value} {x : DataW H × List MemPlace} (ht : P.underlying t = some (.array 2 e)) (he : P.underlying e = some (.int .i64)) (c1 : P.cellsOf e = 1) (c2 : P.cellsOf t = 2) (h : DataW.trod enc P w 0 (fun _ => true) true fuel t cs = some x) : ∃ a b, cs = [.int .i64 a, .int .i64 b] := by
  obtain ⟨xs, m, _, _, hl, hlen, hel⟩ := DataW.trod_array ht h
  generalize P.cellsOf t = ct at hl c2
  generalize P.cellsOf e = ce at hel c1
  subst c1
  subst c2
  match cs, hl with
  | [a, b], _ =>
    have h0 := hel 0 (by decide)
    have h1 := hel 1 (by decide)
    rw [List.getElem?_eq_getElem (by omega)] at h0 h1
    obtain ⟨x, e0, _⟩ := DataW.trod_int he h0
    obtain ⟨y, e1, _⟩ := DataW.trod_int he h1
    simp at e0 e1
    exact ⟨x, y, by rw [e0, e1]⟩
theorem rPair : Reads enc Tryz.prog w K B 44 prs (fun _ => True) := fun fuel cs x h _ => by
  obtain ⟨a, b, rfl⟩ := pair_arm Tryz.underlying44 Tryz.underlying3 cells3 cells44 h
  exact ⟨(a, b), trivial, .cons (.int _ _) (.cons (.int _ _) .nil)⟩
include hK
theorem rPairs : Reads enc Tryz.prog w K B 31 (fun xs : List (Int × Int) => [.slice .no (xs.map prs)]) (fun xs => xs.length ≤ B) :=
  (Reads.slice hK Tryz.underlying31 rPair (fun _ => cells44.symm) (by rw [cells44]; decide)).map id (fun _ => rfl) fun _ h => h.1
end
set_option maxRecDepth 100000 in
/-- The edges that are handed over. -/
theorem pairs_is {H : Type} {enc : TypeId × Value → H} {W : World} {v : Value} {d : DataW H} {ps : List MemPlace} {base : Nat} (hv : Value.okWide Tryz.prog W .any base 31 v) (h : DataW.Trod enc Tryz.prog W 0 (fun _ => true) true 31 v d ps) (hb : Proofs.YtamokenjdmfgbaaGreatDoor.Rows.uptoBulk d ≤ 1048576) :
    ∃ es : List (Int × Int), es.length < 2000000 ∧ Is (allF W) W (.slice .no (es.map prs)) v := by
  obtain ⟨fuel, hf⟩ := h
  obtain ⟨es, hm, hi⟩ := rPairs Proofs.YtamokenjdmfgbaaGreatDoor.bulk fuel _ _ hf hb
  refine ⟨es, by omega, ?_⟩
  have hv : ∃ c, v.cells = #[c] ∧ v = c := by
    have e := hv
    unfold Value.okWide at e
    rw [Tryz.underlying31] at e
    revert e
    cases v <;> intro e <;> first | exact ⟨_, rfl, rfl⟩ | exact e.elim | simp at e
  obtain ⟨c, h1, rfl⟩ := hv
  have hi : Iss (allF W) W [.slice .no (es.map prs)] v.cells.toList := hi
  rw [h1] at hi
  cases hi with
  | cons a b => exact a
end Go.Vw
namespace Go.Proofs.YtamokenjdmfgbaaGreatDoor.orderRanks
open Go.ChangeShapes Go.WideShapes Go.ChangeAt Go.RowKit

theorem reads (os : Os) {H : Type} (enc : TypeId × Value → H) : ∃ places, DataW.whole enc Tryz.prog ((laidWorld os).forCall (fun _ _ => 0) ⟨#[], #[.int .i64 0, .slice none 0 0], []⟩).memory Tryz.f4.params.toList Rows.orderRanksSpec.vars false #[.int .i64 0, .slice none 0 0].toList 8 = some ([.lit (.int .i64 0), .nil], [], places) :=
  ⟨[], by kernel_rfl⟩
set_option maxRecDepth 100000 in
theorem contract (H : Type) (enc : TypeId × Value → H) (W : World) (base : Nat) (args : Array Value) (ds gs : List (DataW H)) (before : List MemPlace)
    (hval0 : ∀ (j : Nat) t v, Tryz.f4.params[j]? = some t → args[j]? = some v → Value.okWide Tryz.prog W .any base t v)
    (hW : DataW.Whole enc Tryz.prog Tryz.f4.params.toList Rows.orderRanksSpec.vars false W args.toList ds gs before) (hk : Rows.uptoSmall H (ds ++ gs) = true) (hsh : W.ShapedOpen Tryz.prog) :
    Calls Tryz.prog 4 args W fun e W' => ∃ v, e = .returned v ∧ Rows.orderRanksSpec.post enc Tryz.prog Tryz.f4 false true false false W args v W' := by
  have hval : ∀ (j : Nat) t v, Tryz.f4.params[j]? = some t → args[j]? = some v → Value.okWide Tryz.prog W .any base t v := hval0
  have hW' := hW
  obtain ⟨p, q, hA0, hV, rfl, hfz, hnd⟩ := hW
  have hA : DataW.TrodAll enc Tryz.prog W 0 (fun _ => true) true Tryz.f4.params.toList args.toList ds p := hA0
  rw [Tryz.params4] at hA hval
  obtain ⟨v0, vs0, d0, ds0, p0, q0, hargs, rfl, rfl, h0, r0⟩ := trodAll_cons hA
  obtain ⟨v1, vs1, d1, ds1, p1, q1, rfl, rfl, rfl, h1, r1⟩ := trodAll_cons r0
  obtain ⟨rfl, rfl, rfl⟩ := trodAll_nil r1
  obtain rfl : args = #[v0, v1] := by cases args; simp_all
  obtain ⟨rfl, rfl⟩ := trodVars_none hV
  have hb : Rows.uptoBulk d1 ≤ 1048576 := Nat.le_trans (part_le (l := [d0, d1] ++ []) (by simp)) (bound hk)
  have lt1 : ∀ x ∈ p1, x.block < W.heap.size := by obtain ⟨n, hn⟩ := h1; exact DataW.trod_lt n _ _ _ hn
  obtain ⟨es, hl, hi⟩ := Vw.pairs_is (hval 1 31 v1 rfl rfl) h1 hb
  obtain ⟨t, rfl, rfl, rfl, w1⟩ := open_int Tryz.underlying3 (hval 0 3 v0 rfl rfl) h0
  obtain ⟨k, hk0⟩ := maxLen_there hsh
  clear hA0 hval0
  letI : Vw.Drw := ⟨False⟩
  refine (Vw.orderRanks Am.tabFits t es hl _ (Vw.alive_vc20 (fun h => h) k) (Vw.allF W) W #[.int .i64 t, v1] (Vw.sat_all hk0) (.cons (.int _ _) (.cons hi .nil))).mono ?_
  rintro e W' ⟨v, u, F', S', rfl, hv, _, hkeep, rfl⟩
  have bel := Vw.keep_below hkeep
  cases hv
  exact ⟨_, rfl, _, _, _, [], _, [], hW', trodAll_mk1 (shut_bool Tryz.underlying4 _), trodAll_cons_mk (shut_int Tryz.underlying3 w1) (trodAll_cons_mk (Below.trod laidOut (by kernel_rfl) (of_decide_eq_true (by kernel_rfl)) h1 bel lt1) trodAll_mk0), rfl, bel.frame _, fun h => by cases h⟩

set_option maxRecDepth 100000 in
theorem lifted (os : Os) (started : os.Started) (H : Type) (enc : TypeId × Value → H) (F : Stop.Interp) :
    ReturnsInHanded {} Tryz.checked os 4 .any ((Rows.OpenSpec.upto Rows.orderRanksSpec).preRow enc Tryz.prog Tryz.f4 Rows.orderRanksUptoRow.domain false Rows.orderRanksUptoRow.laid) (((Rows.OpenSpec.upto Rows.orderRanksSpec).at F).post enc Tryz.prog Tryz.f4 false true false false) := by
  obtain ⟨places, hx⟩ := reads os enc
  refine returnsInHanded_of_row (C := Tryz.checked) (s := Rows.OpenSpec.upto Rows.orderRanksSpec) own started (by kernel_rfl) Tryz.func4
    (witness_row_atRef (enc := enc) (C := Tryz.checked) false (laidWorld os) #[.int .i64 0, .slice none 0 0] rfl (by kernel_rfl) (by kernel_rfl) (by kernel_rfl)
      (OpenSpec.preRow_of_cond 8 hx (by kernel_rfl) (fun k hk => by cases hk; kernel_rfl) (by kernel_rfl) (laid_met os _))) ?_
  intro W base args ds gs before hval hW _ hcond _ _ hsh _
  exact contract H enc W base args ds gs before hval hW (hcond _ rfl) hsh
end Go.Proofs.YtamokenjdmfgbaaGreatDoor.orderRanks
