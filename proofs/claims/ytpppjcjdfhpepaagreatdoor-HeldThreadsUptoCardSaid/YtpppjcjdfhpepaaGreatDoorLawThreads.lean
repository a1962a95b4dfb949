/- What a thread must and may hold hangs on its own functions alone, so alone it is the same: the law HeldThreads answers true; condition: what is read is of bulk at most 1048576, and the listed variables hold what is listed (the card ties them to the text). -/
import Derived.Test.YtpppjcjdfhpepaaGreatDoorCards
import Derived.Test.YtpppjcjdfhpepaaGreatDoorTie
import Derived.Test.YtpppjcjdfhpepaaGreatDoorME
import Derived.Test.YtpppjcjdfhpepaaGreatDoorMF
import Derived.Deep.DeepHandedRow
import Derived.Deep.DeepWitnessRowRef
import Derived.Shelf.Vars
import Derived.WalkKit
import Derived.ProofKit
import Derived.OpenShut
import Derived.ChangeOld
import Derived.Below
namespace Go.Proofs.YtpppjcjdfhpepaaGreatDoor
open Go.ChangeShapes Go.WideShapes Go.ChangeAt Go.RowKit
theorem own : ownKnob Tryz.prog.godebug = none := by kernel_rfl
theorem laidOut : laidOutB Tryz.prog = true := by kernel_rfl

theorem one_le {H : Type} (d : DataW H) : 1 ≤ Rows.uptoBulk d := by
  cases d with
  | lit l => cases l <;> simp [Rows.uptoBulk]
  | _ => simp [Rows.uptoBulk]
theorem part_le {H : Type} {d : DataW H} {l : List (DataW H)} (h : d ∈ l) : Rows.uptoBulk d ≤ Rows.uptoBulkAll l := by
  induction l with
  | nil => cases h
  | cons x r ih =>
    simp only [Rows.uptoBulkAll]
    cases List.mem_cons.1 h with
    | inl e => subst e; omega
    | inr e => have := ih e; omega
theorem length_le {H : Type} (l : List (DataW H)) : l.length ≤ Rows.uptoBulkAll l := by
  induction l with
  | nil => simp [Rows.uptoBulkAll]
  | cons x r ih => have := one_le x; simp only [Rows.uptoBulkAll, List.length_cons]; omega
theorem bulk {H : Type} : Vw.Bulk (Rows.uptoBulk (H := H)) where
  str := fun b => by simp [Rows.uptoBulk]
  part := fun l d h => by have := part_le h; simp only [Rows.uptoBulk]; omega
  elem := fun l r d h => by have := part_le h; simp only [Rows.uptoBulk]; omega
  len := fun l r => by have := length_le l; simp only [Rows.uptoBulk]; omega
theorem bound {H : Type} {l : List (DataW H)} (hk : Rows.uptoSmall H l = true) : Rows.uptoBulkAll l ≤ 1048576 := of_decide_eq_true hk

/-- The cells of a plain datum. -/
def cellsD : Nat → DataW Unit → List Value
  | n + 1, .agg ds => ds.flatMap (cellsD n)
  | _, .lit (.int k z) => [.int k z]
  | _, _ => []
def bytesOf : DataW Unit → List UInt8
  | .iface _ (.ptr (.agg [.lit (.string b)])) => b
  | _ => []
/-- A start: the settled world; the listed variables hold what is listed. -/
noncomputable def laidWorld (os : Os) : World :=
  let N := (World.settled Tryz.prog os).heap.size
  let w0 := World.holding Tryz.prog os ⟨#[.cells #[.string ⟨(bytesOf Rows.laid_strconv_ErrSyntax).toArray⟩] 319, .cells #[.string ⟨(bytesOf Rows.laid_strconv_ErrRange).toArray⟩] 319], #[], []⟩
  let put (h : Array Obj) (g : Nat) (cs : Array Value) : Array Obj := h.modify g fun
    | .cells _ t frozen => .cells cs t frozen
    | o => o
  let h1 := put w0.heap 1 #[.iface 317 (.pointer (some ⟨N, 0, none⟩))]
  let h2 := put h1 2 #[.iface 317 (.pointer (some ⟨N + 1, 0, none⟩))]
  let h3 := put h2 3 (cellsD 4 Rows.laid_unicode_utf8_first).toArray
  let h4 := put h3 4 (cellsD 4 Rows.laid_unicode_utf8_acceptRanges).toArray
  let h5 := put h4 5 (cellsD 4 Rows.laid_internal_strconv_uint64pow10).toArray
  let h6 := put h5 6 (cellsD 4 Rows.laid_math_bits_deBruijn32tab).toArray
  let h7 := put h6 7 (cellsD 4 Rows.laid_math_bits_deBruijn64tab).toArray
  { w0 with heap := h7 }
theorem laid_met (os : Os) (args : Array Value) : laidMet Tryz.prog Rows.heldWithinUptoRow.laid ((laidWorld os).forCall (fun _ _ => 0) ⟨#[], args, []⟩).memory :=
  laidMet_of_run' 8 (by kernel_rfl) (by kernel_rfl)
/-- No code. -/
def noCode : Value := .agg #[.slice none 0 0, .slice none 0 0, .slice none 0 0, .slice none 0 0, .slice none 0 0, .slice none 0 0, .slice none 0 0, .slice none 0 0, .slice none 0 0]
def noCodeD {H : Type} : DataW H := .agg [.nil, .nil, .nil, .nil, .nil, .nil, .nil, .nil, .nil]

/-- What stands in the variable that strings.Index reads: some number. -/
theorem maxLen_there {W : World} (h : W.ShapedOpen Tryz.prog) : ∃ k, W.cell? ⟨0, 0, none⟩ = some (.int .i64 k) :=
  cell_of_shapedOpen_int h (of_decide_eq_true (by kernel_rfl)) (t := 3) (zero := #[.int .i64 0]) (by kernel_rfl) rfl (by kernel_rfl) (by kernel_rfl) Tryz.underlying3
end Go.Proofs.YtpppjcjdfhpepaaGreatDoor
namespace Go.Vw
open Go.RowKit Go.Am Go.Proofs
theorem alive_vc (k : Int) : VC Tryz.prog 6 [] [.eq 0 0 (.int .i64 k)] fun v S' => v = .ob true ∧ S' = [.eq 0 0 (.int .i64 k)] :=
  vc_below fun F w s => alive_true (s.ok _ (List.mem_singleton.2 rfl)).2
theorem sat_all {W : World} {k : Int} (h : W.cell? ⟨0, 0, none⟩ = some (.int .i64 k)) : Sat (allF W) W [.eq 0 0 (.int .i64 k)] :=
  ⟨fun _ _ h => h, List.nodup_nil, fun x hx => by rw [List.mem_singleton.1 hx]; exact ⟨⟨_, h⟩, h⟩⟩
theorem keep_below {F F' : Fz} {w w' : World} {k : Int} {S' : Hp} (h : Keep F w [.eq 0 0 (.int .i64 k)] F' w' S') : Below w.heap.size w w' :=
  (h.more (S0 := []) fun b hb => by simp [Hp.dom, HE.blk] at hb).below
set_option maxRecDepth 100000 in
/-- The module that is handed over. -/
theorem mod_is {H : Type} {enc : TypeId × Value → H} {W : World} {v : Value} {d : DataW H} {ps : List MemPlace} {base : Nat} (hv : Value.okWide Tryz.prog W .any base 27 v) (h : DataW.Trod enc Tryz.prog W 0 (fun _ => true) true 27 v d ps) (hb : Proofs.YtpppjcjdfhpepaaGreatDoor.Rows.uptoBulk d ≤ 1048576) :
    ∃ m : MModule, Small m ∧ SmallN m ∧ Is (allF W) W (.agg (modV m)) v := by
  obtain ⟨fuel, hf⟩ := h
  obtain ⟨m, hm, hi⟩ := rMod Proofs.YtpppjcjdfhpepaaGreatDoor.bulk fuel _ _ hf hb
  have hv : ∃ cs, v = .agg cs ∧ cs.size = Tryz.prog.cellsOf 27 ∧ Row.okWide Tryz.prog W .any base 27 cs := by
    have e := hv
    unfold Value.okWide at e
    rw [Tryz.underlying27] at e
    exact e
  obtain ⟨cs, rfl, _⟩ := hv
  exact ⟨m, hm.small (by omega), hm.smallN (by omega), Is.agg_of hi⟩
end Go.Vw
namespace Go.Vw
open Go.RowKit Go.Am Go.Proofs
attribute [local irreducible] VOps VRun VNext VD VDn VDq Ret
theorem CellOk.same {L : Nat} {u v : Int} (h : CellOk L u v) : (!(decide (u < 0) == decide (v < 0))) = false := by
  rcases h with ⟨rfl, rfl⟩ | ⟨h1, h2, _⟩
  · rfl
  · rw [decide_eq_false (by omega), decide_eq_false (by omega)]; rfl
theorem CellOk.must {L : Nat} {u v : Int} (h : CellOk L u v) (h0 : decide (0 ≤ u) = true) : (!(decide (andI u v = u))) = false := by
  have := of_decide_eq_true h0
  rcases h with ⟨rfl, rfl⟩ | ⟨_, _, h3, _⟩
  · omega
  · rw [decide_eq_true h3]; rfl
theorem CellOk.all {L : Nat} {u v : Int} (h : CellOk L u v) (h0 : decide (0 ≤ u) = true) : (!(decide (andI v (allI L) = v))) = false := by
  have := of_decide_eq_true h0
  rcases h with ⟨rfl, rfl⟩ | ⟨_, _, _, h3⟩
  · omega
  · rw [decide_eq_true h3]; rfl
section
variable (hT : TabOk tab Tryz.prog)
include hT
set_option maxHeartbeats 2000000 in
theorem heldWithin (m : MModule) (hs : Small m) (hn : SmallN m) (S : Hp) (hal : VC Tryz.prog 6 [] S fun v S' => v = .ob true ∧ S' = S) : VC Tryz.prog 4 [.agg (modV m)] S fun v _ => v = .ob true := by
  refine VC.code hT 134 rfl rfl rfl rfl fun F W S0 => ?_
  refine go hT 10000 rfl ?_
  conv => whnf
  refine ops_s rfl (s_boxF rfl rfl rfl ?_)
  refine go hT 10000 rfl ?_
  conv => whnf
  refine ops_s rfl (s_call hT rfl rfl rfl rfl rfl rfl (hal.mono ?_))
  rintro _ _ ⟨rfl, rfl⟩
  refine go hT 10000 rfl ?_
  conv => whnf
  refine run_split rfl (fun h => by cases h) (fun _ => ?_)
  refine go hT 10000 rfl ?_
  conv => whnf
  refine ops_s rfl (s_pureR hT rfl rfl rfl rfl rfl rfl (great hT m hs hn) ?_)
  rintro _ ⟨b, rfl⟩
  refine go hT 10000 rfl ?_
  conv => whnf
  refine run_split rfl (fun _ => ?_) (fun _ => ?_)
  · refine go hT 10000 rfl ?_
    conv => whnf
    exact ret_bool rfl rfl rfl rfl
  refine go hT 10000 rfl ?_
  conv => whnf
  refine ops_s rfl (s_pure hT rfl rfl rfl rfl rfl rfl (copyModule hT m hs) ?_)
  refine go hT 10000 rfl ?_
  conv => whnf
  refine ops_s rfl (s_pureR hT rfl rfl rfl rfl rfl rfl (find hT m hs fun hr => op_facts hr) ?_)
  intro v hv
  by_cases hr : rightModB m = true
  · rw [if_pos hr] at hv
    obtain ⟨must, may, hth, rfl⟩ := hv
    obtain ⟨l1, l2⟩ := hth.lens
    have hthr := hs.threads
    have hfr : frameB m = true := by
      simp only [rightModB, Bool.and_eq_true] at hr
      exact hr.1
    obtain ⟨hL, hpl⟩ := frame_facts hfr
    obtain ⟨bs1, bs2⟩ := bitI_small hL
    have hfs := hs.funcs
    have hok : ∀ (t : Nat) (h1 : t < must.length) (h2 : t < may.length) (h3 : t < m.threads.length), ThreadOk m m.threads[t] must[t] may[t] := fun t h1 h2 h3 => thread_facts hs hr (List.getElem_mem h3) (threads_at hth t h3 h1 h2)
    refine go hT 10000 rfl ?_
    conv => whnf
    refine ops_s rfl (s_alloc hT rfl rfl rfl fun b3 => ?_)
    refine go hT 10000 rfl ?_
    conv => whnf
    refine ops_s rfl (s_store (cs' := heldV must may) hT rfl rfl rfl .here rfl ?_)
    refine ops_freezeH (t := 3) rfl ?_
    refine go hT 10000 rfl ?_
    conv => whnf
    refine run_split rfl (fun h => by cases h) (fun _ => ?_)
    refine go hT 10000 rfl ?_
    conv => whnf
    refine ops_g rfl (g_len hT rfl rfl rfl rfl rfl rfl (List.length_map _)) ?_
    refine go hT 10000 rfl ?_
    conv => whnf
    refine ops_g rfl (g_shl1 rfl rfl rfl) ?_
    refine go hT 10000 rfl ?_
    conv => whnf
    refine ops_g rfl (g_sub rfl rfl rfl (by omega)) ?_
    refine go hT 10000 rfl ?_
    conv => whnf
    refine run_lq (fun t : Nat => ([(1, .pin (modV m) 0), (3, .pin (heldV must may) 0), (5, .int .i64 (allI m.locks.length)), (6, .int .i64 t)], [])) (fun t => t ≤ must.length) (fun t => must.length - t) 0 (Nat.zero_le _) ⟨⟨⟨_, rfl, .refl _⟩, ⟨_, rfl, .refl _⟩, ⟨_, rfl, .refl _⟩, ⟨_, rfl, .refl _⟩, trivial⟩, .nil⟩ ?_
    intro t ht
    refine go hT 10000 rfl ?_
    conv => whnf
    refine ops_g rfl (g_len hT rfl rfl rfl rfl rfl rfl (List.length_map _)) ?_
    refine go hT 10000 rfl ?_
    conv => whnf
    refine run_split rfl (fun hlt => ?_) (fun hlt => ?_)
    · simp only [decide_eq_true_eq, Int.ofNat_lt] at hlt
      have hlt2 : t < may.length := by omega
      have hlt3 : t < m.threads.length := by omega
      have H := hok t hlt hlt2 hlt3
      have hla := H.la
      have hlb := H.lb
      refine go hT 10000 rfl ?_
      conv => whnf
      refine run_lq (fun f : Nat => ([(1, .pin (modV m) 0), (3, .pin (heldV must may) 0), (5, .int .i64 (allI m.locks.length)), (6, .int .i64 t), (7, .int .i64 f)], [])) (fun f => f ≤ must[t].length) (fun f => must[t].length - f) 0 (Nat.zero_le _) ⟨⟨⟨_, rfl, .refl _⟩, ⟨_, rfl, .refl _⟩, ⟨_, rfl, .refl _⟩, ⟨_, rfl, .refl _⟩, ⟨_, rfl, .refl _⟩, trivial⟩, .refl _⟩ ?_
      intro f hf
      repeat' (first
        | (refine go hT 10000 rfl ?_; conv => whnf)
        | refine ops_s rfl (s_boxF rfl rfl rfl ?_)
        | refine ops_s rfl (s_listF hT rfl rfl rfl rfl rfl rfl rfl rfl ?_)
        | refine ops_g rfl (g_len hT rfl rfl rfl rfl rfl rfl (List.length_map _)) ?_
        | refine op_guard rfl rfl rfl rfl (fun h => ?_) (fun h => ?_)
        | refine ops_g rfl (g_indexM hT rfl rfl rfl rfl rfl hlt rfl) ?_)
      refine run_split rfl (fun hlf => ?_) (fun hlf => ?_)
      · simp only [decide_eq_true_eq, Int.ofNat_lt] at hlf
        have hlf2 : f < may[t].length := by omega
        have hrow := H.row f hlf hlf2
        refine go hT 10000 rfl ?_
        conv => whnf
        refine run_lq (fun n : Nat => ([(1, .pin (modV m) 0), (3, .pin (heldV must may) 0), (5, .int .i64 (allI m.locks.length)), (6, .int .i64 t), (7, .int .i64 f), (8, .int .i64 n)], [])) (fun n => n ≤ must[t][f].length) (fun n => must[t][f].length - n) 0 (Nat.zero_le _) ⟨⟨⟨_, rfl, .refl _⟩, ⟨_, rfl, .refl _⟩, ⟨_, rfl, .refl _⟩, ⟨_, rfl, .refl _⟩, ⟨_, rfl, .refl _⟩, ⟨_, rfl, .refl _⟩, trivial⟩, .refl _⟩ ?_
        intro n hn2
        repeat' (first
          | (refine go hT 10000 rfl ?_; conv => whnf)
          | refine ops_s rfl (s_boxF rfl rfl rfl ?_)
          | refine ops_s rfl (s_listF hT rfl rfl rfl rfl rfl rfl rfl rfl ?_)
          | refine ops_g rfl (g_len hT rfl rfl rfl rfl rfl rfl (List.length_map _)) ?_
          | refine op_guard rfl rfl rfl rfl (fun h => ?_) (fun h => ?_)
          | refine ops_g rfl (g_indexM hT rfl rfl rfl rfl rfl hlt rfl) ?_
          | refine ops_g rfl (g_indexM hT rfl rfl rfl rfl rfl hlf rfl) ?_)
        refine run_split rfl (fun hln => ?_) (fun hln => ?_)
        · simp only [decide_eq_true_eq, Int.ofNat_lt] at hln
          have hln2 : n < may[t][f].length := by omega
          have hsh := H.short f hlf
          have hc := H.cell f n hlf hlf2 hln hln2
          repeat' (first
            | (refine go hT 10000 rfl ?_; conv => whnf)
            | refine ops_s rfl (s_boxF rfl rfl rfl ?_)
            | refine ops_s rfl (s_listF hT rfl rfl rfl rfl rfl rfl rfl rfl ?_)
            | refine ops_g rfl (g_len hT rfl rfl rfl rfl rfl rfl (List.length_map _)) ?_
            | refine op_guard rfl rfl rfl rfl (fun h => ?_) (fun h => ?_)
            | refine ops_g rfl (g_indexM hT rfl rfl rfl rfl rfl hlt rfl) ?_
            | refine ops_g rfl (g_indexM hT rfl rfl rfl rfl rfl hlf rfl) ?_
            | refine ops_g rfl (g_indexM hT rfl rfl rfl rfl rfl hln rfl) ?_
            | refine ops_g rfl (g_indexM hT rfl rfl rfl rfl rfl hlt2 rfl) ?_
            | refine ops_g rfl (g_indexM hT rfl rfl rfl rfl rfl hlf2 rfl) ?_
            | refine ops_g rfl (g_indexM hT rfl rfl rfl rfl rfl hln2 rfl) ?_)
          · exact absurd (h.symm.trans hc.same) (by decide)
          · rename_i h0
            exact absurd (h.symm.trans (hc.must h0)) (by decide)
          · rename_i h0
            refine run_split rfl (fun h => ?_) (fun _ => ?_)
            · exact absurd (h.symm.trans (hc.all h0)) (by decide)
            · refine go hT 10000 rfl ?_
              conv => whnf
              refine ops_g rfl (g_add rfl rfl rfl (by omega)) ?_
              refine go hT 10000 rfl ?_
              conv => whnf
              exact ⟨n + 1, hln, by omega, ⟨⟨_, rfl, .refl _⟩, ⟨_, rfl, .refl _⟩, ⟨_, rfl, .refl _⟩, ⟨_, rfl, .refl _⟩, ⟨_, rfl, .refl _⟩, ⟨_, rfl, .refl _⟩, trivial⟩, .refl _⟩
          · refine ops_g rfl (g_add rfl rfl rfl (by omega)) ?_
            refine go hT 10000 rfl ?_
            conv => whnf
            exact ⟨n + 1, hln, by omega, ⟨⟨_, rfl, .refl _⟩, ⟨_, rfl, .refl _⟩, ⟨_, rfl, .refl _⟩, ⟨_, rfl, .refl _⟩, ⟨_, rfl, .refl _⟩, ⟨_, rfl, .refl _⟩, trivial⟩, .refl _⟩
        · refine go hT 10000 rfl ?_
          conv => whnf
          refine ops_g rfl (g_add rfl rfl rfl (by omega)) ?_
          refine go hT 10000 rfl ?_
          conv => whnf
          exact ⟨f + 1, hlf, by omega, ⟨⟨_, rfl, .refl _⟩, ⟨_, rfl, .refl _⟩, ⟨_, rfl, .refl _⟩, ⟨_, rfl, .refl _⟩, ⟨_, rfl, .refl _⟩, trivial⟩, .refl _⟩
      · obtain ⟨k1, k2, k3⟩ := H.first
        have hb0 : 0 ≤ m.threads[t] := (belowB_one.1 (thread_ok hr (List.getElem_mem hlt3))).1
        have hr0 : ((must[t][m.threads[t].toNat]).map intV)[(0 : Int).toNat]? = some (intV must[t][m.threads[t].toNat][0]) := by
          have : (must[t][m.threads[t].toNat])[(0 : Int).toNat]? = some must[t][m.threads[t].toNat][0] := List.getElem?_eq_getElem k2
          rw [List.getElem?_map, this]; rfl
        refine go hT 10000 rfl ?_
        conv => whnf
        intro id
        refine run_drw hT rfl rfl ?_ id
        repeat' (first
          | (refine god hT 2 rfl ?_; conv => whnf)
          | refine vd_fin rfl ?_
          | refine q_g rfl (fun S' => (g_len hT rfl rfl rfl rfl rfl rfl (List.length_map _)).qs) ?_
          | refine q_guard rfl rfl rfl rfl (fun h => ?_) (fun h => ?_)
          | refine q_g rfl (fun S' => (g_indexM hT rfl rfl rfl rfl rfl hlt rfl).qs) ?_
          | refine q_g rfl (fun S' => (g_indexM hT rfl rfl rfl rfl rfl hlt3 rfl).qs) ?_
          | refine q_g rfl (fun S' => (g_index (r := oneRow must[t][m.threads[t].toNat]) hT rfl rfl rfl rfl rfl hb0 (by rw [List.getElem?_map, List.getElem?_eq_getElem k1]; rfl) rfl).qs) ?_
          | refine q_g rfl (fun S' => (g_index (r := intV must[t][m.threads[t].toNat][0]) hT rfl rfl rfl rfl rfl (by decide) hr0 rfl).qs) ?_)
        refine go hT 10000 rfl ?_
        conv => whnf
        refine run_split rfl (fun h => ?_) (fun _ => ?_)
        · rw [k3] at h
          simp at h
        · refine go hT 10000 rfl ?_
          conv => whnf
          refine ops_g rfl (g_add rfl rfl rfl (by omega)) ?_
          refine go hT 10000 rfl ?_
          conv => whnf
          exact ⟨t + 1, hlt, by omega, ⟨⟨_, rfl, .refl _⟩, ⟨_, rfl, .refl _⟩, ⟨_, rfl, .refl _⟩, ⟨_, rfl, .refl _⟩, trivial⟩, .refl _⟩
    · refine go hT 10000 rfl ?_
      conv => whnf
      refine ops_g rfl (g_len hT rfl rfl rfl rfl rfl rfl (List.length_map _)) ?_
      refine go hT 10000 rfl ?_
      conv => whnf
      refine ops_g rfl (g_len hT rfl rfl rfl rfl rfl rfl (List.length_map _)) ?_
      refine go hT 10000 rfl ?_
      conv => whnf
      refine ret_bool rfl rfl rfl ?_
      rw [l1, decide_eq_true rfl]
  · rw [if_neg hr] at hv
    subst hv
    refine go hT 10000 rfl ?_
    conv => whnf
    refine ops_s rfl (s_alloc hT rfl rfl rfl fun b3 => ?_)
    refine go hT 10000 rfl ?_
    conv => whnf
    refine ops_s rfl (s_store (cs' := heldV [] []) hT rfl rfl rfl .here rfl ?_)
    refine ops_freezeH (t := 3) rfl ?_
    refine go hT 10000 rfl ?_
    conv => whnf
    refine run_split rfl (fun _ => ?_) (fun h => by simp at h)
    repeat' (first
      | (refine go hT 10000 rfl ?_; conv => whnf)
      | refine ops_s rfl (s_boxF rfl rfl rfl ?_)
      | refine ops_s rfl (s_listF hT rfl rfl rfl rfl rfl rfl rfl rfl ?_)
      | refine ops_g rfl (g_len hT rfl rfl rfl rfl rfl rfl (List.length_map _)) ?_
      | refine op_guard rfl rfl rfl rfl (fun h => ?_) (fun h => ?_))
    · exact ret_bool rfl rfl rfl rfl
    · rename_i h
      simp at h
end
end Go.Vw
namespace Go.Vw
open Go.RowKit Go.Am Go.Proofs
attribute [local irreducible] VOps VRun VNext VD VDn VDq Ret
/-! ### what a thread holds hangs on its own code -/
def oneM (m : MModule) (f : Int) : MModule := { m with threads := [f] }
theorem right_one {m : MModule} (h : rightModB m = true) {f : Int} (hf : f ∈ m.threads) : rightModB (oneM m f) = true := by
  unfold rightModB at h ⊢
  rw [Bool.and_eq_true] at h ⊢
  refine ⟨?_, h.2⟩
  have h1 := h.1
  unfold frameB at h1 ⊢
  simp only [Bool.and_eq_true] at h1 ⊢
  obtain ⟨a, ⟨⟨⟨⟨b, c⟩, _⟩, d⟩, e⟩⟩ := h1
  refine ⟨a, ⟨⟨⟨⟨b, c⟩, by simp [oneM]⟩, d⟩, ?_⟩⟩
  rw [Bool.not_eq_true', List.any_eq_false] at e ⊢
  intro x hx
  have : x = f := by simpa [oneM] using hx
  subst this
  exact e x hf
theorem called_one (m : MModule) (f : Int) : ∀ (k : Nat) (g : Int) (s : List Int), calledP (oneM m f) k g s = calledP m k g s
  | 0, _, _ => rfl
  | k + 1, g, s => by
    unfold calledP
    have e : ∀ (c : List MOp) (s : List Int), c.foldl (fun s o => if o.kind = 22 then calledP (oneM m f) k o.a s else s) s = c.foldl (fun s o => if o.kind = 22 then calledP m k o.a s else s) s := fun c => by
      induction c with
      | nil => intro s; rfl
      | cons o c ih =>
        intro s
        rw [List.foldl_cons, List.foldl_cons, called_one m f k o.a s]
        exact ih _
    rw [e]
    rfl
theorem done_one {m : MModule} {f : Int} {x y : Fp} (h : Done (oneM m f) x y) : Done m x y := by
  induction h with
  | stop h => exact .stop h
  | step h _ ih => exact .step h ih
theorem thread_one {m : MModule} {f g : Int} {a b : List (List Int)} (h : Thread (oneM m f) g a b) : Thread m g a b := by
  obtain ⟨y, hd, rfl, rfl⟩ := h
  have e : seenP (oneM m f) g = seenP m g := called_one m f _ g []
  exact ⟨y, done_one hd, by rw [e]; rfl, by rw [e]; rfl⟩
theorem Thread.unique {m : MModule} {f : Int} {a b a' b' : List (List Int)} (h : Thread m f a b) (k : Thread m f a' b') : a = a' ∧ b = b' := by
  obtain ⟨y, hd, rfl, rfl⟩ := h
  obtain ⟨z, kd, rfl, rfl⟩ := k
  rw [hd.unique kd]
  exact ⟨rfl, rfl⟩
theorem threads_one {m : MModule} {f : Int} {us vs : List (List (List Int))} (h : Threads m [f] us vs) : ∃ a b, us = [a] ∧ vs = [b] ∧ Thread m f a b := by
  cases h with
  | cons h k => cases k; exact ⟨_, _, rfl, rfl, h⟩
def FindR (m : MModule) (v : V) : Prop := ∃ must may e, v = .tup [.agg (heldV must may), .int .i64 e] ∧ ((rightModB m = true ∧ Threads m m.threads must may ∧ e = 0) ∨ (rightModB m = false ∧ must = [] ∧ may = [] ∧ e = 70))
section
variable (hT : TabOk tab Tryz.prog)
include hT
theorem findR (m : MModule) (hs : Small m) : PureR Tryz.prog 9 [.agg (modV m)] (FindR m) := by
  refine (find hT m hs fun hr => op_facts hr).mono fun v _ hv => ?_
  by_cases hr : rightModB m = true
  · rw [if_pos hr] at hv
    obtain ⟨must, may, h1, h2⟩ := hv
    exact ⟨must, may, 0, h2, .inl ⟨hr, h1, rfl⟩⟩
  · rw [if_neg hr] at hv
    exact ⟨[], [], 70, hv, .inr ⟨by simpa using hr, rfl, rfl, rfl⟩⟩
set_option maxRecDepth 100000 in
set_option maxHeartbeats 2000000 in
theorem heldThreads (m : MModule) (t : Int) (hs : Small m) (hn : SmallN m) (S : Hp) (hal : VC Tryz.prog 6 [] S fun v S' => v = .ob true ∧ S' = S) : VC Tryz.prog 5 [.agg (modV m), .int .i64 t] S fun v _ => v = .ob true := by
  refine VC.code hT 87 rfl rfl rfl rfl fun F W S0 => ?_
  refine go hT 10000 rfl ?_
  conv => whnf
  refine ops_s rfl (s_boxF rfl rfl rfl ?_)
  refine go hT 10000 rfl ?_
  conv => whnf
  refine ops_s rfl (s_call hT rfl rfl rfl rfl rfl rfl (hal.mono ?_))
  rintro _ _ ⟨rfl, rfl⟩
  refine go hT 10000 rfl ?_
  conv => whnf
  refine run_split rfl (fun h => by cases h) (fun _ => ?_)
  refine go hT 10000 rfl ?_
  conv => whnf
  refine ops_s rfl (s_pureR hT rfl rfl rfl rfl rfl rfl (great hT m hs hn) ?_)
  rintro _ ⟨b, rfl⟩
  repeat' (first
    | (refine go hT 10000 rfl ?_; conv => whnf)
    | refine ops_s rfl (s_boxF rfl rfl rfl ?_)
    | refine ops_s rfl (s_listF hT rfl rfl rfl rfl rfl rfl rfl rfl ?_)
    | refine ops_g rfl (g_len hT rfl rfl rfl rfl rfl rfl (List.length_map _)) ?_
    | refine op_guard rfl rfl rfl rfl (fun h => ?_) (fun h => ?_))
  · exact ret_bool rfl rfl rfl rfl
  · exact ret_bool rfl rfl rfl rfl
  have ht0 := h
  refine run_split rfl (fun _ => ?_) (fun ht1 => ?_)
  · refine go hT 10000 rfl ?_
    conv => whnf
    exact ret_bool rfl rfl rfl rfl
  obtain ⟨T, rfl⟩ : ∃ T : Nat, t = T := ⟨t.toNat, by have := of_decide_eq_false ht0; omega⟩
  have hlt : T < m.threads.length := by simpa using ht1
  have hmem := List.getElem_mem hlt
  have hs1 : Small (oneM m m.threads[T]) := ⟨hs.globals, hs.structs, hs.chans, hs.locks, hs.inputs, hs.sinks, hs.hatches, hs.funcs, by show 1 < 2000000; omega, hs.code, hs.args⟩
  refine go hT 10000 rfl ?_
  conv => whnf
  refine ops_s rfl (s_pure hT rfl rfl rfl rfl rfl rfl (copyModule hT m hs) ?_)
  refine go hT 10000 rfl ?_
  conv => whnf
  refine ops_s rfl (s_alloc hT rfl rfl rfl fun b5 => ?_)
  refine go hT 10000 rfl ?_
  conv => whnf
  refine ops_s rfl (s_store (cs' := modV m) hT rfl rfl rfl .here rfl ?_)
  repeat' (first
    | (refine go hT 10000 rfl ?_; conv => whnf)
    | refine ops_s rfl (s_boxF rfl rfl rfl ?_)
    | refine ops_s rfl (s_listF hT rfl rfl rfl rfl rfl rfl rfl rfl ?_)
    | refine ops_g rfl (g_len hT rfl rfl rfl rfl rfl rfl (List.length_map _)) ?_
    | refine op_guard rfl rfl rfl rfl (fun h => ?_) (fun h => ?_)
    | refine ops_g rfl (g_indexM hT rfl rfl rfl rfl rfl hlt rfl) ?_)
  refine ops_s rfl (s_store (cs' := modV (oneM m m.threads[T])) hT rfl rfl rfl .here rfl ?_)
  refine ops_freezeH (t := 5) rfl ?_
  refine go hT 10000 rfl ?_
  conv => whnf
  refine ops_s rfl (s_pure hT rfl rfl rfl rfl rfl rfl (copyModule hT m hs) ?_)
  refine go hT 10000 rfl ?_
  conv => whnf
  refine ops_s rfl (s_pureR hT rfl rfl rfl rfl rfl rfl (findR hT m hs) ?_)
  rintro _ ⟨must, may, e1, rfl, hv⟩
  refine go hT 10000 rfl ?_
  conv => whnf
  refine ops_s rfl (s_alloc hT rfl rfl rfl fun b6 => ?_)
  refine go hT 10000 rfl ?_
  conv => whnf
  refine ops_s rfl (s_store (cs' := heldV must may) hT rfl rfl rfl .here rfl ?_)
  refine ops_freezeH (t := 6) rfl ?_
  refine go hT 10000 rfl ?_
  conv => whnf
  refine ops_s rfl (s_pureR hT rfl rfl rfl rfl rfl rfl (findR hT (oneM m m.threads[T]) hs1) ?_)
  rintro _ ⟨must', may', e2, rfl, hv'⟩
  refine go hT 10000 rfl ?_
  conv => whnf
  refine ops_s rfl (s_alloc hT rfl rfl rfl fun b8 => ?_)
  refine go hT 10000 rfl ?_
  conv => whnf
  refine ops_s rfl (s_store (cs' := heldV must' may') hT rfl rfl rfl .here rfl ?_)
  refine ops_freezeH (t := 8) rfl ?_
  refine go hT 10000 rfl ?_
  conv => whnf
  rcases hv with ⟨hr, hth, rfl⟩ | ⟨hr, rfl, rfl, rfl⟩
  · obtain ⟨_, hth', rfl⟩ : rightModB (oneM m m.threads[T]) = true ∧ Threads (oneM m m.threads[T]) [m.threads[T]] must' may' ∧ e2 = 0 := by
      rcases hv' with h | ⟨h, _⟩
      · exact h
      · rw [right_one hr hmem] at h; cases h
    obtain ⟨a, b', rfl, rfl, hone⟩ := threads_one hth'
    obtain ⟨l1, l2⟩ := hth.lens
    have hlt1 : T < must.length := by omega
    have hlt2 : T < may.length := by omega
    have hTh := threads_at hth T hlt hlt1 hlt2
    obtain ⟨ea, eb⟩ := hTh.unique (thread_one hone)
    have H := thread_facts hs hr hmem hTh
    have hfs := hs.funcs
    have hla := H.la
    have hlb := H.lb
    have sa : ∀ r ∈ must[T], r.length < 2000000 := fun r hr => by
      obtain ⟨i, hi, rfl⟩ := List.mem_iff_getElem.1 hr
      exact H.short i hi
    have sb : ∀ r ∈ may[T], r.length < 2000000 := fun r hr => by
      obtain ⟨i, hi, rfl⟩ := List.mem_iff_getElem.1 hr
      rw [← H.row i (by omega) hi]
      exact H.short i (by omega)
    refine run_split rfl (fun h => by cases h) (fun _ => ?_)
    refine go hT 10000 rfl ?_
    conv => whnf
    intro id
    refine run_drw hT rfl rfl ?_ id
    repeat' (first
      | (refine god hT 1 rfl ?_; conv => whnf)
      | refine vd_fin rfl ?_
      | refine q_g rfl (fun S' => (g_len hT rfl rfl rfl rfl rfl rfl (List.length_map _)).qs) ?_
      | refine q_guard rfl rfl rfl rfl (fun h => ?_) (fun h => ?_)
      | refine q_g rfl (fun S' => (g_indexM hT rfl rfl rfl rfl rfl hlt1 rfl).qs) ?_
      | refine q_g rfl (fun S' => (g_indexM hT rfl rfl rfl rfl rfl hlt2 rfl).qs) ?_
      | refine q_g rfl (fun S' => (g_index (r := tabV a) hT rfl rfl rfl rfl rfl (by decide) (rfl : ([a].map tabV)[(0 : Int).toNat]? = some (tabV a)) rfl).qs) ?_
      | refine q_g rfl (fun S' => (g_index (r := tabV b') hT rfl rfl rfl rfl rfl (by decide) (rfl : ([b'].map tabV)[(0 : Int).toNat]? = some (tabV b')) rfl).qs) ?_)
    · refine vd_eff1 rfl (eff rfl rfl (s_pure hT rfl rfl rfl rfl rfl rfl (sameTable hT must[T] a (by omega) sa) (And.intro trivial ?_)))
      repeat' (first
        | (refine god hT 1 rfl ?_; conv => whnf)
        | refine vd_fin rfl ?_
        | refine q_g rfl (fun S' => (g_len hT rfl rfl rfl rfl rfl rfl (List.length_map _)).qs) ?_
        | refine q_guard rfl rfl rfl rfl (fun h => ?_) (fun h => ?_)
        | refine q_g rfl (fun S' => (g_indexM hT rfl rfl rfl rfl rfl hlt1 rfl).qs) ?_
        | refine q_g rfl (fun S' => (g_indexM hT rfl rfl rfl rfl rfl hlt2 rfl).qs) ?_
        | refine q_g rfl (fun S' => (g_index (r := tabV a) hT rfl rfl rfl rfl rfl (by decide) (rfl : ([a].map tabV)[(0 : Int).toNat]? = some (tabV a)) rfl).qs) ?_
        | refine q_g rfl (fun S' => (g_index (r := tabV b') hT rfl rfl rfl rfl rfl (by decide) (rfl : ([b'].map tabV)[(0 : Int).toNat]? = some (tabV b')) rfl).qs) ?_)
      · refine vd_eff1 rfl (eff rfl rfl (s_pure hT rfl rfl rfl rfl rfl rfl (sameTable hT may[T] b' (by omega) sb) (And.intro trivial ?_)))
        refine god hT 1 rfl ?_
        conv => whnf
        refine vd_fin rfl ?_
        refine go hT 10000 rfl ?_
        conv => whnf
        refine ret_bool rfl rfl rfl ?_
        rw [decide_eq_true eb]
      · rw [decide_eq_true ea] at h
        cases h
    all_goals simp at h
  · refine run_split rfl (fun _ => ?_) (fun h => by simp at h)
    refine go hT 10000 rfl ?_
    conv => whnf
    exact ret_bool rfl rfl rfl rfl
end
end Go.Vw
namespace Go.Proofs.YtpppjcjdfhpepaaGreatDoor.heldThreads
open Go.ChangeShapes Go.WideShapes Go.ChangeAt Go.RowKit

theorem reads (os : Os) {H : Type} (enc : TypeId × Value → H) : ∃ places, DataW.whole enc Tryz.prog ((laidWorld os).forCall (fun _ _ => 0) ⟨#[], #[noCode, .int .i64 0], []⟩).memory Tryz.f5.params.toList Rows.heldThreadsSpec.vars false #[noCode, .int .i64 0].toList 8 = some ([noCodeD, .lit (.int .i64 0)], [], places) :=
  ⟨[], by kernel_rfl⟩
set_option maxRecDepth 100000 in
theorem contract (H : Type) (enc : TypeId × Value → H) (W : World) (base : Nat) (args : Array Value) (ds gs : List (DataW H)) (before : List MemPlace)
    (hval0 : ∀ (j : Nat) t v, Tryz.f5.params[j]? = some t → args[j]? = some v → Value.okWide Tryz.prog W .any base t v)
    (hW : DataW.Whole enc Tryz.prog Tryz.f5.params.toList Rows.heldThreadsSpec.vars false W args.toList ds gs before) (hk : Rows.uptoSmall H (ds ++ gs) = true) (hsh : W.ShapedOpen Tryz.prog) :
    Calls Tryz.prog 5 args W fun e W' => ∃ v, e = .returned v ∧ Rows.heldThreadsSpec.post enc Tryz.prog Tryz.f5 false true false false W args v W' := by
  have hval : ∀ (j : Nat) t v, Tryz.f5.params[j]? = some t → args[j]? = some v → Value.okWide Tryz.prog W .any base t v := hval0
  have hW' := hW
  obtain ⟨p, q, hA0, hV, rfl, hfz, hnd⟩ := hW
  have hA : DataW.TrodAll enc Tryz.prog W 0 (fun _ => true) true Tryz.f5.params.toList args.toList ds p := hA0
  rw [Tryz.params5] at hA hval
  obtain ⟨v0, vs0, d0, ds0, p0, q0, hargs, rfl, rfl, h0, r0⟩ := trodAll_cons hA
  obtain ⟨v1, vs1, d1, ds1, p1, q1, rfl, rfl, rfl, h1, r1⟩ := trodAll_cons r0
  obtain ⟨rfl, rfl, rfl⟩ := trodAll_nil r1
  obtain rfl : args = #[v0, v1] := by cases args; simp_all
  obtain ⟨rfl, rfl⟩ := trodVars_none hV
  have hb : Rows.uptoBulk d0 ≤ 1048576 := Nat.le_trans (part_le (l := [d0, d1] ++ []) (by simp)) (bound hk)
  have lt0 : ∀ x ∈ p0, x.block < W.heap.size := by obtain ⟨n, hn⟩ := h0; exact DataW.trod_lt n _ _ _ hn
  obtain ⟨m, hs, hn, hi⟩ := Vw.mod_is (hval 0 27 v0 rfl rfl) h0 hb
  obtain ⟨t, rfl, rfl, rfl, w1⟩ := open_int Tryz.underlying3 (hval 1 3 v1 rfl rfl) h1
  obtain ⟨k, hk0⟩ := maxLen_there hsh
  clear hA0 hval0
  refine (Vw.heldThreads Am.tabFits m t hs hn _ (Vw.alive_vc k) (Vw.allF W) W #[v0, .int .i64 t] (Vw.sat_all hk0) (.cons hi (.cons (.int _ _) .nil))).mono ?_
  rintro e W' ⟨v, u, F', S', rfl, hv, _, hkeep, rfl⟩
  have bel := Vw.keep_below hkeep
  cases hv
  exact ⟨_, rfl, _, _, _, [], _, [], hW', trodAll_mk1 (shut_bool Tryz.underlying4 _), trodAll_cons_mk (Below.trod laidOut (by kernel_rfl) (of_decide_eq_true (by kernel_rfl)) h0 bel lt0) (trodAll_cons_mk (shut_int Tryz.underlying3 w1) trodAll_mk0), rfl, bel.frame _, fun h => by cases h⟩

set_option maxRecDepth 100000 in
theorem lifted (os : Os) (started : os.Started) (H : Type) (enc : TypeId × Value → H) (F : Stop.Interp) :
    ReturnsInHanded {} Tryz.checked os 5 .any ((Rows.OpenSpec.upto Rows.heldThreadsSpec).preRow enc Tryz.prog Tryz.f5 Rows.heldThreadsUptoRow.domain false Rows.heldThreadsUptoRow.laid) (((Rows.OpenSpec.upto Rows.heldThreadsSpec).at F).post enc Tryz.prog Tryz.f5 false true false false) := by
  obtain ⟨places, hx⟩ := reads os enc
  refine returnsInHanded_of_row (C := Tryz.checked) (s := Rows.OpenSpec.upto Rows.heldThreadsSpec) own started (by kernel_rfl) Tryz.func5
    (witness_row_atRef (enc := enc) (C := Tryz.checked) false (laidWorld os) #[noCode, .int .i64 0] rfl (by kernel_rfl) (by kernel_rfl) (by kernel_rfl)
      (OpenSpec.preRow_of_cond 8 hx (by kernel_rfl) (fun k hk => by cases hk; kernel_rfl) (by kernel_rfl) (laid_met os _))) ?_
  intro W base args ds gs before hval hW _ hcond _ _ hsh _
  exact contract H enc W base args ds gs before hval hW (hcond _ rfl) hsh

theorem said : Rows.HeldThreadsUptoSaid :=
  OpenClaim.holds_of_cond 5 Tryz.f5 rfl rfl rfl rfl rfl rfl rfl ⟨rfl, rfl, rfl, rfl, rfl⟩ rfl rfl rfl rfl rfl (by kernel_rfl) Tryz.func5 (by kernel_rfl)
    (of_decide_eq_true (by kernel_rfl)) (by unfold Func.isWrapper; first | (rw [if_pos (by decide +kernel)]; kernel_rfl) | (rw [if_neg (by decide +kernel)]; exact ⟨rfl, rfl⟩))
    (fun os started H enc _ F => by rw [OpenClaim.pre_eq_preRow]; exact lifted os started H enc F)

theorem plain (f : FuncId) (fn : Func) (hf : Tryz.pinned.checked.prog.funcNamed Rows.heldThreadsUptoRow.func = some f) (hfn : Tryz.pinned.checked.prog.funcs[f]? = some fn) :
    true = Tryz.pinned.checked.prog.looks [] ∧ ∀ (j : Nat) t, fn.params[j]? = some t → Tryz.pinned.checked.prog.wantsStandIn t = false := by
  obtain rfl : f = 5 := Option.some.inj ((show Tryz.prog.funcNamed Rows.heldThreadsUptoRow.func = some 5 by kernel_rfl).symm.trans hf) |>.symm
  obtain rfl : fn = Tryz.f5 := (Option.some.inj (Tryz.func5.symm.trans hfn)).symm
  refine ⟨by kernel_rfl, fun j t ht => ?_⟩
  rw [Tryz.params5] at ht
  have hm : t ∈ [27, 3] := by simpa using Array.mem_of_getElem? ht
  have hall : ([27, 3].all fun u => !Tryz.prog.wantsStandIn u) = true := by kernel_rfl
  exact (show Tryz.prog.wantsStandIn t = false by simpa using List.all_eq_true.1 hall t hm)
end Go.Proofs.YtpppjcjdfhpepaaGreatDoor.heldThreads
namespace Go.Proofs.YtpppjcjdfhpepaaGreatDoor
theorem heldThreads_holds : Rows.HeldThreadsUptoCardSaid :=
  Claim7.holds_tied_plain_at .later [] _ _ _ _ heldThreads.said (fun _ h => by cases h) (by kernel_rfl) (fun _ h => by cases h) heldThreadsUpto_row_tie rfl ⟨rfl, rfl⟩ (by kernel_rfl) rfl heldThreads.plain (by kernel_rfl)
#print axioms heldThreads_holds
end Go.Proofs.YtpppjcjdfhpepaaGreatDoor
