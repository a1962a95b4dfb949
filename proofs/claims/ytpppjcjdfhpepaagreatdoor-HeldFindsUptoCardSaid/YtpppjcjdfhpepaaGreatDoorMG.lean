/- What the walk of held.Find by the document answers, first part: rounds, come, from; no condition beyond bounds on lengths. -/
import Derived.Test.YtpppjcjdfhpepaaGreatDoorMC
import Derived.Test.YtpppjcjdfhpepaaGreatDoorME
namespace Go.Vw
open Go.RowKit Go.Am
theorem lay_end {α : Type} (d : α) : ∀ (vs xs : List α) (r : Nat), xs.length ≤ r → layV vs.length xs (vs ++ List.replicate r d) = some (vs ++ xs ++ List.replicate (r - xs.length) d)
  | [], [], r, _ => by simp [layV]
  | [], x :: xs, 0, h => by simp at h
  | [], x :: xs, r + 1, h => by
    have ih := lay_end d [] xs r (by simpa using h)
    simp only [List.length_nil, List.nil_append] at ih ⊢
    rw [List.replicate_succ, layV, ih]
    simp
  | v :: vs, [], r, _ => by simp [layV]
  | v :: vs, x :: xs, r, h => by
    have ih := lay_end d vs (x :: xs) r h
    simp only [List.length_cons, List.cons_append, layV] at ih ⊢
    rw [ih]
section
variable {P : Program} {S : Hp} {tb : Tab} {o : Oper} {ρ : Operand → Option V} {k : V → Hp → Prop}
theorem elem_zero (hT : TabOk tb P) {el : TypeId} {sz : Nat} (he : elemB tb el sz = true) : ∃ z', (∀ w2 : World, (zeroValue el).run P w2 = .ok z' w2) ∧ z'.cells.size = sz ∧ 0 < sz ∧ lightElem tb el = true := by
  unfold elemB at he
  split at he
  · next z hz =>
    simp only [Bool.and_eq_true] at he
    obtain ⟨⟨⟨k1, k2⟩, k3⟩, k4⟩ := he
    unfold zeroV at hz
    cases hi : tb.info el with
    | none => rw [hi] at hz; cases hz
    | some i =>
      rw [hi] at hz
      simp only at hz
      cases hz0 : i.zero with
      | none => rw [hz0] at hz; cases hz
      | some z0 =>
        rw [hz0] at hz; cases hz
        refine ⟨z0, fun w2 => ?_, ?_, by rw [Nat.blt_eq] at k3; exact k3, k4⟩
        · simp only [zeroValue, Sem.run_bind, Am.run_typeInfo hT hi, Result.andThen]
          rw [hz0]
          rfl
        · have := ((Is.const (fun _ _ => False) default z0).cells_of k1).length
          rw [Nat.eq_of_beq_eq_true k2] at this
          simpa using this.symm
  · cases he
theorem iss_any (F : Fz) (w : World) : ∀ us : List Value, Iss F w (List.replicate us.length .any) us
  | [] => .nil
  | _ :: us => .cons (.any _) (iss_any F w us)
/-- The first thing is added. -/
theorem s_append0 (hT : TabOk tb P) {c : Call} {t u el el2 : TypeId} {x y : Operand} {tk2 : Tok} {news : List (List V)} {f : HE → Hp} {sz : Nat} (ho : o.op = .call c) (hc : c.callee = .builtin .append) (hx' : c.args = #[x, y]) (hat' : c.argTypes = #[t, u])
    (ht : tb.under t = some (.slice el)) (hu : tb.under u = some (.slice el2)) (hs : tb.size el = some sz) (he : elemB tb el sz = true) (hx : ρ x = some (.slice .zero [])) (hy : ρ y = some (.slice tk2 news)) (hat : At S (.tl .no) f)
    (hn : ∀ r ∈ news, r.length = sz) (hne : 0 < news.length) (hl : news.length < 67108864)
    (h : ∀ b' c' r', c' * sz = news.length * sz + r' → k (.ref b' 0 news.length c') (f (.cells b' (news.flatten ++ List.replicate r' .any) el))) : OpS P o ρ S k :=
  OpS.mk (by rw [ho]; rfl) fun F w a s hf => by
    have hvx := hf _ _ hx
    have hvy := hf _ _ hy
    obtain ⟨z', hz1, hz2, hspos, hlight⟩ := elem_zero hT he
    obtain ⟨new', hnv, hlx, hfn⟩ := run_first (P := P) hvy hn
    have hnl : new'.length = news.length * sz := by rw [← hnv.length]; exact (flat_get news hn).1
    have conv : ∀ {v : Value} {w' : World}, (Builtin.append_ #[t, u] o.type #[a.eval x, a.eval y]).run P w = .ok v w' → (execOp a.eval o).run P w = .ok (.value v) w' := fun {v w'} e => run_builtin ho hc (by
      have hm : (#[x, y] : Array Operand).map a.eval = #[a.eval x, a.eval y] := by simp
      rw [hx', hat', hm]
      simp only [builtin, Sem.run_bind, e, Result.andThen, Sem.run_pure])
    obtain ⟨old', hov, _, hfo⟩ := run_first (P := P) (sz := sz) hvx (fun r hr => by cases hr)
    have hold : old' = [] := by cases hov; rfl
    subst hold
    have h0 : ∃ base, a.eval x = .slice base 0 0 := by
      generalize a.eval x = u at hvx
      cases hvx with
      | nilSlice _ ba => exact ⟨ba, rfl⟩
      | slice g hl' hc' hv' hle' hxx htok =>
        have : _ = 0 := htok
        subst this
        exact ⟨_, rfl⟩
    obtain ⟨base, eb⟩ := h0
    rw [eb] at hfo
    obtain ⟨newCap, c1, c2⟩ := run_append_grow26 (P := P) (w := w) (ty := o.type) (len := 0) (cap := 0) hT hu (fun k h => by cases h) ht hs hlx (by omega) (by omega) hlight hz1 (hfo w.drew rfl) (hfn w.drew rfl)
    generalize hC : ([] ++ new' ++ (Builtin.zeroCells z'.cells (newCap - (0 + news.length))).toList).toArray = C at c2
    have hzl : (Builtin.zeroCells z'.cells (newCap - (0 + news.length))).toList.length = (newCap - news.length) * sz := by
      rw [Array.length_toList, size_zeroCells, hz2, Nat.zero_add]
    have hiss : Iss F w.drew (news.flatten ++ List.replicate ((newCap - news.length) * sz) .any) C.toList := by
      rw [← hC]
      simp only [List.nil_append]
      refine All2.append (hnv.mono (grow_drew F w)) ?_
      rw [← hzl]
      exact iss_any _ _ _
    obtain ⟨s', k'⟩ := s.drew.cells el hiss
    have hmul : newCap * sz = news.length * sz + (newCap - news.length) * sz := by rw [← Nat.add_mul]; congr 1; omega
    refine .val (conv (by rw [eb]; exact c2)) (v := .ref w.drew.heap.size 0 news.length newCap) ?_ (hat.swap s') ((Keep.drew F w S).trans (hat.swapK k')) (h _ _ _ hmul)
    rw [Nat.zero_add]
    exact .ref _ _ _ _
/-- One thing more. -/
theorem s_appendR (hT : TabOk tb P) {c : Call} {t u el el2 : TypeId} {x y : Operand} {tk2 : Tok} {news : List (List V)} {f : HE → Hp} {sz b n cp r : Nat} {vs : List V} (ho : o.op = .call c) (hc : c.callee = .builtin .append) (hx' : c.args = #[x, y]) (hat' : c.argTypes = #[t, u])
    (ht : tb.under t = some (.slice el)) (hu : tb.under u = some (.slice el2)) (hs : tb.size el = some sz) (he : elemB tb el sz = true) (hx : ρ x = some (.ref b 0 n cp)) (hy : ρ y = some (.slice tk2 news)) (hat : At S (.cells b (vs ++ List.replicate r .any) el) f)
    (hvs : vs.length = n * sz) (hcp : cp * sz = n * sz + r) (hn : ∀ r ∈ news, r.length = sz) (hcell : ∀ r ∈ news, allCellV r = true) (hl : n + news.length < 67108864)
    (h : ∀ b' c' r', c' * sz = (n + news.length) * sz + r' → k (.ref b' 0 (n + news.length) c') (f (.cells b' (vs ++ news.flatten ++ List.replicate r' .any) el))) : OpS P o ρ S k :=
  OpS.mk (by rw [ho]; rfl) fun F w a s hf => by
    have hvx := hf _ _ hx
    have hvy := hf _ _ hy
    obtain ⟨z', hz1, hz2, hspos, hlight⟩ := elem_zero hT he
    obtain ⟨new', hnv, hlx, hfn⟩ := run_first (P := P) hvy hn
    have hnl : new'.length = news.length * sz := by rw [← hnv.length]; exact (flat_get news hn).1
    have hnfl : news.flatten.length = news.length * sz := (flat_get news hn).1
    have conv : ∀ {v : Value} {w' : World}, (Builtin.append_ #[t, u] o.type #[a.eval x, a.eval y]).run P w = .ok v w' → (execOp a.eval o).run P w = .ok (.value v) w' := fun {v w'} e => run_builtin ho hc (by
      have hm : (#[x, y] : Array Operand).map a.eval = #[a.eval x, a.eval y] := by simp
      rw [hx', hat', hm]
      simp only [builtin, Sem.run_bind, e, Result.andThen, Sem.run_pure])
    have eb : a.eval x = .slice (some ⟨b, 0, none⟩) n cp := by
      generalize a.eval x = u at hvx
      cases hvx
      rfl
    obtain ⟨⟨C0, e1, hv0⟩, _⟩ := s.ok _ hat.mem
    by_cases hfit : n + news.length ≤ cp
    · have hr : news.length * sz ≤ r := by
        have := Nat.mul_le_mul_right sz hfit
        rw [Nat.add_mul] at this
        omega
      have hlay : layV (n * sz) news.flatten (vs ++ List.replicate r .any) = some (vs ++ news.flatten ++ List.replicate (r - news.length * sz) .any) := by
        have := lay_end V.any vs news.flatten r (by omega)
        rw [hvs, hnfl] at this
        exact this
      obtain ⟨C, eC, hsz, s', k'⟩ := s.store hat hlay hnv
      have hCs : C.size = vs.length + r := by
        have e2 : C0 = C := by rw [eC] at e1; cases e1; rfl
        subst e2
        have := hv0.length
        simpa using this.symm
      have hst := run_storeCells (P := P) (b := b) (o := n * sz) new' 0 w C eC (allCellV_of hnv (allCellV_flat hcell)) (by omega)
      rw [Nat.add_zero] at hst
      have e := run_append_in (P := P) (w := w) (w' := _) (ty := o.type) (len := n) (n := news.length) (cap := cp) (base := some ⟨b, 0, none⟩) (new := new') hT hu (fun k h => by cases h) ht hs hlx hfit (hfn w rfl) (by simp only [Am.Addr.add_eq, Nat.zero_add]; exact hst)
      exact .val (conv (by rw [eb]; exact e)) (v := .ref b 0 (n + news.length) cp) (.ref _ _ _ _) s' k' (h _ _ _ (by rw [Nat.add_mul]; omega))
    · have hold : ∃ old', Iss F w vs old' ∧ old'.length = n * sz ∧ ∀ j v, old'[j]? = some v → w.cell? ⟨b, 0 + j, none⟩ = some v := by
        refine ⟨C0.toList.take (n * sz), ?_, ?_, fun j v hj => ?_⟩
        · have hlen : vs.length ≤ C0.toList.length := by rw [← hv0.length]; simp
          refine All2.of_get (by simp only [List.length_take]; omega) fun i x y => ?_
          obtain ⟨u, e2, r2⟩ := hv0.get i vs[i] (by rw [List.getElem?_append_left (by omega)]; simp)
          have e3 : (C0.toList.take (n * sz))[i] = u := by
            rw [List.getElem_take]
            have := List.getElem?_eq_some_iff.1 e2
            exact this.2
          rw [e3]; exact r2
        · have hlen := hv0.length
          simp only [List.length_append, List.length_replicate] at hlen
          simp only [List.length_take]
          omega
        · rw [Nat.zero_add]
          unfold World.cell?
          rw [e1]
          obtain ⟨hj1, hj2⟩ := List.getElem?_eq_some_iff.1 hj
          rw [List.getElem_take] at hj2
          simp only [Option.isSome_none, Bool.false_eq_true, if_false]
          rw [List.length_take] at hj1
          have hj3 : j < C0.size := by simpa using (by omega : j < C0.toList.length)
          rw [Array.getElem?_eq_getElem hj3]
          simpa using hj2
      obtain ⟨old', hov, hol, hoc⟩ := hold
      have hfo : ∀ w2 : World, w2.heap = w.heap → (Builtin.firstCells sz n (.slice (some ⟨b, 0, none⟩) n cp)).run P w2 = .ok old'.toArray w2 := fun w2 hw => by
        refine run_firstCells_some w2 sz n _ n cp old' hol fun j v hj => ?_
        rw [Am.Addr.add_eq]
        have hcw : ∀ a : Addr, w2.cell? a = w.cell? a := fun a => World.cell?_of_block (by rw [hw])
        rw [hcw]
        exact hoc j v hj
      obtain ⟨newCap, c1, c2⟩ := run_append_grow26 (P := P) (w := w) (ty := o.type) hT hu (fun k h => by cases h) ht hs hlx hfit hl hlight hz1 (hfo w.drew rfl) (hfn w.drew rfl)
      generalize hC : (old' ++ new' ++ (Builtin.zeroCells z'.cells (newCap - (n + news.length))).toList).toArray = C at c2
      have hzl : (Builtin.zeroCells z'.cells (newCap - (n + news.length))).toList.length = (newCap - (n + news.length)) * sz := by
        rw [Array.length_toList, size_zeroCells, hz2]
      have hiss : Iss F w.drew (vs ++ news.flatten ++ List.replicate ((newCap - (n + news.length)) * sz) .any) C.toList := by
        rw [← hC]
        refine All2.append (All2.append (hov.mono (grow_drew F w)) (hnv.mono (grow_drew F w))) ?_
        rw [← hzl]
        exact iss_any _ _ _
      obtain ⟨s', k'⟩ := s.drew.cells el hiss
      have hmul : newCap * sz = (n + news.length) * sz + (newCap - (n + news.length)) * sz := by rw [← Nat.add_mul]; congr 1; omega
      exact .val (conv (by rw [eb]; exact c2)) (v := .ref w.drew.heap.size 0 (n + news.length) newCap) (.ref _ _ _ _) (hat.swap s') ((Keep.drew F w S).trans (hat.swapK k')) (h _ _ _ hmul)
end
end Go.Vw
namespace Go.Vw
open Go.RowKit Go.Am
section
variable {P : Program} {S : Hp} {tb : Tab} {o : Oper} {ρ : Operand → Option V} {k : V → Hp → Prop}
theorem s_emptyList (hT : TabOk tb P) {t el : TypeId} {n : Nat} (ho : o.op = .buildSlice t 0 #[]) (ht : tb.under t = some (.slice el)) (hs : tb.size el = some n) (h : k (.slice .zero []) S) : OpS P o ρ S k :=
  OpS.mk (by rw [ho]; rfl) fun F w a s hr => by
    have hm : ((#[] : Array (Nat × Operand)).map (fun p => (p.1, a.eval p.2))).toList = [] := by simp
    have hf : ∀ (pl : Nat → Option (Nat × Nat)) (c : Array Value), Instr.fill pl c [] = some c := fun _ _ => rfl
    have run : ∃ c', (execOp a.eval o).run P w = .ok (.value (.slice (some ⟨w.heap.size, 0, none⟩) 0 0)) (w.alloc (.cells c' el)) := by
      refine ⟨(Array.range (0 * n)).map (fun k => (#[] : Array Value)[k % (#[] : Array Value).size]!), ?_⟩
      simp only [execOp, ho, Instr.buildSlice, Sem.run_bind, run_under hT ht, Am.run_size hT hs, Sem.run_pure, Result.andThen, if_pos (Nat.zero_mul n)]
      rw [if_neg (by omega)]
      simp only [Sem.run_bind, Sem.run_pure, Result.andThen, hm, hf, run_newRow]
    obtain ⟨c', run⟩ := run
    obtain ⟨s', k'⟩ := s.rowsP c' el c'.size n (Nat.le_refl _)
    exact .val run (.nilSlice _ _) (Sub.sat (.drop (.refl _)) s') (Sub.keep' (.drop (.refl _)) k') h
end
/-- What is told turned into other words. -/
def Turn (S S' : Hp) : Prop := ∀ F w, Sat F w S → ∃ F', Sat F' w S' ∧ Keep F w S F' w S'
theorem Turn.refl (S : Hp) : Turn S S := fun F w s => ⟨F, s, .refl _ _ _⟩
theorem Turn.trans {S S' S'' : Hp} (h : Turn S S') (k : Turn S' S'') : Turn S S'' := fun F w s => by
  obtain ⟨F', s', k'⟩ := h F w s
  obtain ⟨F'', s'', k''⟩ := k F' w s'
  exact ⟨F'', s'', k'.trans k''⟩
theorem Turn.sub {S S' : Hp} (h : Sub S S') : Turn S S' := fun F w s => ⟨F, h.sat s, h.keep' (.refl _ _ _)⟩
theorem Turn.perm {S S' : Hp} (h : List.Perm S S') : Turn S S' := fun F w s => ⟨F, s.perm h, (Keep.refl _ _ _).perm h⟩
theorem Turn.frame {S S' : Hp} (h : Turn S S') (R : Hp) : Turn (S ++ R) (S' ++ R) := fun F w s => by
  obtain ⟨F', s', k'⟩ := h F w (s.sub (List.sublist_append_left S R))
  exact ⟨F', s.frame k' s', k'.frame⟩
section
variable {P : Program} {σ : Sg} {K : List Kt} {fr : Fr} {S : Hp} {Q : Exit → Fr → Hp → Prop} {ops : Array Oper} {l : List Oper}
theorem VAt.turn {G : Act → World → Prop} {S' : Hp} (x : Turn S S') (h : VAt σ G fr S') : VAt σ G fr S := fun F w a s k => by
  obtain ⟨F', s', k'⟩ := x F w s.sat
  refine h F' w a ⟨s', fun t v e => ?_, s.size, s.defers⟩ (k.trans k')
  obtain ⟨u, e2, r⟩ := s.fr t v e
  exact ⟨u, e2, r.mono k'.toGrow⟩
theorem run_turn {c : Code} {S' : Hp} (x : Turn S S') (h : VT P σ (.run c K fr) S' Q) : VRun P σ c K fr S Q := VAt.turn x h
theorem next_turn {S' : Hp} (x : Turn S S') (h : VT P σ (.next K fr) S' Q) : VNext P σ K fr S Q := VAt.turn x h
theorem ops_turn {S' : Hp} (x : Turn S S') (h : VT P σ (.ops ops l K fr) S' Q) : VOps P σ ops l K fr S Q := fun i hi => VAt.turn x (h i hi)
end
/-- What is known of a block that is written no more. -/
def Cold (F : Fz) (w : World) : HE → Prop
  | .cells b cs e => (∀ k, k < cs.length → F b k) ∧ ∃ c, w.heap[b]? = some (.cells c e (0, 0)) ∧ Iss F w cs c.toList
  | _ => True
theorem Cold.mono {F : Fz} {w : World} {F' : Fz} {S S' : Hp} (k : Keep F w S F' w S') {x : HE} (h : Cold F w x) : Cold F' w x := by
  cases x with
  | cells b cs e =>
    obtain ⟨h1, c, h2, h3⟩ := h
    exact ⟨fun j hj => k.fz _ _ (h1 j hj), c, h2, h3.mono k.toGrow⟩
  | _ => trivial
/-- A row of blocks that are written no more. -/
theorem freeze_row {F : Fz} {w : World} : ∀ (l pre post : Hp), (∀ x ∈ l, (∃ b cs e, x = .cells b cs e) ∨ x = .tl .no) → Sat F w (pre ++ (l ++ post)) → ∃ F', Sat F' w (pre ++ (l.map (fun _ => HE.tl .no) ++ post)) ∧ Keep F w (pre ++ (l ++ post)) F' w (pre ++ (l.map (fun _ => HE.tl .no) ++ post)) ∧ ∀ x ∈ l, Cold F' w x
  | [], pre, post, _, s => ⟨F, s, .refl _ _ _, fun x hx => by cases hx⟩
  | x :: l, pre, post, hl, s => by
    have e1 : pre ++ (x :: l ++ post) = (pre ++ [x]) ++ (l ++ post) := by simp
    rw [e1] at s
    obtain ⟨F1, s1, k1, c1⟩ := freeze_row l (pre ++ [x]) post (fun y hy => hl y (List.mem_cons_of_mem _ hy)) s
    rw [← e1] at k1
    have e2 : ∀ y : HE, (pre ++ [y]) ++ (l.map (fun _ => HE.tl .no) ++ post) = pre ++ (y :: (l.map (fun _ => HE.tl .no) ++ post)) := fun y => by simp
    rw [e2] at s1 k1
    rcases hl x (List.mem_cons_self ..) with ⟨b, cs, e, rfl⟩ | rfl
    · have hat : At (pre ++ (HE.cells b cs e :: (l.map (fun _ => HE.tl .no) ++ post))) (.cells b cs e) (fun y => pre ++ (y :: (l.map (fun _ => HE.tl .no) ++ post))) := by
        clear s1 k1 c1 s e1 hl e2
        induction pre with
        | nil => exact .here
        | cons p pre ih => exact .there ih
      obtain ⟨F2, s2, k2, h2, c, h3, h4⟩ := s1.freeze hat
      refine ⟨F2, s2, k1.trans k2, fun y hy => ?_⟩
      rcases List.mem_cons.1 hy with rfl | hy
      · exact ⟨h2, c, h3, h4⟩
      · exact (c1 y hy).mono k2
    · refine ⟨F1, s1, k1, fun y hy => ?_⟩
      rcases List.mem_cons.1 hy with rfl | hy
      · trivial
      · exact c1 y hy
end Go.Vw
namespace Go.Vw
open Go.RowKit Go.Am Go.Proofs
attribute [local irreducible] VOps VRun VNext VD VDn VDq Ret
/-! ### the reference's finder: tables that are written into -/
def cellA (A : AtM) (sel : P2 → Int) (f n : Nat) : Int := match findM A ((f : Int), (n : Int)) with | some l => sel l | none => -1
def refRow (A : AtM) (sel : P2 → Int) (n f : Nat) : List V := (List.range n).map fun k => .int .i64 (cellA A sel f k)
structure Geo where
  b : Nat → Nat
  c : Nat → Nat
  r : Nat → Nat
def rowVal (b n c : Nat) : V := if n = 0 then .slice .zero [] else .ref b 0 n c
def rowHE (b n r : Nat) (cs : List V) : HE := if n = 0 then .tl .no else .cells b (cs ++ List.replicate r .any) 3
def outerV (g : Geo) (L : Nat → Nat) (N : Nat) : List (List V) := (List.range N).map fun f => [rowVal (g.b f) (L f) (g.c f)]
def rowsS (g : Geo) (L : Nat → Nat) (sel : P2 → Int) (N : Nat) (A : AtM) : Hp := (List.range N).map fun f => rowHE (g.b f) (L f) (g.r f) (refRow A sel (L f) f)
def refS (m : MModule) (bx : Nat) (t1 t2 : Tok) (g1 g2 : Geo) (L : Nat → Nat) (A : AtM) (more : Bool) : Hp :=
  .cells bx (modV m ++ [.slice t1 (outerV g1 L m.funcs.length), .slice t2 (outerV g2 L m.funcs.length), .ob more]) 77 :: (rowsS g1 L (·.1) m.funcs.length A ++ rowsS g2 L (·.2) m.funcs.length A)
theorem At.idx {l : Hp} : ∀ {i : Nat} {h : HE}, l[i]? = some h → At l h (fun x => l.set i x) := by
  induction l with
  | nil => intro i h e; simp at e
  | cons y l ih =>
    intro i h e
    cases i with
    | zero =>
      simp only [List.getElem?_cons_zero, Option.some.injEq] at e
      subst e
      exact .here
    | succ i =>
      simp only [List.getElem?_cons_succ] at e
      exact .there (ih e)
theorem At.left {l r : Hp} {h : HE} {f : HE → Hp} (k : At l h f) : At (l ++ r) h (fun x => f x ++ r) := by
  induction k with
  | here => exact .here
  | there _ ih => exact .there ih
theorem At.right {r : Hp} {h : HE} {f : HE → Hp} (k : At r h f) : ∀ l : Hp, At (l ++ r) h (fun x => l ++ f x)
  | [] => k
  | _ :: l => .there (At.right k l)
theorem outer_get {g : Geo} {L : Nat → Nat} {N f : Nat} (h : f < N) : (outerV g L N)[f]? = some [rowVal (g.b f) (L f) (g.c f)] := by
  unfold outerV
  rw [List.getElem?_map, List.getElem?_range h]; rfl
theorem rows_get {g : Geo} {L : Nat → Nat} {sel : P2 → Int} {N f : Nat} {A : AtM} (h : f < N) (hL : 0 < L f) : (rowsS g L sel N A)[f]? = some (.cells (g.b f) (refRow A sel (L f) f ++ List.replicate (g.r f) .any) 3) := by
  unfold rowsS
  rw [List.getElem?_map, List.getElem?_range h]
  show some (rowHE _ _ _ _) = _
  unfold rowHE
  rw [if_neg (by omega)]
theorem row_get {A : AtM} {sel : P2 → Int} {n f k r : Nat} (h : k < n) : (refRow A sel n f ++ List.replicate r V.any)[k]? = some (.int .i64 (cellA A sel f k)) := by
  rw [List.getElem?_append_left (by simpa [refRow] using h)]
  unfold refRow
  rw [List.getElem?_map, List.getElem?_range h]; rfl
theorem cellA_put (A : AtM) (sel : P2 → Int) (p l : P2) (f n : Nat) : cellA (putM A p l) sel f n = if ((f : Int), (n : Int)) = p then sel l else cellA A sel f n := by
  unfold cellA
  rw [find_put]
  by_cases h : ((f : Int), (n : Int)) = p
  · rw [if_pos h, if_pos h]
  · rw [if_neg h, if_neg h]
theorem row_set {A : AtM} {sel : P2 → Int} {n F K r : Nat} (h : K < n) (l : P2) : (refRow A sel n F ++ List.replicate r V.any).set K (.int .i64 (sel l)) = refRow (putM A ((F : Int), (K : Int)) l) sel n F ++ List.replicate r V.any := by
  rw [List.set_append_left _ _ (by simpa [refRow] using h)]
  congr 1
  refine List.ext_getElem (by simp [refRow]) fun i h1 h2 => ?_
  rw [List.getElem_set]
  simp only [refRow, List.getElem_map, List.getElem_range, cellA_put]
  by_cases e : K = i
  · subst e; simp
  · have hne : ¬ (((F : Int), (i : Int)) = ((F : Int), (K : Int))) := fun h => by simp at h; omega
    rw [if_neg e, if_neg hne]
theorem row_same {A : AtM} {sel : P2 → Int} {n f : Nat} {p l : P2} (h : (f : Int) ≠ p.1) : refRow (putM A p l) sel n f = refRow A sel n f := by
  unfold refRow
  refine List.map_congr_left fun k _ => ?_
  rw [cellA_put, if_neg fun e => h (by rw [← e])]
theorem rows_set {g : Geo} {L : Nat → Nat} {sel : P2 → Int} {N F K : Nat} {A : AtM} (h : F < N) (hL : K < L F) (l : P2) : (rowsS g L sel N A).set F (.cells (g.b F) (refRow (putM A ((F : Int), (K : Int)) l) sel (L F) F ++ List.replicate (g.r F) .any) 3) = rowsS g L sel N (putM A ((F : Int), (K : Int)) l) := by
  refine List.ext_getElem (by simp [rowsS]) fun i h1 h2 => ?_
  rw [List.getElem_set]
  simp only [rowsS, List.getElem_map, List.getElem_range]
  by_cases e : F = i
  · subst e
    rw [if_pos rfl]
    unfold rowHE
    rw [if_neg (by omega)]
  · rw [if_neg e, row_same fun h => e (by simp at h; omega)]
def comeR (A : AtM) (p l : P2) : AtM := putM A p (meet A p l)
def moreR (A : AtM) (p l : P2) : Bool := !decide (findM A p = some (meet A p l))
theorem cell_none {A : AtM} {sel : P2 → Int} {f n : Nat} (h : findM A ((f : Int), (n : Int)) = none) : cellA A sel f n = -1 := by unfold cellA; rw [h]
theorem cell_some {A : AtM} {sel : P2 → Int} {f n : Nat} {l : P2} (h : findM A ((f : Int), (n : Int)) = some l) : cellA A sel f n = sel l := by unfold cellA; rw [h]
theorem VsLe.pre {c d : List V} (h : VsLe c d) : ∀ l : List V, VsLe (l ++ c) (l ++ d)
  | [] => h
  | v :: l => .cons (.refl v) (VsLe.pre h l)
section
variable (hT : TabOk tab Tryz.prog)
include hT
set_option maxHeartbeats 2000000 in
theorem comeRef (m : MModule) (bx : Nat) (t1 t2 : Tok) (g1 g2 : Geo) (L : Nat → Nat) (A : AtM) (more : Bool) (F K : Nat) (l : P2) (hF : F < m.funcs.length) (hK : K < L F) (hl : 0 ≤ l.1) (hA : ∀ o, findM A ((F : Int), (K : Int)) = some o → 0 ≤ o.1) :
    VC Tryz.prog 29 [.ptr bx 0, .int .i64 F, .int .i64 K, .int .i64 l.1, .int .i64 l.2] (refS m bx t1 t2 g1 g2 L A more) fun _ S' => S' = refS m bx t1 t2 g1 g2 L (comeR A ((F : Int), (K : Int)) l) (more || moreR A ((F : Int), (K : Int)) l) := by
  have v1 : rowVal (g1.b F) (L F) (g1.c F) = .ref (g1.b F) 0 (L F) (g1.c F) := by unfold rowVal; rw [if_neg (by omega)]
  have v2 : rowVal (g2.b F) (L F) (g2.c F) = .ref (g2.b F) 0 (L F) (g2.c F) := by unfold rowVal; rw [if_neg (by omega)]
  have o1 : (outerV g1 L m.funcs.length)[(F : Int).toNat]? = some [.ref (g1.b F) 0 (L F) (g1.c F)] := by rw [Int.toNat_natCast, outer_get hF, v1]
  have o2 : (outerV g2 L m.funcs.length)[(F : Int).toNat]? = some [.ref (g2.b F) 0 (L F) (g2.c F)] := by rw [Int.toNat_natCast, outer_get hF, v2]
  have a1 : At (refS m bx t1 t2 g1 g2 L A more) _ _ := .there (At.left (At.idx (rows_get (g := g1) (sel := (·.1)) (A := A) hF (by omega))))
  have a2 : At (refS m bx t1 t2 g1 g2 L A more) _ _ := .there (At.right (At.idx (rows_get (g := g2) (sel := (·.2)) (A := A) hF (by omega))) _)
  have hK0 : 0 < L F := by omega
  have gl1 : (refRow A (·.1) (L F) F ++ List.replicate (g1.r F) V.any)[0 + (K : Int).toNat * 1]? = some (.int .i64 (cellA A (·.1) F K)) := by
    rw [Int.toNat_natCast, Nat.zero_add, Nat.mul_one]; exact row_get hK
  have gl2 : (refRow A (·.2) (L F) F ++ List.replicate (g2.r F) V.any)[0 + (K : Int).toNat * 1]? = some (.int .i64 (cellA A (·.2) F K)) := by
    rw [Int.toNat_natCast, Nat.zero_add, Nat.mul_one]; exact row_get hK
  have hlen1 : (refRow A (·.1) (L F) F ++ List.replicate (g1.r F) V.any).length = L F + g1.r F := by simp [refRow]
  have hlen2 : (refRow A (·.2) (L F) F ++ List.replicate (g2.r F) V.any).length = L F + g2.r F := by simp [refRow]
  have hoff1 : 0 + (K : Int).toNat * 1 < (refRow A (·.1) (L F) F ++ List.replicate (g1.r F) V.any).length := by rw [hlen1, Int.toNat_natCast]; omega
  have hoff2 : 0 + (K : Int).toNat * 1 < (refRow A (·.2) (L F) F ++ List.replicate (g2.r F) V.any).length := by rw [hlen2, Int.toNat_natCast]; omega
  have fin : ∀ x1 x2, x1 = (meet A ((F : Int), (K : Int)) l).1 → x2 = (meet A ((F : Int), (K : Int)) l).2 → (HE.cells bx (modV m ++ [.slice t1 (outerV g1 L m.funcs.length), .slice t2 (outerV g2 L m.funcs.length), .ob (more || moreR A ((F : Int), (K : Int)) l)]) 77 :: ((rowsS g1 L (·.1) m.funcs.length A).set F (.cells (g1.b F) ((refRow A (·.1) (L F) F ++ List.replicate (g1.r F) V.any).set (0 + (K : Int).toNat * 1) (.int .i64 x1)) 3) ++ (rowsS g2 L (·.2) m.funcs.length A).set F (.cells (g2.b F) ((refRow A (·.2) (L F) F ++ List.replicate (g2.r F) V.any).set (0 + (K : Int).toNat * 1) (.int .i64 x2)) 3))) = refS m bx t1 t2 g1 g2 L (comeR A ((F : Int), (K : Int)) l) (more || moreR A ((F : Int), (K : Int)) l) := by
    rintro _ _ rfl rfl
    unfold refS comeR
    rw [Int.toNat_natCast, Nat.zero_add, Nat.mul_one, row_set (sel := (·.1)) hK, row_set (sel := (·.2)) hK, rows_set (sel := (·.1)) hF hK, rows_set (sel := (·.2)) hF hK]
  refine VC.code hT 100 rfl rfl rfl rfl fun FF W S0 => ?_
  cases hf : findM A ((F : Int), (K : Int)) with
  | none =>
    have c1 := cell_none (sel := (·.1)) hf
    have c2 := cell_none (sel := (·.2)) hf
    have em : meet A ((F : Int), (K : Int)) l = l := by unfold meet; rw [hf]
    have e1 : l.1 = (meet A ((F : Int), (K : Int)) l).1 := by rw [em]
    have e2 : l.2 = (meet A ((F : Int), (K : Int)) l).2 := by rw [em]
    have hm : moreR A ((F : Int), (K : Int)) l = true := by unfold moreR; rw [hf]; rfl
    rw [c1] at gl1
    rw [c2] at gl2
    repeat' (first
      | (refine go hT 10000 rfl ?_; conv => whnf)
      | refine ops_s rfl (s_boxF rfl rfl rfl ?_)
      | refine ops_s rfl (s_listF hT rfl rfl rfl rfl rfl rfl rfl rfl ?_)
      | refine ops_g rfl (g_len hT rfl rfl rfl rfl rfl rfl (List.length_map _)) ?_
      | refine op_guard rfl rfl rfl rfl (fun h => ?_) (fun h => ?_)
      | refine ops_g rfl (g_load hT rfl rfl .here rfl) ?_
      | refine ops_g rfl (g_index hT rfl rfl rfl rfl rfl (by omega) o1 rfl) ?_
      | refine ops_g rfl (g_index hT rfl rfl rfl rfl rfl (by omega) o2 rfl) ?_
      | refine ops_g rfl (g_indexRef hT rfl rfl rfl rfl rfl (by omega) (by omega)) ?_
      | refine ops_g rfl (g_load hT rfl rfl (.there (At.left (At.idx (rows_get hF hK0)))) (part_at rfl gl1)) ?_
      | refine ops_g rfl (g_load hT rfl rfl (.there (At.right (At.idx (rows_get hF hK0)) _)) (part_at rfl gl2)) ?_)
    refine run_split rfl (fun h => by simp at h) (fun _ => ?_)
    repeat' (first
      | (refine go hT 10000 rfl ?_; conv => whnf)
      | refine ops_s rfl (s_boxF rfl rfl rfl ?_)
      | refine ops_s rfl (s_listF hT rfl rfl rfl rfl rfl rfl rfl rfl ?_)
      | refine ops_g rfl (g_len hT rfl rfl rfl rfl rfl rfl (List.length_map _)) ?_
      | refine op_guard rfl rfl rfl rfl (fun h => ?_) (fun h => ?_)
      | refine ops_g rfl (g_load hT rfl rfl .here rfl) ?_
      | refine ops_g rfl (g_index hT rfl rfl rfl rfl rfl (by omega) o1 rfl) ?_
      | refine ops_g rfl (g_index hT rfl rfl rfl rfl rfl (by omega) o2 rfl) ?_
      | refine ops_g rfl (g_indexRef hT rfl rfl rfl rfl rfl (by omega) (by omega)) ?_
      | refine ops_g rfl (g_load hT rfl rfl (.there (At.left (At.idx (rows_get hF hK0)))) (part_at rfl gl1)) ?_
      | refine ops_g rfl (g_load hT rfl rfl (.there (At.right (At.idx (rows_get hF hK0)) _)) (part_at rfl gl2)) ?_)
    · have hb : some true = some (more || moreR A ((F : Int), (K : Int)) l) := by rw [hm, Bool.or_true]
      refine ops_s rfl (s_store (cs' := modV m ++ [.slice t1 (outerV g1 L m.funcs.length), .slice t2 (outerV g2 L m.funcs.length), .bool true]) hT rfl rfl rfl .here rfl ?_)
      refine ops_sub (S' := .cells bx (modV m ++ [.slice t1 (outerV g1 L m.funcs.length), .slice t2 (outerV g2 L m.funcs.length), .ob (more || moreR A ((F : Int), (K : Int)) l)]) 77 :: (rowsS g1 L (·.1) m.funcs.length A ++ rowsS g2 L (·.2) m.funcs.length A)) (.cells (VsLe.pre (.cons (.refl _) (.cons (.refl _) (.cons (Le_ob (v := .bool true) hb) .nil))) (modV m)) (.refl _)) ?_
      repeat' (first
        | (refine go hT 10000 rfl ?_; conv => whnf)
        | refine ops_s rfl (s_boxF rfl rfl rfl ?_)
        | refine ops_s rfl (s_listF hT rfl rfl rfl rfl rfl rfl rfl rfl ?_)
        | refine ops_g rfl (g_len hT rfl rfl rfl rfl rfl rfl (List.length_map _)) ?_
        | refine op_guard rfl rfl rfl rfl (fun h => ?_) (fun h => ?_)
        | refine ops_g rfl (g_load hT rfl rfl .here rfl) ?_
        | refine ops_g rfl (g_index hT rfl rfl rfl rfl rfl (by omega) o1 rfl) ?_
        | refine ops_g rfl (g_index hT rfl rfl rfl rfl rfl (by omega) o2 rfl) ?_
        | refine ops_g rfl (g_indexRef hT rfl rfl rfl rfl rfl (by omega) (by omega)) ?_
        | refine ops_s rfl (s_store hT rfl rfl rfl (.there (At.left (At.idx (rows_get hF hK0)))) (store_at rfl rfl rfl hoff1) ?_)
        | refine ops_s rfl (s_store hT rfl rfl rfl (.there (At.right (At.idx (rows_get hF hK0)) _)) (store_at rfl rfl rfl hoff2) ?_))
      refine ret_of .nil ?_
      exact fin _ _ e1 e2
    · have hb : some true = some (more || moreR A ((F : Int), (K : Int)) l) := by rw [hm, Bool.or_true]
      refine ops_s rfl (s_store (cs' := modV m ++ [.slice t1 (outerV g1 L m.funcs.length), .slice t2 (outerV g2 L m.funcs.length), .bool true]) hT rfl rfl rfl .here rfl ?_)
      refine ops_sub (S' := .cells bx (modV m ++ [.slice t1 (outerV g1 L m.funcs.length), .slice t2 (outerV g2 L m.funcs.length), .ob (more || moreR A ((F : Int), (K : Int)) l)]) 77 :: (rowsS g1 L (·.1) m.funcs.length A ++ rowsS g2 L (·.2) m.funcs.length A)) (.cells (VsLe.pre (.cons (.refl _) (.cons (.refl _) (.cons (Le_ob (v := .bool true) hb) .nil))) (modV m)) (.refl _)) ?_
      repeat' (first
        | (refine go hT 10000 rfl ?_; conv => whnf)
        | refine ops_s rfl (s_boxF rfl rfl rfl ?_)
        | refine ops_s rfl (s_listF hT rfl rfl rfl rfl rfl rfl rfl rfl ?_)
        | refine ops_g rfl (g_len hT rfl rfl rfl rfl rfl rfl (List.length_map _)) ?_
        | refine op_guard rfl rfl rfl rfl (fun h => ?_) (fun h => ?_)
        | refine ops_g rfl (g_load hT rfl rfl .here rfl) ?_
        | refine ops_g rfl (g_index hT rfl rfl rfl rfl rfl (by omega) o1 rfl) ?_
        | refine ops_g rfl (g_index hT rfl rfl rfl rfl rfl (by omega) o2 rfl) ?_
        | refine ops_g rfl (g_indexRef hT rfl rfl rfl rfl rfl (by omega) (by omega)) ?_
        | refine ops_s rfl (s_store hT rfl rfl rfl (.there (At.left (At.idx (rows_get hF hK0)))) (store_at rfl rfl rfl hoff1) ?_)
        | refine ops_s rfl (s_store hT rfl rfl rfl (.there (At.right (At.idx (rows_get hF hK0)) _)) (store_at rfl rfl rfl hoff2) ?_))
      refine ret_of .nil ?_
      exact fin _ _ e1 e2
    · simp only [Bool.not_eq_false', decide_eq_true_eq] at h
      omega
  | some o =>
    have c1 := cell_some (sel := (·.1)) hf
    have c2 := cell_some (sel := (·.2)) hf
    have em : meet A ((F : Int), (K : Int)) l = (andI l.1 o.1, orI l.2 o.2) := by unfold meet; rw [hf]
    have e1 : andI l.1 o.1 = (meet A ((F : Int), (K : Int)) l).1 := by rw [em]
    have e2 : orI l.2 o.2 = (meet A ((F : Int), (K : Int)) l).2 := by rw [em]
    have ho := hA o hf
    rw [c1] at gl1
    rw [c2] at gl2
    repeat' (first
      | (refine go hT 10000 rfl ?_; conv => whnf)
      | refine ops_s rfl (s_boxF rfl rfl rfl ?_)
      | refine ops_s rfl (s_listF hT rfl rfl rfl rfl rfl rfl rfl rfl ?_)
      | refine ops_g rfl (g_len hT rfl rfl rfl rfl rfl rfl (List.length_map _)) ?_
      | refine op_guard rfl rfl rfl rfl (fun h => ?_) (fun h => ?_)
      | refine ops_g rfl (g_load hT rfl rfl .here rfl) ?_
      | refine ops_g rfl (g_index hT rfl rfl rfl rfl rfl (by omega) o1 rfl) ?_
      | refine ops_g rfl (g_index hT rfl rfl rfl rfl rfl (by omega) o2 rfl) ?_
      | refine ops_g rfl (g_indexRef hT rfl rfl rfl rfl rfl (by omega) (by omega)) ?_
      | refine ops_g rfl (g_load hT rfl rfl (.there (At.left (At.idx (rows_get hF hK0)))) (part_at rfl gl1)) ?_
      | refine ops_g rfl (g_load hT rfl rfl (.there (At.right (At.idx (rows_get hF hK0)) _)) (part_at rfl gl2)) ?_)
    refine run_split rfl (fun _ => ?_) (fun h => absurd (of_decide_eq_false h) (by omega))
    repeat' (first
      | (refine go hT 10000 rfl ?_; conv => whnf)
      | refine ops_s rfl (s_boxF rfl rfl rfl ?_)
      | refine ops_s rfl (s_listF hT rfl rfl rfl rfl rfl rfl rfl rfl ?_)
      | refine ops_g rfl (g_len hT rfl rfl rfl rfl rfl rfl (List.length_map _)) ?_
      | refine op_guard rfl rfl rfl rfl (fun h => ?_) (fun h => ?_)
      | refine ops_g rfl (g_load hT rfl rfl .here rfl) ?_
      | refine ops_g rfl (g_index hT rfl rfl rfl rfl rfl (by omega) o1 rfl) ?_
      | refine ops_g rfl (g_index hT rfl rfl rfl rfl rfl (by omega) o2 rfl) ?_
      | refine ops_g rfl (g_indexRef hT rfl rfl rfl rfl rfl (by omega) (by omega)) ?_
      | refine ops_g rfl (g_load hT rfl rfl (.there (At.left (At.idx (rows_get hF hK0)))) (part_at rfl gl1)) ?_
      | refine ops_g rfl (g_load hT rfl rfl (.there (At.right (At.idx (rows_get hF hK0)) _)) (part_at rfl gl2)) ?_)
    · have hb : some true = some (more || moreR A ((F : Int), (K : Int)) l) := by rw [h, Bool.true_or]
      refine ops_s rfl (s_store (cs' := modV m ++ [.slice t1 (outerV g1 L m.funcs.length), .slice t2 (outerV g2 L m.funcs.length), .bool true]) hT rfl rfl rfl .here rfl ?_)
      refine ops_sub (S' := .cells bx (modV m ++ [.slice t1 (outerV g1 L m.funcs.length), .slice t2 (outerV g2 L m.funcs.length), .ob (more || moreR A ((F : Int), (K : Int)) l)]) 77 :: (rowsS g1 L (·.1) m.funcs.length A ++ rowsS g2 L (·.2) m.funcs.length A)) (.cells (VsLe.pre (.cons (.refl _) (.cons (.refl _) (.cons (Le_ob (v := .bool true) hb) .nil))) (modV m)) (.refl _)) ?_
      repeat' (first
        | (refine go hT 10000 rfl ?_; conv => whnf)
        | refine ops_s rfl (s_boxF rfl rfl rfl ?_)
        | refine ops_s rfl (s_listF hT rfl rfl rfl rfl rfl rfl rfl rfl ?_)
        | refine ops_g rfl (g_len hT rfl rfl rfl rfl rfl rfl (List.length_map _)) ?_
        | refine op_guard rfl rfl rfl rfl (fun h => ?_) (fun h => ?_)
        | refine ops_g rfl (g_load hT rfl rfl .here rfl) ?_
        | refine ops_g rfl (g_index hT rfl rfl rfl rfl rfl (by omega) o1 rfl) ?_
        | refine ops_g rfl (g_index hT rfl rfl rfl rfl rfl (by omega) o2 rfl) ?_
        | refine ops_g rfl (g_indexRef hT rfl rfl rfl rfl rfl (by omega) (by omega)) ?_
        | refine ops_s rfl (s_store hT rfl rfl rfl (.there (At.left (At.idx (rows_get hF hK0)))) (store_at rfl rfl rfl hoff1) ?_)
        | refine ops_s rfl (s_store hT rfl rfl rfl (.there (At.right (At.idx (rows_get hF hK0)) _)) (store_at rfl rfl rfl hoff2) ?_))
      refine ret_of .nil ?_
      exact fin _ _ e1 e2
    · have hb : some true = some (more || moreR A ((F : Int), (K : Int)) l) := by
        have hne : ¬ andI l.1 o.1 = o.1 := by
          have := h
          simp only [Bool.not_eq_true', decide_eq_false_iff_not] at this
          exact this
        have hm : moreR A ((F : Int), (K : Int)) l = true := by
          unfold moreR
          rw [hf, em, decide_eq_false fun e => hne (congrArg Prod.fst (Option.some.inj e)).symm]
          rfl
        rw [hm, Bool.or_true]
      refine ops_s rfl (s_store (cs' := modV m ++ [.slice t1 (outerV g1 L m.funcs.length), .slice t2 (outerV g2 L m.funcs.length), .bool true]) hT rfl rfl rfl .here rfl ?_)
      refine ops_sub (S' := .cells bx (modV m ++ [.slice t1 (outerV g1 L m.funcs.length), .slice t2 (outerV g2 L m.funcs.length), .ob (more || moreR A ((F : Int), (K : Int)) l)]) 77 :: (rowsS g1 L (·.1) m.funcs.length A ++ rowsS g2 L (·.2) m.funcs.length A)) (.cells (VsLe.pre (.cons (.refl _) (.cons (.refl _) (.cons (Le_ob (v := .bool true) hb) .nil))) (modV m)) (.refl _)) ?_
      repeat' (first
        | (refine go hT 10000 rfl ?_; conv => whnf)
        | refine ops_s rfl (s_boxF rfl rfl rfl ?_)
        | refine ops_s rfl (s_listF hT rfl rfl rfl rfl rfl rfl rfl rfl ?_)
        | refine ops_g rfl (g_len hT rfl rfl rfl rfl rfl rfl (List.length_map _)) ?_
        | refine op_guard rfl rfl rfl rfl (fun h => ?_) (fun h => ?_)
        | refine ops_g rfl (g_load hT rfl rfl .here rfl) ?_
        | refine ops_g rfl (g_index hT rfl rfl rfl rfl rfl (by omega) o1 rfl) ?_
        | refine ops_g rfl (g_index hT rfl rfl rfl rfl rfl (by omega) o2 rfl) ?_
        | refine ops_g rfl (g_indexRef hT rfl rfl rfl rfl rfl (by omega) (by omega)) ?_
        | refine ops_s rfl (s_store hT rfl rfl rfl (.there (At.left (At.idx (rows_get hF hK0)))) (store_at rfl rfl rfl hoff1) ?_)
        | refine ops_s rfl (s_store hT rfl rfl rfl (.there (At.right (At.idx (rows_get hF hK0)) _)) (store_at rfl rfl rfl hoff2) ?_))
      refine ret_of .nil ?_
      exact fin _ _ e1 e2
    · rename_i h0
      have hb : some (!decide (orI l.2 o.2 = o.2)) = some (more || moreR A ((F : Int), (K : Int)) l) := by
        have he : andI l.1 o.1 = o.1 := by
          have := h
          simp only [Bool.not_eq_false', decide_eq_true_eq] at this
          exact this
        rw [h0, Bool.false_or]
        unfold moreR
        rw [hf, em]
        congr 2
        refine decide_eq_decide.2 ⟨fun e => by rw [he, e], fun e => (congrArg Prod.snd (Option.some.inj e)).symm⟩
      refine ops_s rfl (s_store (cs' := modV m ++ [.slice t1 (outerV g1 L m.funcs.length), .slice t2 (outerV g2 L m.funcs.length), .ob (!decide (orI l.2 o.2 = o.2))]) hT rfl rfl rfl .here rfl ?_)
      refine ops_sub (S' := .cells bx (modV m ++ [.slice t1 (outerV g1 L m.funcs.length), .slice t2 (outerV g2 L m.funcs.length), .ob (more || moreR A ((F : Int), (K : Int)) l)]) 77 :: (rowsS g1 L (·.1) m.funcs.length A ++ rowsS g2 L (·.2) m.funcs.length A)) (.cells (VsLe.pre (.cons (.refl _) (.cons (.refl _) (.cons (Le_ob (v := .ob (!decide (orI l.2 o.2 = o.2))) hb) .nil))) (modV m)) (.refl _)) ?_
      repeat' (first
        | (refine go hT 10000 rfl ?_; conv => whnf)
        | refine ops_s rfl (s_boxF rfl rfl rfl ?_)
        | refine ops_s rfl (s_listF hT rfl rfl rfl rfl rfl rfl rfl rfl ?_)
        | refine ops_g rfl (g_len hT rfl rfl rfl rfl rfl rfl (List.length_map _)) ?_
        | refine op_guard rfl rfl rfl rfl (fun h => ?_) (fun h => ?_)
        | refine ops_g rfl (g_load hT rfl rfl .here rfl) ?_
        | refine ops_g rfl (g_index hT rfl rfl rfl rfl rfl (by omega) o1 rfl) ?_
        | refine ops_g rfl (g_index hT rfl rfl rfl rfl rfl (by omega) o2 rfl) ?_
        | refine ops_g rfl (g_indexRef hT rfl rfl rfl rfl rfl (by omega) (by omega)) ?_
        | refine ops_s rfl (s_store hT rfl rfl rfl (.there (At.left (At.idx (rows_get hF hK0)))) (store_at rfl rfl rfl hoff1) ?_)
        | refine ops_s rfl (s_store hT rfl rfl rfl (.there (At.right (At.idx (rows_get hF hK0)) _)) (store_at rfl rfl rfl hoff2) ?_))
      refine ret_of .nil ?_
      exact fin _ _ e1 e2
end
end Go.Vw
namespace Go.Vw
open Go.RowKit Go.Am Go.Proofs
attribute [local irreducible] VOps VRun VNext VD VDn VDq Ret
def cR (x : AtM × Bool) (p l : P2) : AtM × Bool := (comeR x.1 p l, x.2 || moreR x.1 p l)
def retR (x : AtM × Bool) (a : Int) (back : P2) : Nat → List MOp → AtM × Bool
  | _, [] => x
  | i, o :: r => retR (match findM x.1 (a, (i : Int)) with | some e => if o.kind = 23 then cR x back e else x | none => x) a back (i + 1) r
theorem retR_cons (x : AtM × Bool) (a : Int) (b : P2) (i : Nat) (o : MOp) (r : List MOp) : retR x a b i (o :: r) = retR (match findM x.1 (a, (i : Int)) with | some e => if o.kind = 23 then cR x b e else x | none => x) a b (i + 1) r := rfl
theorem retR_nil (x : AtM × Bool) (a : Int) (b : P2) (i : Nat) : retR x a b i [] = x := rfl
def fromR (m : MModule) (x : AtM × Bool) (p : P2) : AtM × Bool :=
  match findM x.1 p with
  | none => x
  | some l =>
    if ((m.fn p.1).op p.2).kind = 23 then x
    else if ((m.fn p.1).op p.2).kind = 22 then retR (cR x (((m.fn p.1).op p.2).a, 0) l) ((m.fn p.1).op p.2).a (p.1, ((m.fn p.1).op p.2).next) 0 (m.fn ((m.fn p.1).op p.2).a).code
    else cR (if ((m.fn p.1).op p.2).kind = 21 then cR x (p.1, ((m.fn p.1).op p.2).els) l else x) (p.1, ((m.fn p.1).op p.2).next) (leaveL ((m.fn p.1).op p.2) l)
def Ln (m : MModule) (rs : List Int) (f : Nat) : Nat := if (f : Int) ∈ rs then (m.fn (f : Int)).code.length else 0
def InR (m : MModule) (rs : List Int) (p : P2) : Prop := valid m p ∧ p.1 ∈ rs
def RefInv (m : MModule) (rs : List Int) (Lk : Nat) (A : AtM) : Prop := ∀ p l, findM A p = some l → InR m rs p ∧ LockOk Lk l
theorem InR.nat {m : MModule} {rs : List Int} {p : P2} (h : InR m rs p) : ∃ F K : Nat, p = ((F : Int), (K : Int)) ∧ F < m.funcs.length ∧ K < Ln m rs F := by
  obtain ⟨⟨h1, h2, h3⟩, h4⟩ := h
  have hb := belowB_one.1 h1
  have e1 : ((p.1.toNat : Nat) : Int) = p.1 := Int.toNat_of_nonneg hb.1
  have e2 : ((p.2.toNat : Nat) : Int) = p.2 := Int.toNat_of_nonneg h2
  refine ⟨p.1.toNat, p.2.toNat, by rw [e1, e2], by omega, ?_⟩
  unfold Ln
  rw [e1, if_pos h4]
  omega
theorem meet_ok {Lk : Nat} (hL : Lk ≤ 8) {A : AtM} {p l : P2} (hA : ∀ o, findM A p = some o → LockOk Lk o) (hl : LockOk Lk l) : LockOk Lk (meet A p l) := by
  unfold meet
  cases hf : findM A p with
  | none => exact hl
  | some o => exact (hl.meet hL (hA o hf)).1
theorem refinv_come {m : MModule} {rs : List Int} {Lk : Nat} (hL : Lk ≤ 8) {A : AtM} (h : RefInv m rs Lk A) {p l : P2} (hp : InR m rs p) (hl : LockOk Lk l) : RefInv m rs Lk (comeR A p l) := fun q k hq => by
  unfold comeR at hq
  rw [find_put] at hq
  split at hq
  · next e =>
    subst e; cases hq
    exact ⟨hp, meet_ok hL (fun o ho => (h _ o ho).2) hl⟩
  · exact h q k hq
theorem refinv_ret {m : MModule} {rs : List Int} {Lk : Nat} (hL : Lk ≤ 8) {a : Int} {back : P2} (hb : InR m rs back) : ∀ (c : List MOp) (i : Nat) {x : AtM × Bool}, RefInv m rs Lk x.1 → RefInv m rs Lk (retR x a back i c).1
  | [], _, _, h => h
  | o :: c, i, x, h => by
    unfold retR
    refine refinv_ret hL hb c (i + 1) ?_
    cases hf : findM x.1 (a, (i : Int)) with
    | none => exact h
    | some e =>
      dsimp only
      split
      · exact refinv_come hL h hb (h _ e hf).2
      · exact h
theorem refinv_from {m : MModule} {rs : List Int} {Lk : Nat} (hL : Lk ≤ 8) {x : AtM × Bool} (h : RefInv m rs Lk x.1) {p : P2} (ho : OpFacts m Lk p ((m.fn p.1).op p.2)) (hp : p.1 ∈ rs) (hcl : ((m.fn p.1).op p.2).kind = 22 → ((m.fn p.1).op p.2).a ∈ rs) : RefInv m rs Lk (fromR m x p).1 := by
  unfold fromR
  cases hf : findM x.1 p with
  | none => exact h
  | some l =>
    have hl := (h p l hf).2
    dsimp only
    generalize (m.fn p.1).op p.2 = o at ho hcl
    split
    · exact h
    · next h23 =>
      have hn : InR m rs (p.1, o.next) := ⟨ho.next h23, hp⟩
      split
      · next h22 => exact refinv_ret hL hn _ _ (refinv_come hL h ⟨(ho.call h22).2, hcl h22⟩ hl)
      · refine refinv_come hL ?_ hn (hl.leave hL ho.lock)
        split
        · next h21 => exact refinv_come hL h ⟨ho.els h21, hp⟩ hl
        · exact h
/-- 255 less a bit takes the bit away. -/
theorem andMask {u : Int} (hu : 0 ≤ u ∧ u ≤ 255) {a : Int} (ha : 0 ≤ a ∧ a < 8) : andI u (255 - bitI a) = andNotI u (bitI a) := by
  obtain ⟨n, rfl⟩ : ∃ n : Nat, u = n := ⟨u.toNat, by omega⟩
  have hn : n < 256 := by omega
  have : a = 0 ∨ a = 1 ∨ a = 2 ∨ a = 3 ∨ a = 4 ∨ a = 5 ∨ a = 6 ∨ a = 7 := by omega
  have key : ∀ k : Nat, k < 8 → ∀ n : Nat, n < 256 → andI (n : Int) (255 - bitI (k : Int)) = andNotI (n : Int) (bitI (k : Int)) := by decide +kernel
  rcases this with rfl | rfl | rfl | rfl | rfl | rfl | rfl | rfl
  · exact key 0 (by omega) n hn
  · exact key 1 (by omega) n hn
  · exact key 2 (by omega) n hn
  · exact key 3 (by omega) n hn
  · exact key 4 (by omega) n hn
  · exact key 5 (by omega) n hn
  · exact key 6 (by omega) n hn
  · exact key 7 (by omega) n hn
theorem bit_range {a : Int} (h : 0 ≤ a ∧ a < 8) : 1 ≤ bitI a ∧ bitI a ≤ 128 := by
  have : a = 0 ∨ a = 1 ∨ a = 2 ∨ a = 3 ∨ a = 4 ∨ a = 5 ∨ a = 6 ∨ a = 7 := by omega
  rcases this with rfl | rfl | rfl | rfl | rfl | rfl | rfl | rfl <;> exact ⟨by decide, by decide⟩
section
variable (hT : TabOk tab Tryz.prog)
include hT
theorem comeRef' (m : MModule) (bx : Nat) (t1 t2 : Tok) (g1 g2 : Geo) (rs : List Int) (Lk : Nat) (hL : Lk ≤ 8) (x : AtM × Bool) (hx : RefInv m rs Lk x.1) (p l : P2) (hp : InR m rs p) (hl : LockOk Lk l) :
    VC Tryz.prog 29 [.ptr bx 0, .int .i64 p.1, .int .i64 p.2, .int .i64 l.1, .int .i64 l.2] (refS m bx t1 t2 g1 g2 (Ln m rs) x.1 x.2) fun _ S' => S' = refS m bx t1 t2 g1 g2 (Ln m rs) (cR x p l).1 (cR x p l).2 := by
  obtain ⟨F, K, rfl, hF, hK⟩ := hp.nat
  exact comeRef hT m bx t1 t2 g1 g2 (Ln m rs) x.1 x.2 F K l hF hK (lock_range hL hl).1 fun o ho => (lock_range hL (hx _ o ho).2).1
set_option maxRecDepth 100000 in
set_option maxHeartbeats 4000000 in
theorem fromRef (m : MModule) (hs : Small m) (bx : Nat) (t1 t2 : Tok) (g1 g2 : Geo) (rs : List Int) (Lk : Nat) (hL : Lk ≤ 8) (x : AtM × Bool) (hx : RefInv m rs Lk x.1) (F K : Nat) (hF : F < m.funcs.length) (hrs : (F : Int) ∈ rs) (hK : K < (m.fn (F : Int)).code.length) (ho : OpFacts m Lk ((F : Int), (K : Int)) ((m.fn (F : Int)).op (K : Int))) (hcl : ((m.fn (F : Int)).op (K : Int)).kind = 22 → ((m.fn (F : Int)).op (K : Int)).a ∈ rs) :
    VC Tryz.prog 30 [.ptr bx 0, .int .i64 F, .int .i64 K] (refS m bx t1 t2 g1 g2 (Ln m rs) x.1 x.2) fun _ S' => S' = refS m bx t1 t2 g1 g2 (Ln m rs) (fromR m x ((F : Int), (K : Int))).1 (fromR m x ((F : Int), (K : Int))).2 := by
  have hLn : Ln m rs F = (m.fn (F : Int)).code.length := by unfold Ln; rw [if_pos hrs]
  have hK1 : K < Ln m rs F := by omega
  have hK0 : 0 < Ln m rs F := by omega
  have v1 : rowVal (g1.b F) (Ln m rs F) (g1.c F) = .ref (g1.b F) 0 (Ln m rs F) (g1.c F) := by unfold rowVal; rw [if_neg (by omega)]
  have v2 : rowVal (g2.b F) (Ln m rs F) (g2.c F) = .ref (g2.b F) 0 (Ln m rs F) (g2.c F) := by unfold rowVal; rw [if_neg (by omega)]
  have o1 : (outerV g1 (Ln m rs) m.funcs.length)[(F : Int).toNat]? = some [.ref (g1.b F) 0 (Ln m rs F) (g1.c F)] := by rw [Int.toNat_natCast, outer_get hF, v1]
  have o2 : (outerV g2 (Ln m rs) m.funcs.length)[(F : Int).toNat]? = some [.ref (g2.b F) 0 (Ln m rs F) (g2.c F)] := by rw [Int.toNat_natCast, outer_get hF, v2]
  have gl1 : (refRow x.1 (·.1) (Ln m rs F) F ++ List.replicate (g1.r F) V.any)[0 + (K : Int).toNat * 1]? = some (.int .i64 (cellA x.1 (·.1) F K)) := by
    rw [Int.toNat_natCast, Nat.zero_add, Nat.mul_one]; exact row_get hK1
  have gl2 : (refRow x.1 (·.2) (Ln m rs F) F ++ List.replicate (g2.r F) V.any)[0 + (K : Int).toNat * 1]? = some (.int .i64 (cellA x.1 (·.2) F K)) := by
    rw [Int.toNat_natCast, Nat.zero_add, Nat.mul_one]; exact row_get hK1
  have hbF : belowB m.funcs.length [(F : Int)] = true := belowB_one.2 ⟨by omega, by omega⟩
  have hop : ((m.fn (F : Int)).code.map opV)[(K : Int).toNat]? = some (opV ((m.fn (F : Int)).op (K : Int))) := by
    unfold MFunc.op
    rw [List.getElem?_map, Int.toNat_natCast, List.getElem?_eq_getElem hK]; rfl
  refine VC.code hT 166 rfl rfl rfl rfl fun FF W S0 => ?_
  cases hf : findM x.1 ((F : Int), (K : Int)) with
  | none =>
    have c1 := cell_none (sel := (·.1)) hf
    have c2 := cell_none (sel := (·.2)) hf
    have efr : fromR m x ((F : Int), (K : Int)) = x := by unfold fromR; rw [hf]
    rw [c1] at gl1
    rw [c2] at gl2
    repeat' (first
      | (refine go hT 10000 rfl ?_; conv => whnf)
      | refine ops_s rfl (s_boxF rfl rfl rfl ?_)
      | refine ops_s rfl (s_listF hT rfl rfl rfl rfl rfl rfl rfl rfl ?_)
      | refine ops_g rfl (g_len hT rfl rfl rfl rfl rfl rfl (List.length_map _)) ?_
      | refine op_guard rfl rfl rfl rfl (fun h => ?_) (fun h => ?_)
      | refine ops_g rfl (g_load hT rfl rfl .here rfl) ?_
      | refine ops_g rfl (g_index hT rfl rfl rfl rfl rfl (by omega) o1 rfl) ?_
      | refine ops_g rfl (g_index hT rfl rfl rfl rfl rfl (by omega) o2 rfl) ?_
      | refine ops_g rfl (g_indexRef hT rfl rfl rfl rfl rfl (by omega) (by omega)) ?_
      | refine ops_g rfl (g_load hT rfl rfl (.there (At.left (At.idx (rows_get hF hK0)))) (part_at rfl gl1)) ?_
      | refine ops_g rfl (g_load hT rfl rfl (.there (At.right (At.idx (rows_get hF hK0)) _)) (part_at rfl gl2)) ?_)
    refine run_split rfl (fun _ => ?_) (fun h => by simp at h)
    refine go hT 10000 rfl ?_
    conv => whnf
    refine ret_of .nil ?_
    rw [efr]
  | some l =>
    have c1 := cell_some (sel := (·.1)) hf
    have c2 := cell_some (sel := (·.2)) hf
    have hl := (hx _ l hf).2
    have hlr := lock_range hL hl
    rw [c1] at gl1
    rw [c2] at gl2
    repeat' (first
      | (refine go hT 10000 rfl ?_; conv => whnf)
      | refine ops_s rfl (s_boxF rfl rfl rfl ?_)
      | refine ops_s rfl (s_listF hT rfl rfl rfl rfl rfl rfl rfl rfl ?_)
      | refine ops_g rfl (g_len hT rfl rfl rfl rfl rfl rfl (List.length_map _)) ?_
      | refine op_guard rfl rfl rfl rfl (fun h => ?_) (fun h => ?_)
      | refine ops_g rfl (g_load hT rfl rfl .here rfl) ?_
      | refine ops_g rfl (g_index hT rfl rfl rfl rfl rfl (by omega) o1 rfl) ?_
      | refine ops_g rfl (g_index hT rfl rfl rfl rfl rfl (by omega) o2 rfl) ?_
      | refine ops_g rfl (g_indexRef hT rfl rfl rfl rfl rfl (by omega) (by omega)) ?_
      | refine ops_g rfl (g_load hT rfl rfl (.there (At.left (At.idx (rows_get hF hK0)))) (part_at rfl gl1)) ?_
      | refine ops_g rfl (g_load hT rfl rfl (.there (At.right (At.idx (rows_get hF hK0)) _)) (part_at rfl gl2)) ?_)
    refine run_split rfl (fun h => absurd (of_decide_eq_true h) (by omega)) (fun _ => ?_)
    repeat' (first
      | (refine go hT 10000 rfl ?_; conv => whnf)
      | refine ops_s rfl (s_boxF rfl rfl rfl ?_)
      | refine ops_s rfl (s_listF hT rfl rfl rfl rfl rfl rfl rfl rfl ?_)
      | refine ops_g rfl (g_len hT rfl rfl rfl rfl rfl rfl (List.length_map _)) ?_
      | refine op_guard rfl rfl rfl rfl (fun h => ?_) (fun h => ?_)
      | refine ops_g rfl (g_load hT rfl rfl .here rfl) ?_
      | refine ops_g rfl (g_funcs hT rfl rfl rfl hbF) ?_
      | refine ops_g rfl (g_index hT rfl rfl rfl rfl rfl (by omega) hop rfl) ?_)
    have efr : fromR m x ((F : Int), (K : Int)) = if ((m.fn (F : Int)).op (K : Int)).kind = 23 then x else if ((m.fn (F : Int)).op (K : Int)).kind = 22 then retR (cR x (((m.fn (F : Int)).op (K : Int)).a, 0) l) ((m.fn (F : Int)).op (K : Int)).a ((F : Int), ((m.fn (F : Int)).op (K : Int)).next) 0 (m.fn ((m.fn (F : Int)).op (K : Int)).a).code else cR (if ((m.fn (F : Int)).op (K : Int)).kind = 21 then cR x ((F : Int), ((m.fn (F : Int)).op (K : Int)).els) l else x) ((F : Int), ((m.fn (F : Int)).op (K : Int)).next) (leaveL ((m.fn (F : Int)).op (K : Int)) l) := by unfold fromR; rw [hf]
    rw [efr]
    generalize hoe : (m.fn (F : Int)).op (K : Int) = o at ho hcl
    refine ops_s rfl (s_alloc hT rfl rfl rfl fun b8 => ?_)
    refine go hT 10000 rfl ?_
    conv => whnf
    refine ops_s rfl (s_store (cs' := opV o) hT rfl rfl rfl .here rfl ?_)
    refine ops_freezeH (t := 8) rfl ?_
    refine go hT 10000 rfl ?_
    conv => whnf
    refine run_split rfl (fun h23 => ?_) (fun h23 => ?_)
    · have h23 := of_decide_eq_true h23
      rw [if_pos h23]
      refine go hT 10000 rfl ?_
      conv => whnf
      exact ret_of .nil rfl
    have h23 := of_decide_eq_false h23
    rw [if_neg h23]
    have hn : InR m rs ((F : Int), o.next) := ⟨ho.next h23, hrs⟩
    refine go hT 10000 rfl ?_
    conv => whnf
    refine run_split rfl (fun h22 => ?_) (fun h22 => ?_)
    · have h22 := of_decide_eq_true h22
      rw [if_pos h22]
      have hin : InR m rs (o.a, 0) := ⟨(ho.call h22).2, hcl h22⟩
      have ha := (ho.call h22).1
      have hab := belowB_one.1 ha
      obtain ⟨G, K0, hGe, hGN, hGK⟩ := hin.nat
      have ea : o.a = (G : Int) := congrArg Prod.fst hGe
      have hGL : Ln m rs G = (m.fn o.a).code.length := by unfold Ln; rw [← ea, if_pos hin.2]
      have hcl2 : (m.fn o.a).code.length < 2000000 := by
        have hi : o.a.toNat < m.funcs.length := by omega
        unfold MModule.fn
        rw [List.getElem?_eq_getElem hi]
        exact hs.code _ (List.getElem_mem hi)
      have hG0 : 0 < Ln m rs G := by omega
      have w1 : rowVal (g1.b G) (Ln m rs G) (g1.c G) = .ref (g1.b G) 0 (Ln m rs G) (g1.c G) := by unfold rowVal; rw [if_neg (by omega)]
      have w2 : rowVal (g2.b G) (Ln m rs G) (g2.c G) = .ref (g2.b G) 0 (Ln m rs G) (g2.c G) := by unfold rowVal; rw [if_neg (by omega)]
      have oG1 : (outerV g1 (Ln m rs) m.funcs.length)[o.a.toNat]? = some [.ref (g1.b G) 0 (Ln m rs G) (g1.c G)] := by rw [ea, Int.toNat_natCast, outer_get hGN, w1]
      have oG2 : (outerV g2 (Ln m rs) m.funcs.length)[o.a.toNat]? = some [.ref (g2.b G) 0 (Ln m rs G) (g2.c G)] := by rw [ea, Int.toNat_natCast, outer_get hGN, w2]
      refine go hT 10000 rfl ?_
      conv => whnf
      refine ops_s rfl (s_call hT rfl rfl rfl rfl rfl rfl ((comeRef' hT m bx t1 t2 g1 g2 rs Lk hL x hx (o.a, 0) l hin hl).mono ?_))
      rintro _ _ rfl
      have hx1 : RefInv m rs Lk (cR x (o.a, 0) l).1 := refinv_come hL hx hin hl
      refine go hT 10000 rfl ?_
      conv => whnf
      intro id
      refine run_drw hT rfl rfl ?_ id
      repeat' (first
        | (refine god hT 2 rfl ?_; conv => whnf)
        | refine vd_fin rfl ?_
        | refine q_g rfl (fun S' => (g_len hT rfl rfl rfl rfl rfl rfl (List.length_map _)).qs) ?_
        | refine q_guard rfl rfl rfl rfl (fun h => ?_) (fun h => ?_)
        | refine q_load hT rfl rfl rfl .here rfl ?_
        | refine q_g rfl (fun S' => (g_funcs hT rfl rfl rfl ha).qs) ?_)
      refine go hT 10000 rfl ?_
      conv => whnf
      refine run_lq (fun w : Nat × (AtM × Bool) => ([(0, .ptr bx 0), (1, .int .i64 F), (6, .int .i64 l.1), (7, .int .i64 l.2), (8, .pin (opV o) 0), (9, .slice .no ((m.fn o.a).code.map opV)), (10, .int .i64 w.1)], refS m bx t1 t2 g1 g2 (Ln m rs) w.2.1 w.2.2)) (fun w => w.1 ≤ (m.fn o.a).code.length ∧ RefInv m rs Lk w.2.1 ∧ retR w.2 o.a ((F : Int), o.next) w.1 ((m.fn o.a).code.drop w.1) = retR (cR x (o.a, 0) l) o.a ((F : Int), o.next) 0 (m.fn o.a).code) (fun w => (m.fn o.a).code.length - w.1) (0, cR x (o.a, 0) l) ⟨Nat.zero_le _, hx1, rfl⟩ ⟨⟨⟨_, rfl, .refl _⟩, ⟨_, rfl, .refl _⟩, ⟨_, rfl, .refl _⟩, ⟨_, rfl, .refl _⟩, ⟨_, rfl, .refl _⟩, ⟨_, rfl, .refl _⟩, ⟨_, rfl, .refl _⟩, trivial⟩, .refl _⟩ ?_
      rintro ⟨k, y⟩ ⟨hk, hy, ey⟩
      dsimp only at hk hy ey
      repeat' (first
        | (refine go hT 10000 rfl ?_; conv => whnf)
        | refine ops_s rfl (s_boxF rfl rfl rfl ?_)
        | refine ops_s rfl (s_listF hT rfl rfl rfl rfl rfl rfl rfl rfl ?_)
        | refine ops_g rfl (g_len hT rfl rfl rfl rfl rfl rfl (List.length_map _)) ?_
        | refine op_guard rfl rfl rfl rfl (fun h => ?_) (fun h => ?_))
      refine run_split rfl (fun hlt => ?_) (fun hlt => ?_)
      · simp only [decide_eq_true_eq, Int.ofNat_lt] at hlt
        rw [List.drop_eq_getElem_cons hlt, retR_cons] at ey
        have hkG : k < Ln m rs G := by omega
        have gG1 : (refRow y.1 (·.1) (Ln m rs G) G ++ List.replicate (g1.r G) V.any)[0 + (k : Int).toNat * 1]? = some (.int .i64 (cellA y.1 (·.1) G k)) := by
          rw [Int.toNat_natCast, Nat.zero_add, Nat.mul_one]; exact row_get hkG
        have gG2 : (refRow y.1 (·.2) (Ln m rs G) G ++ List.replicate (g2.r G) V.any)[0 + (k : Int).toNat * 1]? = some (.int .i64 (cellA y.1 (·.2) G k)) := by
          rw [Int.toNat_natCast, Nat.zero_add, Nat.mul_one]; exact row_get hkG
        refine go hT 10000 rfl ?_
        conv => whnf
        intro id
        refine run_drw hT rfl rfl ?_ id
        repeat' (first
          | (refine god hT 2 rfl ?_; conv => whnf)
          | refine vd_fin rfl ?_
          | refine q_g rfl (fun S' => (g_len hT rfl rfl rfl rfl rfl rfl (List.length_map _)).qs) ?_
          | refine q_guard rfl rfl rfl rfl (fun h => ?_) (fun h => ?_)
          | refine q_g rfl (fun S' => (g_indexM (xs := (m.fn o.a).code) hT rfl rfl rfl rfl rfl hlt rfl).qs) ?_
          | refine q_load hT rfl rfl rfl .here rfl ?_
          | refine q_g rfl (fun S' => (g_index hT rfl rfl rfl rfl rfl hab.1 oG1 rfl).qs) ?_
          | refine q_g rfl (fun S' => (g_indexRef hT rfl rfl rfl rfl rfl (by omega) (by omega)).qs) ?_
          | refine q_load hT rfl rfl rfl (.there (At.left (At.idx (rows_get hGN hG0)))) (part_at rfl gG1) ?_)
        · have hk23 := h
          have hk23 := of_decide_eq_true hk23
          refine go hT 10000 rfl ?_
          conv => whnf
          cases hfe : findM y.1 ((G : Int), (k : Int)) with
          | none =>
            rw [show (o.a, (k : Int)) = ((G : Int), (k : Int)) by rw [ea], hfe] at ey
            refine run_split rfl (fun h => ?_) (fun _ => ?_)
            · rw [cell_none hfe] at h
              simp at h
            · refine go hT 10000 rfl ?_
              conv => whnf
              refine ops_g rfl (g_add rfl rfl rfl (by omega)) ?_
              refine go hT 10000 rfl ?_
              conv => whnf
              exact ⟨(k + 1, y), ⟨hlt, hy, ey⟩, by dsimp only; omega, ⟨⟨⟨_, rfl, .refl _⟩, ⟨_, rfl, .refl _⟩, ⟨_, rfl, .refl _⟩, ⟨_, rfl, .refl _⟩, ⟨_, rfl, .refl _⟩, ⟨_, rfl, .refl _⟩, ⟨_, rfl, .refl _⟩, trivial⟩, .refl _⟩⟩
          | some e =>
            rw [show (o.a, (k : Int)) = ((G : Int), (k : Int)) by rw [ea], hfe] at ey
            dsimp only at ey
            rw [if_pos hk23] at ey
            have he := (hy _ e hfe).2
            have her := lock_range hL he
            rw [cell_some hfe] at gG1 gG2
            refine run_split rfl (fun _ => ?_) (fun h => ?_)
            · refine go hT 10000 rfl ?_
              conv => whnf
              intro id
              refine run_drw hT rfl rfl ?_ id
              repeat' (first
                | (refine god hT 1 rfl ?_; conv => whnf)
                | refine vd_fin rfl ?_
                | refine q_g rfl (fun S' => (g_len hT rfl rfl rfl rfl rfl rfl (List.length_map _)).qs) ?_
                | refine q_guard rfl rfl rfl rfl (fun h => ?_) (fun h => ?_)
                | refine q_load hT rfl rfl rfl .here rfl ?_
                | refine q_g rfl (fun S' => (g_index hT rfl rfl rfl rfl rfl hab.1 oG1 rfl).qs) ?_
                | refine q_g rfl (fun S' => (g_index hT rfl rfl rfl rfl rfl hab.1 oG2 rfl).qs) ?_
                | refine q_g rfl (fun S' => (g_indexRef hT rfl rfl rfl rfl rfl (by omega) (by omega)).qs) ?_
                | refine q_load hT rfl rfl rfl (.there (At.left (At.idx (rows_get hGN hG0)))) (part_at rfl gG1) ?_
                | refine q_load hT rfl rfl rfl (.there (At.right (At.idx (rows_get hGN hG0)) _)) (part_at rfl gG2) ?_)
              refine vd_eff1 rfl (eff rfl rfl (s_call hT rfl rfl rfl rfl rfl rfl ((comeRef' hT m bx t1 t2 g1 g2 rs Lk hL y hy ((F : Int), o.next) e hn he).mono ?_)))
              rintro _ _ rfl
              refine And.intro trivial ?_
              refine god hT 1 rfl ?_
              conv => whnf
              refine vd_fin rfl ?_
              refine go hT 10000 rfl ?_
              conv => whnf
              refine ops_g rfl (g_add rfl rfl rfl (by omega)) ?_
              refine go hT 10000 rfl ?_
              conv => whnf
              exact ⟨(k + 1, cR y ((F : Int), o.next) e), ⟨hlt, refinv_come hL hy hn he, ey⟩, by dsimp only; omega, ⟨⟨⟨_, rfl, .refl _⟩, ⟨_, rfl, .refl _⟩, ⟨_, rfl, .refl _⟩, ⟨_, rfl, .refl _⟩, ⟨_, rfl, .refl _⟩, ⟨_, rfl, .refl _⟩, ⟨_, rfl, .refl _⟩, trivial⟩, .refl _⟩⟩
            · rw [cell_some hfe] at h
              exact absurd (of_decide_eq_false h) (by omega)
        · have hk23 := h
          have hk23 := of_decide_eq_false hk23
          refine go hT 10000 rfl ?_
          conv => whnf
          refine ops_g rfl (g_add rfl rfl rfl (by omega)) ?_
          refine go hT 10000 rfl ?_
          conv => whnf
          refine ⟨(k + 1, y), ⟨hlt, hy, ?_⟩, by dsimp only; omega, ⟨⟨⟨_, rfl, .refl _⟩, ⟨_, rfl, .refl _⟩, ⟨_, rfl, .refl _⟩, ⟨_, rfl, .refl _⟩, ⟨_, rfl, .refl _⟩, ⟨_, rfl, .refl _⟩, ⟨_, rfl, .refl _⟩, trivial⟩, .refl _⟩⟩
          rw [← ey]
          dsimp only
          congr 1
          cases findM y.1 (o.a, (k : Int)) with
          | none => rfl
          | some e => dsimp only; rw [if_neg hk23]
      · simp only [decide_eq_false_iff_not, Int.ofNat_lt] at hlt
        have hke : k = (m.fn o.a).code.length := by omega
        subst hke
        rw [List.drop_length, retR_nil] at ey
        refine go hT 10000 rfl ?_
        conv => whnf
        refine ret_of .nil ?_
        rw [← ey]
    have h22 := of_decide_eq_false h22
    rw [if_neg h22]
    have hlk := hl.leave hL ho.lock
    refine go hT 10000 rfl ?_
    conv => whnf
    refine run_split rfl (fun h16 => ?_) (fun h16 => ?_)
    · have h16 := of_decide_eq_true h16
      have el : leaveL o l = (orI l.1 (bitI o.a), orI l.2 (bitI o.a)) := by unfold leaveL; rw [if_pos h16]
      rw [if_neg (by omega)]
      rw [el] at hlk ⊢
      repeat' (first
        | (refine go hT 10000 rfl ?_; conv => whnf)
        | refine ops_s rfl (s_boxF rfl rfl rfl ?_)
        | refine ops_s rfl (s_listF hT rfl rfl rfl rfl rfl rfl rfl rfl ?_)
        | refine ops_g rfl (g_len hT rfl rfl rfl rfl rfl rfl (List.length_map _)) ?_
        | refine op_guard rfl rfl rfl rfl (fun h => ?_) (fun h => ?_)
        | refine ops_g rfl (g_shl1 rfl rfl rfl) ?_)
      refine ops_s rfl (s_call hT rfl rfl rfl rfl rfl rfl ((comeRef' hT m bx t1 t2 g1 g2 rs Lk hL x hx ((F : Int), o.next) (orI l.1 (bitI o.a), orI l.2 (bitI o.a)) hn hlk).mono ?_))
      rintro _ _ rfl
      refine go hT 10000 rfl ?_
      conv => whnf
      exact ret_of .nil rfl
    have h16 := of_decide_eq_false h16
    refine go hT 10000 rfl ?_
    conv => whnf
    refine run_split rfl (fun h17 => ?_) (fun h17 => ?_)
    · have h17 := of_decide_eq_true h17
      have hb := ho.lock (.inr h17)
      have hb8 : 0 ≤ o.a ∧ o.a < 8 := by omega
      have hbr := bit_range hb8
      have el : leaveL o l = (andI l.1 (255 - bitI o.a), andI l.2 (255 - bitI o.a)) := by
        unfold leaveL
        rw [if_neg h16, if_pos h17, andMask (by omega) hb8, andMask (by omega) hb8]
      rw [if_neg (by omega)]
      rw [el] at hlk ⊢
      repeat' (first
        | (refine go hT 10000 rfl ?_; conv => whnf)
        | refine ops_s rfl (s_boxF rfl rfl rfl ?_)
        | refine ops_s rfl (s_listF hT rfl rfl rfl rfl rfl rfl rfl rfl ?_)
        | refine ops_g rfl (g_len hT rfl rfl rfl rfl rfl rfl (List.length_map _)) ?_
        | refine op_guard rfl rfl rfl rfl (fun h => ?_) (fun h => ?_)
        | refine ops_g rfl (g_shl1 rfl rfl rfl) ?_
        | refine ops_g rfl (g_sub rfl rfl rfl (by omega)) ?_)
      refine ops_s rfl (s_call hT rfl rfl rfl rfl rfl rfl ((comeRef' hT m bx t1 t2 g1 g2 rs Lk hL x hx ((F : Int), o.next) (andI l.1 (255 - bitI o.a), andI l.2 (255 - bitI o.a)) hn hlk).mono ?_))
      rintro _ _ rfl
      refine go hT 10000 rfl ?_
      conv => whnf
      exact ret_of .nil rfl
    have h17 := of_decide_eq_false h17
    have el : leaveL o l = l := by unfold leaveL; rw [if_neg h16, if_neg h17]
    rw [el] at hlk ⊢
    refine go hT 10000 rfl ?_
    conv => whnf
    refine run_split rfl (fun h21 => ?_) (fun h21 => ?_)
    · have h21 := of_decide_eq_true h21
      rw [if_pos h21]
      have he : InR m rs ((F : Int), o.els) := ⟨ho.els h21, hrs⟩
      refine go hT 10000 rfl ?_
      conv => whnf
      refine ops_s rfl (s_call hT rfl rfl rfl rfl rfl rfl ((comeRef' hT m bx t1 t2 g1 g2 rs Lk hL x hx ((F : Int), o.els) l he hl).mono ?_))
      rintro _ _ rfl
      refine go hT 10000 rfl ?_
      conv => whnf
      refine ops_s rfl (s_call hT rfl rfl rfl rfl rfl rfl ((comeRef' hT m bx t1 t2 g1 g2 rs Lk hL (cR x ((F : Int), o.els) l) (refinv_come hL hx he hl) ((F : Int), o.next) l hn hlk).mono ?_))
      rintro _ _ rfl
      refine go hT 10000 rfl ?_
      conv => whnf
      exact ret_of .nil rfl
    · have h21 := of_decide_eq_false h21
      rw [if_neg h21]
      refine go hT 10000 rfl ?_
      conv => whnf
      refine ops_s rfl (s_call hT rfl rfl rfl rfl rfl rfl ((comeRef' hT m bx t1 t2 g1 g2 rs Lk hL x hx ((F : Int), o.next) l hn hlk).mono ?_))
      rintro _ _ rfl
      refine go hT 10000 rfl ?_
      conv => whnf
      exact ret_of .nil rfl
end
end Go.Vw
namespace Go.Vw
open Go.RowKit Go.Am Go.Proofs
attribute [local irreducible] VOps VRun VNext VD VDn VDq Ret
/-! ### the functions that a thread may call -/
inductive Rch (m : MModule) (f0 : Int) : Int → Prop
  | base : Rch m f0 f0
  | step {f : Int} {o : MOp} (h : Rch m f0 f) (ho : o ∈ (m.fn f).code) (hk : o.kind = 22) : Rch m f0 o.a
theorem nodup_below {n : Nat} {l : List Int} (hn : l.Nodup) (h : ∀ x ∈ l, 0 ≤ x ∧ x < n) : l.length ≤ n := by
  have key : ∀ (k : List Int) (l : List Int), l.Nodup → (∀ x ∈ l, x ∈ k) → l.length ≤ k.length := fun k l => by
    induction l generalizing k with
    | nil => intro _ _; exact Nat.zero_le _
    | cons x l ih =>
      intro hn h
      rw [List.nodup_cons] at hn
      have hx := h x (List.mem_cons_self ..)
      have := ih (k.erase x) hn.2 fun y hy => by
        have hne : y ≠ x := fun e => hn.1 (e ▸ hy)
        exact (List.mem_erase_of_ne hne).2 (h y (List.mem_cons_of_mem _ hy))
      rw [List.length_erase_of_mem hx] at this
      have : 0 < k.length := List.length_pos_of_mem hx
      rw [List.length_cons]; omega
  have := key ((List.range n).map fun (i : Nat) => (i : Int)) l hn fun x hx => by
    have := h x hx
    exact List.mem_map.2 ⟨x.toNat, List.mem_range.2 (by omega), Int.toNat_of_nonneg this.1⟩
  simpa using this
structure Rows (m : MModule) (f0 : Int) (out : List Int) : Prop where
  nodup : out.Nodup
  below : ∀ f ∈ out, belowB m.funcs.length [f] = true
  rch : ∀ f ∈ out, Rch m f0 f
  first : f0 ∈ out
def Past (m : MModule) (out : List Int) (fs : List Int) : Prop := ∀ f ∈ fs, ∀ o ∈ (m.fn f).code, o.kind = 22 → o.a ∈ out
theorem Rows.len {m : MModule} {f0 : Int} {out : List Int} (h : Rows m f0 out) : out.length ≤ m.funcs.length := nodup_below h.nodup fun x hx => by
  have := belowB_one.1 (h.below x hx)
  omega
def ReachR (m : MModule) (f0 : Int) (v : V) : Prop := ∃ rs : List Int, v = .slice .no (rs.map intV) ∧ (∀ f, f ∈ rs ↔ Rch m f0 f) ∧ rs.length ≤ m.funcs.length
section
variable (hT : TabOk tab Tryz.prog)
include hT
theorem hasRef {t1 : Tok} (xs : List Int) (v : Int) (hl : xs.length < 2000000) : Pure Tryz.prog 28 [.slice t1 (xs.map intV), .int .i64 v] (.ob (decide (v ∈ xs))) := by
  refine VC.code hT 18 rfl rfl rfl rfl fun F W S0 => ?_
  refine go hT 10000 rfl ?_
  conv => whnf
  refine run_lq (fun i : Nat => ([(0, .slice t1 (xs.map intV)), (1, .int .i64 v), (5, .int .i64 i)], [])) (fun i => i ≤ xs.length ∧ ¬ v ∈ xs.take i) (fun i => xs.length - i) 0 ⟨Nat.zero_le _, by simp⟩ ⟨⟨⟨_, rfl, .refl _⟩, ⟨_, rfl, .refl _⟩, ⟨_, rfl, .refl _⟩, trivial⟩, .nil⟩ ?_
  rintro i ⟨hi, hn⟩
  repeat' (first
    | (refine go hT 10000 rfl ?_; conv => whnf)
    | refine ops_s rfl (s_boxF rfl rfl rfl ?_)
    | refine ops_s rfl (s_listF hT rfl rfl rfl rfl rfl rfl rfl rfl ?_)
    | refine ops_g rfl (g_len hT rfl rfl rfl rfl rfl rfl (List.length_map _)) ?_
    | refine op_guard rfl rfl rfl rfl (fun h => ?_) (fun h => ?_))
  refine run_split rfl (fun hlt => ?_) (fun hlt => ?_)
  · simp only [decide_eq_true_eq, Int.ofNat_lt] at hlt
    repeat' (first
      | (refine go hT 10000 rfl ?_; conv => whnf)
      | refine ops_s rfl (s_boxF rfl rfl rfl ?_)
      | refine ops_s rfl (s_listF hT rfl rfl rfl rfl rfl rfl rfl rfl ?_)
      | refine ops_g rfl (g_len hT rfl rfl rfl rfl rfl rfl (List.length_map _)) ?_
      | refine op_guard rfl rfl rfl rfl (fun h => ?_) (fun h => ?_)
      | refine ops_g rfl (g_indexM (xs := xs) hT rfl rfl rfl rfl rfl hlt rfl) ?_)
    refine run_split rfl (fun he => ?_) (fun he => ?_)
    · have he := of_decide_eq_true he
      refine go hT 10000 rfl ?_
      conv => whnf
      refine ret_bool rfl rfl rfl ?_
      rw [decide_eq_true (he ▸ List.getElem_mem hlt)]
    · have he := of_decide_eq_false he
      refine go hT 10000 rfl ?_
      conv => whnf
      refine ops_g rfl (g_add rfl rfl rfl (by omega)) ?_
      refine go hT 10000 rfl ?_
      conv => whnf
      refine ⟨i + 1, ⟨hlt, fun hm => ?_⟩, by omega, ⟨⟨_, rfl, .refl _⟩, ⟨_, rfl, .refl _⟩, ⟨_, rfl, .refl _⟩, trivial⟩, .nil⟩
      rw [List.take_succ_eq_append_getElem hlt, List.mem_append, List.mem_singleton] at hm
      rcases hm with hm | hm
      · exact hn hm
      · exact he hm.symm
  · simp only [decide_eq_false_iff_not, Int.ofNat_lt] at hlt
    rw [List.take_of_length_le (by omega)] at hn
    refine go hT 10000 rfl ?_
    conv => whnf
    refine ret_bool rfl rfl rfl ?_
    rw [decide_eq_false hn]
set_option maxHeartbeats 2000000 in
theorem reachRef (m : MModule) (hs : Small m) (T : Nat) (hTl : T < m.threads.length) (h0 : belowB m.funcs.length [m.threads[T]] = true) (hcall : ∀ f ∈ m.funcs, ∀ o ∈ f.code, o.kind = 22 → belowB m.funcs.length [o.a] = true) :
    PureR Tryz.prog 27 [.agg (modV m), .int .i64 T] (ReachR m m.threads[T]) := by
  have hfs := hs.funcs
  have hcd : ∀ f, belowB m.funcs.length [f] = true → (m.fn f).code.length < 2000000 ∧ m.fn f ∈ m.funcs := fun f hf => by
    have hb := belowB_one.1 hf
    have hi : f.toNat < m.funcs.length := by omega
    unfold MModule.fn
    rw [List.getElem?_eq_getElem hi]
    exact ⟨hs.code _ (List.getElem_mem hi), List.getElem_mem hi⟩
  refine VC.code hT 78 rfl rfl rfl rfl fun F W S0 => ?_
  refine go hT 10000 rfl ?_
  conv => whnf
  refine ops_s rfl (s_boxF rfl rfl rfl ?_)
  refine go hT 10000 rfl ?_
  conv => whnf
  refine ops_g rfl (g_indexM (xs := m.threads) hT rfl rfl rfl rfl rfl hTl rfl) ?_
  refine go hT 10000 rfl ?_
  conv => whnf
  refine ops_s rfl (s_buildSlice (rows := [m.threads[T]].map intV) hT rfl rfl rfl rfl rfl rfl rfl rfl fun tk htk => ?_)
  refine go hT 10000 rfl ?_
  conv => whnf
  refine run_lq (fun w : Nat × List Int × Tok => ([(2, .pin (modV m) 0), (5, .slice w.2.2 (w.2.1.map intV)), (6, .int .i64 w.1)], [.tl w.2.2])) (fun w => w.1 ≤ w.2.1.length ∧ Rows m m.threads[T] w.2.1 ∧ Past m w.2.1 (w.2.1.take w.1) ∧ tokB 1 w.2.2 = true) (fun w => m.funcs.length - w.1) (0, [m.threads[T]], tk) ⟨Nat.zero_le _, ⟨by simp, fun f hf => by rw [List.mem_singleton.1 hf]; exact h0, fun f hf => by rw [List.mem_singleton.1 hf]; exact .base, by simp⟩, (fun f hf => by simp at hf), htk⟩ ⟨⟨⟨_, rfl, .refl _⟩, ⟨_, rfl, .refl _⟩, ⟨_, rfl, .refl _⟩, trivial⟩, .refl _⟩ ?_
  rintro ⟨i, out, tk⟩ ⟨hi, hR, hP, htk⟩
  dsimp only at hi hR hP htk
  have hlen := hR.len
  repeat' (first
    | (refine go hT 10000 rfl ?_; conv => whnf)
    | refine ops_s rfl (s_boxF rfl rfl rfl ?_)
    | refine ops_s rfl (s_listF hT rfl rfl rfl rfl rfl rfl rfl rfl ?_)
    | refine ops_g rfl (g_len hT rfl rfl rfl rfl rfl rfl (List.length_map _)) ?_
    | refine op_guard rfl rfl rfl rfl (fun h => ?_) (fun h => ?_))
  refine run_split rfl (fun hlt => ?_) (fun hlt => ?_)
  · simp only [decide_eq_true_eq, Int.ofNat_lt] at hlt
    have hbi := hR.below _ (List.getElem_mem hlt)
    obtain ⟨hcl, hmem⟩ := hcd _ hbi
    refine go hT 10000 rfl ?_
    conv => whnf
    intro id
    refine run_drw hT rfl rfl ?_ id
    repeat' (first
      | (refine god hT 2 rfl ?_; conv => whnf)
      | refine vd_fin rfl ?_
      | refine q_g rfl (fun S' => (g_len hT rfl rfl rfl rfl rfl rfl (List.length_map _)).qs) ?_
      | refine q_guard rfl rfl rfl rfl (fun h => ?_) (fun h => ?_)
      | refine q_g rfl (fun S' => (g_indexM (xs := out) hT rfl rfl rfl rfl rfl hlt rfl).qs) ?_
      | refine q_g rfl (fun S' => (g_funcs hT rfl rfl rfl hbi).qs) ?_)
    refine go hT 10000 rfl ?_
    conv => whnf
    refine run_lq (fun w : Nat × List Int × Tok => ([(2, .pin (modV m) 0), (5, .slice w.2.2 ((out ++ w.2.1).map intV)), (6, .int .i64 i), (7, .slice .no ((m.fn out[i]).code.map opV)), (8, .int .i64 w.1)], [.tl w.2.2])) (fun w => w.1 ≤ (m.fn out[i]).code.length ∧ Rows m m.threads[T] (out ++ w.2.1) ∧ (∀ o ∈ (m.fn out[i]).code.take w.1, o.kind = 22 → o.a ∈ out ++ w.2.1) ∧ tokB 1 w.2.2 = true) (fun w => (m.fn out[i]).code.length - w.1) (0, [], tk) ⟨Nat.zero_le _, by rw [List.append_nil]; exact hR, (fun o ho => by simp at ho), htk⟩ ⟨⟨⟨_, rfl, .refl _⟩, ⟨_, rfl, by rw [List.append_nil]; exact .refl _⟩, ⟨_, rfl, .refl _⟩, ⟨_, rfl, .refl _⟩, ⟨_, rfl, .refl _⟩, trivial⟩, .refl _⟩ ?_
    rintro ⟨k, ext, tk'⟩ ⟨hk, hR', hP', htk'⟩
    dsimp only at hk hR' hP' htk'
    have hlen' := hR'.len
    repeat' (first
      | (refine go hT 10000 rfl ?_; conv => whnf)
      | refine ops_s rfl (s_boxF rfl rfl rfl ?_)
      | refine ops_s rfl (s_listF hT rfl rfl rfl rfl rfl rfl rfl rfl ?_)
      | refine ops_g rfl (g_len hT rfl rfl rfl rfl rfl rfl (List.length_map _)) ?_
      | refine op_guard rfl rfl rfl rfl (fun h => ?_) (fun h => ?_))
    refine run_split rfl (fun hlk => ?_) (fun hlk => ?_)
    · simp only [decide_eq_true_eq, Int.ofNat_lt] at hlk
      have step : ∀ ext', (∀ x, x ∈ out ++ ext → x ∈ out ++ ext') → ((m.fn out[i]).code[k].kind = 22 → (m.fn out[i]).code[k].a ∈ out ++ ext') → ∀ o ∈ (m.fn out[i]).code.take (k + 1), o.kind = 22 → o.a ∈ out ++ ext' := fun ext' hsub hlast o ho hk22 => by
        rw [List.take_succ_eq_append_getElem hlk, List.mem_append, List.mem_singleton] at ho
        rcases ho with ho | rfl
        · exact hsub _ (hP' o ho hk22)
        · exact hlast hk22
      repeat' (first
        | (refine go hT 10000 rfl ?_; conv => whnf)
        | refine ops_s rfl (s_boxF rfl rfl rfl ?_)
        | refine ops_s rfl (s_listF hT rfl rfl rfl rfl rfl rfl rfl rfl ?_)
        | refine ops_g rfl (g_len hT rfl rfl rfl rfl rfl rfl (List.length_map _)) ?_
        | refine op_guard rfl rfl rfl rfl (fun h => ?_) (fun h => ?_)
        | refine ops_g rfl (g_indexM (xs := (m.fn out[i]).code) hT rfl rfl rfl rfl rfl hlk rfl) ?_)
      · have hk22 := of_decide_eq_true h
        refine ops_s rfl (s_pure hT rfl rfl rfl rfl rfl rfl (hasRef hT (out ++ ext) _ (by omega)) ?_)
        refine go hT 10000 rfl ?_
        conv => whnf
        refine run_split rfl (fun hnew => ?_) (fun hold => ?_)
        · simp only [Bool.not_eq_true', decide_eq_false_iff_not] at hnew
          refine go hT 10000 rfl ?_
          conv => whnf
          refine ops_g rfl (g_indexM (xs := (m.fn out[i]).code) hT rfl rfl rfl rfl rfl hlk rfl) ?_
          refine go hT 10000 rfl ?_
          conv => whnf
          refine ops_s rfl (s_listF (rows := [(m.fn out[i]).code[k].a].map intV) hT rfl rfl rfl rfl rfl rfl rfl rfl ?_)
          refine go hT 10000 rfl ?_
          conv => whnf
          refine ops_s rfl (s_append (rows := (out ++ ext).map intV) hT rfl rfl rfl rfl rfl rfl rfl rfl rfl rfl htk' .here (intV_len _) (intV_len [_]) (intV_cell [_]) (by simp only [List.length_cons, List.length_nil, List.length_map]; omega) fun tk2 htk2 => ?_)
          refine go hT 10000 rfl ?_
          conv => whnf
          refine ops_g rfl (g_add rfl rfl rfl (by omega)) ?_
          refine go hT 10000 rfl ?_
          conv => whnf
          have hba : belowB m.funcs.length [(m.fn out[i]).code[k].a] = true := hcall _ hmem _ (List.getElem_mem hlk) hk22
          refine ⟨(k + 1, ext ++ [(m.fn out[i]).code[k].a], tk2), ⟨hlk, ⟨?_, fun f hf => ?_, fun f hf => ?_, ?_⟩, step _ (fun x hx => by rw [← List.append_assoc]; exact List.mem_append_left _ hx) (fun _ => by simp), htk2⟩, by dsimp only; omega, ⟨⟨_, rfl, .refl _⟩, ⟨_, rfl, by dsimp only; rw [← List.append_assoc, List.map_append (l₁ := out ++ ext)]; exact .refl _⟩, ⟨_, rfl, .refl _⟩, ⟨_, rfl, .refl _⟩, ⟨_, rfl, .refl _⟩, trivial⟩, .refl _⟩
          · rw [← List.append_assoc, List.nodup_append]
            exact ⟨hR'.nodup, by simp, fun a ha b hb e => by rw [List.mem_singleton.1 hb] at e; subst e; exact hnew ha⟩
          · rw [← List.append_assoc, List.mem_append, List.mem_singleton] at hf
            rcases hf with hf | rfl
            · exact hR'.below f hf
            · exact hba
          · rw [← List.append_assoc, List.mem_append, List.mem_singleton] at hf
            rcases hf with hf | rfl
            · exact hR'.rch f hf
            · exact .step (hR.rch _ (List.getElem_mem hlt)) (List.getElem_mem hlk) hk22
          · exact List.mem_append_left _ hR.first
        · simp only [Bool.not_eq_false', decide_eq_true_eq] at hold
          refine go hT 10000 rfl ?_
          conv => whnf
          refine ops_g rfl (g_add rfl rfl rfl (by omega)) ?_
          refine go hT 10000 rfl ?_
          conv => whnf
          exact ⟨(k + 1, ext, tk'), ⟨hlk, hR', step _ (fun x hx => hx) (fun _ => hold), htk'⟩, by dsimp only; omega, ⟨⟨_, rfl, .refl _⟩, ⟨_, rfl, .refl _⟩, ⟨_, rfl, .refl _⟩, ⟨_, rfl, .refl _⟩, ⟨_, rfl, .refl _⟩, trivial⟩, .refl _⟩
      · have hk22 := of_decide_eq_false h
        refine ops_g rfl (g_add rfl rfl rfl (by omega)) ?_
        refine go hT 10000 rfl ?_
        conv => whnf
        exact ⟨(k + 1, ext, tk'), ⟨hlk, hR', step _ (fun x hx => hx) (fun h => absurd h hk22), htk'⟩, by dsimp only; omega, ⟨⟨_, rfl, .refl _⟩, ⟨_, rfl, .refl _⟩, ⟨_, rfl, .refl _⟩, ⟨_, rfl, .refl _⟩, ⟨_, rfl, .refl _⟩, trivial⟩, .refl _⟩
    · simp only [decide_eq_false_iff_not, Int.ofNat_lt] at hlk
      rw [List.take_of_length_le (by omega)] at hP'
      refine go hT 10000 rfl ?_
      conv => whnf
      refine ops_g rfl (g_add rfl rfl rfl (by omega)) ?_
      refine go hT 10000 rfl ?_
      conv => whnf
      refine ⟨(i + 1, out ++ ext, tk'), ⟨by rw [List.length_append]; omega, hR', fun f hf => ?_, htk'⟩, by dsimp only; omega, ⟨⟨_, rfl, .refl _⟩, ⟨_, rfl, .refl _⟩, ⟨_, rfl, .refl _⟩, trivial⟩, .refl _⟩
      rw [List.take_append_of_le_length (by omega), List.take_succ_eq_append_getElem hlt, List.mem_append, List.mem_singleton] at hf
      rcases hf with hf | rfl
      · exact fun o ho hk => List.mem_append_left _ (hP f hf o ho hk)
      · exact hP'
  · simp only [decide_eq_false_iff_not, Int.ofNat_lt] at hlt
    rw [List.take_of_length_le (by omega)] at hP
    have hall : ∀ f, Rch m m.threads[T] f → f ∈ out := fun f hf => by
      induction hf with
      | base => exact hR.first
      | step _ ho hk ih => exact hP _ ih _ ho hk
    refine go hT 10000 rfl ?_
    conv => whnf
    refine ops_s rfl (s_buildSlice (rows := ([] : List Int).map intV) hT rfl rfl rfl rfl rfl rfl rfl rfl fun tk3 htk3 => ?_)
    refine go hT 10000 rfl ?_
    conv => whnf
    refine run_lq (fun w : Nat × Tok => ([(2, .pin (modV m) 0), (5, .slice tk (out.map intV)), (9, .slice w.2 ((((List.range w.1).map fun (f : Nat) => (f : Int)).filter fun f => decide (f ∈ out)).map intV)), (10, .int .i64 w.1)], [.tl w.2])) (fun w => w.1 ≤ m.funcs.length ∧ tokB 1 w.2 = true) (fun w => m.funcs.length - w.1) (0, tk3) ⟨Nat.zero_le _, htk3⟩ ⟨⟨⟨_, rfl, .refl _⟩, ⟨_, rfl, .refl _⟩, ⟨_, rfl, .refl _⟩, ⟨_, rfl, .refl _⟩, trivial⟩, .keep .nil⟩ ?_
    rintro ⟨f, tk4⟩ ⟨hf, htk4⟩
    dsimp only at hf htk4
    repeat' (first
      | (refine go hT 10000 rfl ?_; conv => whnf)
      | refine ops_s rfl (s_boxF rfl rfl rfl ?_)
      | refine ops_s rfl (s_listF hT rfl rfl rfl rfl rfl rfl rfl rfl ?_)
      | refine ops_g rfl (g_len hT rfl rfl rfl rfl rfl rfl (List.length_map _)) ?_
      | refine op_guard rfl rfl rfl rfl (fun h => ?_) (fun h => ?_))
    refine run_split rfl (fun hlf => ?_) (fun hlf => ?_)
    · simp only [decide_eq_true_eq, Int.ofNat_lt] at hlf
      refine go hT 10000 rfl ?_
      conv => whnf
      refine ops_s rfl (s_pure hT rfl rfl rfl rfl rfl rfl (hasRef hT out _ (by omega)) ?_)
      refine go hT 10000 rfl ?_
      conv => whnf
      have hfl : ((((List.range f).map fun (f : Nat) => (f : Int)).filter fun f => decide (f ∈ out))).length ≤ f := Nat.le_trans (List.length_filter_le _ _) (by simp)
      refine run_split rfl (fun hin => ?_) (fun hin => ?_)
      · have hin := of_decide_eq_true hin
        refine go hT 10000 rfl ?_
        conv => whnf
        refine ops_s rfl (s_listF (rows := [(f : Int)].map intV) hT rfl rfl rfl rfl rfl rfl rfl rfl ?_)
        refine go hT 10000 rfl ?_
        conv => whnf
        refine ops_s rfl (s_append (rows := (((List.range f).map fun (f : Nat) => (f : Int)).filter fun f => decide (f ∈ out)).map intV) hT rfl rfl rfl rfl rfl rfl rfl rfl rfl rfl htk4 .here (intV_len _) (intV_len [_]) (intV_cell [_]) (by simp only [List.length_cons, List.length_nil, List.length_map]; omega) fun tk5 htk5 => ?_)
        refine go hT 10000 rfl ?_
        conv => whnf
        refine ops_g rfl (g_add rfl rfl rfl (by omega)) ?_
        refine go hT 10000 rfl ?_
        conv => whnf
        refine ⟨(f + 1, tk5), ⟨hlf, htk5⟩, by dsimp only; omega, ⟨⟨_, rfl, .refl _⟩, ⟨_, rfl, .refl _⟩, ⟨_, rfl, ?_⟩, ⟨_, rfl, .refl _⟩, trivial⟩, .refl _⟩
        dsimp only
        rw [List.range_succ, List.map_append, List.filter_append, List.map_append]
        simp only [List.map_cons, List.map_nil]
        rw [List.filter_cons_of_pos (by simpa using hin)]
        exact .refl _
      · have hin := of_decide_eq_false hin
        refine go hT 10000 rfl ?_
        conv => whnf
        refine ops_g rfl (g_add rfl rfl rfl (by omega)) ?_
        refine go hT 10000 rfl ?_
        conv => whnf
        refine ⟨(f + 1, tk4), ⟨hlf, htk4⟩, by dsimp only; omega, ⟨⟨_, rfl, .refl _⟩, ⟨_, rfl, .refl _⟩, ⟨_, rfl, ?_⟩, ⟨_, rfl, .refl _⟩, trivial⟩, .refl _⟩
        dsimp only
        rw [List.range_succ, List.map_append, List.filter_append, List.map_append]
        simp only [List.map_cons, List.map_nil]
        rw [List.filter_cons_of_neg (by simpa using hin)]
        simp only [List.filter_nil, List.map_nil, List.append_nil]
        exact .refl _
    · simp only [decide_eq_false_iff_not, Int.ofNat_lt] at hlf
      have hfe : f = m.funcs.length := by omega
      subst hfe
      refine go hT 10000 rfl ?_
      conv => whnf
      refine ret_of (.tmpL rfl (V.Le.slice _ _) .nil) ⟨_, rfl, fun g => ⟨fun hg => ?_, fun hg => ?_⟩, ?_⟩
      · exact hR.rch g (of_decide_eq_true (List.mem_filter.1 hg).2)
      · have hgo := hall g hg
        have := belowB_one.1 (hR.below g hgo)
        exact List.mem_filter.2 ⟨List.mem_map.2 ⟨g.toNat, List.mem_range.2 (by omega), Int.toNat_of_nonneg this.1⟩, decide_eq_true hgo⟩
      · exact Nat.le_trans (List.length_filter_le _ _) (by simp)
end
end Go.Vw
namespace Go.Vw
open Go.RowKit Go.Am Go.Proofs
/-! ### the tables, written no more -/
def rtab (L : Nat → Nat) (A : AtM) (sel : P2 → Int) (N : Nat) : List (List Int) := (List.range N).map fun f => (List.range (L f)).map fun k => cellA A sel f k
theorem refRow_int (A : AtM) (sel : P2 → Int) (n f : Nat) : ((((List.range n).map fun k => cellA A sel f k).map intV).flatten) = refRow A sel n f := by
  unfold refRow
  rw [List.map_map]
  generalize List.range n = l
  induction l with
  | nil => rfl
  | cons k l ih => rw [List.map_cons, List.map_cons, List.flatten_cons, ih]; rfl
theorem Iss.turn {F : Fz} {w : World} {v v' : V} {post : List V} (h : ∀ u, Is F w v u → Is F w v' u) : ∀ (pre : List V) {us : List Value}, Iss F w (pre ++ v :: post) us → Iss F w (pre ++ v' :: post) us
  | [], _, .cons a b => .cons (h _ a) b
  | _ :: pre, _, .cons a b => .cons a (Iss.turn h pre b)
theorem cold_ref {F : Fz} {w : World} {A : AtM} {sel : P2 → Int} {b n c r f : Nat} {u : Value} (hc : n ≤ c) (h : Is F w (.ref b 0 n c) u) (hk : Cold F w (.cells b (refRow A sel n f ++ List.replicate r .any) 3)) : Is F w (.slice .no (((List.range n).map fun k => cellA A sel f k).map intV)) u := by
  cases h
  obtain ⟨h1, C, h2, h3⟩ := hk
  have hl : (((List.range n).map fun k => cellA A sel f k).map intV).length = n := by simp
  have hlen := h3.length
  simp only [List.length_append, List.length_replicate, refRow, List.length_map, List.length_range, Array.length_toList] at hlen
  have := flat_slice (F := F) (w := w) (t := .no) (b := b) (x := 0) (c := c) (sz := 1) (rows := ((List.range n).map fun k => cellA A sel f k).map intV) (us := C.toList.take n) (intV_len _) (by rw [hl]; exact hc) trivial
    (by
      rw [refRow_int]
      refine All2.of_get (by simp [refRow]; omega) fun i x y => ?_
      have hi : i < n := by simpa [refRow] using x
      obtain ⟨u, e2, r2⟩ := h3.get i (refRow A sel n f)[i] (by rw [List.getElem?_append_left x]; simp [x])
      have e3 : (C.toList.take n)[i] = u := by
        rw [List.getElem_take]
        exact (List.getElem?_eq_some_iff.1 e2).2
      rw [e3]; exact r2)
    fun j v hj => by
      obtain ⟨hj1, hj2⟩ := List.getElem?_eq_some_iff.1 hj
      rw [List.getElem_take] at hj2
      rw [List.length_take] at hj1
      have hjn : j < n := by omega
      have hj3 : j < C.size := by simpa using (by omega : j < C.toList.length)
      rw [Nat.zero_add]
      refine ⟨h1 j (by simp [refRow]; omega), ?_⟩
      unfold World.cell?
      rw [h2]
      simp only [Option.isSome_none, Bool.false_eq_true, if_false]
      rw [Array.getElem?_eq_getElem hj3]
      simpa using hj2
  rw [hl] at this
  exact this
theorem outer_cold {F : Fz} {w : World} {t : Tok} {g : Geo} {L : Nat → Nat} {N : Nat} {A : AtM} {sel : P2 → Int} {u : Value} (hg : ∀ f, L f ≤ g.c f) (hk : ∀ x ∈ rowsS g L sel N A, Cold F w x) (h : Is F w (.slice t (outerV g L N)) u) : Is F w (.slice .no ((rtab L A sel N).map oneRow)) u := by
  have hl2 : ((rtab L A sel N).map oneRow).length = N := by simp [rtab]
  have hlN : (outerV g L N).length = N := by simp [outerV]
  have hget : ∀ i (hi : i < (outerV g L N).length), (outerV g L N)[i] = [rowVal (g.b i) (L i) (g.c i)] := fun i hi => by simp [outerV]
  generalize outerV g L N = rows at h hlN hget
  cases h with
  | nilSlice _ x =>
    have : N = 0 := by simpa using hlN.symm
    subst this
    exact .nilSlice _ _
  | slice g' hl hc hv hn hx ht =>
    rename_i b off c x sz
    have e : rows.length = ((rtab L A sel N).map oneRow).length := by rw [hl2, hlN]
    rw [e]
    refine Is.slice (off := off) (sz := sz) g' (fun i hi => ?_) (fun i hi => hc i (by omega)) (fun i hi k hk' => ?_) (by omega) hx trivial
    · have hi2 : i < rows.length := by omega
      rw [← hl i hi2, hget i hi2]
      simp [oneRow]
    · have hi2 : i < rows.length := by omega
      have hiN : i < N := by omega
      have k0 : k = 0 := by simpa [oneRow] using hk'
      subst k0
      have h1 := hv i hi2 0 (by rw [hget i hi2]; simp)
      have e1 : rows[i][0]'(by rw [hget i hi2]; simp) = rowVal (g.b i) (L i) (g.c i) := by simp [hget i hi2]
      rw [e1] at h1
      have e2 : ((rtab L A sel N).map oneRow)[i][0] = .slice .no (((List.range (L i)).map fun k => cellA A sel i k).map intV) := by simp [rtab, oneRow]
      rw [e2]
      by_cases h0 : L i = 0
      · unfold rowVal at h1
        rw [if_pos h0] at h1
        rw [h0]
        exact V.Le.slice _ _ _ _ _ h1
      · unfold rowVal at h1
        rw [if_neg h0] at h1
        refine cold_ref (r := g.r i) (hg i) h1 (hk _ (List.mem_of_getElem? (rows_get (A := A) (sel := sel) hiN (by omega))))
theorem rowHE_kind {g : Geo} {L : Nat → Nat} {sel : P2 → Int} {N : Nat} {A : AtM} : ∀ x ∈ rowsS g L sel N A, (∃ b cs e, x = .cells b cs e) ∨ x = .tl .no := fun x hx => by
  obtain ⟨f, _, rfl⟩ := List.mem_map.1 hx
  unfold rowHE
  split
  · exact .inr rfl
  · exact .inl ⟨_, _, _, rfl⟩
theorem freeze_refS (m : MModule) (bx : Nat) (t1 t2 : Tok) (g1 g2 : Geo) (L : Nat → Nat) (A : AtM) (more : Bool) (h1 : ∀ f, L f ≤ g1.c f) (h2 : ∀ f, L f ≤ g2.c f) :
    Turn (refS m bx t1 t2 g1 g2 L A more) [.cells bx (modV m ++ [.slice .no ((rtab L A (·.1) m.funcs.length).map oneRow), .slice .no ((rtab L A (·.2) m.funcs.length).map oneRow), .ob more]) 77] := fun F w s => by
  have e : refS m bx t1 t2 g1 g2 L A more = [HE.cells bx (modV m ++ [.slice t1 (outerV g1 L m.funcs.length), .slice t2 (outerV g2 L m.funcs.length), .ob more]) 77] ++ ((rowsS g1 L (·.1) m.funcs.length A ++ rowsS g2 L (·.2) m.funcs.length A) ++ []) := by simp [refS]
  rw [e] at s ⊢
  obtain ⟨F', s', k', cold⟩ := freeze_row (rowsS g1 L (·.1) m.funcs.length A ++ rowsS g2 L (·.2) m.funcs.length A) _ [] (fun x hx => by
    rcases List.mem_append.1 hx with hx | hx
    · exact rowHE_kind x hx
    · exact rowHE_kind x hx) s
  have s2 := (Sub.keep (.nil : Sub _ [])).sat s'
  have k2 := (Sub.keep (.nil : Sub _ [])).keep' k'
  obtain ⟨⟨C, c1, c2⟩, c3⟩ := s2.ok _ (List.mem_cons_self ..)
  refine ⟨F', ⟨s2.fz, s2.nodup, fun x hx => ?_⟩, k2.less fun b hb => hb⟩
  rw [List.mem_singleton.1 hx]
  refine ⟨⟨C, c1, ?_⟩, c3⟩
  have q1 := Iss.turn (fun u => outer_cold h1 fun x hx => cold x (List.mem_append_left _ hx)) (modV m) c2
  have e3 : ∀ (a b c : V), modV m ++ [a, b, c] = (modV m ++ [a]) ++ b :: [c] := fun a b c => by simp
  rw [e3] at q1 ⊢
  exact Iss.turn (fun u => outer_cold h2 fun x hx => cold x (List.mem_append_right _ hx)) _ q1
end Go.Vw
namespace Go.Vw
open Go.RowKit Go.Am Go.Proofs
attribute [local irreducible] VOps VRun VNext VD VDn VDq Ret
def Geo.upd (g : Geo) (f b c r : Nat) : Geo := ⟨fun i => if i = f then b else g.b i, fun i => if i = f then c else g.c i, fun i => if i = f then r else g.r i⟩
theorem outer_upd (g : Geo) (L : Nat → Nat) (f b c r : Nat) : outerV (g.upd f b c r) L (f + 1) = outerV g L f ++ [[rowVal b (L f) c]] := by
  unfold outerV
  rw [List.range_succ, List.map_append]
  congr 1
  · refine List.map_congr_left fun i hi => ?_
    have : i ≠ f := by have := List.mem_range.1 hi; omega
    simp [Geo.upd, this]
  · simp [Geo.upd]
theorem rows_upd (g : Geo) (L : Nat → Nat) (sel : P2 → Int) (A : AtM) (f b c r : Nat) : rowsS (g.upd f b c r) L sel (f + 1) A = rowsS g L sel f A ++ [rowHE b (L f) r (refRow A sel (L f) f)] := by
  unfold rowsS
  rw [List.range_succ, List.map_append]
  congr 1
  · refine List.map_congr_left fun i hi => ?_
    have : i ≠ f := by have := List.mem_range.1 hi; omega
    simp [Geo.upd, this]
  · simp [Geo.upd]
theorem outer_len (g : Geo) (L : Nat → Nat) (N : Nat) : ∀ r ∈ outerV g L N, r.length = 1 := fun r hr => by
  obtain ⟨f, _, rfl⟩ := List.mem_map.1 hr
  rfl
theorem refRow_succ (A : AtM) (sel : P2 → Int) (n f : Nat) : refRow A sel (n + 1) f = refRow A sel n f ++ [.int .i64 (cellA A sel f n)] := by
  unfold refRow
  rw [List.range_succ, List.map_append]; rfl
def bldS (m : MModule) (bx : Nat) (L : Nat → Nat) (f : Nat) (g1 g2 : Geo) (k1 k2 : Tok) (R : Hp) : Hp := .cells bx (modV m ++ [.slice k1 (outerV g1 L f), .slice k2 (outerV g2 L f), .bool false]) 77 :: ((rowsS g1 L (·.1) f [] ++ rowsS g2 L (·.2) f []) ++ (.tl k1 :: .tl k2 :: R))
theorem bld_perm (m : MModule) (bx : Nat) (L : Nat → Nat) (f : Nat) (g1 g2 : Geo) (k1 k2 : Tok) (R : Hp) (b1 c1 r1 b2 c2 r2 : Nat) :
    List.Perm (rowHE b1 (L f) r1 (refRow [] (·.1) (L f) f) :: rowHE b2 (L f) r2 (refRow [] (·.2) (L f) f) :: .cells bx (modV m ++ [.slice k1 (outerV g1 L f ++ [[rowVal b1 (L f) c1]]), .slice k2 (outerV g2 L f ++ [[rowVal b2 (L f) c2]]), .bool false]) 77 :: ((rowsS g1 L (·.1) f [] ++ rowsS g2 L (·.2) f []) ++ (.tl k1 :: .tl k2 :: R)))
      (bldS m bx L (f + 1) (g1.upd f b1 c1 r1) (g2.upd f b2 c2 r2) k1 k2 R) := by
  unfold bldS
  rw [outer_upd, outer_upd, rows_upd, rows_upd]
  generalize rowHE b1 (L f) r1 (refRow [] (·.1) (L f) f) = x1
  generalize rowHE b2 (L f) r2 (refRow [] (·.2) (L f) f) = x2
  generalize HE.cells bx _ 77 = y
  generalize rowsS g1 L (·.1) f [] = l1
  generalize rowsS g2 L (·.2) f [] = l2
  generalize HE.tl k1 :: HE.tl k2 :: R = T
  have p1 : List.Perm (x1 :: x2 :: y :: (l1 ++ l2 ++ T)) (y :: x1 :: x2 :: (l1 ++ l2 ++ T)) := (List.Perm.cons x1 (List.Perm.swap y x2 _)).trans (List.Perm.swap y x1 _)
  refine p1.trans (List.Perm.cons y ?_)
  have e : l1 ++ [x1] ++ (l2 ++ [x2]) ++ T = l1 ++ x1 :: (l2 ++ x2 :: T) := by simp
  have e2 : l1 ++ l2 ++ T = l1 ++ (l2 ++ T) := by simp
  rw [e, e2]
  refine List.Perm.trans ?_ List.perm_middle.symm
  refine List.Perm.cons x1 ?_
  have q : List.Perm (x2 :: (l1 ++ (l2 ++ T))) (l1 ++ x2 :: (l2 ++ T)) := List.perm_middle.symm
  refine q.trans (List.Perm.append_left l1 List.perm_middle.symm)
inductive RSt (m : MModule) (rs : List Int) (f0 : Int) : AtM → Prop
  | start : RSt m rs f0 (comeR [] (f0, 0) (0, 0))
  | step {A : AtM} {b : Bool} {p : P2} (h : RSt m rs f0 A) (hp : InR m rs p) : RSt m rs f0 (fromR m (A, b) p).1
def quiet (m : MModule) (A : AtM) (p : P2) : Prop := (fromR m (A, false) p).2 = false
def RThread (m : MModule) (f : Int) (a b : List (List Int)) : Prop := ∃ (A : AtM) (rs : List Int), RSt m rs f A ∧ (∀ g, g ∈ rs ↔ Rch m f g) ∧ (∀ p, InR m rs p → quiet m A p) ∧ a = rtab (Ln m rs) A (·.1) m.funcs.length ∧ b = rtab (Ln m rs) A (·.2) m.funcs.length
inductive RThreads (m : MModule) : List Int → List (List (List Int)) → List (List (List Int)) → Prop
  | nil : RThreads m [] [] []
  | cons {f : Int} {fs : List Int} {a b : List (List Int)} {us vs : List (List (List Int))} (h : RThread m f a b) (k : RThreads m fs us vs) : RThreads m (f :: fs) (a :: us) (b :: vs)
theorem RThreads.snoc {m : MModule} {f : Int} {a b : List (List Int)} (h : RThread m f a b) : ∀ {fs us vs}, RThreads m fs us vs → RThreads m (fs ++ [f]) (us ++ [a]) (vs ++ [b])
  | _, _, _, .nil => .cons h .nil
  | _, _, _, .cons h1 k => .cons h1 (RThreads.snoc h k)
theorem RThreads.lens {m : MModule} : ∀ {fs us vs}, RThreads m fs us vs → us.length = fs.length ∧ vs.length = fs.length
  | _, _, _, .nil => ⟨rfl, rfl⟩
  | _, _, _, .cons _ k => ⟨by simp [k.lens.1], by simp [k.lens.2]⟩
def FindRR (m : MModule) (v : V) : Prop := ∃ must may e, v = .tup [.agg (heldV must may), .int .i64 e] ∧ ((rightModB m = true ∧ RThreads m m.threads must may ∧ e = 0) ∨ (rightModB m = false ∧ must = [] ∧ may = [] ∧ e = 70))
/-! a round -/
theorem same_put {A : AtM} {p l : P2} (h : moreR A p l = false) (q : P2) : findM (comeR A p l) q = findM A q := by
  unfold moreR at h
  rw [Bool.not_eq_false', decide_eq_true_eq] at h
  unfold comeR
  rw [find_put]
  split
  · next e => rw [e, h]
  · rfl
theorem meet_same {A A' : AtM} (h : ∀ q, findM A q = findM A' q) (p l : P2) : meet A p l = meet A' p l := by unfold meet; rw [h]
theorem come_same {A A' : AtM} (h : ∀ q, findM A q = findM A' q) (p l q : P2) : findM (comeR A p l) q = findM (comeR A' p l) q := by
  unfold comeR
  rw [find_put, find_put, meet_same h, h]
theorem more_same {A A' : AtM} (h : ∀ q, findM A q = findM A' q) (p l : P2) : moreR A p l = moreR A' p l := by
  unfold moreR
  rw [meet_same h, h]
/-- From one state to a later one, nothing new unless it is said. -/
structure Calm (x y : AtM × Bool) : Prop where
  keep : x.2 = true → y.2 = true
  same : y.2 = false → ∀ q, findM y.1 q = findM x.1 q
theorem Calm.refl (x : AtM × Bool) : Calm x x := ⟨id, fun _ _ => rfl⟩
theorem Calm.trans {x y z : AtM × Bool} (h : Calm x y) (k : Calm y z) : Calm x z := ⟨fun e => k.keep (h.keep e), fun e q => by
  have hy : y.2 = false := by
    cases hy : y.2
    · rfl
    · rw [k.keep hy] at e; cases e
  rw [k.same e q, h.same hy q]⟩
theorem calm_come (x : AtM × Bool) (p l : P2) : Calm x (cR x p l) := ⟨fun e => by unfold cR; rw [e]; rfl, fun e q => by
  unfold cR at e ⊢
  dsimp only at e ⊢
  rw [Bool.or_eq_false_iff] at e
  exact same_put e.2 q⟩
theorem calm_ret (a : Int) (back : P2) : ∀ (c : List MOp) (i : Nat) (x : AtM × Bool), Calm x (retR x a back i c)
  | [], _, x => .refl x
  | o :: c, i, x => by
    rw [retR_cons]
    refine Calm.trans ?_ (calm_ret a back c (i + 1) _)
    split
    · split
      · exact calm_come _ _ _
      · exact .refl _
    · exact .refl _
theorem calm_from (m : MModule) (x : AtM × Bool) (p : P2) : Calm x (fromR m x p) := by
  unfold fromR
  split
  · exact .refl _
  · split
    · exact .refl _
    · split
      · exact (calm_come _ _ _).trans (calm_ret _ _ _ _ _)
      · refine Calm.trans ?_ (calm_come _ _ _)
        split
        · exact calm_come _ _ _
        · exact .refl _
/-- What a step says hangs on what stands in the tables alone. -/
structure Alike (x y : AtM × Bool) : Prop where
  at_ : ∀ q, findM x.1 q = findM y.1 q
  more : x.2 = y.2
theorem alike_come {x y : AtM × Bool} (h : Alike x y) (p l : P2) : Alike (cR x p l) (cR y p l) := ⟨fun q => come_same h.at_ p l q, by unfold cR; dsimp only; rw [h.more, more_same h.at_]⟩
theorem alike_ret (a : Int) (back : P2) : ∀ (c : List MOp) (i : Nat) {x y : AtM × Bool}, Alike x y → Alike (retR x a back i c) (retR y a back i c)
  | [], _, _, _, h => h
  | o :: c, i, x, y, h => by
    rw [retR_cons, retR_cons]
    refine alike_ret a back c (i + 1) ?_
    rw [h.at_]
    split
    · split
      · exact alike_come h _ _
      · exact h
    · exact h
theorem alike_from (m : MModule) {x y : AtM × Bool} (h : Alike x y) (p : P2) : Alike (fromR m x p) (fromR m y p) := by
  unfold fromR
  rw [h.at_]
  split
  · exact h
  · split
    · exact h
    · split
      · exact alike_ret _ _ _ _ (alike_come h _ _)
      · refine alike_come ?_ _ _
        split
        · exact alike_come h _ _
        · exact h
/-- Each thing new is less than what was. -/
def Falls (m : MModule) (x y : AtM × Bool) : Prop := pot m y.1 ≤ pot m x.1 ∧ (y.2 = true → x.2 = true ∨ pot m y.1 < pot m x.1)
theorem Falls.refl (m : MModule) (x : AtM × Bool) : Falls m x x := ⟨Nat.le_refl _, .inl⟩
theorem Falls.trans {m : MModule} {x y z : AtM × Bool} (h : Falls m x y) (k : Falls m y z) : Falls m x z := ⟨Nat.le_trans k.1 h.1, fun e => by
  rcases k.2 e with e | e
  · rcases h.2 e with e | e
    · exact .inl e
    · exact .inr (Nat.lt_of_le_of_lt k.1 e)
  · exact .inr (Nat.lt_of_lt_of_le e h.1)⟩
theorem pot_same {m : MModule} {A A' : AtM} (h : ∀ q, findM A q = findM A' q) : pot m A = pot m A' := by
  unfold pot
  congr 1
  exact List.map_congr_left fun q _ => by rw [h]
theorem falls_come {m : MModule} {rs : List Int} {Lk : Nat} (hL : Lk ≤ 8) {x : AtM × Bool} (hx : RefInv m rs Lk x.1) {p l : P2} (hp : InR m rs p) (hl : LockOk Lk l) : Falls m x (cR x p l) := by
  unfold cR
  cases hm : moreR x.1 p l with
  | false =>
    rw [Bool.or_false]
    refine ⟨?_, fun e => .inl e⟩
    dsimp only
    rw [pot_same (same_put hm)]
    exact Nat.le_refl _
  | true =>
    have hlt : pot m (comeR x.1 p l) < pot m x.1 := by
      unfold comeR
      refine pot_put hp.1 ?_
      unfold moreR at hm
      rw [Bool.not_eq_true', decide_eq_false_iff_not] at hm
      cases hf : findM x.1 p with
      | none =>
        have e : meet x.1 p l = l := by unfold meet; rw [hf]
        rw [e]
        have := lock_range hL hl
        show (l.1 + 255 - l.2).toNat < 512
        omega
      | some o =>
        have e : meet x.1 p l = (andI l.1 o.1, orI l.2 o.2) := by unfold meet; rw [hf]
        obtain ⟨k1, k2, _⟩ := hl.meet hL (hx p o hf).2
        rw [e]
        have r1 := lock_range hL k1
        rcases k2 with k2 | k2
        · rw [hf, e, k2] at hm; exact absurd rfl hm
        · show (andI l.1 o.1 + 255 - orI l.2 o.2).toNat < (o.1 + 255 - o.2).toNat
          dsimp only at r1
          omega
    exact ⟨Nat.le_of_lt hlt, fun _ => .inr hlt⟩
theorem falls_ret {m : MModule} {rs : List Int} {Lk : Nat} (hL : Lk ≤ 8) {a : Int} {back : P2} (hb : InR m rs back) : ∀ (c : List MOp) (i : Nat) {x : AtM × Bool}, RefInv m rs Lk x.1 → Falls m x (retR x a back i c)
  | [], _, x, _ => .refl m x
  | o :: c, i, x, h => by
    rw [retR_cons]
    cases hf : findM x.1 (a, (i : Int)) with
    | none => exact falls_ret hL hb c (i + 1) h
    | some e =>
      dsimp only
      split
      · exact (falls_come hL h hb (h _ e hf).2).trans (falls_ret hL hb c (i + 1) (refinv_come hL h hb (h _ e hf).2))
      · exact falls_ret hL hb c (i + 1) h
theorem falls_from {m : MModule} {rs : List Int} {Lk : Nat} (hL : Lk ≤ 8) {x : AtM × Bool} (h : RefInv m rs Lk x.1) {p : P2} (ho : OpFacts m Lk p ((m.fn p.1).op p.2)) (hp : p.1 ∈ rs) (hcl : ((m.fn p.1).op p.2).kind = 22 → ((m.fn p.1).op p.2).a ∈ rs) : Falls m x (fromR m x p) := by
  unfold fromR
  cases hf : findM x.1 p with
  | none => exact .refl m x
  | some l =>
    have hl := (h p l hf).2
    dsimp only
    generalize (m.fn p.1).op p.2 = o at ho hcl
    split
    · exact .refl m x
    · next h23 =>
      have hn : InR m rs (p.1, o.next) := ⟨ho.next h23, hp⟩
      split
      · next h22 =>
        have hin : InR m rs (o.a, 0) := ⟨(ho.call h22).2, hcl h22⟩
        exact (falls_come hL h hin hl).trans (falls_ret hL hn _ _ (refinv_come hL h hin hl))
      · split
        · next h21 =>
          have he : InR m rs (p.1, o.els) := ⟨ho.els h21, hp⟩
          exact (falls_come hL h he hl).trans (falls_come hL (refinv_come hL h he hl) hn (hl.leave hL ho.lock))
        · exact falls_come hL h hn (hl.leave hL ho.lock)
end Go.Vw
namespace Go.Vw
open Go.RowKit Go.Am Go.Proofs
attribute [local irreducible] VOps VRun VNext VD VDn VDq Ret
theorem Ln_le {m : MModule} {rs : List Int} (f : Nat) : Ln m rs f ≤ (m.fn (f : Int)).code.length := by unfold Ln; split <;> omega
theorem rch_below {m : MModule} {f0 : Int} (h0 : belowB m.funcs.length [f0] = true) (hcalls : ∀ f ∈ m.funcs, ∀ o ∈ f.code, o.kind = 22 → belowB m.funcs.length [o.a] = true) {g : Int} (h : Rch m f0 g) : belowB m.funcs.length [g] = true := by
  induction h with
  | base => exact h0
  | @step f o _ ho hk ih =>
    have hb := belowB_one.1 ih
    have hif : f.toNat < m.funcs.length := by omega
    refine hcalls _ ?_ _ ho hk
    unfold MModule.fn
    rw [List.getElem?_eq_getElem hif]
    exact List.getElem_mem hif
theorem Sub.pre {a b : Hp} (h : Sub a b) : ∀ l : Hp, Sub (l ++ a) (l ++ b)
  | [] => h
  | _ :: l => .keep (Sub.pre h l)
section
variable (hT : TabOk tab Tryz.prog)
include hT
theorem fromRef' (m : MModule) (hs : Small m) (bx : Nat) (t1 t2 : Tok) (g1 g2 : Geo) (rs : List Int) (Lk : Nat) (hL : Lk ≤ 8) (x : AtM × Bool) (hx : RefInv m rs Lk x.1) (p : P2) (hp : InR m rs p) (ho : OpFacts m Lk p ((m.fn p.1).op p.2)) (hcl : ((m.fn p.1).op p.2).kind = 22 → ((m.fn p.1).op p.2).a ∈ rs) :
    VC Tryz.prog 30 [.ptr bx 0, .int .i64 p.1, .int .i64 p.2] (refS m bx t1 t2 g1 g2 (Ln m rs) x.1 x.2) fun _ S' => S' = refS m bx t1 t2 g1 g2 (Ln m rs) (fromR m x p).1 (fromR m x p).2 := by
  obtain ⟨F, K, e, hF, hK⟩ := hp.nat
  subst e
  have hLn : Ln m rs F = (m.fn (F : Int)).code.length := by unfold Ln; rw [if_pos hp.2]
  exact fromRef hT m hs bx t1 t2 g1 g2 rs Lk hL x hx F K hF hp.2 (by omega) ho hcl
set_option maxRecDepth 100000 in
set_option maxHeartbeats 4000000 in
theorem findRef (m : MModule) (hs : Small m) (hright : Pure Tryz.prog 26 [.agg (modV m)] (.ob (rightModB m))) : PureR Tryz.prog 10 [.agg (modV m)] (FindRR m) := by
  refine VC.code hT 143 rfl rfl rfl rfl fun F W S0 => ?_
  refine go hT 10000 rfl ?_
  conv => whnf
  refine ops_s rfl (s_boxF rfl rfl rfl ?_)
  refine go hT 10000 rfl ?_
  conv => whnf
  refine ops_s rfl (s_alloc hT rfl rfl rfl fun b2 => ?_)
  refine go hT 10000 rfl ?_
  conv => whnf
  refine ops_s rfl (s_pure hT rfl rfl rfl rfl rfl rfl hright ?_)
  refine go hT 10000 rfl ?_
  conv => whnf
  refine run_split rfl (fun hr => ?_) (fun hr => ?_)
  · rw [Bool.not_eq_true'] at hr
    refine go hT 10000 rfl ?_
    conv => whnf
    refine ops_s rfl (s_store (cs' := [.slice .zero [], .slice .zero []]) hT rfl rfl rfl .here rfl ?_)
    refine ops_sub (.cells (vs' := heldV [] []) (.cons (V.Le.slice _ _) (.cons (V.Le.slice _ _) .nil)) .nil) ?_
    refine go hT 10000 rfl ?_
    conv => whnf
    refine ret_of (.cell rfl .here rfl (.tmp rfl .nil)) ?_
    exact ⟨[], [], 70, rfl, .inr ⟨hr, rfl, rfl, rfl⟩⟩
  have hr := nf hr
  have hfr : frameB m = true := by
    simp only [rightModB, Bool.and_eq_true] at hr
    exact hr.1
  obtain ⟨hm, _⟩ := frame_ok hfr
  obtain ⟨hL, hpl⟩ := frame_facts hfr
  have hof := op_facts hr
  have hcalls := calls_ok hr
  have hth := hs.threads
  have hfs := hs.funcs
  refine go hT 10000 rfl ?_
  conv => whnf
  refine ops_s rfl (s_alloc hT rfl rfl rfl fun b4 => ?_)
  refine go hT 10000 rfl ?_
  conv => whnf
  refine ops_s rfl (s_store (cs' := [.slice .zero [], .slice .zero []]) hT rfl rfl rfl .here rfl ?_)
  refine go hT 10000 rfl ?_
  conv => whnf
  refine run_lq (fun w : Nat × List (List (List Int)) × List (List (List Int)) × Tok × Tok => ([(1, .pin (modV m) 0), (2, .ptr b2 0), (4, .ptr b4 0), (5, .int .i64 w.1)], [.cells b4 [.slice w.2.2.2.1 (w.2.1.map tabV), .slice w.2.2.2.2 (w.2.2.1.map tabV)] 33, .cells b2 [.slice .zero [], .slice .zero []] 33, .tl w.2.2.2.1, .tl w.2.2.2.2])) (fun w => w.1 ≤ m.threads.length ∧ RThreads m (m.threads.take w.1) w.2.1 w.2.2.1 ∧ tokB 1 w.2.2.2.1 = true ∧ tokB 1 w.2.2.2.2 = true) (fun w => m.threads.length - w.1) (0, [], [], .zero, .zero) ⟨Nat.zero_le _, .nil, rfl, rfl⟩ ⟨⟨⟨_, rfl, .refl _⟩, ⟨_, rfl, .refl _⟩, ⟨_, rfl, .refl _⟩, ⟨_, rfl, .refl _⟩, trivial⟩, .keep (.keep (.zero (.zero .nil)))⟩ ?_
  rintro ⟨i, must, may, tm, ta⟩ ⟨hi, hts, htm, hta⟩
  dsimp only at hi hts htm hta
  refine go hT 10000 rfl ?_
  conv => whnf
  refine ops_g rfl (g_len hT rfl rfl rfl rfl rfl rfl (List.length_map _)) ?_
  refine go hT 10000 rfl ?_
  conv => whnf
  refine run_split rfl (fun hlt => ?_) (fun hlt => ?_)
  · simp only [decide_eq_true_eq, Int.ofNat_lt] at hlt
    have hfirst := thread_ok hr (List.getElem_mem hlt)
    have hfb := belowB_one.1 hfirst
    refine go hT 10000 rfl ?_
    conv => whnf
    refine ops_s rfl (s_pureR hT rfl rfl rfl rfl rfl rfl (reachRef hT m hs i hlt hfirst hcalls) ?_)
    rintro _ ⟨rs, rfl, hrs, hrl⟩
    have hrb : ∀ g ∈ rs, belowB m.funcs.length [g] = true := fun g hg => rch_below hfirst hcalls ((hrs g).1 hg)
    have hclose : ∀ f ∈ rs, ∀ o ∈ (m.fn f).code, o.kind = 22 → o.a ∈ rs := fun f hf o ho hk => (hrs _).2 (.step ((hrs f).1 hf) ho hk)
    refine go hT 10000 rfl ?_
    conv => whnf
    refine ops_s rfl (s_box rfl rfl rfl fun bx => ?_)
    generalize hR : [HE.cells b4 [.slice tm (must.map tabV), .slice ta (may.map tabV)] 33, .cells b2 [.slice .zero [], .slice .zero []] 33, .tl tm, .tl ta] = R
    refine go hT 10000 rfl ?_
    conv => whnf
    refine run_lq (fun w : Nat × Geo × Geo × Tok × Tok => ([(1, .pin (modV m) 0), (2, .ptr b2 0), (4, .ptr b4 0), (5, .int .i64 i), (6, .slice .no (rs.map intV)), (7, .ptr bx 0), (8, .int .i64 w.1)], bldS m bx (Ln m rs) w.1 w.2.1 w.2.2.1 w.2.2.2.1 w.2.2.2.2 R)) (fun w => w.1 ≤ m.funcs.length ∧ (∀ f, f < w.1 → Ln m rs f ≤ w.2.1.c f) ∧ (∀ f, f < w.1 → Ln m rs f ≤ w.2.2.1.c f) ∧ tokB 1 w.2.2.2.1 = true ∧ tokB 1 w.2.2.2.2 = true) (fun w => m.funcs.length - w.1) (0, ⟨fun _ => 0, fun _ => 0, fun _ => 0⟩, ⟨fun _ => 0, fun _ => 0, fun _ => 0⟩, .zero, .zero) ⟨Nat.zero_le _, (fun f hf => absurd hf (Nat.not_lt_zero _)), (fun f hf => absurd hf (Nat.not_lt_zero _)), rfl, rfl⟩ ⟨⟨⟨_, rfl, .refl _⟩, ⟨_, rfl, .refl _⟩, ⟨_, rfl, .refl _⟩, ⟨_, rfl, .refl _⟩, ⟨_, rfl, .refl _⟩, ⟨_, rfl, .refl _⟩, ⟨_, rfl, .refl _⟩, trivial⟩, .keep (.zero (.zero (.refl _)))⟩ ?_
    rintro ⟨f, g1, g2, k1, k2⟩ ⟨hf, hg1, hg2, hk1, hk2⟩
    dsimp only at hf hg1 hg2 hk1 hk2
    repeat' (first
      | (refine go hT 10000 rfl ?_; conv => whnf)
      | refine ops_s rfl (s_boxF rfl rfl rfl ?_)
      | refine ops_s rfl (s_listF hT rfl rfl rfl rfl rfl rfl rfl rfl ?_)
      | refine ops_g rfl (g_len hT rfl rfl rfl rfl rfl rfl (List.length_map _)) ?_
      | refine op_guard rfl rfl rfl rfl (fun h => ?_) (fun h => ?_))
    refine run_split rfl (fun hlf => ?_) (fun hlf => ?_)
    · simp only [decide_eq_true_eq, Int.ofNat_lt] at hlf
      have hbf : belowB m.funcs.length [(f : Int)] = true := belowB_one.2 ⟨by omega, by omega⟩
      have hcl : (m.fn (f : Int)).code.length < 2000000 := by
        unfold MModule.fn
        rw [Int.toNat_natCast, List.getElem?_eq_getElem hlf]
        exact hs.code _ (List.getElem_mem hlf)
      have hcp : 0 < (m.fn (f : Int)).code.length := (MModule.fn_ok hm hbf).code.1
      refine go hT 10000 rfl ?_
      conv => whnf
      refine ops_s rfl (s_emptyList hT rfl rfl rfl ?_)
      refine go hT 10000 rfl ?_
      conv => whnf
      refine ops_s rfl (s_emptyList hT rfl rfl rfl ?_)
      refine go hT 10000 rfl ?_
      conv => whnf
      by_cases hin : (f : Int) ∈ rs
      · have hLf0 : Ln m rs f = (m.fn (f : Int)).code.length := by unfold Ln; rw [if_pos hin]
        refine run_lq (fun w : Nat × Nat × Nat × Nat × Nat × Nat × Nat => ([(1, .pin (modV m) 0), (2, .ptr b2 0), (4, .ptr b4 0), (5, .int .i64 i), (6, .slice .no (rs.map intV)), (7, .ptr bx 0), (8, .int .i64 f), (9, rowVal w.2.1 w.1 w.2.2.1), (10, rowVal w.2.2.2.2.1 w.1 w.2.2.2.2.2.1), (11, .int .i64 w.1)], rowHE w.2.1 w.1 w.2.2.2.1 (refRow [] (·.1) w.1 f) :: rowHE w.2.2.2.2.1 w.1 w.2.2.2.2.2.2 (refRow [] (·.2) w.1 f) :: bldS m bx (Ln m rs) f g1 g2 k1 k2 R)) (fun w => w.1 ≤ (m.fn (f : Int)).code.length ∧ (w.1 = 0 ∨ w.2.2.1 = w.1 + w.2.2.2.1) ∧ (w.1 = 0 ∨ w.2.2.2.2.2.1 = w.1 + w.2.2.2.2.2.2)) (fun w => (m.fn (f : Int)).code.length - w.1) (0, 0, 0, 0, 0, 0, 0) ⟨Nat.zero_le _, .inl rfl, .inl rfl⟩ ⟨⟨⟨_, rfl, .refl _⟩, ⟨_, rfl, .refl _⟩, ⟨_, rfl, .refl _⟩, ⟨_, rfl, .refl _⟩, ⟨_, rfl, .refl _⟩, ⟨_, rfl, .refl _⟩, ⟨_, rfl, .refl _⟩, ⟨_, rfl, .refl _⟩, ⟨_, rfl, .refl _⟩, ⟨_, rfl, .refl _⟩, trivial⟩, .no (.no (.refl _))⟩ ?_
        rintro ⟨n, b1, c1, r1, b2, c2, r2⟩ ⟨hn, hc1, hc2⟩
        dsimp only at hn hc1 hc2
        repeat' (first
          | (refine go hT 10000 rfl ?_; conv => whnf)
          | refine ops_s rfl (s_boxF rfl rfl rfl ?_)
          | refine ops_s rfl (s_listF hT rfl rfl rfl rfl rfl rfl rfl rfl ?_)
          | refine ops_g rfl (g_len hT rfl rfl rfl rfl rfl rfl (List.length_map _)) ?_
          | refine op_guard rfl rfl rfl rfl (fun h => ?_) (fun h => ?_)
          | refine ops_g rfl (g_funcs hT rfl rfl rfl hbf) ?_)
        · simp only [decide_eq_true_eq, Int.ofNat_lt] at h
          refine ops_s rfl (s_pure hT rfl rfl rfl rfl rfl rfl (hasRef hT rs _ (by omega)) ?_)
          refine go hT 10000 rfl ?_
          conv => whnf
          refine run_split rfl (fun _ => ?_) (fun hno => absurd hin (of_decide_eq_false hno))
          refine go hT 10000 rfl ?_
          conv => whnf
          cases n with
          | zero =>
            refine ops_s rfl (s_listF (rows := [intV (-1)]) hT rfl rfl rfl rfl rfl rfl rfl rfl ?_)
            refine go hT 10000 rfl ?_
            conv => whnf
            refine ops_s rfl (s_append0 (sz := 1) (news := [intV (-1)]) hT rfl rfl rfl rfl rfl rfl rfl rfl rfl rfl .here (intV_len [-1]) (by decide) (by decide) fun b1' c1' r1' e1 => ?_)
            refine go hT 10000 rfl ?_
            conv => whnf
            refine ops_s rfl (s_listF (rows := [intV (-1)]) hT rfl rfl rfl rfl rfl rfl rfl rfl ?_)
            refine go hT 10000 rfl ?_
            conv => whnf
            refine ops_s rfl (s_append0 (sz := 1) (news := [intV (-1)]) hT rfl rfl rfl rfl rfl rfl rfl rfl rfl rfl (.there .here) (intV_len [-1]) (by decide) (by decide) fun b2' c2' r2' e2 => ?_)
            refine go hT 10000 rfl ?_
            conv => whnf
            refine ops_g rfl (g_add rfl rfl rfl (by omega)) ?_
            refine go hT 10000 rfl ?_
            conv => whnf
            exact ⟨(1, b1', c1', r1', b2', c2', r2'), ⟨by dsimp only; omega, .inr (by dsimp only; simp at e1; omega), .inr (by dsimp only; simp at e2; omega)⟩, by dsimp only; omega, ⟨⟨_, rfl, .refl _⟩, ⟨_, rfl, .refl _⟩, ⟨_, rfl, .refl _⟩, ⟨_, rfl, .refl _⟩, ⟨_, rfl, .refl _⟩, ⟨_, rfl, .refl _⟩, ⟨_, rfl, .refl _⟩, ⟨_, rfl, .refl _⟩, ⟨_, rfl, .refl _⟩, ⟨_, rfl, .refl _⟩, trivial⟩, .refl _⟩
          | succ q =>
            have d1 : c1 = q + 1 + r1 := by omega
            have d2 : c2 = q + 1 + r2 := by omega
            refine ops_s rfl (s_listF (rows := [intV (-1)]) hT rfl rfl rfl rfl rfl rfl rfl rfl ?_)
            refine go hT 10000 rfl ?_
            conv => whnf
            refine ops_s rfl (s_appendR (sz := 1) (news := [intV (-1)]) (vs := refRow [] (·.1) (q + 1) f) hT rfl rfl rfl rfl rfl rfl rfl rfl rfl rfl .here (by simp [refRow]) (show c1 * 1 = (q + 1) * 1 + r1 by omega) (intV_len [-1]) (intV_cell [-1]) (by simp only [List.length_cons, List.length_nil]; omega) fun b1' c1' r1' e1 => ?_)
            refine go hT 10000 rfl ?_
            conv => whnf
            refine ops_s rfl (s_listF (rows := [intV (-1)]) hT rfl rfl rfl rfl rfl rfl rfl rfl ?_)
            refine go hT 10000 rfl ?_
            conv => whnf
            refine ops_s rfl (s_appendR (sz := 1) (news := [intV (-1)]) (vs := refRow [] (·.2) (q + 1) f) hT rfl rfl rfl rfl rfl rfl rfl rfl rfl rfl (.there .here) (by simp [refRow]) (show c2 * 1 = (q + 1) * 1 + r2 by omega) (intV_len [-1]) (intV_cell [-1]) (by simp only [List.length_cons, List.length_nil]; omega) fun b2' c2' r2' e2 => ?_)
            refine go hT 10000 rfl ?_
            conv => whnf
            refine ops_g rfl (g_add rfl rfl rfl (by omega)) ?_
            refine go hT 10000 rfl ?_
            conv => whnf
            refine ⟨(q + 2, b1', c1', r1', b2', c2', r2'), ⟨by dsimp only; omega, .inr (by dsimp only; simp at e1; omega), .inr (by dsimp only; simp at e2; omega)⟩, by dsimp only; omega, ⟨⟨_, rfl, .refl _⟩, ⟨_, rfl, .refl _⟩, ⟨_, rfl, .refl _⟩, ⟨_, rfl, .refl _⟩, ⟨_, rfl, .refl _⟩, ⟨_, rfl, .refl _⟩, ⟨_, rfl, .refl _⟩, ⟨_, rfl, .refl _⟩, ⟨_, rfl, .refl _⟩, ⟨_, rfl, .refl _⟩, trivial⟩, ?_⟩
            dsimp only
            rw [refRow_succ [] (·.1) (q + 1), refRow_succ [] (·.2) (q + 1)]
            exact .refl _
        · simp only [decide_eq_false_iff_not, Int.ofNat_lt] at h
          have hne : n = (m.fn (f : Int)).code.length := by omega
          have hLf : Ln m rs f = n := by omega
          have hv1 : rowVal b1 n c1 = .ref b1 0 n c1 := by unfold rowVal; rw [if_neg (by omega)]
          have hv2 : rowVal b2 n c2 = .ref b2 0 n c2 := by unfold rowVal; rw [if_neg (by omega)]
          rw [hv1, hv2]
          refine ops_g rfl (g_load hT rfl rfl (.there (.there .here)) rfl) ?_
          refine go hT 10000 rfl ?_
          conv => whnf
          refine ops_s rfl (s_listF (rows := [[(.ref b1 0 n c1)]]) hT rfl rfl rfl rfl rfl rfl rfl rfl ?_)
          refine go hT 10000 rfl ?_
          conv => whnf
          refine ops_s rfl (s_append (rows := outerV g1 (Ln m rs) f) (news := [[(.ref b1 0 n c1)]]) hT rfl rfl rfl rfl rfl rfl rfl rfl rfl rfl hk1 (.there (.there (.there (At.right .here _)))) (outer_len _ _ _) (fun r hr => by rw [List.mem_singleton.1 hr]; rfl) (fun r hr => by rw [List.mem_singleton.1 hr]; rfl) (by simp only [List.length_cons, List.length_nil, outerV, List.length_map, List.length_range]; omega) fun k1' hk1' => ?_)
          refine go hT 10000 rfl ?_
          conv => whnf
          refine ops_s rfl (s_store (cs' := modV m ++ [.slice k1' (outerV g1 (Ln m rs) f ++ [[(.ref b1 0 n c1)]]), .slice k2 (outerV g2 (Ln m rs) f), .bool false]) hT rfl rfl rfl (.there (.there .here)) rfl ?_)
          refine go hT 10000 rfl ?_
          conv => whnf
          refine ops_g rfl (g_load hT rfl rfl (.there (.there .here)) rfl) ?_
          refine go hT 10000 rfl ?_
          conv => whnf
          refine ops_s rfl (s_listF (rows := [[(.ref b2 0 n c2)]]) hT rfl rfl rfl rfl rfl rfl rfl rfl ?_)
          refine go hT 10000 rfl ?_
          conv => whnf
          refine ops_s rfl (s_append (rows := outerV g2 (Ln m rs) f) (news := [[(.ref b2 0 n c2)]]) hT rfl rfl rfl rfl rfl rfl rfl rfl rfl rfl hk2 (.there (.there (.there (At.right (.there .here) _)))) (outer_len _ _ _) (fun r hr => by rw [List.mem_singleton.1 hr]; rfl) (fun r hr => by rw [List.mem_singleton.1 hr]; rfl) (by simp only [List.length_cons, List.length_nil, outerV, List.length_map, List.length_range]; omega) fun k2' hk2' => ?_)
          refine go hT 10000 rfl ?_
          conv => whnf
          refine ops_s rfl (s_store (cs' := modV m ++ [.slice k1' (outerV g1 (Ln m rs) f ++ [[(.ref b1 0 n c1)]]), .slice k2' (outerV g2 (Ln m rs) f ++ [[(.ref b2 0 n c2)]]), .bool false]) hT rfl rfl rfl (.there (.there .here)) rfl ?_)
          refine go hT 10000 rfl ?_
          conv => whnf
          have hperm := bld_perm m bx (Ln m rs) f g1 g2 k1' k2' R b1 c1 r1 b2 c2 r2
          rw [hLf, hv1, hv2] at hperm
          refine ops_turn (Turn.perm hperm) ?_
          refine ops_g rfl (g_add rfl rfl rfl (by omega)) ?_
          refine go hT 10000 rfl ?_
          conv => whnf
          refine ⟨(f + 1, g1.upd f b1 c1 r1, g2.upd f b2 c2 r2, k1', k2'), ⟨hlf, fun a ha => ?_, fun a ha => ?_, hk1', hk2'⟩, by dsimp only; omega, ⟨⟨_, rfl, .refl _⟩, ⟨_, rfl, .refl _⟩, ⟨_, rfl, .refl _⟩, ⟨_, rfl, .refl _⟩, ⟨_, rfl, .refl _⟩, ⟨_, rfl, .refl _⟩, ⟨_, rfl, .refl _⟩, trivial⟩, .refl _⟩
          · dsimp only [Geo.upd]
            split
            · next e => subst e; omega
            · exact hg1 a (by omega)
          · dsimp only [Geo.upd]
            split
            · next e => subst e; omega
            · exact hg2 a (by omega)
      · have hLf : Ln m rs f = 0 := by unfold Ln; rw [if_neg hin]
        have hv1 : rowVal 0 0 0 = .slice .zero [] := rfl
        have hv2 : rowVal 0 0 0 = .slice .zero [] := rfl
        refine run_lq (fun w : Nat => ([(1, .pin (modV m) 0), (2, .ptr b2 0), (4, .ptr b4 0), (5, .int .i64 i), (6, .slice .no (rs.map intV)), (7, .ptr bx 0), (8, .int .i64 f), (9, .slice .zero []), (10, .slice .zero []), (11, .int .i64 0)], rowHE 0 0 0 (refRow [] (·.1) 0 f) :: rowHE 0 0 0 (refRow [] (·.2) 0 f) :: bldS m bx (Ln m rs) f g1 g2 k1 k2 R)) (fun w => w = 0) (fun w => w) 0 rfl ⟨⟨⟨_, rfl, .refl _⟩, ⟨_, rfl, .refl _⟩, ⟨_, rfl, .refl _⟩, ⟨_, rfl, .refl _⟩, ⟨_, rfl, .refl _⟩, ⟨_, rfl, .refl _⟩, ⟨_, rfl, .refl _⟩, ⟨_, rfl, .refl _⟩, ⟨_, rfl, .refl _⟩, ⟨_, rfl, .refl _⟩, trivial⟩, .no (.no (.refl _))⟩ ?_
        rintro _ rfl
        repeat' (first
          | (refine go hT 10000 rfl ?_; conv => whnf)
          | refine ops_s rfl (s_boxF rfl rfl rfl ?_)
          | refine ops_s rfl (s_listF hT rfl rfl rfl rfl rfl rfl rfl rfl ?_)
          | refine ops_g rfl (g_len hT rfl rfl rfl rfl rfl rfl (List.length_map _)) ?_
          | refine op_guard rfl rfl rfl rfl (fun h => ?_) (fun h => ?_)
          | refine ops_g rfl (g_funcs hT rfl rfl rfl hbf) ?_)
        · refine ops_s rfl (s_pure hT rfl rfl rfl rfl rfl rfl (hasRef hT rs _ (by omega)) ?_)
          refine go hT 10000 rfl ?_
          conv => whnf
          refine run_split rfl (fun hyes => absurd (of_decide_eq_true hyes) hin) (fun _ => ?_)
          refine go hT 10000 rfl ?_
          conv => whnf
          refine ops_g rfl (g_load hT rfl rfl (.there (.there .here)) rfl) ?_
          refine go hT 10000 rfl ?_
          conv => whnf
          refine ops_s rfl (s_listF (rows := [[(.slice .zero [])]]) hT rfl rfl rfl rfl rfl rfl rfl rfl ?_)
          refine go hT 10000 rfl ?_
          conv => whnf
          refine ops_s rfl (s_append (rows := outerV g1 (Ln m rs) f) (news := [[(.slice .zero [])]]) hT rfl rfl rfl rfl rfl rfl rfl rfl rfl rfl hk1 (.there (.there (.there (At.right .here _)))) (outer_len _ _ _) (fun r hr => by rw [List.mem_singleton.1 hr]; rfl) (fun r hr => by rw [List.mem_singleton.1 hr]; rfl) (by simp only [List.length_cons, List.length_nil, outerV, List.length_map, List.length_range]; omega) fun k1' hk1' => ?_)
          refine go hT 10000 rfl ?_
          conv => whnf
          refine ops_s rfl (s_store (cs' := modV m ++ [.slice k1' (outerV g1 (Ln m rs) f ++ [[(.slice .zero [])]]), .slice k2 (outerV g2 (Ln m rs) f), .bool false]) hT rfl rfl rfl (.there (.there .here)) rfl ?_)
          refine go hT 10000 rfl ?_
          conv => whnf
          refine ops_g rfl (g_load hT rfl rfl (.there (.there .here)) rfl) ?_
          refine go hT 10000 rfl ?_
          conv => whnf
          refine ops_s rfl (s_listF (rows := [[(.slice .zero [])]]) hT rfl rfl rfl rfl rfl rfl rfl rfl ?_)
          refine go hT 10000 rfl ?_
          conv => whnf
          refine ops_s rfl (s_append (rows := outerV g2 (Ln m rs) f) (news := [[(.slice .zero [])]]) hT rfl rfl rfl rfl rfl rfl rfl rfl rfl rfl hk2 (.there (.there (.there (At.right (.there .here) _)))) (outer_len _ _ _) (fun r hr => by rw [List.mem_singleton.1 hr]; rfl) (fun r hr => by rw [List.mem_singleton.1 hr]; rfl) (by simp only [List.length_cons, List.length_nil, outerV, List.length_map, List.length_range]; omega) fun k2' hk2' => ?_)
          refine go hT 10000 rfl ?_
          conv => whnf
          refine ops_s rfl (s_store (cs' := modV m ++ [.slice k1' (outerV g1 (Ln m rs) f ++ [[(.slice .zero [])]]), .slice k2' (outerV g2 (Ln m rs) f ++ [[(.slice .zero [])]]), .bool false]) hT rfl rfl rfl (.there (.there .here)) rfl ?_)
          refine go hT 10000 rfl ?_
          conv => whnf
          have hperm := bld_perm m bx (Ln m rs) f g1 g2 k1' k2' R 0 0 0 0 0 0
          rw [hLf, hv1] at hperm
          refine ops_turn (Turn.perm hperm) ?_
          refine ops_g rfl (g_add rfl rfl rfl (by omega)) ?_
          refine go hT 10000 rfl ?_
          conv => whnf
          refine ⟨(f + 1, g1.upd f 0 0 0, g2.upd f 0 0 0, k1', k2'), ⟨hlf, fun a ha => ?_, fun a ha => ?_, hk1', hk2'⟩, by dsimp only; omega, ⟨⟨_, rfl, .refl _⟩, ⟨_, rfl, .refl _⟩, ⟨_, rfl, .refl _⟩, ⟨_, rfl, .refl _⟩, ⟨_, rfl, .refl _⟩, ⟨_, rfl, .refl _⟩, ⟨_, rfl, .refl _⟩, trivial⟩, .refl _⟩
          · dsimp only [Geo.upd]
            split
            · next e => subst e; omega
            · exact hg1 a (by omega)
          · dsimp only [Geo.upd]
            split
            · next e => subst e; omega
            · exact hg2 a (by omega)
        · simp only [decide_eq_false_iff_not, Int.ofNat_lt] at h
          omega
    · simp only [decide_eq_false_iff_not, Int.ofNat_lt] at hlf
      have hfe : f = m.funcs.length := by omega
      subst hfe
      have hLo : ∀ a, ¬ a < m.funcs.length → Ln m rs a = 0 := fun a ha => by
        unfold Ln
        rw [if_neg fun hm => ha (by have := belowB_one.1 (hrb _ hm); omega)]
      have hgs1 : ∀ a, Ln m rs a ≤ g1.c a := fun a => by
        by_cases ha : a < m.funcs.length
        · exact hg1 a ha
        · rw [hLo a ha]; exact Nat.zero_le _
      have hgs2 : ∀ a, Ln m rs a ≤ g2.c a := fun a => by
        by_cases ha : a < m.funcs.length
        · exact hg2 a ha
        · rw [hLo a ha]; exact Nat.zero_le _
      refine run_sub (S' := refS m bx k1 k2 g1 g2 (Ln m rs) [] false ++ R) (.cells (VsLe.pre (.cons (.refl _) (.cons (.refl _) (.cons (Le_ob (v := .bool false) (b := false) rfl) .nil))) (modV m)) (Sub.pre (.drop (.drop (.refl _))) _)) ?_
      have hfrs : m.threads[i] ∈ rs := (hrs _).2 .base
      have hin0 : InR m rs (m.threads[i], 0) := ⟨⟨hfirst, by show (0 : Int) ≤ 0; omega, by have := (MModule.fn_ok hm hfirst).code.1; show (0 : Int) < _; dsimp only; omega⟩, hfrs⟩
      have hl0 : LockOk m.locks.length (0, 0) := ⟨0, 0, rfl, fun i h => h, fun i h => by simp at h⟩
      have hx0 : RefInv m rs m.locks.length ([] : AtM) := fun p l h => by cases h
      refine go hT 10000 rfl ?_
      conv => whnf
      refine ops_g rfl (g_indexM (xs := m.threads) hT rfl rfl rfl rfl rfl hlt rfl) ?_
      refine go hT 10000 rfl ?_
      conv => whnf
      refine ops_s rfl (s_call hT rfl rfl rfl rfl rfl rfl (((comeRef' hT m bx k1 k2 g1 g2 rs m.locks.length hL ([], false) hx0 (m.threads[i], 0) (0, 0) hin0 hl0).frame R).mono ?_))
      rintro _ _ ⟨_, rfl, rfl⟩
      refine go hT 10000 rfl ?_
      conv => whnf
      refine run_lq (fun y : AtM × Bool => ([(1, .pin (modV m) 0), (2, .ptr b2 0), (4, .ptr b4 0), (5, .int .i64 i), (6, .slice .no (rs.map intV)), (7, .ptr bx 0)], refS m bx k1 k2 g1 g2 (Ln m rs) y.1 y.2 ++ R)) (fun y => RefInv m rs m.locks.length y.1 ∧ RSt m rs m.threads[i] y.1 ∧ (y.2 = false → ∀ p, InR m rs p → quiet m y.1 p)) (fun y => 2 * pot m y.1 + (if y.2 = true then 1 else 0)) (cR ([], false) (m.threads[i], 0) (0, 0)) ⟨refinv_come hL hx0 hin0 hl0, .start, fun h => by cases h⟩ ⟨⟨⟨_, rfl, .refl _⟩, ⟨_, rfl, .refl _⟩, ⟨_, rfl, .refl _⟩, ⟨_, rfl, .refl _⟩, ⟨_, rfl, .refl _⟩, ⟨_, rfl, .refl _⟩, trivial⟩, .refl _⟩ ?_
      rintro y ⟨hy, hst, hq⟩
      refine go hT 10000 rfl ?_
      conv => whnf
      refine ops_g rfl (g_load hT rfl rfl .here rfl) ?_
      refine go hT 10000 rfl ?_
      conv => whnf
      refine run_split rfl (fun hmore => ?_) (fun hmore => ?_)
      · refine go hT 10000 rfl ?_
        conv => whnf
        refine ops_s rfl (s_store (cs' := modV m ++ [.slice k1 (outerV g1 (Ln m rs) m.funcs.length), .slice k2 (outerV g2 (Ln m rs) m.funcs.length), .bool false]) hT rfl rfl rfl .here rfl ?_)
        refine ops_sub (S' := refS m bx k1 k2 g1 g2 (Ln m rs) y.1 false ++ R) (.cells (VsLe.pre (.cons (.refl _) (.cons (.refl _) (.cons (Le_ob (v := .bool false) (b := false) rfl) .nil))) (modV m)) (.refl _)) ?_
        refine go hT 10000 rfl ?_
        conv => whnf
        refine run_lq (fun w : Nat × (AtM × Bool) => ([(1, .pin (modV m) 0), (2, .ptr b2 0), (4, .ptr b4 0), (5, .int .i64 i), (6, .slice .no (rs.map intV)), (7, .ptr bx 0), (12, .int .i64 w.1)], refS m bx k1 k2 g1 g2 (Ln m rs) w.2.1 w.2.2 ++ R)) (fun w => w.1 ≤ rs.length ∧ RefInv m rs m.locks.length w.2.1 ∧ RSt m rs m.threads[i] w.2.1 ∧ Calm (y.1, false) w.2 ∧ Falls m (y.1, false) w.2 ∧ (w.2.2 = false → ∀ f ∈ rs.take w.1, ∀ k : Nat, k < (m.fn f).code.length → quiet m y.1 (f, (k : Int)))) (fun w => rs.length - w.1) (0, (y.1, false)) ⟨Nat.zero_le _, hy, hst, .refl _, .refl _ _, fun _ f hf => by simp at hf⟩ ⟨⟨⟨_, rfl, .refl _⟩, ⟨_, rfl, .refl _⟩, ⟨_, rfl, .refl _⟩, ⟨_, rfl, .refl _⟩, ⟨_, rfl, .refl _⟩, ⟨_, rfl, .refl _⟩, ⟨_, rfl, .refl _⟩, trivial⟩, .refl _⟩ ?_
        rintro ⟨j, z⟩ ⟨hj, hz, hzs, hzc, hzf, hzq⟩
        dsimp only at hj hz hzs hzc hzf hzq
        repeat' (first
          | (refine go hT 10000 rfl ?_; conv => whnf)
          | refine ops_s rfl (s_boxF rfl rfl rfl ?_)
          | refine ops_s rfl (s_listF hT rfl rfl rfl rfl rfl rfl rfl rfl ?_)
          | refine ops_g rfl (g_len hT rfl rfl rfl rfl rfl rfl (List.length_map _)) ?_
          | refine op_guard rfl rfl rfl rfl (fun h => ?_) (fun h => ?_))
        refine run_split rfl (fun hjl => ?_) (fun hjl => ?_)
        · simp only [decide_eq_true_eq, Int.ofNat_lt] at hjl
          have hfm := List.getElem_mem hjl
          have hbj := hrb _ hfm
          have hclj : (m.fn rs[j]).code.length < 2000000 := by
            have hb := belowB_one.1 hbj
            have hi2 : (rs[j]).toNat < m.funcs.length := by omega
            unfold MModule.fn
            rw [List.getElem?_eq_getElem hi2]
            exact hs.code _ (List.getElem_mem hi2)
          refine go hT 10000 rfl ?_
          conv => whnf
          refine run_lq (fun w : Nat × (AtM × Bool) => ([(1, .pin (modV m) 0), (2, .ptr b2 0), (4, .ptr b4 0), (5, .int .i64 i), (6, .slice .no (rs.map intV)), (7, .ptr bx 0), (12, .int .i64 j), (13, .int .i64 w.1)], refS m bx k1 k2 g1 g2 (Ln m rs) w.2.1 w.2.2 ++ R)) (fun w => w.1 ≤ (m.fn rs[j]).code.length ∧ RefInv m rs m.locks.length w.2.1 ∧ RSt m rs m.threads[i] w.2.1 ∧ Calm (y.1, false) w.2 ∧ Falls m (y.1, false) w.2 ∧ (w.2.2 = false → (∀ f ∈ rs.take j, ∀ k : Nat, k < (m.fn f).code.length → quiet m y.1 (f, (k : Int))) ∧ ∀ k : Nat, k < w.1 → quiet m y.1 (rs[j], (k : Int)))) (fun w => (m.fn rs[j]).code.length - w.1) (0, z) ⟨Nat.zero_le _, hz, hzs, hzc, hzf, fun e => ⟨hzq e, fun k hk => absurd hk (Nat.not_lt_zero _)⟩⟩ ⟨⟨⟨_, rfl, .refl _⟩, ⟨_, rfl, .refl _⟩, ⟨_, rfl, .refl _⟩, ⟨_, rfl, .refl _⟩, ⟨_, rfl, .refl _⟩, ⟨_, rfl, .refl _⟩, ⟨_, rfl, .refl _⟩, ⟨_, rfl, .refl _⟩, trivial⟩, .refl _⟩ ?_
          rintro ⟨n, u⟩ ⟨hn, hu, hus, huc, huf, huq⟩
          dsimp only at hn hu hus huc huf huq
          refine go hT 10000 rfl ?_
          conv => whnf
          intro id
          refine run_drw hT rfl rfl ?_ id
          repeat' (first
            | (refine god hT 2 rfl ?_; conv => whnf)
            | refine vd_fin rfl ?_
            | refine q_g rfl (fun S' => (g_len hT rfl rfl rfl rfl rfl rfl (List.length_map _)).qs) ?_
            | refine q_guard rfl rfl rfl rfl (fun h => ?_) (fun h => ?_)
            | refine q_g rfl (fun S' => (g_indexM (xs := rs) hT rfl rfl rfl rfl rfl hjl rfl).qs) ?_
            | refine q_g rfl (fun S' => (g_funcs hT rfl rfl rfl hbj).qs) ?_)
          refine go hT 10000 rfl ?_
          conv => whnf
          refine run_split rfl (fun hnl => ?_) (fun hnl => ?_)
          · simp only [decide_eq_true_eq, Int.ofNat_lt] at hnl
            have hp : InR m rs (rs[j], (n : Int)) := ⟨⟨hbj, by show (0 : Int) ≤ _; omega, by show (n : Int) < ((m.fn rs[j]).code.length : Int); omega⟩, hfm⟩
            have hfo := hof _ hp.1
            have hclo : ((m.fn rs[j]).op (n : Int)).kind = 22 → ((m.fn rs[j]).op (n : Int)).a ∈ rs := fun hk => by
              refine hclose _ hfm _ ?_ hk
              unfold MFunc.op
              rw [Int.toNat_natCast, List.getElem?_eq_getElem hnl]
              exact List.getElem_mem hnl
            refine go hT 10000 rfl ?_
            conv => whnf
            refine ops_g rfl (g_indexM (xs := rs) hT rfl rfl rfl rfl rfl hjl rfl) ?_
            refine go hT 10000 rfl ?_
            conv => whnf
            refine ops_s rfl (s_call hT rfl rfl rfl rfl rfl rfl (((fromRef' hT m hs bx k1 k2 g1 g2 rs m.locks.length hL u hu (rs[j], (n : Int)) hp hfo hclo).frame R).mono ?_))
            rintro _ _ ⟨_, rfl, rfl⟩
            refine go hT 10000 rfl ?_
            conv => whnf
            refine ops_g rfl (g_add rfl rfl rfl (by omega)) ?_
            refine go hT 10000 rfl ?_
            conv => whnf
            have hcf := calm_from m u (rs[j], (n : Int))
            refine ⟨(n + 1, fromR m u (rs[j], (n : Int))), ⟨hnl, refinv_from hL hu hfo hfm hclo, .step (b := u.2) hus hp, huc.trans hcf, huf.trans (falls_from hL hu hfo hfm hclo), fun e => ?_⟩, by dsimp only; omega, ⟨⟨_, rfl, .refl _⟩, ⟨_, rfl, .refl _⟩, ⟨_, rfl, .refl _⟩, ⟨_, rfl, .refl _⟩, ⟨_, rfl, .refl _⟩, ⟨_, rfl, .refl _⟩, ⟨_, rfl, .refl _⟩, ⟨_, rfl, .refl _⟩, trivial⟩, .refl _⟩
            dsimp only at e
            have hu2 : u.2 = false := by
              cases hb : u.2
              · rfl
              · rw [hcf.keep hb] at e; cases e
            obtain ⟨q1, q2⟩ := huq hu2
            refine ⟨q1, fun k hk => ?_⟩
            by_cases hkn : k = n
            · subst hkn
              have al : Alike (y.1, false) u := ⟨fun q => (huc.same hu2 q).symm, hu2.symm⟩
              unfold quiet
              rw [(alike_from m al _).more]; exact e
            · exact q2 k (by dsimp only at hk; omega)
          · simp only [decide_eq_false_iff_not, Int.ofNat_lt] at hnl
            have hne : n = (m.fn rs[j]).code.length := by omega
            subst hne
            refine go hT 10000 rfl ?_
            conv => whnf
            refine ops_g rfl (g_add rfl rfl rfl (by omega)) ?_
            refine go hT 10000 rfl ?_
            conv => whnf
            refine ⟨(j + 1, u), ⟨hjl, hu, hus, huc, huf, fun e f hf => ?_⟩, by dsimp only; omega, ⟨⟨_, rfl, .refl _⟩, ⟨_, rfl, .refl _⟩, ⟨_, rfl, .refl _⟩, ⟨_, rfl, .refl _⟩, ⟨_, rfl, .refl _⟩, ⟨_, rfl, .refl _⟩, ⟨_, rfl, .refl _⟩, trivial⟩, .refl _⟩
            obtain ⟨q1, q2⟩ := huq e
            rw [List.take_succ_eq_append_getElem hjl, List.mem_append, List.mem_singleton] at hf
            rcases hf with hf | rfl
            · exact q1 f hf
            · exact q2
        · simp only [decide_eq_false_iff_not, Int.ofNat_lt] at hjl
          rw [List.take_of_length_le (by omega)] at hzq
          refine go hT 10000 rfl ?_
          conv => whnf
          refine ⟨z, ⟨hz, hzs, fun e p hp => ?_⟩, ?_, ⟨⟨_, rfl, .refl _⟩, ⟨_, rfl, .refl _⟩, ⟨_, rfl, .refl _⟩, ⟨_, rfl, .refl _⟩, ⟨_, rfl, .refl _⟩, ⟨_, rfl, .refl _⟩, trivial⟩, .refl _⟩
          · have al : Alike (z.1, false) (y.1, false) := ⟨hzc.same e, rfl⟩
            unfold quiet
            rw [(alike_from m al p).more]
            obtain ⟨p1, p2⟩ := p
            obtain ⟨⟨v1, v2, v3⟩, v4⟩ := hp
            dsimp only at v1 v2 v3 v4
            have hk := hzq e p1 v4 p2.toNat (by omega)
            rw [Int.toNat_of_nonneg v2] at hk
            exact hk
          · rw [if_pos hmore]
            rcases hb : z.2 with _ | _
            · have := hzf.1
              dsimp only at this
              rw [if_neg (by decide)]
              omega
            · rcases hzf.2 hb with h | h
              · cases h
              · dsimp only at h
                rw [if_pos rfl]
                omega
      · have hq := hq hmore
        refine run_turn ((freeze_refS m bx k1 k2 g1 g2 (Ln m rs) y.1 y.2 hgs1 hgs2).frame R) ?_
        subst hR
        refine go hT 10000 rfl ?_
        conv => whnf
        have hl12 := hts.lens
        rw [List.length_take] at hl12
        have hl1 : must.length < 2000000 := by omega
        have hl2 : may.length < 2000000 := by omega
        intro id
        refine run_drw hT rfl rfl ?_ id
        repeat' (first
          | (refine god hT 2 rfl ?_; conv => whnf)
          | refine vd_fin rfl ?_
          | refine q_g rfl (fun S' => (g_len hT rfl rfl rfl rfl rfl rfl (List.length_map _)).qs) ?_
          | refine q_guard rfl rfl rfl rfl (fun h => ?_) (fun h => ?_)
          | refine q_load hT rfl rfl rfl (.there .here) rfl ?_
          | refine q_load hT rfl rfl rfl .here rfl ?_
          | refine q_g rfl (fun S' => s_listF (rows := [tabV (rtab (Ln m rs) y.1 (·.1) m.funcs.length)]) hT rfl rfl rfl rfl rfl rfl rfl rfl ⟨rfl, rfl⟩) ?_)
        refine vd_eff1 rfl (eff rfl rfl (s_append (news := [tabV (rtab (Ln m rs) y.1 (·.1) m.funcs.length)]) hT rfl rfl rfl rfl rfl rfl rfl rfl rfl rfl htm (.there (.there (.there .here))) (rows_len (g := tabV) (n := 1) (fun _ => rfl) _) (rows_len (g := tabV) (n := 1) (fun _ => rfl) [(rtab (Ln m rs) y.1 (·.1) m.funcs.length)]) (rows_cell (g := tabV) (fun _ => rfl) [(rtab (Ln m rs) y.1 (·.1) m.funcs.length)]) (by simp only [List.length_cons, List.length_nil, List.length_map]; omega) fun u1 hu1 => And.intro trivial ?_))
        refine god hT 2 rfl ?_
        conv => whnf
        refine vd_eff1 rfl (eff rfl rfl (s_store (cs' := [.slice u1 (must.map tabV ++ [tabV (rtab (Ln m rs) y.1 (·.1) m.funcs.length)]), .slice ta (may.map tabV)]) hT rfl rfl rfl (.there .here) rfl (And.intro trivial ?_)))
        refine god hT 2 rfl ?_
        conv => whnf
        refine vd_fin rfl ?_
        refine go hT 10000 rfl ?_
        conv => whnf
        intro id2
        refine run_drw hT rfl rfl ?_ id2
        repeat' (first
          | (refine god hT 2 rfl ?_; conv => whnf)
          | refine vd_fin rfl ?_
          | refine q_g rfl (fun S' => (g_len hT rfl rfl rfl rfl rfl rfl (List.length_map _)).qs) ?_
          | refine q_guard rfl rfl rfl rfl (fun h => ?_) (fun h => ?_)
          | refine q_load hT rfl rfl rfl (.there .here) rfl ?_
          | refine q_load hT rfl rfl rfl .here rfl ?_
          | refine q_g rfl (fun S' => s_listF (rows := [tabV (rtab (Ln m rs) y.1 (·.2) m.funcs.length)]) hT rfl rfl rfl rfl rfl rfl rfl rfl ⟨rfl, rfl⟩) ?_)
        refine vd_eff1 rfl (eff rfl rfl (s_append (news := [tabV (rtab (Ln m rs) y.1 (·.2) m.funcs.length)]) hT rfl rfl rfl rfl rfl rfl rfl rfl rfl rfl hta (.there (.there (.there (.there .here)))) (rows_len (g := tabV) (n := 1) (fun _ => rfl) _) (rows_len (g := tabV) (n := 1) (fun _ => rfl) [(rtab (Ln m rs) y.1 (·.2) m.funcs.length)]) (rows_cell (g := tabV) (fun _ => rfl) [(rtab (Ln m rs) y.1 (·.2) m.funcs.length)]) (by simp only [List.length_cons, List.length_nil, List.length_map]; omega) fun u2 hu2 => And.intro trivial ?_))
        refine god hT 2 rfl ?_
        conv => whnf
        refine vd_eff1 rfl (eff rfl rfl (s_store (cs' := [.slice u1 (must.map tabV ++ [tabV (rtab (Ln m rs) y.1 (·.1) m.funcs.length)]), .slice u2 (may.map tabV ++ [tabV (rtab (Ln m rs) y.1 (·.2) m.funcs.length)])]) hT rfl rfl rfl (.there .here) rfl (And.intro trivial ?_)))
        refine god hT 2 rfl ?_
        conv => whnf
        refine vd_fin rfl ?_
        refine go hT 10000 rfl ?_
        conv => whnf
        refine ops_g rfl (g_add rfl rfl rfl (by omega)) ?_
        refine go hT 10000 rfl ?_
        conv => whnf
        refine ⟨(i + 1, must ++ [(rtab (Ln m rs) y.1 (·.1) m.funcs.length)], may ++ [(rtab (Ln m rs) y.1 (·.2) m.funcs.length)], u1, u2), ⟨hlt, ?_, hu1, hu2⟩, by dsimp only; omega, ⟨⟨_, rfl, .refl _⟩, ⟨_, rfl, .refl _⟩, ⟨_, rfl, .refl _⟩, ⟨_, rfl, .refl _⟩, trivial⟩, by dsimp only; rw [List.map_append, List.map_append]; exact .drop (.refl _)⟩
        dsimp only
        rw [List.take_succ_eq_append_getElem hlt]
        exact hts.snoc ⟨y.1, rs, hst, hrs, hq, rfl, rfl⟩
  · simp only [decide_eq_false_iff_not, Int.ofNat_lt] at hlt
    have e : m.threads.take i = m.threads := List.take_of_length_le (by omega)
    rw [e] at hts
    refine run_sub (S' := [.cells b4 (heldV must may) 33, .cells b2 [.slice .zero [], .slice .zero []] 33]) (.cells (.cons (V.Le.slice _ _) (.cons (V.Le.slice _ _) .nil)) (.keep .nil)) ?_
    refine go hT 10000 rfl ?_
    conv => whnf
    refine ops_g rfl (g_load hT rfl rfl .here rfl) ?_
    refine go hT 10000 rfl ?_
    conv => whnf
    refine ops_s rfl (s_store (cs' := heldV must may) hT rfl rfl rfl (.there .here) rfl ?_)
    refine go hT 10000 rfl ?_
    conv => whnf
    refine ret_of (.cell rfl (.there .here) rfl (.tmp rfl .nil)) ?_
    exact ⟨must, may, 0, rfl, .inl ⟨hr, hts, rfl⟩⟩
end
end Go.Vw
