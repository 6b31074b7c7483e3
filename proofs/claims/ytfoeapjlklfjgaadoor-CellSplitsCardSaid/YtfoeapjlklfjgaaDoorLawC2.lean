/- From a law's walk to its row: a slice of cells among the arguments, and how many bytes the form's reach lets each have. No condition. -/
import Derived.Test.YtfoeapjlklfjgaaDoorLawC
namespace Go.Proofs.YtfoeapjlklfjgaaDoor
set_option linter.unusedSimpArgs false
set_option linter.unusedVariables false
open Go.ChangeShapes Go.WideShapes Go.ChangeAt Go.RowKit Go.Joins Go.Deep

theorem weightsAll_mem {H : Type} {P : Program} {e : TypeId} {ds : List (DataW H)} {d : DataW H} {z : Nat} (hd : d ∈ ds) (hz : z ∈ d.weights P e) : z ∈ DataW.weightsAll P e ds := by
  induction ds with
  | nil => cases hd
  | cons x xs ih =>
    unfold DataW.weightsAll
    rcases List.mem_cons.1 hd with rfl | hd
    · exact List.mem_append_left _ hz
    · exact List.mem_append_right _ (ih hd)
theorem weights_third {H : Type} {P : Program} {t0 t1 t2 : TypeId} {ts : List TypeId} {d0 d1 d2 : DataW H} {ds : List (DataW H)} {z : Nat} (h : z ∈ d2.weights P t2) : z ∈ DataW.weightsEach P (t0 :: t1 :: t2 :: ts) (d0 :: d1 :: d2 :: ds) := by
  simp only [DataW.weightsEach, List.mem_append]
  exact Or.inr (Or.inr (Or.inl h))
section
variable {H : Type} {enc : TypeId × Value → H} {P : Program}
theorem ints_weight {W : World} {fuel : Nat} {t e : TypeId} {kd : IntKind} {a0 : Option Addr} {n c : Nat} {y : DataW H × List MemPlace} (ht : P.underlying t = some (.slice e)) (he : P.underlying e = some (.int kd)) (hc : P.cellsOf e = 1) (hb : P.bytesOf e = 1)
    (hf : DataW.trod enc P W 0 (fun _ => true) true fuel t [.slice a0 n c] = some y) {R : Nat} (hw : ∀ z ∈ y.1.weights P t, z ≤ R) : n ≤ R := by
  rcases open_ints ht he hc hf with ⟨hcs, hx⟩ | ⟨a, len', cap', zs, hcs, _, hl, hm, hz, hx, hcell, hwz⟩
  · simp only [List.cons.injEq, Value.slice.injEq, and_true] at hcs
    obtain ⟨_, rfl, _⟩ := hcs
    exact Nat.zero_le _
  · simp only [List.cons.injEq, Value.slice.injEq, and_true] at hcs
    obtain ⟨rfl, rfl, rfl⟩ := hcs
    obtain ⟨y1, y2⟩ := y
    simp only [Prod.mk.injEq] at hx
    obtain ⟨rfl, rfl⟩ := hx
    simp only [if_true] at hz
    have h1 := hw (((lits kd (zs.take n)).length + (lits (H := H) kd (zs.drop n)).length) * P.bytesOf e) (by
      unfold DataW.weights
      rw [ht]
      exact List.mem_cons_self ..)
    rw [hb, Nat.mul_one] at h1
    have h2 : (lits (H := H) kd (zs.take n)).length = n := by simp [lits]; omega
    omega
end
set_option maxRecDepth 100000 in
theorem cells_weight {H : Type} {enc : TypeId × Value → H} {W : World} {fuel : Nat} {cs : List Value} {y : DataW H × List MemPlace} (hf : DataW.trod enc Tryd.prog W 0 (fun _ => true) true fuel 25 cs = some y) {e : CEl} (he : cs = e.vs) {R : Nat} (hw : ∀ z ∈ y.1.weights Tryd.prog 25, z ≤ R) : e.n ≤ R := by
  subst he
  obtain ⟨y0, y1, y2, y3, y4, n, rfl, _, h0, h1, h2, h3, h4⟩ := trod_struct5 Tryd.underlying25 hf
  have h4' : DataW.trod enc Tryd.prog W 0 (fun _ => true) true n 23 [.slice e.A e.n e.c] = some y4 := h4
  refine ints_weight Tryd.underlying23 Tryd.underlying5 (by kernel_rfl) (by kernel_rfl) h4' (fun z hz => hw z ?_)
  show z ∈ (DataW.agg [y0.1, y1.1, y2.1, y3.1, y4.1]).weights Tryd.prog 25
  unfold DataW.weights
  rw [Tryd.underlying25]
  have hz' : z ∈ y4.1.weights Tryd.prog 23 := hz
  simp only [List.map_cons, List.map_nil, DataW.weightsEach, List.mem_append]
  exact Or.inr (Or.inr (Or.inr (Or.inr (Or.inl hz'))))
set_option maxRecDepth 100000 in
set_option maxHeartbeats 1600000 in
/-- An argument that is a slice of cells. -/
theorem arg_clsw {H : Type} {enc : TypeId × Value → H} {W : World} {r : Reach} {b0 : Nat} {v : Value} {d : DataW H} {p : List MemPlace} (hv : Value.okWide Tryd.prog W r b0 34 v) (h : DataW.Trod enc Tryd.prog W 0 (fun _ => true) true 34 v d p) (hlt : ∀ x ∈ p, x.block < W.heap.size) :
    ∃ A n c xs, v = .slice A n c ∧ CArg W A n c xs ∧ n ≤ maxLen ∧ ∀ R : Nat, (∀ z ∈ d.weights Tryd.prog 34, z ≤ R) → ∀ e ∈ xs, e.n ≤ R := by
  obtain ⟨a0, len, cap, rfl⟩ := okWide_slice Tryd.underlying34 hv
  obtain ⟨fuel, hf⟩ := h
  rcases open_slice Tryd.underlying34 hf with ⟨hcs, hx⟩ | ⟨a, len', cap', m, k, D, Pl, hcs, _, hl, hm, hmm, hx, hi⟩
  · simp [Value.cells] at hcs
    obtain ⟨rfl, rfl, rfl⟩ := hcs
    exact ⟨none, 0, 0, [], rfl, ⟨rfl, Nat.le_refl _, fun h => absurd h (by omega), fun _ h => by cases h⟩, Nat.zero_le _, fun R _ e h => by cases h⟩
  · simp [Value.cells] at hcs
    obtain ⟨rfl, rfl, rfl⟩ := hcs
    simp only [if_true] at hmm
    subst hmm
    simp only [Prod.mk.injEq] at hx
    obtain ⟨rfl, rfl⟩ := hx
    have hC : Tryd.prog.cellsOf 25 = 5 := by kernel_rfl
    rw [hC] at hi
    have hrow : ∀ i, i < m → ∃ x : CEl, x.Lim W ∧ (∀ (q : Nat) (u : Value), x.vs[q]? = some u → W.cell? ((a.add (i * 5)).add q) = some u) ∧ ∀ R : Nat, (∀ z ∈ (D i).weights Tryd.prog 25, z ≤ R) → x.n ≤ R := by
      intro i him
      obtain ⟨cs', h1, h2⟩ := hi i him
      obtain ⟨_, hlen, hat⟩ := World.cells?_some h1
      match cs', hlen with
      | [c0, c1, c2, c3, c4], _ =>
        obtain ⟨e, he, hL⟩ := cells_cl h2 (fun x hx => hlt x (List.mem_append_right _ (List.mem_flatMap.2 ⟨i, List.mem_range.2 him, hx⟩)))
        have hcw := fun R hR => cells_weight (R := R) h2 (e := e) he hR
        refine ⟨e, hL, fun q u hu => ?_, fun R hR => hcw R hR⟩
        have hq : q < 5 := by
          have := (List.getElem?_eq_some_iff.1 hu).1
          simpa [CEl.vs] using this
        have := hat q (by omega)
        rw [this]
        rw [← he] at hu
        first | exact hu | (rw [List.getD_eq_getElem?_getD, hu]; rfl) | simpa using hu
    obtain ⟨f, hf'⟩ := choose_lt hrow
    refine ⟨some a, len, m, (List.range len).map f, rfl, ⟨by simp, hl, fun hn => ?_, fun x hx => ?_⟩, by omega, fun R hR e he => ?_⟩
    · obtain ⟨b, off, spot⟩ := a
      have h0 := (hf' 0 (by omega)).2.1 0 _ rfl
      have hspot : spot = none := by simpa [Addr.add] using World.cell?_spot h0
      subst hspot
      refine ⟨b, off, rfl, hlt (.cell b off) (List.mem_append_left _ (MemPlace.mem_row.2 ⟨0, by rw [hC]; omega, by simp⟩)), fun j u hu => ?_⟩
      obtain ⟨k, i, e, rfl, hi5, hx, hu2⟩ := cflat_at hu
      rw [List.getElem?_map] at hx
      obtain ⟨i', hi', rfl⟩ := Option.map_eq_some_iff.1 hx
      have hij : i' = k ∧ k < len := by
        obtain ⟨h1, h2⟩ := List.getElem?_eq_some_iff.1 hi'
        simp at h1 h2
        omega
      obtain ⟨rfl, hjl⟩ := hij
      have := (hf' i' (by omega)).2.1 i u hu2
      simpa only [add_plain, Nat.add_assoc] using this
    · obtain ⟨i, hi', rfl⟩ := List.mem_map.1 hx
      have : i < len := by simpa using hi'
      exact (hf' i (by omega)).1
    · obtain ⟨i, hi', rfl⟩ := List.mem_map.1 he
      have hi2 : i < len := by simpa using hi'
      refine (hf' i (by omega)).2.2 R (fun z hz => hR z ?_)
      unfold DataW.weights
      rw [Tryd.underlying34]
      exact List.mem_cons_of_mem _ (List.mem_append_left _ (weightsAll_mem (List.mem_map.2 ⟨i, hi', rfl⟩) hz))
end Go.Proofs.YtfoeapjlklfjgaaDoor
