/- From a law's walk to its row: an argument that is a slice of steps (heijunkalaw07.Act). No condition. -/
import Derived.Test.YtdlcngmcjidomaaDoorLawR
import Derived.Deep.Slices
import Derived.Lib.SmallJoins
namespace Go.Proofs.YtdlcngmcjidomaaDoor
set_option linter.unusedSimpArgs false
set_option linter.unusedVariables false
open Go.ChangeShapes Go.WideShapes Go.ChangeAt Go.RowKit Go.Joins Go.Deep

theorem wf_i64 {z : Int} (h : (Lit.int .i64 z).wf = true) : -9223372036854775808 ≤ z ∧ z ≤ 9223372036854775807 := by
  have h1 : IntKind.i64.min = -9223372036854775808 := rfl
  have h2 : IntKind.i64.max = 9223372036854775807 := rfl
  simp only [Lit.wf, Bool.and_eq_true, decide_eq_true_eq] at h
  omega
section
variable {H : Type} {enc : TypeId × Value → H} {P : Program} {w : World} {base : Nat} {spare : Nat → Bool} {held : Bool}
theorem trod_struct5 {t : TypeId} {f0 f1 f2 f3 f4 : Field} {fuel : Nat} {cs : List Value} {x : DataW H × List MemPlace} (ht : P.underlying t = some (.struct #[f0, f1, f2, f3, f4])) (h : DataW.trod enc P w base spare held fuel t cs = some x) :
    ∃ y0 y1 y2 y3 y4 n, x = (.agg [y0.1, y1.1, y2.1, y3.1, y4.1], y0.2 ++ (y1.2 ++ (y2.2 ++ (y3.2 ++ y4.2)))) ∧ cs.length = P.cellsOf t ∧ DataW.trod enc P w base spare held n f0.type ((cs.drop f0.offset).take (P.cellsOf f0.type)) = some y0 ∧
      DataW.trod enc P w base spare held n f1.type ((cs.drop f1.offset).take (P.cellsOf f1.type)) = some y1 ∧ DataW.trod enc P w base spare held n f2.type ((cs.drop f2.offset).take (P.cellsOf f2.type)) = some y2 ∧
      DataW.trod enc P w base spare held n f3.type ((cs.drop f3.offset).take (P.cellsOf f3.type)) = some y3 ∧ DataW.trod enc P w base spare held n f4.type ((cs.drop f4.offset).take (P.cellsOf f4.type)) = some y4 := by
  obtain ⟨xs, n, _, rfl, hl, hlen, hf⟩ := DataW.trod_struct ht h
  match xs, hlen with
  | [y0, y1, y2, y3, y4], _ => exact ⟨y0, y1, y2, y3, y4, n, by simp, hl, by simpa using hf 0 f0 rfl, by simpa using hf 1 f1 rfl, by simpa using hf 2 f2 rfl, by simpa using hf 3 f3 rfl, by simpa using hf 4 f4 rfl⟩
end

theorem weightsAll_mem {H : Type} {P : Program} {e : TypeId} {ds : List (DataW H)} {d : DataW H} {z : Nat} (hd : d ∈ ds) (hz : z ∈ d.weights P e) : z ∈ DataW.weightsAll P e ds := by
  induction ds with
  | nil => cases hd
  | cons x xs ih =>
    unfold DataW.weightsAll
    rcases List.mem_cons.1 hd with rfl | hd
    · exact List.mem_append_left _ hz
    · exact List.mem_append_right _ (ih hd)
theorem weights_first {H : Type} {P : Program} {t0 : TypeId} {ts : List TypeId} {d0 : DataW H} {ds : List (DataW H)} {z : Nat} (h : z ∈ d0.weights P t0) : z ∈ DataW.weightsEach P (t0 :: ts) (d0 :: ds) := by
  simp only [DataW.weightsEach, List.mem_append]
  exact Or.inl h
theorem weights_third {H : Type} {P : Program} {t0 t1 t2 : TypeId} {ts : List TypeId} {d0 d1 d2 : DataW H} {ds : List (DataW H)} {z : Nat} (h : z ∈ d2.weights P t2) : z ∈ DataW.weightsEach P (t0 :: t1 :: t2 :: ts) (d0 :: d1 :: d2 :: ds) := by
  simp only [DataW.weightsEach, List.mem_append]
  exact Or.inr (Or.inr (Or.inl h))
section
variable {H : Type} {enc : TypeId × Value → H} {P : Program}
theorem ints_weight {W : World} {fuel : Nat} {t e : TypeId} {kd : IntKind} {a0 : Option Addr} {n c : Nat} {y : DataW H × List MemPlace} (ht : P.underlying t = some (.slice e)) (he : P.underlying e = some (.int kd)) (hc : P.cellsOf e = 1) (hb : P.bytesOf e = 1)
    (hf : DataW.trod enc P W 0 (fun _ => true) true fuel t [.slice a0 n c] = some y) {R : Nat} (hw : ∀ z ∈ y.1.weights P t, z ≤ R) : n ≤ R := by
  rcases open_ints ht he hc hf with ⟨hcs, hx⟩ | ⟨a, len', cap', zs, hcs, _, hl, hm, hz, hx, hcell, hwz⟩
  · simp only [List.cons.injEq, Value.slice.injEq, and_true] at hcs
    obtain ⟨_, rfl, _⟩ := hcs
    exact Nat.zero_le _
  · simp only [List.cons.injEq, Value.slice.injEq, and_true] at hcs
    obtain ⟨rfl, rfl, rfl⟩ := hcs
    obtain ⟨y1, y2⟩ := y
    simp only [Prod.mk.injEq] at hx
    obtain ⟨rfl, rfl⟩ := hx
    simp only [if_true] at hz
    have h1 := hw (((lits kd (zs.take n)).length + (lits (H := H) kd (zs.drop n)).length) * P.bytesOf e) (by
      unfold DataW.weights
      rw [ht]
      exact List.mem_cons_self ..)
    rw [hb, Nat.mul_one] at h1
    have h2 : (lits (H := H) kd (zs.take n)).length = n := by simp [lits]; omega
    omega
end
set_option maxRecDepth 100000 in
set_option maxHeartbeats 1600000 in
theorem cell_bss {H : Type} {enc : TypeId × Value → H} {W : World} {fuel : Nat} {a0 : Option Addr} {len cap : Nat} {y : DataW H × List MemPlace} (hf : DataW.trod enc Tryd.prog W 0 (fun _ => true) true fuel 32 [.slice a0 len cap] = some y) (hlt : ∀ x ∈ y.2, x.block < W.heap.size) :
    ∃ xs, BArg W a0 len cap xs ∧ (len ≤ maxLen ∧ len ≤ cap) ∧ ∀ R : Nat, (∀ z ∈ y.1.weights Tryd.prog 32, z ≤ R) → len ≤ R ∧ ∀ x ∈ xs, x.n ≤ R := by
  rcases open_slice Tryd.underlying32 hf with ⟨hcs, hx⟩ | ⟨a, len', cap', m, k, D, Pl, hcs, _, hl, hm, hmm, hx, hi⟩
  · simp only [List.cons.injEq, Value.slice.injEq, and_true] at hcs
    obtain ⟨rfl, rfl, rfl⟩ := hcs
    exact ⟨[], ⟨rfl, fun h => absurd h (by omega), fun _ h => by cases h⟩, ⟨Nat.zero_le _, Nat.le_refl _⟩, fun R _ => ⟨Nat.zero_le _, fun e h => by cases h⟩⟩
  · simp only [List.cons.injEq, Value.slice.injEq, and_true] at hcs
    obtain ⟨rfl, rfl, rfl⟩ := hcs
    simp only [if_true] at hmm
    subst hmm
    obtain ⟨y1, y2⟩ := y
    simp only [Prod.mk.injEq] at hx
    obtain ⟨rfl, rfl⟩ := hx
    have hC : Tryd.prog.cellsOf 22 = 1 := by kernel_rfl
    rw [hC] at hi
    have hrow : ∀ i, i < m → ∃ x : BEl, Ints W .u8 256 x.A x.n x.c x.l ∧ W.cell? (a.add (i * 1)) = some x.v ∧ ∀ R : Nat, (∀ z ∈ (D i).weights Tryd.prog 22, z ≤ R) → x.n ≤ R := by
      intro i him
      obtain ⟨cs', h1, h2⟩ := hi i him
      obtain ⟨_, hlen, hat⟩ := World.cells?_some h1
      match cs', hlen with
      | [c0], _ =>
        obtain ⟨A, n, c, hs⟩ := slice_form Tryd.underlying22 h2
        cases hs
        obtain ⟨L, hL, _⟩ := cell_intsR 256 Tryd.underlying22 Tryd.underlying5 (by kernel_rfl) wf_u8 h2 (fun x hx => hlt x (List.mem_append_right _ (List.mem_flatMap.2 ⟨i, List.mem_range.2 him, hx⟩)))
        refine ⟨⟨A, n, c, L⟩, hL, ?_, fun R hR => ints_weight Tryd.underlying22 Tryd.underlying5 (by kernel_rfl) (by kernel_rfl) h2 hR⟩
        have := hat 0 (by omega)
        simpa [Addr.add, BEl.v] using this
    obtain ⟨f, hf'⟩ := choose_lt hrow
    refine ⟨(List.range len).map f, ⟨by simp, fun hn => ?_, fun x hx => ?_⟩, ⟨by omega, by omega⟩, fun R hR => ⟨?_, fun e he => ?_⟩⟩
    · obtain ⟨b, off, spot⟩ := a
      have h0 := (hf' 0 (by omega)).2.1
      have hspot : spot = none := by simpa [Addr.add] using World.cell?_spot h0
      subst hspot
      refine ⟨b, off, rfl, hlt (.cell b off) (List.mem_append_left _ (MemPlace.mem_row.2 ⟨0, by rw [hC]; omega, by simp⟩)), fun j x hx => ?_⟩
      rw [List.getElem?_map] at hx
      obtain ⟨i, hi', rfl⟩ := Option.map_eq_some_iff.1 hx
      have hij : i = j ∧ j < len := by
        obtain ⟨h1, h2⟩ := List.getElem?_eq_some_iff.1 hi'
        simp at h1 h2
        omega
      obtain ⟨rfl, hjl⟩ := hij
      have := (hf' i (by omega)).2.1
      simpa only [add_plain, Nat.mul_one] using this
    · obtain ⟨i, hi', rfl⟩ := List.mem_map.1 hx
      have : i < len := by simpa using hi'
      exact (hf' i (by omega)).1
    · have h1 := hR _ (by
        unfold DataW.weights
        rw [Tryd.underlying32]
        exact List.mem_cons_self ..)
      have h24 : Tryd.prog.bytesOf 22 = 24 := by kernel_rfl
      rw [h24] at h1
      simp at h1
      omega
    · obtain ⟨i, hi', rfl⟩ := List.mem_map.1 he
      have hi2 : i < len := by simpa using hi'
      refine (hf' i (by omega)).2.2 R (fun z hz => hR z ?_)
      unfold DataW.weights
      rw [Tryd.underlying32]
      exact List.mem_cons_of_mem _ (List.mem_append_left _ (weightsAll_mem (List.mem_map.2 ⟨i, hi', rfl⟩) hz))

theorem i64_of {z : Int} (h : (Lit.int .i64 z).wf = true) : -9223372036854775808 ≤ z ∧ z ≤ 9223372036854775807 := wf_i64 h
structure Act7 where
  (k : Int) (R : Option Addr) (rn rc : Nat) (rs : List BEl) (gen : Nat) (i : Int) (A : Option Addr) (n cp : Nat) (l : List Nat)
instance : Inhabited Act7 := ⟨⟨0, none, 0, 0, [], 0, 0, none, 0, 0, []⟩⟩
structure Act7.Ok (w : World) (x : Act7) : Prop where
  k0 : -9223372036854775808 ≤ x.k
  k1 : x.k ≤ 9223372036854775807
  i0 : -9223372036854775808 ≤ x.i
  i1 : x.i ≤ 9223372036854775807
  recs : BArg w x.R x.rn x.rc x.rs
  rmost : x.rn ≤ maxLen
  rcap : x.rn ≤ x.rc
  ints : Ints w .u8 256 x.A x.n x.cp x.l
  most : x.n ≤ maxLen

set_option maxRecDepth 100000 in
theorem cells_act7 {H : Type} {enc : TypeId × Value → H} {W : World} {fuel : Nat} {c0 c1 c2 c3 c4 : Value} {y : DataW H × List MemPlace} (hf : DataW.trod enc Tryd.prog W 0 (fun _ => true) true fuel 46 [c0, c1, c2, c3, c4] = some y) (hlt : ∀ x ∈ y.2, x.block < W.heap.size) :
    ∃ x : Act7, c0 = .int .i64 x.k ∧ c1 = .slice x.R x.rn x.rc ∧ c2 = .int .u32 (x.gen : Int) ∧ c3 = .int .i64 x.i ∧ c4 = .slice x.A x.n x.cp ∧ x.Ok W ∧ ∀ Q : Nat, (∀ z ∈ y.1.weights Tryd.prog 46, z ≤ Q) → x.rn ≤ Q ∧ ∀ e ∈ x.rs, e.n ≤ Q := by
  obtain ⟨y0, y1, y2, y3, y4, n, rfl, _, h0, h1, h2, h3, h4⟩ := trod_struct5 Tryd.underlying46 hf
  have h0' : DataW.trod enc Tryd.prog W 0 (fun _ => true) true n 3 [c0] = some y0 := h0
  have h1' : DataW.trod enc Tryd.prog W 0 (fun _ => true) true n 32 [c1] = some y1 := h1
  have h2' : DataW.trod enc Tryd.prog W 0 (fun _ => true) true n 31 [c2] = some y2 := h2
  have h3' : DataW.trod enc Tryd.prog W 0 (fun _ => true) true n 3 [c3] = some y3 := h3
  have h4' : DataW.trod enc Tryd.prog W 0 (fun _ => true) true n 22 [c4] = some y4 := h4
  clear h0 h1 h2 h3 h4
  obtain ⟨z0, e0, _, hw0⟩ := DataW.trod_int Tryd.underlying3 h0'
  obtain ⟨z2, e2, _, hw2⟩ := DataW.trod_int Tryd.underlying31 h2'
  obtain ⟨z3, e3, _, hw3⟩ := DataW.trod_int Tryd.underlying3 h3'
  cases e0
  cases e2
  cases e3
  obtain ⟨R, rn, rc, hs1⟩ := slice_form Tryd.underlying32 h1'
  cases hs1
  obtain ⟨rs, hR, hrm, hrw⟩ := cell_bss h1' (fun x hx => hlt x (by simp [hx]))
  obtain ⟨A, l, c, hs⟩ := slice_form Tryd.underlying22 h4'
  cases hs
  obtain ⟨L, hL, hm⟩ := cell_intsR 256 Tryd.underlying22 Tryd.underlying5 (by kernel_rfl) wf_u8 h4' (fun x hx => hlt x (by simp [hx]))
  have hz : 0 ≤ z2 := by
    have h1 : IntKind.u32.min = 0 := rfl
    simp only [Lit.wf, Bool.and_eq_true, decide_eq_true_eq] at hw2
    omega
  exact ⟨⟨z0, R, rn, rc, rs, z2.toNat, z3, A, l, c, L⟩, rfl, rfl, by congr 1; show z2 = (z2.toNat : Int); omega, rfl, rfl, ⟨(i64_of hw0).1, (i64_of hw0).2, (i64_of hw3).1, (i64_of hw3).2, hR, hrm.1, hrm.2, hL, hm⟩, fun Q hQ => hrw Q fun z hz => hQ z (by
    show z ∈ (DataW.agg [y0.1, y1.1, y2.1, y3.1, y4.1]).weights Tryd.prog 46
    unfold DataW.weights
    rw [Tryd.underlying46]
    have hz' : z ∈ y1.1.weights Tryd.prog 32 := hz
    simp only [List.map_cons, List.map_nil, DataW.weightsEach, List.mem_append]
    exact Or.inr (Or.inl hz'))⟩

/-- A slice that reads as steps. -/
structure ARows (w : World) (A : Option Addr) (n c : Nat) (xs : List Act7) : Prop where
  len : xs.length = n
  at_ : 0 < n → ∃ b o, A = some ⟨b, o, none⟩ ∧ b < w.heap.size ∧ ∀ (j : Nat) (x : Act7), xs[j]? = some x → (w.cell? ⟨b, o + j * 5, none⟩ = some (.int .i64 x.k) ∧ w.cell? ⟨b, o + j * 5 + 1, none⟩ = some (.slice x.R x.rn x.rc) ∧ w.cell? ⟨b, o + j * 5 + 2, none⟩ = some (.int .u32 (x.gen : Int)) ∧ w.cell? ⟨b, o + j * 5 + 3, none⟩ = some (.int .i64 x.i) ∧ w.cell? ⟨b, o + j * 5 + 4, none⟩ = some (.slice x.A x.n x.cp))
  ok : ∀ x ∈ xs, x.Ok w

section
variable {w w' : World} {A : Option Addr} {n c : Nat} {xs : List Act7}
theorem Act7.Ok.below {x : Act7} (h : x.Ok w) (hb : Below w.heap.size w w') : x.Ok w' := ⟨h.k0, h.k1, h.i0, h.i1, h.recs.below hb, h.rmost, h.rcap, h.ints.below hb, h.most⟩
theorem ARows.below (h : ARows w A n c xs) (hb : Below w.heap.size w w') : ARows w' A n c xs :=
  ⟨h.len, fun hn => by
    obtain ⟨b, o, e, hbl, hc⟩ := h.at_ hn
    have := hb.size
    refine ⟨b, o, e, by omega, fun j x hx => ?_⟩
    obtain ⟨h0, h1, h2, h3, h4⟩ := hc j x hx
    exact ⟨(hb.cell (p := ⟨b, _, none⟩) hbl).trans h0, (hb.cell (p := ⟨b, _, none⟩) hbl).trans h1, (hb.cell (p := ⟨b, _, none⟩) hbl).trans h2, (hb.cell (p := ⟨b, _, none⟩) hbl).trans h3, (hb.cell (p := ⟨b, _, none⟩) hbl).trans h4⟩, fun x hx => (h.ok x hx).below hb⟩
theorem ARows.get {k : Nat} (h : ARows w A n c xs) (hk : k < n) : ∃ b o x, A = some ⟨b, o, none⟩ ∧ xs[k]? = some x ∧ x.Ok w ∧ (w.cell? ⟨b, o + k * 5, none⟩ = some (.int .i64 x.k) ∧ w.cell? ⟨b, o + k * 5 + 1, none⟩ = some (.slice x.R x.rn x.rc) ∧ w.cell? ⟨b, o + k * 5 + 2, none⟩ = some (.int .u32 (x.gen : Int)) ∧ w.cell? ⟨b, o + k * 5 + 3, none⟩ = some (.int .i64 x.i) ∧ w.cell? ⟨b, o + k * 5 + 4, none⟩ = some (.slice x.A x.n x.cp)) := by
  obtain ⟨b, o, e, hb, hc⟩ := h.at_ (by omega)
  have hl : k < xs.length := by rw [h.len]; exact hk
  have hx : xs[k]? = some xs[k] := List.getElem?_eq_getElem hl
  exact ⟨b, o, xs[k], e, hx, h.ok _ (List.getElem_mem hl), hc k _ hx⟩
end

set_option maxRecDepth 100000 in
set_option maxHeartbeats 1600000 in
theorem arg_acts7 {H : Type} {enc : TypeId × Value → H} {W : World} {r : Reach} {b0 : Nat} {v : Value} {d : DataW H} {p : List MemPlace} (hv : Value.okWide Tryd.prog W r b0 44 v) (h : DataW.Trod enc Tryd.prog W 0 (fun _ => true) true 44 v d p) (hlt : ∀ x ∈ p, x.block < W.heap.size) :
    ∃ A n c xs, v = .slice A n c ∧ ARows W A n c xs ∧ n ≤ maxLen ∧ ∀ Q : Nat, (∀ z ∈ d.weights Tryd.prog 44, z ≤ Q) → ∀ x ∈ xs, x.rn ≤ Q ∧ ∀ e ∈ x.rs, e.n ≤ Q := by
  obtain ⟨a0, len, cap, rfl⟩ := okWide_slice Tryd.underlying44 hv
  obtain ⟨fuel, hf⟩ := h
  rcases open_slice Tryd.underlying44 hf with ⟨hcs, hx⟩ | ⟨a, len', cap', m, k, D, Pl, hcs, _, hl, hm, hmm, hx, hi⟩
  · simp [Value.cells] at hcs
    obtain ⟨rfl, rfl, rfl⟩ := hcs
    exact ⟨none, 0, 0, [], rfl, ⟨rfl, fun h => absurd h (by omega), fun _ h => by cases h⟩, Nat.zero_le _, fun _ _ _ h => by cases h⟩
  · simp [Value.cells] at hcs
    obtain ⟨rfl, rfl, rfl⟩ := hcs
    simp only [if_true] at hmm
    subst hmm
    simp only [Prod.mk.injEq] at hx
    obtain ⟨rfl, rfl⟩ := hx
    have hC : Tryd.prog.cellsOf 46 = 5 := by kernel_rfl
    rw [hC] at hi
    have hrow : ∀ i, i < m → ∃ x : Act7, x.Ok W ∧ (W.cell? (a.add (i * 5)) = some (.int .i64 x.k) ∧ W.cell? ((a.add (i * 5)).add 1) = some (.slice x.R x.rn x.rc) ∧ W.cell? ((a.add (i * 5)).add 2) = some (.int .u32 (x.gen : Int)) ∧ W.cell? ((a.add (i * 5)).add 3) = some (.int .i64 x.i) ∧ W.cell? ((a.add (i * 5)).add 4) = some (.slice x.A x.n x.cp)) ∧ ∀ Q : Nat, (∀ z ∈ (D i).weights Tryd.prog 46, z ≤ Q) → x.rn ≤ Q ∧ ∀ e ∈ x.rs, e.n ≤ Q := by
      intro i him
      obtain ⟨cs', h1, h2⟩ := hi i him
      obtain ⟨_, hlen, hat⟩ := World.cells?_some h1
      match cs', hlen with
      | [c0, c1, c2, c3, c4], _ =>
        obtain ⟨x, rfl, rfl, rfl, rfl, rfl, hok, hcw⟩ := cells_act7 h2 (fun x hx => hlt x (List.mem_append_right _ (List.mem_flatMap.2 ⟨i, List.mem_range.2 him, hx⟩)))
        refine ⟨x, hok, ⟨?_, hat 1 (by omega), hat 2 (by omega), hat 3 (by omega), hat 4 (by omega)⟩, hcw⟩
        have := hat 0 (by omega)
        simpa [Addr.add] using this
    obtain ⟨f, hf'⟩ := choose_lt hrow
    refine ⟨some a, len, m, (List.range len).map f, rfl, ⟨by simp, fun hn => ?_, fun x hx => ?_⟩, by omega, fun Q hQ x hx => ?_⟩
    · obtain ⟨b, off, spot⟩ := a
      have h0 := (hf' 0 (by omega)).2.1.1
      have hspot : spot = none := by simpa [Addr.add] using World.cell?_spot h0
      subst hspot
      refine ⟨b, off, rfl, hlt (.cell b off) (List.mem_append_left _ (MemPlace.mem_row.2 ⟨0, by rw [hC]; omega, by simp⟩)), fun j x hx => ?_⟩
      rw [List.getElem?_map] at hx
      obtain ⟨i, hi', rfl⟩ := Option.map_eq_some_iff.1 hx
      have hij : i = j ∧ j < len := by
        obtain ⟨h1, h2⟩ := List.getElem?_eq_some_iff.1 hi'
        simp at h1 h2
        omega
      obtain ⟨rfl, hjl⟩ := hij
      have := (hf' i (by omega)).2.1
      simpa only [add_plain] using this
    · obtain ⟨i, hi', rfl⟩ := List.mem_map.1 hx
      have : i < len := by simpa using hi'
      exact (hf' i (by omega)).1
    · obtain ⟨i, hi', rfl⟩ := List.mem_map.1 hx
      have hi2 : i < len := by simpa using hi'
      refine (hf' i (by omega)).2.2 Q (fun z hz => hQ z ?_)
      unfold DataW.weights
      rw [Tryd.underlying44]
      exact List.mem_cons_of_mem _ (List.mem_append_left _ (weightsAll_mem (List.mem_map.2 ⟨i, hi', rfl⟩) hz))
end Go.Proofs.YtdlcngmcjidomaaDoor
