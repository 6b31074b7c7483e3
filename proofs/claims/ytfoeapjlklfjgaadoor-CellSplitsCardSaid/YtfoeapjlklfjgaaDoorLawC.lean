/- From a law's walk to its row: an argument that is a cell, or a slice of cells, or an array of two numbers. No condition. -/
import Derived.Test.YtfoeapjlklfjgaaDoorLaw
import Derived.Test.YtfoeapjlklfjgaaDoorCellG
import Derived.Lib.SmallJoins
import Derived.Deep.Slices
namespace Go.Proofs.YtfoeapjlklfjgaaDoor
set_option linter.unusedSimpArgs false
set_option linter.unusedVariables false
open Go.ChangeShapes Go.WideShapes Go.ChangeAt Go.RowKit Go.Joins Go.Deep

section
variable {H : Type} {enc : TypeId × Value → H} {P : Program}
theorem cell_ints_ {W : World} {fuel : Nat} {t e : TypeId} {kd : IntKind} {a0 : Option Addr} {n c : Nat} {y : DataW H × List MemPlace} (lim : Nat) (ht : P.underlying t = some (.slice e)) (he : P.underlying e = some (.int kd)) (hc : P.cellsOf e = 1)
    (hk : ∀ z : Int, (Lit.int kd z).wf = true → 0 ≤ z ∧ z < lim)
    (hf : DataW.trod enc P W 0 (fun _ => true) true fuel t [.slice a0 n c] = some y) (hlt : ∀ x ∈ y.2, x.block < W.heap.size) :
    ∃ l, Ints W kd lim a0 n c l ∧ n ≤ maxLen := by
  rcases open_ints ht he hc hf with ⟨hcs, hx⟩ | ⟨a, len', cap', zs, hcs, _, hl, hm, hz, hx, hcell, hwz⟩
  · simp only [List.cons.injEq, Value.slice.injEq, and_true] at hcs
    obtain ⟨rfl, rfl, rfl⟩ := hcs
    exact ⟨[], Ints.nil_ .., Nat.zero_le _⟩
  · simp only [List.cons.injEq, Value.slice.injEq, and_true] at hcs
    obtain ⟨rfl, rfl, rfl⟩ := hcs
    obtain ⟨y1, y2⟩ := y
    simp only [Prod.mk.injEq] at hx
    obtain ⟨rfl, rfl⟩ := hx
    simp only [if_true] at hz
    have hnat : (zs.map Int.toNat).map (fun x : Nat => Value.int kd (x : Int)) = zs.map (Value.int kd) := by
      rw [List.map_map]
      refine List.map_congr_left fun z hz => ?_
      have := (hk z (hwz z hz)).1
      simp only [Function.comp]
      congr 1
      omega
    refine ⟨(zs.map Int.toNat).take n, ⟨⟨by simp; omega, hl, fun hn => ?_⟩, fun x hx => ?_⟩, by omega⟩
    · have h0 := hcell 0 (by omega)
      obtain ⟨b, off, spot⟩ := a
      have hspot : spot = none := by simpa [Addr.add] using World.cell?_spot h0
      subst hspot
      refine ⟨b, off, rfl, hlt (.cell b off) (MemPlace.mem_row.2 ⟨0, by omega, by simp⟩), fun j u hu => ?_⟩
      rw [List.map_take, hnat, ← List.map_take, List.getElem?_map] at hu
      obtain ⟨z, hz', rfl⟩ := Option.map_eq_some_iff.1 hu
      rw [List.getElem?_take] at hz'
      split at hz'
      · have hj := (List.getElem?_eq_some_iff.1 hz').1
        rw [← add_plain, hcell j hj, List.getD_eq_getElem?_getD, hz']
        rfl
      · cases hz'
    · obtain ⟨z, hz', rfl⟩ := List.mem_map.1 (List.mem_of_mem_take hx)
      have := hk z (hwz z hz')
      omega
theorem trod_struct5 {w : World} {base : Nat} {spare : Nat → Bool} {held : Bool} {t : TypeId} {f0 f1 f2 f3 f4 : Field} {fuel : Nat} {cs : List Value} {x : DataW H × List MemPlace} (ht : P.underlying t = some (.struct #[f0, f1, f2, f3, f4])) (h : DataW.trod enc P w base spare held fuel t cs = some x) :
    ∃ y0 y1 y2 y3 y4 n, x = (.agg [y0.1, y1.1, y2.1, y3.1, y4.1], y0.2 ++ (y1.2 ++ (y2.2 ++ (y3.2 ++ y4.2)))) ∧ cs.length = P.cellsOf t ∧ DataW.trod enc P w base spare held n f0.type ((cs.drop f0.offset).take (P.cellsOf f0.type)) = some y0 ∧
      DataW.trod enc P w base spare held n f1.type ((cs.drop f1.offset).take (P.cellsOf f1.type)) = some y1 ∧ DataW.trod enc P w base spare held n f2.type ((cs.drop f2.offset).take (P.cellsOf f2.type)) = some y2 ∧
      DataW.trod enc P w base spare held n f3.type ((cs.drop f3.offset).take (P.cellsOf f3.type)) = some y3 ∧ DataW.trod enc P w base spare held n f4.type ((cs.drop f4.offset).take (P.cellsOf f4.type)) = some y4 := by
  obtain ⟨xs, n, _, rfl, hl, hlen, hf⟩ := DataW.trod_struct ht h
  match xs, hlen with
  | [y0, y1, y2, y3, y4], _ => exact ⟨y0, y1, y2, y3, y4, n, by simp, hl, by simpa using hf 0 f0 rfl, by simpa using hf 1 f1 rfl, by simpa using hf 2 f2 rfl, by simpa using hf 3 f3 rfl, by simpa using hf 4 f4 rfl⟩
theorem array5 {α : Type} {cs : Array α} (h : cs.size = 5) : ∃ c0 c1 c2 c3 c4, cs = #[c0, c1, c2, c3, c4] := by
  obtain ⟨l⟩ := cs
  match l, h with
  | [c0, c1, c2, c3, c4], _ => exact ⟨c0, c1, c2, c3, c4, rfl⟩
theorem nat_of_trod {W : World} {base : Nat} {spare : Nat → Bool} {held : Bool} {n : Nat} {e : TypeId} {kd : IntKind} {c : Value} {y : DataW H × List MemPlace} (lim : Nat) (he : P.underlying e = some (.int kd)) (hk : ∀ z : Int, (Lit.int kd z).wf = true → 0 ≤ z ∧ z < lim) (h : DataW.trod enc P W base spare held n e [c] = some y) :
    ∃ x : Nat, c = .int kd (x : Int) ∧ x < lim := by
  obtain ⟨z, hz, _, hw⟩ := DataW.trod_int he h
  have := hk z hw
  refine ⟨z.toNat, ?_, by omega⟩
  have e1 : c = .int kd z := by simpa using hz
  rw [e1]
  congr 1
  omega
theorem int_of_trod {W : World} {base : Nat} {spare : Nat → Bool} {held : Bool} {n : Nat} {e : TypeId} {kd : IntKind} {c : Value} {y : DataW H × List MemPlace} (he : P.underlying e = some (.int kd)) (h : DataW.trod enc P W base spare held n e [c] = some y) :
    ∃ z : Int, c = .int kd z ∧ (Lit.int kd z).wf = true := by
  obtain ⟨z, hz, _, hw⟩ := DataW.trod_int he h
  exact ⟨z, by simpa using hz, hw⟩
theorem trod_array2 {w : World} {base : Nat} {spare : Nat → Bool} {held : Bool} {t e : TypeId} {fuel : Nat} {c0 c1 : Value} {x : DataW H × List MemPlace} (ht : P.underlying t = some (.array 2 e)) (hce : P.cellsOf e = 1)
    (h : DataW.trod enc P w base spare held fuel t [c0, c1] = some x) :
    ∃ y0 y1 n, DataW.trod enc P w base spare held n e [c0] = some y0 ∧ DataW.trod enc P w base spare held n e [c1] = some y1 := by
  cases fuel with
  | zero => simp [DataW.trod] at h
  | succ n =>
    unfold DataW.trod at h
    rw [ht] at h
    have r2 : List.range 2 = [0, 1] := rfl
    simp [r2, hce] at h
    obtain ⟨_, h⟩ := h
    cases h0 : DataW.trod enc P w base spare held n e [c0] with
    | none => simp [h0] at h
    | some y0 =>
      cases h1 : DataW.trod enc P w base spare held n e [c1] with
      | none => simp [h0, h1] at h
      | some y1 => exact ⟨y0, y1, n, h0, h1⟩
/-- An argument that is an array of two numbers. -/
theorem arg_pair {W : World} {r : Reach} {b0 : Nat} {t u : TypeId} {kd : IntKind} {v : Value} {d : DataW H} {p : List MemPlace} (lim : Nat) (ht : P.underlying t = some (.array 2 u)) (hu : P.underlying u = some (.int kd)) (hk : ∀ z : Int, (Lit.int kd z).wf = true → 0 ≤ z ∧ z < lim) (hc : P.cellsOf t = 2) (hcu : P.cellsOf u = 1)
    (hv : Value.okWide P W r b0 t v) (h : DataW.Trod enc P W 0 (fun _ => true) true t v d p) :
    ∃ x0 x1 : Nat, v = .agg #[.int kd (x0 : Int), .int kd (x1 : Int)] ∧ x0 < lim ∧ x1 < lim := by
  have hv' : ∃ cs, v = .agg cs ∧ cs.size = P.cellsOf t := by
    simp only [Value.okWide, ht] at hv
    obtain ⟨cs, h1, h2, _⟩ := hv
    exact ⟨cs, h1, h2⟩
  obtain ⟨cs, rfl, hsz⟩ := hv'
  obtain ⟨c0, c1, rfl⟩ := Go.Joins.array2 (hsz.trans hc)
  obtain ⟨fuel, hf⟩ := h
  obtain ⟨y0, y1, n, t0, t1⟩ := trod_array2 ht hcu hf
  obtain ⟨x0, rfl, l0⟩ := nat_of_trod lim hu hk t0
  obtain ⟨x1, rfl, l1⟩ := nat_of_trod lim hu hk t1
  exact ⟨x0, x1, rfl, l0, l1⟩
end
theorem wf_i64 {z : Int} (h : (Lit.int .i64 z).wf = true) : -9223372036854775808 ≤ z ∧ z ≤ 9223372036854775807 := by
  have h1 : IntKind.i64.min = -9223372036854775808 := rfl
  have h2 : IntKind.i64.max = 9223372036854775807 := rfl
  simp only [Lit.wf, Bool.and_eq_true, decide_eq_true_eq] at h
  omega

/-- A cell among a law's arguments: its bytes may be as many as a slice may have. -/
structure CEl.Lim (w : World) (e : CEl) : Prop where
  ints : Ints w .u8 256 e.A e.n e.c e.x.data
  gen : e.x.gen < 4294967296
  seq : e.x.seq < 4294967296
  part : -9223372036854775808 ≤ e.x.part ∧ e.x.part ≤ 9223372036854775807
  parts : -9223372036854775808 ≤ e.x.parts ∧ e.x.parts ≤ 9223372036854775807
  most : e.n ≤ maxLen
structure CArg (w : World) (A : Option Addr) (n c : Nat) (xs : List CEl) : Prop where
  len : xs.length = n
  cap : n ≤ c
  at_ : 0 < n → ∃ b o, A = some ⟨b, o, none⟩ ∧ b < w.heap.size ∧ ∀ j u, (cflat xs)[j]? = some u → w.cell? ⟨b, o + j, none⟩ = some u
  ok : ∀ e ∈ xs, e.Lim w
section
variable {w w' : World} {A : Option Addr} {n c : Nat} {xs : List CEl} {e : CEl}
theorem CEl.Lim.below (h : e.Lim w) (hb : Below w.heap.size w w') : e.Lim w' := ⟨h.ints.below hb, h.gen, h.seq, h.part, h.parts, h.most⟩
theorem CEl.Lim.drewN (h : e.Lim w) (q : Nat) : e.Lim (w.drewN q) := ⟨h.ints.drewN q, h.gen, h.seq, h.part, h.parts, h.most⟩
theorem CEl.Lim.alloc (h : e.Lim w) (o : Obj) : e.Lim (w.alloc o) := ⟨h.ints.alloc o, h.gen, h.seq, h.part, h.parts, h.most⟩
theorem CEl.Lim.in_ (h : e.Lim w) (hn : e.n ≤ 140737488355000) : e.In w := ⟨h.ints, h.gen, h.seq, h.part, h.parts, hn⟩
theorem CEl.Lim.ok (h : e.Lim w) : e.x.Ok := ⟨h.gen, h.seq, h.ints.lt⟩
theorem CArg.below (h : CArg w A n c xs) (hb : Below w.heap.size w w') : CArg w' A n c xs :=
  ⟨h.len, h.cap, fun hn => by
    obtain ⟨b, o, e, hbl, hc⟩ := h.at_ hn
    have := hb.size
    exact ⟨b, o, e, by omega, fun j u hu => (hb.cell (p := ⟨b, o + j, none⟩) hbl).trans (hc j u hu)⟩, fun x hx => (h.ok x hx).below hb⟩
theorem CArg.drewN (h : CArg w A n c xs) (q : Nat) : CArg (w.drewN q) A n c xs := ⟨h.len, h.cap, fun hn => h.at_ hn, fun x hx => (h.ok x hx).drewN q⟩
theorem CArg.rd (h : CArg w A n c xs) (hn : ∀ e ∈ xs, e.n ≤ 140737488355000) : CRd w A n c xs := ⟨h.len, h.cap, h.at_, fun x hx => (h.ok x hx).in_ (hn x hx)⟩
theorem CArg.get {k : Nat} (h : CArg w A n c xs) (hk : k < n) : ∃ b o e, A = some ⟨b, o, none⟩ ∧ b < w.heap.size ∧ xs[k]? = some e ∧ e.Lim w ∧ w.cell? ⟨b, o + k * 5 + 4, none⟩ = some (.slice e.A e.n e.c) := by
  obtain ⟨b, o, e, hb, hc⟩ := h.at_ (by omega)
  have hl : k < xs.length := by rw [h.len]; exact hk
  have hx : xs[k]? = some xs[k] := List.getElem?_eq_getElem hl
  exact ⟨b, o, xs[k], e, hb, hx, h.ok _ (List.getElem_mem hl), by rw [Nat.add_assoc]; exact hc (k * 5 + 4) _ (by rw [cflat_get hx 4 (by omega)]; rfl)⟩
theorem cflat_at {j : Nat} {u : Value} (h : (cflat xs)[j]? = some u) : ∃ k i e, j = k * 5 + i ∧ i < 5 ∧ xs[k]? = some e ∧ e.vs[i]? = some u := by
  have h1 := (List.getElem?_eq_some_iff.1 h).1
  rw [cflat_len] at h1
  have hk : j / 5 < xs.length := by omega
  have hx := List.getElem?_eq_getElem hk
  have := cflat_get hx (j % 5) (by omega)
  have ej : j / 5 * 5 + j % 5 = j := by omega
  rw [ej, h] at this
  exact ⟨j / 5, j % 5, _, ej.symm, by omega, hx, this.symm⟩
end

set_option maxRecDepth 100000 in
theorem cells_cl {H : Type} {enc : TypeId × Value → H} {W : World} {fuel : Nat} {c0 c1 c2 c3 c4 : Value} {y : DataW H × List MemPlace} (hf : DataW.trod enc Tryd.prog W 0 (fun _ => true) true fuel 25 [c0, c1, c2, c3, c4] = some y) (hlt : ∀ x ∈ y.2, x.block < W.heap.size) :
    ∃ e : CEl, [c0, c1, c2, c3, c4] = e.vs ∧ e.Lim W := by
  obtain ⟨y0, y1, y2, y3, y4, n, rfl, _, h0, h1, h2, h3, h4⟩ := trod_struct5 Tryd.underlying25 hf
  obtain ⟨gs, e0, l0⟩ := nat_of_trod 4294967296 Tryd.underlying22 wf_u32 (show DataW.trod enc Tryd.prog W 0 (fun _ => true) true n 22 [c0] = some y0 from h0)
  obtain ⟨sq, e1, l1⟩ := nat_of_trod 4294967296 Tryd.underlying22 wf_u32 (show DataW.trod enc Tryd.prog W 0 (fun _ => true) true n 22 [c1] = some y1 from h1)
  obtain ⟨pt, e2, l2⟩ := int_of_trod Tryd.underlying3 (show DataW.trod enc Tryd.prog W 0 (fun _ => true) true n 3 [c2] = some y2 from h2)
  obtain ⟨ps, e3, l3⟩ := int_of_trod Tryd.underlying3 (show DataW.trod enc Tryd.prog W 0 (fun _ => true) true n 3 [c3] = some y3 from h3)
  have h4' : DataW.trod enc Tryd.prog W 0 (fun _ => true) true n 23 [c4] = some y4 := h4
  obtain ⟨A, m, c, hs⟩ := slice_form Tryd.underlying23 h4'
  cases hs
  obtain ⟨L, hL, hm⟩ := cell_ints_ 256 Tryd.underlying23 Tryd.underlying5 (by kernel_rfl) wf_u8 h4' (fun x hx => hlt x (by simp [hx]))
  subst e0; subst e1; subst e2; subst e3
  exact ⟨⟨⟨gs, sq, pt, ps, L⟩, A, m, c⟩, rfl, ⟨hL, l0, l1, wf_i64 l2, wf_i64 l3, hm⟩⟩
set_option maxRecDepth 100000 in
/-- An argument that is a cell. -/
theorem arg_cl {H : Type} {enc : TypeId × Value → H} {W : World} {r : Reach} {b0 : Nat} {v : Value} {d : DataW H} {p : List MemPlace} (hv : Value.okWide Tryd.prog W r b0 25 v) (h : DataW.Trod enc Tryd.prog W 0 (fun _ => true) true 25 v d p) (hlt : ∀ x ∈ p, x.block < W.heap.size) :
    ∃ (gs sq : Nat) (pt ps : Int) (A : Option Addr) (n c : Nat) (l : List Nat), v = .agg #[.int .u32 (gs : Int), .int .u32 (sq : Int), .int .i64 pt, .int .i64 ps, .slice A n c] ∧ CEl.Lim W ⟨⟨gs, sq, pt, ps, l⟩, A, n, c⟩ := by
  obtain ⟨cs, rfl, hsz⟩ := okWide_struct Tryd.underlying25 hv
  have hC : Tryd.prog.cellsOf 25 = 5 := by kernel_rfl
  obtain ⟨c0, c1, c2, c3, c4, rfl⟩ := array5 (hsz.trans hC)
  obtain ⟨fuel, hf⟩ := h
  have hf' : DataW.trod enc Tryd.prog W 0 (fun _ => true) true fuel 25 [c0, c1, c2, c3, c4] = some (d, p) := hf
  obtain ⟨⟨⟨gs, sq, pt, ps, l⟩, A, n, c⟩, he, hL⟩ := cells_cl hf' hlt
  simp only [CEl.vs, List.cons.injEq, and_true] at he
  obtain ⟨rfl, rfl, rfl, rfl, rfl⟩ := he
  exact ⟨_, _, _, _, _, _, _, _, rfl, hL⟩
set_option maxRecDepth 100000 in
set_option maxHeartbeats 1600000 in
/-- An argument that is a slice of cells. -/
theorem arg_cls {H : Type} {enc : TypeId × Value → H} {W : World} {r : Reach} {b0 : Nat} {v : Value} {d : DataW H} {p : List MemPlace} (hv : Value.okWide Tryd.prog W r b0 34 v) (h : DataW.Trod enc Tryd.prog W 0 (fun _ => true) true 34 v d p) (hlt : ∀ x ∈ p, x.block < W.heap.size) :
    ∃ A n c xs, v = .slice A n c ∧ CArg W A n c xs ∧ n ≤ maxLen := by
  obtain ⟨a0, len, cap, rfl⟩ := okWide_slice Tryd.underlying34 hv
  obtain ⟨fuel, hf⟩ := h
  rcases open_slice Tryd.underlying34 hf with ⟨hcs, hx⟩ | ⟨a, len', cap', m, k, D, Pl, hcs, _, hl, hm, hmm, hx, hi⟩
  · simp [Value.cells] at hcs
    obtain ⟨rfl, rfl, rfl⟩ := hcs
    exact ⟨none, 0, 0, [], rfl, ⟨rfl, Nat.le_refl _, fun h => absurd h (by omega), fun _ h => by cases h⟩, Nat.zero_le _⟩
  · simp [Value.cells] at hcs
    obtain ⟨rfl, rfl, rfl⟩ := hcs
    simp only [if_true] at hmm
    subst hmm
    simp only [Prod.mk.injEq] at hx
    obtain ⟨rfl, rfl⟩ := hx
    have hC : Tryd.prog.cellsOf 25 = 5 := by kernel_rfl
    rw [hC] at hi
    have hrow : ∀ i, i < m → ∃ x : CEl, x.Lim W ∧ ∀ (q : Nat) (u : Value), x.vs[q]? = some u → W.cell? ((a.add (i * 5)).add q) = some u := by
      intro i him
      obtain ⟨cs', h1, h2⟩ := hi i him
      obtain ⟨_, hlen, hat⟩ := World.cells?_some h1
      match cs', hlen with
      | [c0, c1, c2, c3, c4], _ =>
        obtain ⟨e, he, hL⟩ := cells_cl h2 (fun x hx => hlt x (List.mem_append_right _ (List.mem_flatMap.2 ⟨i, List.mem_range.2 him, hx⟩)))
        refine ⟨e, hL, fun q u hu => ?_⟩
        have hq : q < 5 := by
          have := (List.getElem?_eq_some_iff.1 hu).1
          simpa [CEl.vs] using this
        have := hat q (by omega)
        rw [this]
        rw [← he] at hu
        first | exact hu | (rw [List.getD_eq_getElem?_getD, hu]; rfl) | simpa using hu
    obtain ⟨f, hf'⟩ := choose_lt hrow
    refine ⟨some a, len, m, (List.range len).map f, rfl, ⟨by simp, hl, fun hn => ?_, fun x hx => ?_⟩, by omega⟩
    · obtain ⟨b, off, spot⟩ := a
      have h0 := (hf' 0 (by omega)).2 0 _ rfl
      have hspot : spot = none := by simpa [Addr.add] using World.cell?_spot h0
      subst hspot
      refine ⟨b, off, rfl, hlt (.cell b off) (List.mem_append_left _ (MemPlace.mem_row.2 ⟨0, by rw [hC]; omega, by simp⟩)), fun j u hu => ?_⟩
      obtain ⟨k, i, e, rfl, hi5, hx, hu2⟩ := cflat_at hu
      rw [List.getElem?_map] at hx
      obtain ⟨i', hi', rfl⟩ := Option.map_eq_some_iff.1 hx
      have hij : i' = k ∧ k < len := by
        obtain ⟨h1, h2⟩ := List.getElem?_eq_some_iff.1 hi'
        simp at h1 h2
        omega
      obtain ⟨rfl, hjl⟩ := hij
      have := (hf' i' (by omega)).2 i u hu2
      simpa only [add_plain, Nat.add_assoc] using this
    · obtain ⟨i, hi', rfl⟩ := List.mem_map.1 hx
      have : i < len := by simpa using hi'
      exact (hf' i (by omega)).1
end Go.Proofs.YtfoeapjlklfjgaaDoor
