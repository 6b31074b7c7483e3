/- From a law's walk to its row: an argument that is a slice of steps (heijunkalaw05.Act). No condition. -/
import Derived.Test.YtkjmccicdjkccaaLaw
import Derived.Deep.Slices
import Derived.Lib.SmallJoins
namespace Go.Proofs.Ytkjmccicdjkccaa
open Go.ChangeShapes Go.WideShapes Go.ChangeAt Go.RowKit Go.Joins Go.Deep

section
variable {H : Type} {enc : TypeId × Value → H} {P : Program}
theorem cell_ints {W : World} {fuel : Nat} {t e : TypeId} {kd : IntKind} {a0 : Option Addr} {n c : Nat} {y : DataW H × List MemPlace} (lim : Nat) (ht : P.underlying t = some (.slice e)) (he : P.underlying e = some (.int kd)) (hc : P.cellsOf e = 1)
    (hk : ∀ z : Int, (Lit.int kd z).wf = true → 0 ≤ z ∧ z < lim)
    (hf : DataW.trod enc P W 0 (fun _ => true) true fuel t [.slice a0 n c] = some y) (hlt : ∀ x ∈ y.2, x.block < W.heap.size) :
    ∃ l, Ints W kd lim a0 n c l ∧ n ≤ maxLen := by
  rcases open_ints ht he hc hf with ⟨hcs, hx⟩ | ⟨a, len', cap', zs, hcs, _, hl, hm, hz, hx, hcell, hwz⟩
  · simp only [List.cons.injEq, Value.slice.injEq, and_true] at hcs
    obtain ⟨rfl, rfl, rfl⟩ := hcs
    exact ⟨[], Ints.nil_ .., Nat.zero_le _⟩
  · simp only [List.cons.injEq, Value.slice.injEq, and_true] at hcs
    obtain ⟨rfl, rfl, rfl⟩ := hcs
    obtain ⟨y1, y2⟩ := y
    simp only [Prod.mk.injEq] at hx
    obtain ⟨rfl, rfl⟩ := hx
    simp only [if_true] at hz
    have hnat : (zs.map Int.toNat).map (fun x : Nat => Value.int kd (x : Int)) = zs.map (Value.int kd) := by
      rw [List.map_map]
      refine List.map_congr_left fun z hz => ?_
      have := (hk z (hwz z hz)).1
      simp only [Function.comp]
      congr 1
      omega
    refine ⟨(zs.map Int.toNat).take n, ⟨⟨by simp; omega, hl, fun hn => ?_⟩, fun x hx => ?_⟩, by omega⟩
    · have h0 := hcell 0 (by omega)
      obtain ⟨b, off, spot⟩ := a
      have hspot : spot = none := by simpa [Addr.add] using World.cell?_spot h0
      subst hspot
      refine ⟨b, off, rfl, hlt (.cell b off) (MemPlace.mem_row.2 ⟨0, by omega, by simp⟩), fun j u hu => ?_⟩
      rw [List.map_take, hnat, ← List.map_take, List.getElem?_map] at hu
      obtain ⟨z, hz', rfl⟩ := Option.map_eq_some_iff.1 hu
      rw [List.getElem?_take] at hz'
      split at hz'
      · have hj := (List.getElem?_eq_some_iff.1 hz').1
        rw [← add_plain, hcell j hj, List.getD_eq_getElem?_getD, hz']
        rfl
      · cases hz'
    · obtain ⟨z, hz', rfl⟩ := List.mem_map.1 (List.mem_of_mem_take hx)
      have := hk z (hwz z hz')
      omega
end
theorem wf_i64 {z : Int} (h : (Lit.int .i64 z).wf = true) : -9223372036854775808 ≤ z ∧ z ≤ 9223372036854775807 := by
  have h1 : IntKind.i64.min = -9223372036854775808 := rfl
  have h2 : IntKind.i64.max = 9223372036854775807 := rfl
  simp only [Lit.wf, Bool.and_eq_true, decide_eq_true_eq] at h
  omega
section
variable {H : Type} {enc : TypeId × Value → H} {P : Program} {w : World} {base : Nat} {spare : Nat → Bool} {held : Bool}
theorem trod_struct5 {t : TypeId} {f0 f1 f2 f3 f4 : Field} {fuel : Nat} {cs : List Value} {x : DataW H × List MemPlace} (ht : P.underlying t = some (.struct #[f0, f1, f2, f3, f4])) (h : DataW.trod enc P w base spare held fuel t cs = some x) :
    ∃ y0 y1 y2 y3 y4 n, x = (.agg [y0.1, y1.1, y2.1, y3.1, y4.1], y0.2 ++ (y1.2 ++ (y2.2 ++ (y3.2 ++ y4.2)))) ∧ cs.length = P.cellsOf t ∧ DataW.trod enc P w base spare held n f0.type ((cs.drop f0.offset).take (P.cellsOf f0.type)) = some y0 ∧
      DataW.trod enc P w base spare held n f1.type ((cs.drop f1.offset).take (P.cellsOf f1.type)) = some y1 ∧ DataW.trod enc P w base spare held n f2.type ((cs.drop f2.offset).take (P.cellsOf f2.type)) = some y2 ∧
      DataW.trod enc P w base spare held n f3.type ((cs.drop f3.offset).take (P.cellsOf f3.type)) = some y3 ∧ DataW.trod enc P w base spare held n f4.type ((cs.drop f4.offset).take (P.cellsOf f4.type)) = some y4 := by
  obtain ⟨xs, n, _, rfl, hl, hlen, hf⟩ := DataW.trod_struct ht h
  match xs, hlen with
  | [y0, y1, y2, y3, y4], _ => exact ⟨y0, y1, y2, y3, y4, n, by simp, hl, by simpa using hf 0 f0 rfl, by simpa using hf 1 f1 rfl, by simpa using hf 2 f2 rfl, by simpa using hf 3 f3 rfl, by simpa using hf 4 f4 rfl⟩
end

structure ActEl where
  (k i : Int) (c : Nat) (bad : Bool) (A : Option Addr) (n cp : Nat) (l : List Nat)
instance : Inhabited ActEl := ⟨⟨0, 0, 0, false, none, 0, 0, []⟩⟩
structure ActEl.Ok (w : World) (x : ActEl) : Prop where
  k0 : -9223372036854775808 ≤ x.k
  k1 : x.k ≤ 9223372036854775807
  i0 : -9223372036854775808 ≤ x.i
  i1 : x.i ≤ 9223372036854775807
  c : x.c < 256
  ints : Ints w .u8 256 x.A x.n x.cp x.l
  most : x.n ≤ maxLen

theorem i64_of {z : Int} (h : (Lit.int .i64 z).wf = true) : -9223372036854775808 ≤ z ∧ z ≤ 9223372036854775807 := wf_i64 h
set_option maxRecDepth 100000 in
theorem cells_act {H : Type} {enc : TypeId × Value → H} {W : World} {fuel : Nat} {c0 c1 c2 c3 c4 : Value} {y : DataW H × List MemPlace} (hf : DataW.trod enc Try.prog W 0 (fun _ => true) true fuel 31 [c0, c1, c2, c3, c4] = some y) (hlt : ∀ x ∈ y.2, x.block < W.heap.size) :
    ∃ x : ActEl, c0 = .int .i64 x.k ∧ c1 = .int .i64 x.i ∧ c2 = .int .u8 (x.c : Int) ∧ c3 = .bool x.bad ∧ c4 = .slice x.A x.n x.cp ∧ x.Ok W := by
  obtain ⟨y0, y1, y2, y3, y4, n, rfl, _, h0, h1, h2, h3, h4⟩ := trod_struct5 Try.underlying31 hf
  have h0' : DataW.trod enc Try.prog W 0 (fun _ => true) true n 3 [c0] = some y0 := h0
  have h1' : DataW.trod enc Try.prog W 0 (fun _ => true) true n 3 [c1] = some y1 := h1
  have h2' : DataW.trod enc Try.prog W 0 (fun _ => true) true n 5 [c2] = some y2 := h2
  have h3' : DataW.trod enc Try.prog W 0 (fun _ => true) true n 4 [c3] = some y3 := h3
  have h4' : DataW.trod enc Try.prog W 0 (fun _ => true) true n 29 [c4] = some y4 := h4
  clear h0 h1 h2 h3 h4
  obtain ⟨z0, e0, _, hw0⟩ := DataW.trod_int Try.underlying3 h0'
  obtain ⟨z1, e1, _, hw1⟩ := DataW.trod_int Try.underlying3 h1'
  obtain ⟨z2, e2, _, hw2⟩ := DataW.trod_int Try.underlying5 h2'
  obtain ⟨b, e3, _⟩ := DataW.trod_bool Try.underlying4 h3'
  cases e0
  cases e1
  cases e2
  cases e3
  obtain ⟨A, l, c, hs⟩ := slice_form Try.underlying29 h4'
  cases hs
  obtain ⟨L, hL, hm⟩ := cell_ints 256 Try.underlying29 Try.underlying5 (by kernel_rfl) wf_u8 h4' (fun x hx => hlt x (by simp [hx]))
  have hz := wf_u8 z2 hw2
  exact ⟨⟨z0, z1, z2.toNat, b, A, l, c, L⟩, rfl, rfl, by congr 1; show z2 = (z2.toNat : Int); omega, rfl, rfl, (i64_of hw0).1, (i64_of hw0).2, (i64_of hw1).1, (i64_of hw1).2, by show z2.toNat < 256; omega, hL, hm⟩

/-- A slice that reads as steps. -/
structure ARows (w : World) (A : Option Addr) (n c : Nat) (xs : List ActEl) : Prop where
  len : xs.length = n
  at_ : 0 < n → ∃ b o, A = some ⟨b, o, none⟩ ∧ b < w.heap.size ∧ ∀ (j : Nat) (x : ActEl), xs[j]? = some x → (w.cell? ⟨b, o + j * 5, none⟩ = some (.int .i64 x.k) ∧ w.cell? ⟨b, o + j * 5 + 1, none⟩ = some (.int .i64 x.i) ∧ w.cell? ⟨b, o + j * 5 + 2, none⟩ = some (.int .u8 (x.c : Int)) ∧ w.cell? ⟨b, o + j * 5 + 3, none⟩ = some (.bool x.bad) ∧ w.cell? ⟨b, o + j * 5 + 4, none⟩ = some (.slice x.A x.n x.cp))
  ok : ∀ x ∈ xs, x.Ok w

section
variable {w w' : World} {A : Option Addr} {n c : Nat} {xs : List ActEl}
theorem ActEl.Ok.below {x : ActEl} (h : x.Ok w) (hb : Below w.heap.size w w') : x.Ok w' := ⟨h.k0, h.k1, h.i0, h.i1, h.c, h.ints.below hb, h.most⟩
theorem ARows.below (h : ARows w A n c xs) (hb : Below w.heap.size w w') : ARows w' A n c xs :=
  ⟨h.len, fun hn => by
    obtain ⟨b, o, e, hbl, hc⟩ := h.at_ hn
    have := hb.size
    refine ⟨b, o, e, by omega, fun j x hx => ?_⟩
    obtain ⟨h0, h1, h2, h3, h4⟩ := hc j x hx
    exact ⟨(hb.cell (p := ⟨b, _, none⟩) hbl).trans h0, (hb.cell (p := ⟨b, _, none⟩) hbl).trans h1, (hb.cell (p := ⟨b, _, none⟩) hbl).trans h2, (hb.cell (p := ⟨b, _, none⟩) hbl).trans h3, (hb.cell (p := ⟨b, _, none⟩) hbl).trans h4⟩, fun x hx => (h.ok x hx).below hb⟩
theorem ARows.get {k : Nat} (h : ARows w A n c xs) (hk : k < n) : ∃ b o x, A = some ⟨b, o, none⟩ ∧ xs[k]? = some x ∧ x.Ok w ∧ (w.cell? ⟨b, o + k * 5, none⟩ = some (.int .i64 x.k) ∧ w.cell? ⟨b, o + k * 5 + 1, none⟩ = some (.int .i64 x.i) ∧ w.cell? ⟨b, o + k * 5 + 2, none⟩ = some (.int .u8 (x.c : Int)) ∧ w.cell? ⟨b, o + k * 5 + 3, none⟩ = some (.bool x.bad) ∧ w.cell? ⟨b, o + k * 5 + 4, none⟩ = some (.slice x.A x.n x.cp)) := by
  obtain ⟨b, o, e, hb, hc⟩ := h.at_ (by omega)
  have hl : k < xs.length := by rw [h.len]; exact hk
  have hx : xs[k]? = some xs[k] := List.getElem?_eq_getElem hl
  exact ⟨b, o, xs[k], e, hx, h.ok _ (List.getElem_mem hl), hc k _ hx⟩
end

set_option maxRecDepth 100000 in
set_option maxHeartbeats 1600000 in
theorem arg_acts {H : Type} {enc : TypeId × Value → H} {W : World} {r : Reach} {b0 : Nat} {v : Value} {d : DataW H} {p : List MemPlace} (hv : Value.okWide Try.prog W r b0 22 v) (h : DataW.Trod enc Try.prog W 0 (fun _ => true) true 22 v d p) (hlt : ∀ x ∈ p, x.block < W.heap.size) :
    ∃ A n c xs, v = .slice A n c ∧ ARows W A n c xs ∧ n ≤ maxLen := by
  obtain ⟨a0, len, cap, rfl⟩ := okWide_slice Try.underlying22 hv
  obtain ⟨fuel, hf⟩ := h
  rcases open_slice Try.underlying22 hf with ⟨hcs, hx⟩ | ⟨a, len', cap', m, k, D, Pl, hcs, _, hl, hm, hmm, hx, hi⟩
  · simp [Value.cells] at hcs
    obtain ⟨rfl, rfl, rfl⟩ := hcs
    exact ⟨none, 0, 0, [], rfl, ⟨rfl, fun h => absurd h (by omega), fun _ h => by cases h⟩, Nat.zero_le _⟩
  · simp [Value.cells] at hcs
    obtain ⟨rfl, rfl, rfl⟩ := hcs
    simp only [if_true] at hmm
    subst hmm
    simp only [Prod.mk.injEq] at hx
    obtain ⟨rfl, rfl⟩ := hx
    have hC : Try.prog.cellsOf 31 = 5 := by kernel_rfl
    rw [hC] at hi
    have hrow : ∀ i, i < m → ∃ x : ActEl, x.Ok W ∧ (W.cell? (a.add (i * 5)) = some (.int .i64 x.k) ∧ W.cell? ((a.add (i * 5)).add 1) = some (.int .i64 x.i) ∧ W.cell? ((a.add (i * 5)).add 2) = some (.int .u8 (x.c : Int)) ∧ W.cell? ((a.add (i * 5)).add 3) = some (.bool x.bad) ∧ W.cell? ((a.add (i * 5)).add 4) = some (.slice x.A x.n x.cp)) := by
      intro i him
      obtain ⟨cs', h1, h2⟩ := hi i him
      obtain ⟨_, hlen, hat⟩ := World.cells?_some h1
      match cs', hlen with
      | [c0, c1, c2, c3, c4], _ =>
        obtain ⟨x, rfl, rfl, rfl, rfl, rfl, hok⟩ := cells_act h2 (fun x hx => hlt x (List.mem_append_right _ (List.mem_flatMap.2 ⟨i, List.mem_range.2 him, hx⟩)))
        refine ⟨x, hok, ?_, hat 1 (by omega), hat 2 (by omega), hat 3 (by omega), hat 4 (by omega)⟩
        have := hat 0 (by omega)
        simpa [Addr.add] using this
    obtain ⟨f, hf'⟩ := choose_lt hrow
    refine ⟨some a, len, m, (List.range len).map f, rfl, ⟨by simp, fun hn => ?_, fun x hx => ?_⟩, by omega⟩
    · obtain ⟨b, off, spot⟩ := a
      have h0 := (hf' 0 (by omega)).2.1
      have hspot : spot = none := by simpa [Addr.add] using World.cell?_spot h0
      subst hspot
      refine ⟨b, off, rfl, hlt (.cell b off) (List.mem_append_left _ (MemPlace.mem_row.2 ⟨0, by rw [hC]; omega, by simp⟩)), fun j x hx => ?_⟩
      rw [List.getElem?_map] at hx
      obtain ⟨i, hi', rfl⟩ := Option.map_eq_some_iff.1 hx
      have hij : i = j ∧ j < len := by
        obtain ⟨h1, h2⟩ := List.getElem?_eq_some_iff.1 hi'
        simp at h1 h2
        omega
      obtain ⟨rfl, hjl⟩ := hij
      have := (hf' i (by omega)).2
      simpa only [add_plain] using this
    · obtain ⟨i, hi', rfl⟩ := List.mem_map.1 hx
      have : i < len := by simpa using hi'
      exact (hf' i (by omega)).1
end Go.Proofs.Ytkjmccicdjkccaa
