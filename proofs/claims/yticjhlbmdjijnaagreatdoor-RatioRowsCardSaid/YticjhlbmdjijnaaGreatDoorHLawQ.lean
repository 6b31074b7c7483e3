/- From a law's walk to its row: an argument that is a fraction, or a slice of them. No condition. -/
import Derived.Test.YticjhlbmdjijnaaGreatDoorG9
import Derived.Deep.Slices
namespace Go.Proofs.YticjhlbmdjijnaaGreatDoor
set_option linter.unusedSimpArgs false
set_option linter.unusedVariables false
open Go.ChangeShapes Go.WideShapes Go.ChangeAt Go.RowKit Go.Joins Go.Deep

set_option maxRecDepth 100000 in
theorem cells_q {H : Type} {enc : TypeId × Value → H} {W : World} {fuel : Nat} {c0 c1 c2 c3 : Value} {y : DataW H × List MemPlace} (hf : DataW.trod enc Tryz.prog W 0 (fun _ => true) true fuel 26 [c0, c1, c2, c3] = some y) (hlt : ∀ x ∈ y.2, x.block < W.heap.size) :
    ∃ b A n c l b' A' n' c' l', c0 = .bool b ∧ c1 = .slice A n c ∧ c2 = .bool b' ∧ c3 = .slice A' n' c' ∧ Lim W A n c l ∧ n ≤ maxLen ∧ Lim W A' n' c' l' ∧ n' ≤ maxLen := by
  obtain ⟨y0, y1, n, rfl, _, h0, h1⟩ := trod_struct2 Tryz.underlying26 hf
  have h0' : DataW.trod enc Tryz.prog W 0 (fun _ => true) true n 24 [c0, c1] = some y0 := h0
  have h1' : DataW.trod enc Tryz.prog W 0 (fun _ => true) true n 24 [c2, c3] = some y1 := h1
  clear h0 h1
  obtain ⟨u0, u1, m, rfl, _, t0, t1⟩ := trod_struct2 Tryz.underlying24 h0'
  obtain ⟨v0, v1, k, rfl, _, s0, s1⟩ := trod_struct2 Tryz.underlying24 h1'
  obtain ⟨b, hb, _⟩ := DataW.trod_bool Tryz.underlying4 (show DataW.trod enc Tryz.prog W 0 (fun _ => true) true m 4 [c0] = some u0 from t0)
  obtain ⟨b', hb', _⟩ := DataW.trod_bool Tryz.underlying4 (show DataW.trod enc Tryz.prog W 0 (fun _ => true) true k 4 [c2] = some v0 from s0)
  have t1' : DataW.trod enc Tryz.prog W 0 (fun _ => true) true m 22 [c1] = some u1 := t1
  have s1' : DataW.trod enc Tryz.prog W 0 (fun _ => true) true k 22 [c3] = some v1 := s1
  obtain ⟨A, l, c, hs⟩ := slice_form Tryz.underlying22 t1'
  obtain ⟨A', l', c', hs'⟩ := slice_form Tryz.underlying22 s1'
  cases hb
  cases hb'
  cases hs
  cases hs'
  obtain ⟨L, hL, hm⟩ := cell_ints 4294967296 Tryz.underlying22 Tryz.underlying82 (by kernel_rfl) wf_u32 t1' (fun x hx => hlt x (by simp [hx]))
  obtain ⟨L', hL', hm'⟩ := cell_ints 4294967296 Tryz.underlying22 Tryz.underlying82 (by kernel_rfl) wf_u32 s1' (fun x hx => hlt x (by simp [hx]))
  exact ⟨_, _, _, _, _, _, _, _, _, _, rfl, rfl, rfl, rfl, hL, hm, hL', hm'⟩
set_option maxRecDepth 100000 in
/-- An argument that is a fraction. -/
theorem arg_q {H : Type} {enc : TypeId × Value → H} {W : World} {r : Reach} {b0 : Nat} {v : Value} {d : DataW H} {p : List MemPlace} (hv : Value.okWide Tryz.prog W r b0 26 v) (h : DataW.Trod enc Tryz.prog W 0 (fun _ => true) true 26 v d p) (hlt : ∀ x ∈ p, x.block < W.heap.size) :
    ∃ b A n c l b' A' n' c' l', v = .agg #[.bool b, .slice A n c, .bool b', .slice A' n' c'] ∧ Lim W A n c l ∧ n ≤ maxLen ∧ Lim W A' n' c' l' ∧ n' ≤ maxLen := by
  obtain ⟨cs, rfl, hsz⟩ := okWide_struct Tryz.underlying26 hv
  have hC : Tryz.prog.cellsOf 26 = 4 := by kernel_rfl
  obtain ⟨c0, c1, c2, c3, rfl⟩ := array4 (hsz.trans hC)
  obtain ⟨fuel, hf⟩ := h
  have hf' : DataW.trod enc Tryz.prog W 0 (fun _ => true) true fuel 26 [c0, c1, c2, c3] = some (d, p) := hf
  obtain ⟨b, A, n, c, l, b', A', n', c', l', rfl, rfl, rfl, rfl, h1, h2, h3, h4⟩ := cells_q hf' hlt
  exact ⟨_, _, _, _, _, _, _, _, _, _, rfl, h1, h2, h3, h4⟩

structure QEl where
  (b : Bool) (A : Option Addr) (n c : Nat) (l : List Nat) (b' : Bool) (A' : Option Addr) (n' c' : Nat) (l' : List Nat)
instance : Inhabited QEl := ⟨⟨false, none, 0, 0, [], false, none, 0, 0, []⟩⟩
/-- A slice that reads as fractions. -/
structure QRows (w : World) (A : Option Addr) (n c : Nat) (xs : List QEl) : Prop where
  len : xs.length = n
  at_ : 0 < n → ∃ b o, A = some ⟨b, o, none⟩ ∧ b < w.heap.size ∧ ∀ (j : Nat) (x : QEl), xs[j]? = some x → (w.cell? ⟨b, o + j * 4, none⟩ = some (.bool x.b) ∧ w.cell? ⟨b, o + j * 4 + 1, none⟩ = some (.slice x.A x.n x.c) ∧ w.cell? ⟨b, o + j * 4 + 2, none⟩ = some (.bool x.b') ∧ w.cell? ⟨b, o + j * 4 + 3, none⟩ = some (.slice x.A' x.n' x.c'))
  lim : ∀ x ∈ xs, Lim w x.A x.n x.c x.l ∧ x.n ≤ maxLen ∧ Lim w x.A' x.n' x.c' x.l' ∧ x.n' ≤ maxLen

section
variable {w w' : World} {A : Option Addr} {n c : Nat} {xs : List QEl}
theorem QRows.keep (h : QRows w A n c xs) (hs : w.heap.size ≤ w'.heap.size) (hk : ∀ p : Addr, p.block < w.heap.size → w'.cell? p = w.cell? p) (hl : ∀ A n c l, Lim w A n c l → Lim w' A n c l) : QRows w' A n c xs :=
  ⟨h.len, fun hn => by
    obtain ⟨b, o, e, hb, hc⟩ := h.at_ hn
    exact ⟨b, o, e, by omega, fun j x hx => ⟨(hk _ hb).trans (hc j x hx).1, (hk _ hb).trans (hc j x hx).2.1, (hk _ hb).trans (hc j x hx).2.2.1, (hk _ hb).trans (hc j x hx).2.2.2⟩⟩,
   fun x hx => ⟨hl _ _ _ _ (h.lim x hx).1, (h.lim x hx).2.1, hl _ _ _ _ (h.lim x hx).2.2.1, (h.lim x hx).2.2.2⟩⟩
theorem QRows.below (h : QRows w A n c xs) (hb : Below w.heap.size w w') : QRows w' A n c xs := h.keep hb.size (fun _ hp => hb.cell hp) (fun _ _ _ _ h => h.below hb)
theorem QRows.drew (h : QRows w A n c xs) : QRows w.drew A n c xs := h.keep (Nat.le_refl _) (fun _ _ => rfl) (fun _ _ _ _ h => h.drew)
theorem QRows.alloc (h : QRows w A n c xs) (o : Obj) : QRows (w.alloc o) A n c xs := h.keep (by simp) (fun p hp => World.cell?_alloc_lt w o p hp) (fun _ _ _ _ h => h.alloc o)
theorem QRows.get {k : Nat} (h : QRows w A n c xs) (hk : k < n) : ∃ b o x, A = some ⟨b, o, none⟩ ∧ xs[k]? = some x ∧ (w.cell? ⟨b, o + k * 4, none⟩ = some (.bool x.b) ∧ w.cell? ⟨b, o + k * 4 + 1, none⟩ = some (.slice x.A x.n x.c) ∧ w.cell? ⟨b, o + k * 4 + 2, none⟩ = some (.bool x.b') ∧ w.cell? ⟨b, o + k * 4 + 3, none⟩ = some (.slice x.A' x.n' x.c')) ∧ Lim w x.A x.n x.c x.l ∧ x.n ≤ maxLen ∧ Lim w x.A' x.n' x.c' x.l' ∧ x.n' ≤ maxLen := by
  obtain ⟨b, o, e, hb, hc⟩ := h.at_ (by omega)
  have hl : k < xs.length := by rw [h.len]; exact hk
  have hx : xs[k]? = some xs[k] := List.getElem?_eq_getElem hl
  exact ⟨b, o, xs[k], e, hx, hc k _ hx, h.lim _ (List.getElem_mem hl)⟩
end

set_option maxRecDepth 100000 in
set_option maxHeartbeats 1600000 in
theorem arg_qs {H : Type} {enc : TypeId × Value → H} {W : World} {r : Reach} {b0 : Nat} {v : Value} {d : DataW H} {p : List MemPlace} (hv : Value.okWide Tryz.prog W r b0 50 v) (h : DataW.Trod enc Tryz.prog W 0 (fun _ => true) true 50 v d p) (hlt : ∀ x ∈ p, x.block < W.heap.size) :
    ∃ A n c xs, v = .slice A n c ∧ QRows W A n c xs ∧ n ≤ maxLen := by
  obtain ⟨a0, len, cap, rfl⟩ := okWide_slice Tryz.underlying50 hv
  obtain ⟨fuel, hf⟩ := h
  rcases open_slice Tryz.underlying50 hf with ⟨hcs, hx⟩ | ⟨a, len', cap', m, k, D, Pl, hcs, _, hl, hm, hmm, hx, hi⟩
  · simp [Value.cells] at hcs
    obtain ⟨rfl, rfl, rfl⟩ := hcs
    exact ⟨none, 0, 0, [], rfl, ⟨rfl, fun h => absurd h (by omega), fun _ h => by cases h⟩, Nat.zero_le _⟩
  · simp [Value.cells] at hcs
    obtain ⟨rfl, rfl, rfl⟩ := hcs
    simp only [if_true] at hmm
    subst hmm
    simp only [Prod.mk.injEq] at hx
    obtain ⟨rfl, rfl⟩ := hx
    have hC : Tryz.prog.cellsOf 26 = 4 := by kernel_rfl
    rw [hC] at hi
    have hrow : ∀ i, i < m → ∃ x : QEl, (Lim W x.A x.n x.c x.l ∧ x.n ≤ maxLen ∧ Lim W x.A' x.n' x.c' x.l' ∧ x.n' ≤ maxLen) ∧ (W.cell? (a.add (i * 4)) = some (.bool x.b) ∧ W.cell? ((a.add (i * 4)).add 1) = some (.slice x.A x.n x.c) ∧ W.cell? ((a.add (i * 4)).add 2) = some (.bool x.b') ∧ W.cell? ((a.add (i * 4)).add 3) = some (.slice x.A' x.n' x.c')) := by
      intro i him
      obtain ⟨cs', h1, h2⟩ := hi i him
      obtain ⟨_, hlen, hat⟩ := World.cells?_some h1
      match cs', hlen with
      | [c0, c1, c2, c3], _ =>
        obtain ⟨b, A, n, c, l, b', A', n', c', l', rfl, rfl, rfl, rfl, h3, h4, h5, h6⟩ := cells_q h2 (fun x hx => hlt x (List.mem_append_right _ (List.mem_flatMap.2 ⟨i, List.mem_range.2 him, hx⟩)))
        refine ⟨⟨b, A, n, c, l, b', A', n', c', l'⟩, ⟨h3, h4, h5, h6⟩, ?_, hat 1 (by omega), hat 2 (by omega), hat 3 (by omega)⟩
        have := hat 0 (by omega)
        simpa [Addr.add] using this
    obtain ⟨f, hf'⟩ := choose_lt hrow
    refine ⟨some a, len, m, (List.range len).map f, rfl, ⟨by simp, fun hn => ?_, fun x hx => ?_⟩, by omega⟩
    · obtain ⟨b, off, spot⟩ := a
      have h0 := (hf' 0 (by omega)).2.1
      have hspot : spot = none := by simpa [Addr.add] using World.cell?_spot h0
      subst hspot
      refine ⟨b, off, rfl, hlt (.cell b off) (List.mem_append_left _ (MemPlace.mem_row.2 ⟨0, by rw [hC]; omega, by simp⟩)), fun j x hx => ?_⟩
      rw [List.getElem?_map] at hx
      obtain ⟨i, hi', rfl⟩ := Option.map_eq_some_iff.1 hx
      have hij : i = j ∧ j < len := by
        obtain ⟨h1, h2⟩ := List.getElem?_eq_some_iff.1 hi'
        simp at h1 h2
        omega
      obtain ⟨rfl, hjl⟩ := hij
      have := (hf' i (by omega)).2
      simpa only [add_plain] using this
    · obtain ⟨i, hi', rfl⟩ := List.mem_map.1 hx
      have : i < len := by simpa using hi'
      exact (hf' i (by omega)).1
end Go.Proofs.YticjhlbmdjijnaaGreatDoor
