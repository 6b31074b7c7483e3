/- Cells in rows; heijunkaref06.Alike. No condition but the reach of a slice. -/
import Derived.Test.YtdlcngmcjidomaaDoorCellF
import Derived.Test.YtdlcngmcjidomaaDoorDisk
namespace Go.Proofs.YtdlcngmcjidomaaDoor
set_option linter.unusedSimpArgs false
set_option linter.unusedVariables false
open Go.RowKit

/-- A cell, its bytes in a slice. -/
structure CEl where
  (x : Cl) (A : Option Addr) (n c : Nat)
instance : Inhabited CEl := ⟨⟨Cl.zero, none, 0, 0⟩⟩
def CEl.vs (e : CEl) : List Value := [.int .u32 (e.x.gen : Int), .int .u32 (e.x.seq : Int), .int .i64 e.x.part, .int .i64 e.x.parts, .slice e.A e.n e.c]
structure CEl.In (w : World) (e : CEl) : Prop where
  ints : Ints w .u8 256 e.A e.n e.c e.x.data
  gen : e.x.gen < 4294967296
  seq : e.x.seq < 4294967296
  part : -9223372036854775808 ≤ e.x.part ∧ e.x.part ≤ 9223372036854775807
  parts : -9223372036854775808 ≤ e.x.parts ∧ e.x.parts ≤ 9223372036854775807
  most : e.n ≤ 140737488355000
def cflat (xs : List CEl) : List Value := xs.flatMap CEl.vs
theorem cflat_len (xs : List CEl) : (cflat xs).length = xs.length * 5 := by
  induction xs with
  | nil => rfl
  | cons y ys ih => unfold cflat at *; simp only [List.flatMap_cons, List.length_append, List.length_cons, ih, CEl.vs, List.length_nil]; omega
theorem cflat_get {xs : List CEl} {k : Nat} {e : CEl} (h : xs[k]? = some e) (i : Nat) (hi : i < 5) : (cflat xs)[k * 5 + i]? = e.vs[i]? := by
  induction xs generalizing k with
  | nil => simp at h
  | cons x xs ih =>
    cases k with
    | zero =>
      simp only [List.getElem?_cons_zero, Option.some.injEq] at h
      subst h
      unfold cflat
      rw [List.flatMap_cons, Nat.zero_mul, Nat.zero_add, List.getElem?_append_left (by simpa [CEl.vs] using hi)]
    | succ k =>
      have := ih (k := k) (by simpa using h)
      unfold cflat at *
      rw [List.flatMap_cons, List.getElem?_append_right (by simp [CEl.vs]; omega)]
      have e5 : (k + 1) * 5 + i - (CEl.vs x).length = k * 5 + i := by simp [CEl.vs]; omega
      rw [e5, this]
theorem cflat_append (xs ys : List CEl) : cflat (xs ++ ys) = cflat xs ++ cflat ys := by unfold cflat; rw [List.flatMap_append]
theorem cflat_one (e : CEl) (xs : List CEl) : ∀ u ∈ cflat xs, u.oneCell' = true := by
  intro u hu
  unfold cflat at hu
  obtain ⟨e, _, hu⟩ := List.mem_flatMap.1 hu
  simp only [CEl.vs, List.mem_cons, List.not_mem_nil, or_false] at hu
  rcases hu with rfl | rfl | rfl | rfl | rfl <;> rfl
/-- A slice that reads as cells. -/
structure CRd (w : World) (A : Option Addr) (n c : Nat) (xs : List CEl) : Prop where
  len : xs.length = n
  cap : n ≤ c
  at_ : 0 < n → ∃ b o, A = some ⟨b, o, none⟩ ∧ b < w.heap.size ∧ ∀ j u, (cflat xs)[j]? = some u → w.cell? ⟨b, o + j, none⟩ = some u
  ok : ∀ e ∈ xs, e.In w
section
variable {w w' : World} {A : Option Addr} {n c : Nat} {xs : List CEl}
theorem CEl.In.below {e : CEl} (h : e.In w) (hb : Below w.heap.size w w') : e.In w' := ⟨h.ints.below hb, h.gen, h.seq, h.part, h.parts, h.most⟩
theorem CEl.In.drewN {e : CEl} (h : e.In w) (q : Nat) : e.In (w.drewN q) := ⟨h.ints.drewN q, h.gen, h.seq, h.part, h.parts, h.most⟩
theorem CEl.In.len {e : CEl} (h : e.In w) : e.x.data.length = e.n := h.ints.len
theorem CEl.In.ok {e : CEl} (h : e.In w) : e.x.Ok := ⟨h.gen, h.seq, h.ints.lt⟩
theorem CRd.below (h : CRd w A n c xs) (hb : Below w.heap.size w w') : CRd w' A n c xs :=
  ⟨h.len, h.cap, fun hn => by
    obtain ⟨b, o, e, hbl, hc⟩ := h.at_ hn
    have := hb.size
    exact ⟨b, o, e, by omega, fun j u hu => (hb.cell (p := ⟨b, o + j, none⟩) hbl).trans (hc j u hu)⟩, fun x hx => (h.ok x hx).below hb⟩
theorem CRd.drewN (h : CRd w A n c xs) (q : Nat) : CRd (w.drewN q) A n c xs := ⟨h.len, h.cap, fun hn => h.at_ hn, fun x hx => (h.ok x hx).drewN q⟩
theorem CRd.nil_ (w : World) (A : Option Addr) (c : Nat) : CRd w A 0 c [] := ⟨rfl, Nat.zero_le _, fun h => absurd h (by omega), fun _ h => by cases h⟩
theorem CRd.get {k : Nat} (h : CRd w A n c xs) (hk : k < n) : ∃ b o e, A = some ⟨b, o, none⟩ ∧ b < w.heap.size ∧ xs[k]? = some e ∧ e.In w ∧ w.cell? ⟨b, o + k * 5, none⟩ = some (.int .u32 (e.x.gen : Int)) ∧ w.cell? ⟨b, o + k * 5 + 1, none⟩ = some (.int .u32 (e.x.seq : Int)) ∧
    w.cell? ⟨b, o + k * 5 + 2, none⟩ = some (.int .i64 e.x.part) ∧ w.cell? ⟨b, o + k * 5 + 3, none⟩ = some (.int .i64 e.x.parts) ∧ w.cell? ⟨b, o + k * 5 + 4, none⟩ = some (.slice e.A e.n e.c) := by
  obtain ⟨b, o, e, hb, hc⟩ := h.at_ (by omega)
  have hl : k < xs.length := by rw [h.len]; exact hk
  have hx : xs[k]? = some xs[k] := List.getElem?_eq_getElem hl
  exact ⟨b, o, xs[k], e, hb, hx, h.ok _ (List.getElem_mem hl), hc (k * 5) _ (by have := cflat_get hx 0 (by omega); rw [Nat.add_zero] at this; rw [this]; rfl), by rw [Nat.add_assoc]; exact hc (k * 5 + 1) _ (by rw [cflat_get hx 1 (by omega)]; rfl), by rw [Nat.add_assoc]; exact hc (k * 5 + 2) _ (by rw [cflat_get hx 2 (by omega)]; rfl),
    by rw [Nat.add_assoc]; exact hc (k * 5 + 3) _ (by rw [cflat_get hx 3 (by omega)]; rfl), by rw [Nat.add_assoc]; exact hc (k * 5 + 4) _ (by rw [cflat_get hx 4 (by omega)]; rfl)⟩
/-- What the call owns reads as cells. -/
theorem CRd.of_own {base : Nat} {e : TypeId} (h : OwnR w base e 5 A n c (cflat xs)) (hx : ∀ e ∈ xs, e.In w) : CRd w A n c xs :=
  ⟨by have := h.len; rw [cflat_len] at this; omega, h.cap, fun hn => by
    rcases h.form with ⟨_, rfl, _⟩ | ⟨g, cur, rfl, _, hg, _⟩
    · omega
    · refine ⟨g, 0, rfl, hg.lt, fun j u hu => ?_⟩
      rw [Nat.zero_add]
      exact h.get' hu, hx⟩
end
theorem u32_ne {a b : Nat} (h : a ≠ b) : ((a : Int) != (b : Int)) = true := by simp; omega
theorem u32_eq {a b : Nat} (h : a = b) : ((a : Int) != (b : Int)) = false := by simp [h]
theorem int_ne {a b : Int} (h : a ≠ b) : (a != b) = true := by simpa using h
theorem int_eq {a b : Int} (h : a = b) : (a != b) = false := by simp [h]
theorem cl_ext {a b : Cl} (h1 : a.gen = b.gen) (h2 : a.seq = b.seq) (h3 : a.part = b.part) (h4 : a.parts = b.parts) (h5 : a.data = b.data) : a = b := by
  obtain ⟨a1, a2, a3, a4, a5⟩ := a
  obtain ⟨b1, b2, b3, b4, b5⟩ := b
  dsimp only at h1 h2 h3 h4 h5
  subst h1; subst h2; subst h3; subst h4; subst h5; rfl

end Go.Proofs.YtdlcngmcjidomaaDoor
