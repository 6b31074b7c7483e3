/- Cells in rows; heijunkaref06.Alike. No condition but the reach of a slice. -/
import Derived.Test.YtfoeapjlklfjgaaDoorCellF
import Derived.Test.YtfoeapjlklfjgaaDoorDisk
namespace Go.Proofs.YtfoeapjlklfjgaaDoor
set_option linter.unusedSimpArgs false
set_option linter.unusedVariables false
open Go.RowKit

/-- A cell, its bytes in a slice. -/
structure CEl where
  (x : Cl) (A : Option Addr) (n c : Nat)
instance : Inhabited CEl := ⟨⟨Cl.zero, none, 0, 0⟩⟩
def CEl.vs (e : CEl) : List Value := [.int .u32 (e.x.gen : Int), .int .u32 (e.x.seq : Int), .int .i64 e.x.part, .int .i64 e.x.parts, .slice e.A e.n e.c]
structure CEl.In (w : World) (e : CEl) : Prop where
  ints : Ints w .u8 256 e.A e.n e.c e.x.data
  gen : e.x.gen < 4294967296
  seq : e.x.seq < 4294967296
  part : -9223372036854775808 ≤ e.x.part ∧ e.x.part ≤ 9223372036854775807
  parts : -9223372036854775808 ≤ e.x.parts ∧ e.x.parts ≤ 9223372036854775807
  most : e.n ≤ 140737488355000
def cflat (xs : List CEl) : List Value := xs.flatMap CEl.vs
theorem cflat_len (xs : List CEl) : (cflat xs).length = xs.length * 5 := by
  induction xs with
  | nil => rfl
  | cons y ys ih => unfold cflat at *; simp only [List.flatMap_cons, List.length_append, List.length_cons, ih, CEl.vs, List.length_nil]; omega
theorem cflat_get {xs : List CEl} {k : Nat} {e : CEl} (h : xs[k]? = some e) (i : Nat) (hi : i < 5) : (cflat xs)[k * 5 + i]? = e.vs[i]? := by
  induction xs generalizing k with
  | nil => simp at h
  | cons x xs ih =>
    cases k with
    | zero =>
      simp only [List.getElem?_cons_zero, Option.some.injEq] at h
      subst h
      unfold cflat
      rw [List.flatMap_cons, Nat.zero_mul, Nat.zero_add, List.getElem?_append_left (by simpa [CEl.vs] using hi)]
    | succ k =>
      have := ih (k := k) (by simpa using h)
      unfold cflat at *
      rw [List.flatMap_cons, List.getElem?_append_right (by simp [CEl.vs]; omega)]
      have e5 : (k + 1) * 5 + i - (CEl.vs x).length = k * 5 + i := by simp [CEl.vs]; omega
      rw [e5, this]
theorem cflat_append (xs ys : List CEl) : cflat (xs ++ ys) = cflat xs ++ cflat ys := by unfold cflat; rw [List.flatMap_append]
theorem cflat_one (e : CEl) (xs : List CEl) : ∀ u ∈ cflat xs, u.oneCell' = true := by
  intro u hu
  unfold cflat at hu
  obtain ⟨e, _, hu⟩ := List.mem_flatMap.1 hu
  simp only [CEl.vs, List.mem_cons, List.not_mem_nil, or_false] at hu
  rcases hu with rfl | rfl | rfl | rfl | rfl <;> rfl
/-- A slice that reads as cells. -/
structure CRd (w : World) (A : Option Addr) (n c : Nat) (xs : List CEl) : Prop where
  len : xs.length = n
  cap : n ≤ c
  at_ : 0 < n → ∃ b o, A = some ⟨b, o, none⟩ ∧ b < w.heap.size ∧ ∀ j u, (cflat xs)[j]? = some u → w.cell? ⟨b, o + j, none⟩ = some u
  ok : ∀ e ∈ xs, e.In w
section
variable {w w' : World} {A : Option Addr} {n c : Nat} {xs : List CEl}
theorem CEl.In.below {e : CEl} (h : e.In w) (hb : Below w.heap.size w w') : e.In w' := ⟨h.ints.below hb, h.gen, h.seq, h.part, h.parts, h.most⟩
theorem CEl.In.drewN {e : CEl} (h : e.In w) (q : Nat) : e.In (w.drewN q) := ⟨h.ints.drewN q, h.gen, h.seq, h.part, h.parts, h.most⟩
theorem CEl.In.len {e : CEl} (h : e.In w) : e.x.data.length = e.n := h.ints.len
theorem CEl.In.ok {e : CEl} (h : e.In w) : e.x.Ok := ⟨h.gen, h.seq, h.ints.lt⟩
theorem CRd.below (h : CRd w A n c xs) (hb : Below w.heap.size w w') : CRd w' A n c xs :=
  ⟨h.len, h.cap, fun hn => by
    obtain ⟨b, o, e, hbl, hc⟩ := h.at_ hn
    have := hb.size
    exact ⟨b, o, e, by omega, fun j u hu => (hb.cell (p := ⟨b, o + j, none⟩) hbl).trans (hc j u hu)⟩, fun x hx => (h.ok x hx).below hb⟩
theorem CRd.drewN (h : CRd w A n c xs) (q : Nat) : CRd (w.drewN q) A n c xs := ⟨h.len, h.cap, fun hn => h.at_ hn, fun x hx => (h.ok x hx).drewN q⟩
theorem CRd.nil_ (w : World) (A : Option Addr) (c : Nat) : CRd w A 0 c [] := ⟨rfl, Nat.zero_le _, fun h => absurd h (by omega), fun _ h => by cases h⟩
theorem CRd.get {k : Nat} (h : CRd w A n c xs) (hk : k < n) : ∃ b o e, A = some ⟨b, o, none⟩ ∧ b < w.heap.size ∧ xs[k]? = some e ∧ e.In w ∧ w.cell? ⟨b, o + k * 5, none⟩ = some (.int .u32 (e.x.gen : Int)) ∧ w.cell? ⟨b, o + k * 5 + 1, none⟩ = some (.int .u32 (e.x.seq : Int)) ∧
    w.cell? ⟨b, o + k * 5 + 2, none⟩ = some (.int .i64 e.x.part) ∧ w.cell? ⟨b, o + k * 5 + 3, none⟩ = some (.int .i64 e.x.parts) ∧ w.cell? ⟨b, o + k * 5 + 4, none⟩ = some (.slice e.A e.n e.c) := by
  obtain ⟨b, o, e, hb, hc⟩ := h.at_ (by omega)
  have hl : k < xs.length := by rw [h.len]; exact hk
  have hx : xs[k]? = some xs[k] := List.getElem?_eq_getElem hl
  exact ⟨b, o, xs[k], e, hb, hx, h.ok _ (List.getElem_mem hl), hc (k * 5) _ (by have := cflat_get hx 0 (by omega); rw [Nat.add_zero] at this; rw [this]; rfl), by rw [Nat.add_assoc]; exact hc (k * 5 + 1) _ (by rw [cflat_get hx 1 (by omega)]; rfl), by rw [Nat.add_assoc]; exact hc (k * 5 + 2) _ (by rw [cflat_get hx 2 (by omega)]; rfl),
    by rw [Nat.add_assoc]; exact hc (k * 5 + 3) _ (by rw [cflat_get hx 3 (by omega)]; rfl), by rw [Nat.add_assoc]; exact hc (k * 5 + 4) _ (by rw [cflat_get hx 4 (by omega)]; rfl)⟩
/-- What the call owns reads as cells. -/
theorem CRd.of_own {base : Nat} {e : TypeId} (h : OwnR w base e 5 A n c (cflat xs)) (hx : ∀ e ∈ xs, e.In w) : CRd w A n c xs :=
  ⟨by have := h.len; rw [cflat_len] at this; omega, h.cap, fun hn => by
    rcases h.form with ⟨_, rfl, _⟩ | ⟨g, cur, rfl, _, hg, _⟩
    · omega
    · refine ⟨g, 0, rfl, hg.lt, fun j u hu => ?_⟩
      rw [Nat.zero_add]
      exact h.get' hu, hx⟩
end
theorem u32_ne {a b : Nat} (h : a ≠ b) : ((a : Int) != (b : Int)) = true := by simp; omega
theorem u32_eq {a b : Nat} (h : a = b) : ((a : Int) != (b : Int)) = false := by simp [h]
theorem int_ne {a b : Int} (h : a ≠ b) : (a != b) = true := by simpa using h
theorem int_eq {a b : Int} (h : a = b) : (a != b) = false := by simp [h]
theorem cl_ext {a b : Cl} (h1 : a.gen = b.gen) (h2 : a.seq = b.seq) (h3 : a.part = b.part) (h4 : a.parts = b.parts) (h5 : a.data = b.data) : a = b := by
  obtain ⟨a1, a2, a3, a4, a5⟩ := a
  obtain ⟨b1, b2, b3, b4, b5⟩ := b
  dsimp only at h1 h2 h3 h4 h5
  subst h1; subst h2; subst h3; subst h4; subst h5; rfl

set_option maxRecDepth 100000 in
set_option maxHeartbeats 12800000 in
theorem calike_any {w : World} {A B : Option Addr} {n c m d : Nat} {xs ys : List CEl} (X : CRd w A n c xs) (Y : CRd w B m d ys) (hn : n ≤ 140737488355328) (hm : m ≤ 140737488355328) :
    Calls Tryd.prog 21 #[.slice A n c, .slice B m d] w fun e w' => (∃ q, w' = w.drewN q) ∧ e = .returned (.bool (decide (xs.map (·.x) = ys.map (·.x)))) := by
  by_cases hnm : n = m
  case neg =>
    have ht : ((n : Int) != (m : Int)) = true := by simp; omega
    have HN := Lib.hid (show decide (xs.map (·.x) = ys.map (·.x)) = false from decide_eq_false (fun e => hnm (by rw [← X.len, ← Y.len, ← List.length_map (f := (·.x)), e, List.length_map])))
    clear hnm
    go_enter Tryd.func21, Tryd.ntmps21
    go_wp2_with fail
    go_ret
    exact ⟨⟨0, rfl⟩, by rw [HN.out]; rfl⟩
  subst hnm
  have HXY := Lib.hid (And.intro X Y)
  clear X Y
  go_enter Tryd.func21, Tryd.ntmps21
  go_wp2_with fail
  go_loopw [5] (fun i wr => ∃ j : Nat, j ≤ n ∧ i = .int .i64 j ∧ (∃ q, wr = w.drewN q) ∧ (xs.map (·.x)).take j = (ys.map (·.x)).take j) (fun i _ => n - (intOf i).toNat)
  case atStart => exact ⟨0, by omega, rfl, ⟨0, rfl⟩, rfl⟩
  case round =>
    obtain ⟨j, hj, rfl, ⟨q, rfl⟩, heq⟩ := hrel
    by_cases hlt : j < n
    case neg =>
      obtain rfl : j = n := by omega
      have he : xs.map (·.x) = ys.map (·.x) := by
        rw [List.take_of_length_le (by rw [List.length_map, HXY.out.1.len]; omega), List.take_of_length_le (by rw [List.length_map, HXY.out.2.len]; omega)] at heq
        exact heq
      have HE := Lib.hid (decide_eq_true he)
      clear heq he
      go_wp2_with fail
      go_ret
      exact ⟨⟨_, rfl⟩, by rw [HE.out]; rfl⟩
    obtain ⟨b, o, x, rfl, _, hx, hxi, p0, p1, p2, p3, p4⟩ := (HXY.out.1.drewN (q + 1)).get hlt
    obtain ⟨b', o', y, rfl, _, hy, hyi, r0, r1, r2, r3, r4⟩ := (HXY.out.2.drewN (q + 1)).get hlt
    have hji : (j : Int) < (n : Int) := by omega
    have hj0 : (0 : Int) ≤ (j : Int) := by omega
    have hgx : (xs.map (·.x))[j]? = some x.x := by rw [List.getElem?_map, hx]; rfl
    have hgy : (ys.map (·.x))[j]? = some y.x := by rw [List.getElem?_map, hy]; rfl
    have hno : x.x ≠ y.x → decide (xs.map (·.x) = ys.map (·.x)) = false := fun h => decide_eq_false fun e => by
      rw [e] at hgx
      exact h (Option.some.inj (hgx.symm.trans hgy))
    have hyes : x.x = y.x → (xs.map (·.x)).take (j + 1) = (ys.map (·.x)).take (j + 1) := fun h => by rw [List.take_add_one, List.take_add_one, heq, hgx, hgy, h]
    have HH := Lib.hid (And.intro hno (And.intro hyes (And.intro hxi hyi)))
    have hw1 : (w.drewN q).drew = w.drewN (q + 1) := rfl
    clear hno hyes hxi hyi hgx hgy heq hx hy hlt
    by_cases h0 : x.x.gen = y.x.gen
    case neg =>
      have t0 := u32_ne h0
      have HN := Lib.hid (HH.out.1 (fun e => h0 (by rw [e])))
      clear h0
      go_wp2_with fail
      refine wp_region_late [] (fun w' => w'.cell? ⟨b, o + j * 5, none⟩ = some (.int .u32 (x.x.gen : Int)) ∧ w'.cell? ⟨b, o + j * 5 + 1, none⟩ = some (.int .u32 (x.x.seq : Int)) ∧ w'.cell? ⟨b, o + j * 5 + 2, none⟩ = some (.int .i64 x.x.part) ∧ w'.cell? ⟨b, o + j * 5 + 3, none⟩ = some (.int .i64 x.x.parts) ∧ w'.cell? ⟨b, o + j * 5 + 4, none⟩ = some (.slice x.A x.n x.c) ∧ w'.cell? ⟨b', o' + j * 5, none⟩ = some (.int .u32 (y.x.gen : Int)) ∧ w'.cell? ⟨b', o' + j * 5 + 1, none⟩ = some (.int .u32 (y.x.seq : Int)) ∧ w'.cell? ⟨b', o' + j * 5 + 2, none⟩ = some (.int .i64 y.x.part) ∧ w'.cell? ⟨b', o' + j * 5 + 3, none⟩ = some (.int .i64 y.x.parts) ∧ w'.cell? ⟨b', o' + j * 5 + 4, none⟩ = some (.slice y.A y.n y.c)) (by kernel_rfl) ?_
      refine wpAnyL_take (i := 0) (v := ?_) rfl (by kernel_rfl) (by kernel_rfl) (by kernel_rfl) (by kernel_rfl) (by kernel_rfl) (fun _ _ _ h => h) (Or.inl ⟨by kernel_rfl, ?_⟩) ⟨p0, p1, p2, p3, p4, r0, r1, r2, r3, r4⟩ ?_
      rotate_left
      · rintro w0 ⟨h1_, h2_, h3_, h4_, h5_, h6_, h7_, h8_, h9_, h10_⟩; go_simp; (try with_reducible rfl)
      try simp only [Act.put, List.getElem_toArray, List.getElem_cons_succ, List.getElem_cons_zero, List.setIfInBounds_toArray, List.set_cons_zero, List.set_cons_succ]
      refine wpAnyL_take (i := 1) (v := ?_) rfl (by kernel_rfl) (by kernel_rfl) (by kernel_rfl) (by kernel_rfl) (by kernel_rfl) (fun _ _ _ h => h) (Or.inl ⟨by kernel_rfl, ?_⟩) ⟨p0, p1, p2, p3, p4, r0, r1, r2, r3, r4⟩ ?_
      rotate_left
      · rintro w0 ⟨h1_, h2_, h3_, h4_, h5_, h6_, h7_, h8_, h9_, h10_⟩; go_simp; (try with_reducible rfl)
      try simp only [Act.put, List.getElem_toArray, List.getElem_cons_succ, List.getElem_cons_zero, List.setIfInBounds_toArray, List.set_cons_zero, List.set_cons_succ]
      refine wpAnyL_take (i := 2) (v := ?_) rfl (by kernel_rfl) (by kernel_rfl) (by kernel_rfl) (by kernel_rfl) (by kernel_rfl) (fun _ _ _ h => h) (Or.inl ⟨by kernel_rfl, ?_⟩) ⟨p0, p1, p2, p3, p4, r0, r1, r2, r3, r4⟩ ?_
      rotate_left
      · rintro w0 ⟨h1_, h2_, h3_, h4_, h5_, h6_, h7_, h8_, h9_, h10_⟩; go_simp; (try with_reducible rfl)
      try simp only [Act.put, List.getElem_toArray, List.getElem_cons_succ, List.getElem_cons_zero, List.setIfInBounds_toArray, List.set_cons_zero, List.set_cons_succ]
      refine wpAnyL_take (i := 3) (v := ?_) rfl (by kernel_rfl) (by kernel_rfl) (by kernel_rfl) (by kernel_rfl) (by kernel_rfl) (fun _ _ _ h => h) (Or.inl ⟨by kernel_rfl, ?_⟩) ⟨p0, p1, p2, p3, p4, r0, r1, r2, r3, r4⟩ ?_
      rotate_left
      · rintro w0 ⟨h1_, h2_, h3_, h4_, h5_, h6_, h7_, h8_, h9_, h10_⟩; go_simp; (try with_reducible rfl)
      try simp only [Act.put, List.getElem_toArray, List.getElem_cons_succ, List.getElem_cons_zero, List.setIfInBounds_toArray, List.set_cons_zero, List.set_cons_succ]
      refine wpAnyL_take (i := 4) (v := ?_) rfl (by kernel_rfl) (by kernel_rfl) (by kernel_rfl) (by kernel_rfl) (by kernel_rfl) (fun _ _ _ h => h) (Or.inl ⟨by kernel_rfl, ?_⟩) ⟨p0, p1, p2, p3, p4, r0, r1, r2, r3, r4⟩ ?_
      rotate_left
      · rintro w0 ⟨h1_, h2_, h3_, h4_, h5_, h6_, h7_, h8_, h9_, h10_⟩; go_simp; (try with_reducible rfl)
      try simp only [Act.put, List.getElem_toArray, List.getElem_cons_succ, List.getElem_cons_zero, List.setIfInBounds_toArray, List.set_cons_zero, List.set_cons_succ]
      refine wpAnyL_take (i := 5) (v := ?_) rfl (by kernel_rfl) (by kernel_rfl) (by kernel_rfl) (by kernel_rfl) (by kernel_rfl) (fun _ _ _ h => h) (Or.inl ⟨by kernel_rfl, ?_⟩) ⟨p0, p1, p2, p3, p4, r0, r1, r2, r3, r4⟩ ?_
      rotate_left
      · rintro w0 ⟨h1_, h2_, h3_, h4_, h5_, h6_, h7_, h8_, h9_, h10_⟩; go_simp; (try with_reducible rfl)
      try simp only [Act.put, List.getElem_toArray, List.getElem_cons_succ, List.getElem_cons_zero, List.setIfInBounds_toArray, List.set_cons_zero, List.set_cons_succ]
      refine wpAnyL_take (i := 6) (v := ?_) rfl (by kernel_rfl) (by kernel_rfl) (by kernel_rfl) (by kernel_rfl) (by kernel_rfl) (fun _ _ _ h => h) (Or.inl ⟨by kernel_rfl, ?_⟩) ⟨p0, p1, p2, p3, p4, r0, r1, r2, r3, r4⟩ ?_
      rotate_left
      · rintro w0 ⟨h1_, h2_, h3_, h4_, h5_, h6_, h7_, h8_, h9_, h10_⟩; go_simp; (try with_reducible rfl)
      try simp only [Act.put, List.getElem_toArray, List.getElem_cons_succ, List.getElem_cons_zero, List.setIfInBounds_toArray, List.set_cons_zero, List.set_cons_succ]
      refine wpAnyL_take (i := 7) (v := ?_) rfl (by kernel_rfl) (by kernel_rfl) (by kernel_rfl) (by kernel_rfl) (by kernel_rfl) (fun _ _ _ h => h) (Or.inl ⟨by kernel_rfl, ?_⟩) ⟨p0, p1, p2, p3, p4, r0, r1, r2, r3, r4⟩ ?_
      rotate_left
      · rintro w0 ⟨h1_, h2_, h3_, h4_, h5_, h6_, h7_, h8_, h9_, h10_⟩; go_simp; (try with_reducible rfl)
      try simp only [Act.put, List.getElem_toArray, List.getElem_cons_succ, List.getElem_cons_zero, List.setIfInBounds_toArray, List.set_cons_zero, List.set_cons_succ]
      refine wpAnyL_take (i := 8) (v := ?_) rfl (by kernel_rfl) (by kernel_rfl) (by kernel_rfl) (by kernel_rfl) (by kernel_rfl) (fun _ _ _ h => h) (Or.inl ⟨by kernel_rfl, ?_⟩) ⟨p0, p1, p2, p3, p4, r0, r1, r2, r3, r4⟩ ?_
      rotate_left
      · rintro w0 ⟨h1_, h2_, h3_, h4_, h5_, h6_, h7_, h8_, h9_, h10_⟩; go_simp; (try with_reducible rfl)
      try simp only [Act.put, List.getElem_toArray, List.getElem_cons_succ, List.getElem_cons_zero, List.setIfInBounds_toArray, List.set_cons_zero, List.set_cons_succ]
      refine wpAnyL_take (i := 9) (v := ?_) rfl (by kernel_rfl) (by kernel_rfl) (by kernel_rfl) (by kernel_rfl) (by kernel_rfl) (fun _ _ _ h => h) (Or.inl ⟨by kernel_rfl, ?_⟩) ⟨p0, p1, p2, p3, p4, r0, r1, r2, r3, r4⟩ ?_
      rotate_left
      · rintro w0 ⟨h1_, h2_, h3_, h4_, h5_, h6_, h7_, h8_, h9_, h10_⟩; go_simp; (try with_reducible rfl)
      try simp only [Act.put, List.getElem_toArray, List.getElem_cons_succ, List.getElem_cons_zero, List.setIfInBounds_toArray, List.set_cons_zero, List.set_cons_succ]
      refine wpAnyL_take (i := 10) (v := ?_) rfl (by kernel_rfl) (by kernel_rfl) (by kernel_rfl) (by kernel_rfl) (by kernel_rfl) (fun _ _ _ h => h) (Or.inl ⟨by kernel_rfl, ?_⟩) ⟨p0, p1, p2, p3, p4, r0, r1, r2, r3, r4⟩ ?_
      rotate_left
      · rintro w0 ⟨h1_, h2_, h3_, h4_, h5_, h6_, h7_, h8_, h9_, h10_⟩; go_simp; (try with_reducible rfl)
      try simp only [Act.put, List.getElem_toArray, List.getElem_cons_succ, List.getElem_cons_zero, List.setIfInBounds_toArray, List.set_cons_zero, List.set_cons_succ]
      refine wpAnyL_take (i := 11) (v := ?_) rfl (by kernel_rfl) (by kernel_rfl) (by kernel_rfl) (by kernel_rfl) (by kernel_rfl) (fun _ _ _ h => h) (Or.inl ⟨by kernel_rfl, ?_⟩) ⟨p0, p1, p2, p3, p4, r0, r1, r2, r3, r4⟩ ?_
      rotate_left
      · rintro w0 ⟨h1_, h2_, h3_, h4_, h5_, h6_, h7_, h8_, h9_, h10_⟩; go_simp; (try with_reducible rfl)
      try simp only [Act.put, List.getElem_toArray, List.getElem_cons_succ, List.getElem_cons_zero, List.setIfInBounds_toArray, List.set_cons_zero, List.set_cons_succ]
      refine wpAnyL_take (i := 12) (v := undef) rfl (by kernel_rfl) (by kernel_rfl) (by kernel_rfl) (by kernel_rfl) (by kernel_rfl) (fun _ _ _ h => h) (Or.inr ⟨by kernel_rfl, rfl⟩) ⟨p0, p1, p2, p3, p4, r0, r1, r2, r3, r4⟩ ?_
      try simp only [Act.put, List.getElem_toArray, List.getElem_cons_succ, List.getElem_cons_zero, List.setIfInBounds_toArray, List.set_cons_zero, List.set_cons_succ]
      refine wpAnyL_take (i := 13) (v := undef) rfl (by kernel_rfl) (by kernel_rfl) (by kernel_rfl) (by kernel_rfl) (by kernel_rfl) (fun _ _ _ h => h) (Or.inr ⟨by kernel_rfl, rfl⟩) ⟨p0, p1, p2, p3, p4, r0, r1, r2, r3, r4⟩ ?_
      try simp only [Act.put, List.getElem_toArray, List.getElem_cons_succ, List.getElem_cons_zero, List.setIfInBounds_toArray, List.set_cons_zero, List.set_cons_succ]
      refine wpAnyL_take (i := 14) (v := undef) rfl (by kernel_rfl) (by kernel_rfl) (by kernel_rfl) (by kernel_rfl) (by kernel_rfl) (fun _ _ _ h => h) (Or.inr ⟨by kernel_rfl, rfl⟩) ⟨p0, p1, p2, p3, p4, r0, r1, r2, r3, r4⟩ ?_
      try simp only [Act.put, List.getElem_toArray, List.getElem_cons_succ, List.getElem_cons_zero, List.setIfInBounds_toArray, List.set_cons_zero, List.set_cons_succ]
      refine wpAnyL_take (i := 15) (v := undef) rfl (by kernel_rfl) (by kernel_rfl) (by kernel_rfl) (by kernel_rfl) (by kernel_rfl) (fun _ _ _ h => h) (Or.inr ⟨by kernel_rfl, rfl⟩) ⟨p0, p1, p2, p3, p4, r0, r1, r2, r3, r4⟩ ?_
      try simp only [Act.put, List.getElem_toArray, List.getElem_cons_succ, List.getElem_cons_zero, List.setIfInBounds_toArray, List.set_cons_zero, List.set_cons_succ]
      refine wpAnyL_take (i := 16) (v := undef) rfl (by kernel_rfl) (by kernel_rfl) (by kernel_rfl) (by kernel_rfl) (by kernel_rfl) (fun _ _ _ h => h) (Or.inr ⟨by kernel_rfl, rfl⟩) ⟨p0, p1, p2, p3, p4, r0, r1, r2, r3, r4⟩ ?_
      try simp only [Act.put, List.getElem_toArray, List.getElem_cons_succ, List.getElem_cons_zero, List.setIfInBounds_toArray, List.set_cons_zero, List.set_cons_succ]
      refine wpAnyL_take (i := 17) (v := undef) rfl (by kernel_rfl) (by kernel_rfl) (by kernel_rfl) (by kernel_rfl) (by kernel_rfl) (fun _ _ _ h => h) (Or.inr ⟨by kernel_rfl, rfl⟩) ⟨p0, p1, p2, p3, p4, r0, r1, r2, r3, r4⟩ ?_
      try simp only [Act.put, List.getElem_toArray, List.getElem_cons_succ, List.getElem_cons_zero, List.setIfInBounds_toArray, List.set_cons_zero, List.set_cons_succ]
      refine wpAnyL_take (i := 18) (v := undef) rfl (by kernel_rfl) (by kernel_rfl) (by kernel_rfl) (by kernel_rfl) (by kernel_rfl) (fun _ _ _ h => h) (Or.inr ⟨by kernel_rfl, rfl⟩) ⟨p0, p1, p2, p3, p4, r0, r1, r2, r3, r4⟩ ?_
      try simp only [Act.put, List.getElem_toArray, List.getElem_cons_succ, List.getElem_cons_zero, List.setIfInBounds_toArray, List.set_cons_zero, List.set_cons_succ]
      refine wpAnyL_take (i := 19) (v := undef) rfl (by kernel_rfl) (by kernel_rfl) (by kernel_rfl) (by kernel_rfl) (by kernel_rfl) (fun _ _ _ h => h) (Or.inr ⟨by kernel_rfl, rfl⟩) ⟨p0, p1, p2, p3, p4, r0, r1, r2, r3, r4⟩ ?_
      try simp only [Act.put, List.getElem_toArray, List.getElem_cons_succ, List.getElem_cons_zero, List.setIfInBounds_toArray, List.set_cons_zero, List.set_cons_succ]
      refine wpAnyL_take (i := 20) (v := undef) rfl (by kernel_rfl) (by kernel_rfl) (by kernel_rfl) (by kernel_rfl) (by kernel_rfl) (fun _ _ _ h => h) (Or.inr ⟨by kernel_rfl, rfl⟩) ⟨p0, p1, p2, p3, p4, r0, r1, r2, r3, r4⟩ ?_
      try simp only [Act.put, List.getElem_toArray, List.getElem_cons_succ, List.getElem_cons_zero, List.setIfInBounds_toArray, List.set_cons_zero, List.set_cons_succ]
      refine wpAnyL_take (i := 21) (v := undef) rfl (by kernel_rfl) (by kernel_rfl) (by kernel_rfl) (by kernel_rfl) (by kernel_rfl) (fun _ _ _ h => h) (Or.inr ⟨by kernel_rfl, rfl⟩) ⟨p0, p1, p2, p3, p4, r0, r1, r2, r3, r4⟩ ?_
      try simp only [Act.put, List.getElem_toArray, List.getElem_cons_succ, List.getElem_cons_zero, List.setIfInBounds_toArray, List.set_cons_zero, List.set_cons_succ]
      refine wpAnyL_take (i := 22) (v := undef) rfl (by kernel_rfl) (by kernel_rfl) (by kernel_rfl) (by kernel_rfl) (by kernel_rfl) (fun _ _ _ h => h) (Or.inr ⟨by kernel_rfl, rfl⟩) ⟨p0, p1, p2, p3, p4, r0, r1, r2, r3, r4⟩ ?_
      try simp only [Act.put, List.getElem_toArray, List.getElem_cons_succ, List.getElem_cons_zero, List.setIfInBounds_toArray, List.set_cons_zero, List.set_cons_succ]
      refine wpAnyL_take (i := 23) (v := ?_) rfl (by kernel_rfl) (by kernel_rfl) (by kernel_rfl) (by kernel_rfl) (by kernel_rfl) (fun _ _ _ h => h) (Or.inl ⟨by kernel_rfl, ?_⟩) ⟨p0, p1, p2, p3, p4, r0, r1, r2, r3, r4⟩ ?_
      rotate_left
      · rintro w0 ⟨h1_, h2_, h3_, h4_, h5_, h6_, h7_, h8_, h9_, h10_⟩; go_simp; (try with_reducible rfl)
      try simp only [Act.put, List.getElem_toArray, List.getElem_cons_succ, List.getElem_cons_zero, List.setIfInBounds_toArray, List.set_cons_zero, List.set_cons_succ]
      refine wpAnyL_take (i := 24) (v := ?_) rfl (by kernel_rfl) (by kernel_rfl) (by kernel_rfl) (by kernel_rfl) (by kernel_rfl) (fun _ _ _ h => h) (Or.inl ⟨by kernel_rfl, ?_⟩) ⟨p0, p1, p2, p3, p4, r0, r1, r2, r3, r4⟩ ?_
      rotate_left
      · rintro w0 ⟨h1_, h2_, h3_, h4_, h5_, h6_, h7_, h8_, h9_, h10_⟩; go_simp; (try with_reducible rfl)
      try simp only [Act.put, List.getElem_toArray, List.getElem_cons_succ, List.getElem_cons_zero, List.setIfInBounds_toArray, List.set_cons_zero, List.set_cons_succ]
      refine wpAnyL_take (i := 25) (v := undef) rfl (by kernel_rfl) (by kernel_rfl) (by kernel_rfl) (by kernel_rfl) (by kernel_rfl) (fun _ _ _ h => h) (Or.inr ⟨by kernel_rfl, rfl⟩) ⟨p0, p1, p2, p3, p4, r0, r1, r2, r3, r4⟩ ?_
      try simp only [Act.put, List.getElem_toArray, List.getElem_cons_succ, List.getElem_cons_zero, List.setIfInBounds_toArray, List.set_cons_zero, List.set_cons_succ]
      refine wpAnyL_take (i := 26) (v := undef) rfl (by kernel_rfl) (by kernel_rfl) (by kernel_rfl) (by kernel_rfl) (by kernel_rfl) (fun _ _ _ h => h) (Or.inr ⟨by kernel_rfl, rfl⟩) ⟨p0, p1, p2, p3, p4, r0, r1, r2, r3, r4⟩ ?_
      try simp only [Act.put, List.getElem_toArray, List.getElem_cons_succ, List.getElem_cons_zero, List.setIfInBounds_toArray, List.set_cons_zero, List.set_cons_succ]
      refine wpAnyL_take (i := 27) (v := undef) rfl (by kernel_rfl) (by kernel_rfl) (by kernel_rfl) (by kernel_rfl) (by kernel_rfl) (fun _ _ _ h => h) (Or.inr ⟨by kernel_rfl, rfl⟩) ⟨p0, p1, p2, p3, p4, r0, r1, r2, r3, r4⟩ ?_
      try simp only [Act.put, List.getElem_toArray, List.getElem_cons_succ, List.getElem_cons_zero, List.setIfInBounds_toArray, List.set_cons_zero, List.set_cons_succ]
      refine wpAnyL_take (i := 28) (v := undef) rfl (by kernel_rfl) (by kernel_rfl) (by kernel_rfl) (by kernel_rfl) (by kernel_rfl) (fun _ _ _ h => h) (Or.inr ⟨by kernel_rfl, rfl⟩) ⟨p0, p1, p2, p3, p4, r0, r1, r2, r3, r4⟩ ?_
      try simp only [Act.put, List.getElem_toArray, List.getElem_cons_succ, List.getElem_cons_zero, List.setIfInBounds_toArray, List.set_cons_zero, List.set_cons_succ]
      refine wpAnyL_take (i := 29) (v := undef) rfl (by kernel_rfl) (by kernel_rfl) (by kernel_rfl) (by kernel_rfl) (by kernel_rfl) (fun _ _ _ h => h) (Or.inr ⟨by kernel_rfl, rfl⟩) ⟨p0, p1, p2, p3, p4, r0, r1, r2, r3, r4⟩ ?_
      try simp only [Act.put, List.getElem_toArray, List.getElem_cons_succ, List.getElem_cons_zero, List.setIfInBounds_toArray, List.set_cons_zero, List.set_cons_succ]
      refine wpAnyL_take (i := 30) (v := undef) rfl (by kernel_rfl) (by kernel_rfl) (by kernel_rfl) (by kernel_rfl) (by kernel_rfl) (fun _ _ _ h => h) (Or.inr ⟨by kernel_rfl, rfl⟩) ⟨p0, p1, p2, p3, p4, r0, r1, r2, r3, r4⟩ ?_
      try simp only [Act.put, List.getElem_toArray, List.getElem_cons_succ, List.getElem_cons_zero, List.setIfInBounds_toArray, List.set_cons_zero, List.set_cons_succ]
      refine wpAnyL_take (i := 31) (v := undef) rfl (by kernel_rfl) (by kernel_rfl) (by kernel_rfl) (by kernel_rfl) (by kernel_rfl) (fun _ _ _ h => h) (Or.inr ⟨by kernel_rfl, rfl⟩) ⟨p0, p1, p2, p3, p4, r0, r1, r2, r3, r4⟩ ?_
      try simp only [Act.put, List.getElem_toArray, List.getElem_cons_succ, List.getElem_cons_zero, List.setIfInBounds_toArray, List.set_cons_zero, List.set_cons_succ]
      refine wpAnyL_take (i := 32) (v := undef) rfl (by kernel_rfl) (by kernel_rfl) (by kernel_rfl) (by kernel_rfl) (by kernel_rfl) (fun _ _ _ h => h) (Or.inr ⟨by kernel_rfl, rfl⟩) ⟨p0, p1, p2, p3, p4, r0, r1, r2, r3, r4⟩ ?_
      try simp only [Act.put, List.getElem_toArray, List.getElem_cons_succ, List.getElem_cons_zero, List.setIfInBounds_toArray, List.set_cons_zero, List.set_cons_succ]
      refine wpAnyL_take (i := 33) (v := undef) rfl (by kernel_rfl) (by kernel_rfl) (by kernel_rfl) (by kernel_rfl) (by kernel_rfl) (fun _ _ _ h => h) (Or.inr ⟨by kernel_rfl, rfl⟩) ⟨p0, p1, p2, p3, p4, r0, r1, r2, r3, r4⟩ ?_
      try simp only [Act.put, List.getElem_toArray, List.getElem_cons_succ, List.getElem_cons_zero, List.setIfInBounds_toArray, List.set_cons_zero, List.set_cons_succ]
      refine wpAnyL_take (i := 34) (v := undef) rfl (by kernel_rfl) (by kernel_rfl) (by kernel_rfl) (by kernel_rfl) (by kernel_rfl) (fun _ _ _ h => h) (Or.inr ⟨by kernel_rfl, rfl⟩) ⟨p0, p1, p2, p3, p4, r0, r1, r2, r3, r4⟩ ?_
      try simp only [Act.put, List.getElem_toArray, List.getElem_cons_succ, List.getElem_cons_zero, List.setIfInBounds_toArray, List.set_cons_zero, List.set_cons_succ]
      refine wpAnyL_take (i := 35) (v := undef) rfl (by kernel_rfl) (by kernel_rfl) (by kernel_rfl) (by kernel_rfl) (by kernel_rfl) (fun _ _ _ h => h) (Or.inr ⟨by kernel_rfl, rfl⟩) ⟨p0, p1, p2, p3, p4, r0, r1, r2, r3, r4⟩ ?_
      try simp only [Act.put, List.getElem_toArray, List.getElem_cons_succ, List.getElem_cons_zero, List.setIfInBounds_toArray, List.set_cons_zero, List.set_cons_succ]
      refine wpAnyL_take (i := 36) (v := ?_) rfl (by kernel_rfl) (by kernel_rfl) (by kernel_rfl) (by kernel_rfl) (by kernel_rfl) (fun _ _ _ h => h) (Or.inl ⟨by kernel_rfl, ?_⟩) ⟨p0, p1, p2, p3, p4, r0, r1, r2, r3, r4⟩ ?_
      rotate_left
      · rintro w0 ⟨h1_, h2_, h3_, h4_, h5_, h6_, h7_, h8_, h9_, h10_⟩; go_simp; (try with_reducible rfl)
      try simp only [Act.put, List.getElem_toArray, List.getElem_cons_succ, List.getElem_cons_zero, List.setIfInBounds_toArray, List.set_cons_zero, List.set_cons_succ]
      refine wpAnyL_take (i := 37) (v := ?_) rfl (by kernel_rfl) (by kernel_rfl) (by kernel_rfl) (by kernel_rfl) (by kernel_rfl) (fun _ _ _ h => h) (Or.inl ⟨by kernel_rfl, ?_⟩) ⟨p0, p1, p2, p3, p4, r0, r1, r2, r3, r4⟩ ?_
      rotate_left
      · rintro w0 ⟨h1_, h2_, h3_, h4_, h5_, h6_, h7_, h8_, h9_, h10_⟩; go_simp; (try with_reducible rfl)
      try simp only [Act.put, List.getElem_toArray, List.getElem_cons_succ, List.getElem_cons_zero, List.setIfInBounds_toArray, List.set_cons_zero, List.set_cons_succ]
      refine wpAnyL_take (i := 38) (v := undef) rfl (by kernel_rfl) (by kernel_rfl) (by kernel_rfl) (by kernel_rfl) (by kernel_rfl) (fun _ _ _ h => h) (Or.inr ⟨by kernel_rfl, rfl⟩) ⟨p0, p1, p2, p3, p4, r0, r1, r2, r3, r4⟩ ?_
      try simp only [Act.put, List.getElem_toArray, List.getElem_cons_succ, List.getElem_cons_zero, List.setIfInBounds_toArray, List.set_cons_zero, List.set_cons_succ]
      refine wpAnyL_take (i := 39) (v := undef) rfl (by kernel_rfl) (by kernel_rfl) (by kernel_rfl) (by kernel_rfl) (by kernel_rfl) (fun _ _ _ h => h) (Or.inr ⟨by kernel_rfl, rfl⟩) ⟨p0, p1, p2, p3, p4, r0, r1, r2, r3, r4⟩ ?_
      try simp only [Act.put, List.getElem_toArray, List.getElem_cons_succ, List.getElem_cons_zero, List.setIfInBounds_toArray, List.set_cons_zero, List.set_cons_succ]
      refine wpAnyL_take (i := 40) (v := undef) rfl (by kernel_rfl) (by kernel_rfl) (by kernel_rfl) (by kernel_rfl) (by kernel_rfl) (fun _ _ _ h => h) (Or.inr ⟨by kernel_rfl, rfl⟩) ⟨p0, p1, p2, p3, p4, r0, r1, r2, r3, r4⟩ ?_
      try simp only [Act.put, List.getElem_toArray, List.getElem_cons_succ, List.getElem_cons_zero, List.setIfInBounds_toArray, List.set_cons_zero, List.set_cons_succ]
      refine wpAnyL_take (i := 41) (v := undef) rfl (by kernel_rfl) (by kernel_rfl) (by kernel_rfl) (by kernel_rfl) (by kernel_rfl) (fun _ _ _ h => h) (Or.inr ⟨by kernel_rfl, rfl⟩) ⟨p0, p1, p2, p3, p4, r0, r1, r2, r3, r4⟩ ?_
      try simp only [Act.put, List.getElem_toArray, List.getElem_cons_succ, List.getElem_cons_zero, List.setIfInBounds_toArray, List.set_cons_zero, List.set_cons_succ]
      refine wpAnyL_take (i := 42) (v := undef) rfl (by kernel_rfl) (by kernel_rfl) (by kernel_rfl) (by kernel_rfl) (by kernel_rfl) (fun _ _ _ h => h) (Or.inr ⟨by kernel_rfl, rfl⟩) ⟨p0, p1, p2, p3, p4, r0, r1, r2, r3, r4⟩ ?_
      try simp only [Act.put, List.getElem_toArray, List.getElem_cons_succ, List.getElem_cons_zero, List.setIfInBounds_toArray, List.set_cons_zero, List.set_cons_succ]
      refine wpAnyL_take (i := 43) (v := undef) rfl (by kernel_rfl) (by kernel_rfl) (by kernel_rfl) (by kernel_rfl) (by kernel_rfl) (fun _ _ _ h => h) (Or.inr ⟨by kernel_rfl, rfl⟩) ⟨p0, p1, p2, p3, p4, r0, r1, r2, r3, r4⟩ ?_
      try simp only [Act.put, List.getElem_toArray, List.getElem_cons_succ, List.getElem_cons_zero, List.setIfInBounds_toArray, List.set_cons_zero, List.set_cons_succ]
      refine wpAnyL_take (i := 44) (v := undef) rfl (by kernel_rfl) (by kernel_rfl) (by kernel_rfl) (by kernel_rfl) (by kernel_rfl) (fun _ _ _ h => h) (Or.inr ⟨by kernel_rfl, rfl⟩) ⟨p0, p1, p2, p3, p4, r0, r1, r2, r3, r4⟩ ?_
      try simp only [Act.put, List.getElem_toArray, List.getElem_cons_succ, List.getElem_cons_zero, List.setIfInBounds_toArray, List.set_cons_zero, List.set_cons_succ]
      refine wpAnyL_take (i := 45) (v := undef) rfl (by kernel_rfl) (by kernel_rfl) (by kernel_rfl) (by kernel_rfl) (by kernel_rfl) (fun _ _ _ h => h) (Or.inr ⟨by kernel_rfl, rfl⟩) ⟨p0, p1, p2, p3, p4, r0, r1, r2, r3, r4⟩ ?_
      try simp only [Act.put, List.getElem_toArray, List.getElem_cons_succ, List.getElem_cons_zero, List.setIfInBounds_toArray, List.set_cons_zero, List.set_cons_succ]
      refine wpAnyL_take (i := 46) (v := undef) rfl (by kernel_rfl) (by kernel_rfl) (by kernel_rfl) (by kernel_rfl) (by kernel_rfl) (fun _ _ _ h => h) (Or.inr ⟨by kernel_rfl, rfl⟩) ⟨p0, p1, p2, p3, p4, r0, r1, r2, r3, r4⟩ ?_
      try simp only [Act.put, List.getElem_toArray, List.getElem_cons_succ, List.getElem_cons_zero, List.setIfInBounds_toArray, List.set_cons_zero, List.set_cons_succ]
      refine wpAnyL_take (i := 47) (v := undef) rfl (by kernel_rfl) (by kernel_rfl) (by kernel_rfl) (by kernel_rfl) (by kernel_rfl) (fun _ _ _ h => h) (Or.inr ⟨by kernel_rfl, rfl⟩) ⟨p0, p1, p2, p3, p4, r0, r1, r2, r3, r4⟩ ?_
      try simp only [Act.put, List.getElem_toArray, List.getElem_cons_succ, List.getElem_cons_zero, List.setIfInBounds_toArray, List.set_cons_zero, List.set_cons_succ]
      refine wpAnyL_take (i := 48) (v := undef) rfl (by kernel_rfl) (by kernel_rfl) (by kernel_rfl) (by kernel_rfl) (by kernel_rfl) (fun _ _ _ h => h) (Or.inr ⟨by kernel_rfl, rfl⟩) ⟨p0, p1, p2, p3, p4, r0, r1, r2, r3, r4⟩ ?_
      try simp only [Act.put, List.getElem_toArray, List.getElem_cons_succ, List.getElem_cons_zero, List.setIfInBounds_toArray, List.set_cons_zero, List.set_cons_succ]
      refine wpAnyL_take (i := 49) (v := ?_) rfl (by kernel_rfl) (by kernel_rfl) (by kernel_rfl) (by kernel_rfl) (by kernel_rfl) (fun _ _ _ h => h) (Or.inl ⟨by kernel_rfl, ?_⟩) ⟨p0, p1, p2, p3, p4, r0, r1, r2, r3, r4⟩ ?_
      rotate_left
      · rintro w0 ⟨h1_, h2_, h3_, h4_, h5_, h6_, h7_, h8_, h9_, h10_⟩; go_simp; (try with_reducible rfl)
      try simp only [Act.put, List.getElem_toArray, List.getElem_cons_succ, List.getElem_cons_zero, List.setIfInBounds_toArray, List.set_cons_zero, List.set_cons_succ]
      refine wpAnyL_take (i := 50) (v := ?_) rfl (by kernel_rfl) (by kernel_rfl) (by kernel_rfl) (by kernel_rfl) (by kernel_rfl) (fun _ _ _ h => h) (Or.inl ⟨by kernel_rfl, ?_⟩) ⟨p0, p1, p2, p3, p4, r0, r1, r2, r3, r4⟩ ?_
      rotate_left
      · rintro w0 ⟨h1_, h2_, h3_, h4_, h5_, h6_, h7_, h8_, h9_, h10_⟩; go_simp; (try with_reducible rfl)
      try simp only [Act.put, List.getElem_toArray, List.getElem_cons_succ, List.getElem_cons_zero, List.setIfInBounds_toArray, List.set_cons_zero, List.set_cons_succ]
      refine wpAnyL_take (i := 51) (v := undef) rfl (by kernel_rfl) (by kernel_rfl) (by kernel_rfl) (by kernel_rfl) (by kernel_rfl) (fun _ _ _ h => h) (Or.inr ⟨by kernel_rfl, rfl⟩) ⟨p0, p1, p2, p3, p4, r0, r1, r2, r3, r4⟩ ?_
      try simp only [Act.put, List.getElem_toArray, List.getElem_cons_succ, List.getElem_cons_zero, List.setIfInBounds_toArray, List.set_cons_zero, List.set_cons_succ]
      refine wpAnyL_take (i := 52) (v := undef) rfl (by kernel_rfl) (by kernel_rfl) (by kernel_rfl) (by kernel_rfl) (by kernel_rfl) (fun _ _ _ h => h) (Or.inr ⟨by kernel_rfl, rfl⟩) ⟨p0, p1, p2, p3, p4, r0, r1, r2, r3, r4⟩ ?_
      try simp only [Act.put, List.getElem_toArray, List.getElem_cons_succ, List.getElem_cons_zero, List.setIfInBounds_toArray, List.set_cons_zero, List.set_cons_succ]
      refine wpAnyL_take (i := 53) (v := undef) rfl (by kernel_rfl) (by kernel_rfl) (by kernel_rfl) (by kernel_rfl) (by kernel_rfl) (fun _ _ _ h => h) (Or.inr ⟨by kernel_rfl, rfl⟩) ⟨p0, p1, p2, p3, p4, r0, r1, r2, r3, r4⟩ ?_
      try simp only [Act.put, List.getElem_toArray, List.getElem_cons_succ, List.getElem_cons_zero, List.setIfInBounds_toArray, List.set_cons_zero, List.set_cons_succ]
      refine wpAnyL_take (i := 54) (v := undef) rfl (by kernel_rfl) (by kernel_rfl) (by kernel_rfl) (by kernel_rfl) (by kernel_rfl) (fun _ _ _ h => h) (Or.inr ⟨by kernel_rfl, rfl⟩) ⟨p0, p1, p2, p3, p4, r0, r1, r2, r3, r4⟩ ?_
      try simp only [Act.put, List.getElem_toArray, List.getElem_cons_succ, List.getElem_cons_zero, List.setIfInBounds_toArray, List.set_cons_zero, List.set_cons_succ]
      refine wpAnyL_take (i := 55) (v := undef) rfl (by kernel_rfl) (by kernel_rfl) (by kernel_rfl) (by kernel_rfl) (by kernel_rfl) (fun _ _ _ h => h) (Or.inr ⟨by kernel_rfl, rfl⟩) ⟨p0, p1, p2, p3, p4, r0, r1, r2, r3, r4⟩ ?_
      try simp only [Act.put, List.getElem_toArray, List.getElem_cons_succ, List.getElem_cons_zero, List.setIfInBounds_toArray, List.set_cons_zero, List.set_cons_succ]
      refine wpAnyL_take (i := 56) (v := undef) rfl (by kernel_rfl) (by kernel_rfl) (by kernel_rfl) (by kernel_rfl) (by kernel_rfl) (fun _ _ _ h => h) (Or.inr ⟨by kernel_rfl, rfl⟩) ⟨p0, p1, p2, p3, p4, r0, r1, r2, r3, r4⟩ ?_
      try simp only [Act.put, List.getElem_toArray, List.getElem_cons_succ, List.getElem_cons_zero, List.setIfInBounds_toArray, List.set_cons_zero, List.set_cons_succ]
      refine wpAnyL_take (i := 57) (v := undef) rfl (by kernel_rfl) (by kernel_rfl) (by kernel_rfl) (by kernel_rfl) (by kernel_rfl) (fun _ _ _ h => h) (Or.inr ⟨by kernel_rfl, rfl⟩) ⟨p0, p1, p2, p3, p4, r0, r1, r2, r3, r4⟩ ?_
      try simp only [Act.put, List.getElem_toArray, List.getElem_cons_succ, List.getElem_cons_zero, List.setIfInBounds_toArray, List.set_cons_zero, List.set_cons_succ]
      refine wpAnyL_take (i := 58) (v := undef) rfl (by kernel_rfl) (by kernel_rfl) (by kernel_rfl) (by kernel_rfl) (by kernel_rfl) (fun _ _ _ h => h) (Or.inr ⟨by kernel_rfl, rfl⟩) ⟨p0, p1, p2, p3, p4, r0, r1, r2, r3, r4⟩ ?_
      try simp only [Act.put, List.getElem_toArray, List.getElem_cons_succ, List.getElem_cons_zero, List.setIfInBounds_toArray, List.set_cons_zero, List.set_cons_succ]
      refine wpAnyL_take (i := 59) (v := undef) rfl (by kernel_rfl) (by kernel_rfl) (by kernel_rfl) (by kernel_rfl) (by kernel_rfl) (fun _ _ _ h => h) (Or.inr ⟨by kernel_rfl, rfl⟩) ⟨p0, p1, p2, p3, p4, r0, r1, r2, r3, r4⟩ ?_
      try simp only [Act.put, List.getElem_toArray, List.getElem_cons_succ, List.getElem_cons_zero, List.setIfInBounds_toArray, List.set_cons_zero, List.set_cons_succ]
      refine wpAnyL_take (i := 60) (v := undef) rfl (by kernel_rfl) (by kernel_rfl) (by kernel_rfl) (by kernel_rfl) (by kernel_rfl) (fun _ _ _ h => h) (Or.inr ⟨by kernel_rfl, rfl⟩) ⟨p0, p1, p2, p3, p4, r0, r1, r2, r3, r4⟩ ?_
      try simp only [Act.put, List.getElem_toArray, List.getElem_cons_succ, List.getElem_cons_zero, List.setIfInBounds_toArray, List.set_cons_zero, List.set_cons_succ]
      refine wpAnyL_one (i := 61) (by kernel_rfl) rfl (fun K hK => ?_)
      rw [if_neg (Bool.eq_false_iff.1 (by kernel_rfl))]
      refine hK.out _ _ (fun _ => ⟨p0, p1, p2, p3, p4, r0, r1, r2, r3, r4⟩) ?_
      clear hK K
      try simp only [Act.put, List.getElem_toArray, List.getElem_cons_succ, List.getElem_cons_zero, List.setIfInBounds_toArray, List.set_cons_zero, List.set_cons_succ]
      refine wpAnyL_take (i := 62) (v := undef) rfl (by kernel_rfl) (by kernel_rfl) (by kernel_rfl) (by kernel_rfl) (by kernel_rfl) (fun _ _ _ h => h) (Or.inr ⟨by kernel_rfl, rfl⟩) ⟨p0, p1, p2, p3, p4, r0, r1, r2, r3, r4⟩ ?_
      try simp only [Act.put, List.getElem_toArray, List.getElem_cons_succ, List.getElem_cons_zero, List.setIfInBounds_toArray, List.set_cons_zero, List.set_cons_succ]
      refine wpAnyL_take (i := 63) (v := ?_) rfl (by kernel_rfl) (by kernel_rfl) (by kernel_rfl) (by kernel_rfl) (by kernel_rfl) (fun _ _ _ h => h) (Or.inl ⟨by kernel_rfl, ?_⟩) ⟨p0, p1, p2, p3, p4, r0, r1, r2, r3, r4⟩ ?_
      rotate_left
      · rintro w0 ⟨h1_, h2_, h3_, h4_, h5_, h6_, h7_, h8_, h9_, h10_⟩; go_simp; (try with_reducible rfl)
      try simp only [Act.put, List.getElem_toArray, List.getElem_cons_succ, List.getElem_cons_zero, List.setIfInBounds_toArray, List.set_cons_zero, List.set_cons_succ]
      refine wpAnyL_done (by kernel_rfl) ?_ _
      go_wp2_with fail
      go_ret
      exact ⟨⟨q + 1, rfl⟩, by rw [HN.out]; rfl⟩
    have t0 := u32_eq h0
    have K0 := Lib.hid h0
    clear h0
    by_cases h1 : x.x.seq = y.x.seq
    case neg =>
      have t1 := u32_ne h1
      have HN := Lib.hid (HH.out.1 (fun e => h1 (by rw [e])))
      clear h1
      go_wp2_with fail
      refine wp_region_late [] (fun w' => w'.cell? ⟨b, o + j * 5, none⟩ = some (.int .u32 (x.x.gen : Int)) ∧ w'.cell? ⟨b, o + j * 5 + 1, none⟩ = some (.int .u32 (x.x.seq : Int)) ∧ w'.cell? ⟨b, o + j * 5 + 2, none⟩ = some (.int .i64 x.x.part) ∧ w'.cell? ⟨b, o + j * 5 + 3, none⟩ = some (.int .i64 x.x.parts) ∧ w'.cell? ⟨b, o + j * 5 + 4, none⟩ = some (.slice x.A x.n x.c) ∧ w'.cell? ⟨b', o' + j * 5, none⟩ = some (.int .u32 (y.x.gen : Int)) ∧ w'.cell? ⟨b', o' + j * 5 + 1, none⟩ = some (.int .u32 (y.x.seq : Int)) ∧ w'.cell? ⟨b', o' + j * 5 + 2, none⟩ = some (.int .i64 y.x.part) ∧ w'.cell? ⟨b', o' + j * 5 + 3, none⟩ = some (.int .i64 y.x.parts) ∧ w'.cell? ⟨b', o' + j * 5 + 4, none⟩ = some (.slice y.A y.n y.c)) (by kernel_rfl) ?_
      refine wpAnyL_take (i := 0) (v := ?_) rfl (by kernel_rfl) (by kernel_rfl) (by kernel_rfl) (by kernel_rfl) (by kernel_rfl) (fun _ _ _ h => h) (Or.inl ⟨by kernel_rfl, ?_⟩) ⟨p0, p1, p2, p3, p4, r0, r1, r2, r3, r4⟩ ?_
      rotate_left
      · rintro w0 ⟨h1_, h2_, h3_, h4_, h5_, h6_, h7_, h8_, h9_, h10_⟩; go_simp; (try with_reducible rfl)
      try simp only [Act.put, List.getElem_toArray, List.getElem_cons_succ, List.getElem_cons_zero, List.setIfInBounds_toArray, List.set_cons_zero, List.set_cons_succ]
      refine wpAnyL_take (i := 1) (v := ?_) rfl (by kernel_rfl) (by kernel_rfl) (by kernel_rfl) (by kernel_rfl) (by kernel_rfl) (fun _ _ _ h => h) (Or.inl ⟨by kernel_rfl, ?_⟩) ⟨p0, p1, p2, p3, p4, r0, r1, r2, r3, r4⟩ ?_
      rotate_left
      · rintro w0 ⟨h1_, h2_, h3_, h4_, h5_, h6_, h7_, h8_, h9_, h10_⟩; go_simp; (try with_reducible rfl)
      try simp only [Act.put, List.getElem_toArray, List.getElem_cons_succ, List.getElem_cons_zero, List.setIfInBounds_toArray, List.set_cons_zero, List.set_cons_succ]
      refine wpAnyL_take (i := 2) (v := ?_) rfl (by kernel_rfl) (by kernel_rfl) (by kernel_rfl) (by kernel_rfl) (by kernel_rfl) (fun _ _ _ h => h) (Or.inl ⟨by kernel_rfl, ?_⟩) ⟨p0, p1, p2, p3, p4, r0, r1, r2, r3, r4⟩ ?_
      rotate_left
      · rintro w0 ⟨h1_, h2_, h3_, h4_, h5_, h6_, h7_, h8_, h9_, h10_⟩; go_simp; (try with_reducible rfl)
      try simp only [Act.put, List.getElem_toArray, List.getElem_cons_succ, List.getElem_cons_zero, List.setIfInBounds_toArray, List.set_cons_zero, List.set_cons_succ]
      refine wpAnyL_take (i := 3) (v := ?_) rfl (by kernel_rfl) (by kernel_rfl) (by kernel_rfl) (by kernel_rfl) (by kernel_rfl) (fun _ _ _ h => h) (Or.inl ⟨by kernel_rfl, ?_⟩) ⟨p0, p1, p2, p3, p4, r0, r1, r2, r3, r4⟩ ?_
      rotate_left
      · rintro w0 ⟨h1_, h2_, h3_, h4_, h5_, h6_, h7_, h8_, h9_, h10_⟩; go_simp; (try with_reducible rfl)
      try simp only [Act.put, List.getElem_toArray, List.getElem_cons_succ, List.getElem_cons_zero, List.setIfInBounds_toArray, List.set_cons_zero, List.set_cons_succ]
      refine wpAnyL_take (i := 4) (v := ?_) rfl (by kernel_rfl) (by kernel_rfl) (by kernel_rfl) (by kernel_rfl) (by kernel_rfl) (fun _ _ _ h => h) (Or.inl ⟨by kernel_rfl, ?_⟩) ⟨p0, p1, p2, p3, p4, r0, r1, r2, r3, r4⟩ ?_
      rotate_left
      · rintro w0 ⟨h1_, h2_, h3_, h4_, h5_, h6_, h7_, h8_, h9_, h10_⟩; go_simp; (try with_reducible rfl)
      try simp only [Act.put, List.getElem_toArray, List.getElem_cons_succ, List.getElem_cons_zero, List.setIfInBounds_toArray, List.set_cons_zero, List.set_cons_succ]
      refine wpAnyL_take (i := 5) (v := ?_) rfl (by kernel_rfl) (by kernel_rfl) (by kernel_rfl) (by kernel_rfl) (by kernel_rfl) (fun _ _ _ h => h) (Or.inl ⟨by kernel_rfl, ?_⟩) ⟨p0, p1, p2, p3, p4, r0, r1, r2, r3, r4⟩ ?_
      rotate_left
      · rintro w0 ⟨h1_, h2_, h3_, h4_, h5_, h6_, h7_, h8_, h9_, h10_⟩; go_simp; (try with_reducible rfl)
      try simp only [Act.put, List.getElem_toArray, List.getElem_cons_succ, List.getElem_cons_zero, List.setIfInBounds_toArray, List.set_cons_zero, List.set_cons_succ]
      refine wpAnyL_take (i := 6) (v := ?_) rfl (by kernel_rfl) (by kernel_rfl) (by kernel_rfl) (by kernel_rfl) (by kernel_rfl) (fun _ _ _ h => h) (Or.inl ⟨by kernel_rfl, ?_⟩) ⟨p0, p1, p2, p3, p4, r0, r1, r2, r3, r4⟩ ?_
      rotate_left
      · rintro w0 ⟨h1_, h2_, h3_, h4_, h5_, h6_, h7_, h8_, h9_, h10_⟩; go_simp; (try with_reducible rfl)
      try simp only [Act.put, List.getElem_toArray, List.getElem_cons_succ, List.getElem_cons_zero, List.setIfInBounds_toArray, List.set_cons_zero, List.set_cons_succ]
      refine wpAnyL_take (i := 7) (v := ?_) rfl (by kernel_rfl) (by kernel_rfl) (by kernel_rfl) (by kernel_rfl) (by kernel_rfl) (fun _ _ _ h => h) (Or.inl ⟨by kernel_rfl, ?_⟩) ⟨p0, p1, p2, p3, p4, r0, r1, r2, r3, r4⟩ ?_
      rotate_left
      · rintro w0 ⟨h1_, h2_, h3_, h4_, h5_, h6_, h7_, h8_, h9_, h10_⟩; go_simp; (try with_reducible rfl)
      try simp only [Act.put, List.getElem_toArray, List.getElem_cons_succ, List.getElem_cons_zero, List.setIfInBounds_toArray, List.set_cons_zero, List.set_cons_succ]
      refine wpAnyL_take (i := 8) (v := ?_) rfl (by kernel_rfl) (by kernel_rfl) (by kernel_rfl) (by kernel_rfl) (by kernel_rfl) (fun _ _ _ h => h) (Or.inl ⟨by kernel_rfl, ?_⟩) ⟨p0, p1, p2, p3, p4, r0, r1, r2, r3, r4⟩ ?_
      rotate_left
      · rintro w0 ⟨h1_, h2_, h3_, h4_, h5_, h6_, h7_, h8_, h9_, h10_⟩; go_simp; (try with_reducible rfl)
      try simp only [Act.put, List.getElem_toArray, List.getElem_cons_succ, List.getElem_cons_zero, List.setIfInBounds_toArray, List.set_cons_zero, List.set_cons_succ]
      refine wpAnyL_take (i := 9) (v := ?_) rfl (by kernel_rfl) (by kernel_rfl) (by kernel_rfl) (by kernel_rfl) (by kernel_rfl) (fun _ _ _ h => h) (Or.inl ⟨by kernel_rfl, ?_⟩) ⟨p0, p1, p2, p3, p4, r0, r1, r2, r3, r4⟩ ?_
      rotate_left
      · rintro w0 ⟨h1_, h2_, h3_, h4_, h5_, h6_, h7_, h8_, h9_, h10_⟩; go_simp; (try with_reducible rfl)
      try simp only [Act.put, List.getElem_toArray, List.getElem_cons_succ, List.getElem_cons_zero, List.setIfInBounds_toArray, List.set_cons_zero, List.set_cons_succ]
      refine wpAnyL_take (i := 10) (v := ?_) rfl (by kernel_rfl) (by kernel_rfl) (by kernel_rfl) (by kernel_rfl) (by kernel_rfl) (fun _ _ _ h => h) (Or.inl ⟨by kernel_rfl, ?_⟩) ⟨p0, p1, p2, p3, p4, r0, r1, r2, r3, r4⟩ ?_
      rotate_left
      · rintro w0 ⟨h1_, h2_, h3_, h4_, h5_, h6_, h7_, h8_, h9_, h10_⟩; go_simp; (try with_reducible rfl)
      try simp only [Act.put, List.getElem_toArray, List.getElem_cons_succ, List.getElem_cons_zero, List.setIfInBounds_toArray, List.set_cons_zero, List.set_cons_succ]
      refine wpAnyL_take (i := 11) (v := ?_) rfl (by kernel_rfl) (by kernel_rfl) (by kernel_rfl) (by kernel_rfl) (by kernel_rfl) (fun _ _ _ h => h) (Or.inl ⟨by kernel_rfl, ?_⟩) ⟨p0, p1, p2, p3, p4, r0, r1, r2, r3, r4⟩ ?_
      rotate_left
      · rintro w0 ⟨h1_, h2_, h3_, h4_, h5_, h6_, h7_, h8_, h9_, h10_⟩; go_simp; (try with_reducible rfl)
      try simp only [Act.put, List.getElem_toArray, List.getElem_cons_succ, List.getElem_cons_zero, List.setIfInBounds_toArray, List.set_cons_zero, List.set_cons_succ]
      refine wpAnyL_take (i := 12) (v := ?_) rfl (by kernel_rfl) (by kernel_rfl) (by kernel_rfl) (by kernel_rfl) (by kernel_rfl) (fun _ _ _ h => h) (Or.inl ⟨by kernel_rfl, ?_⟩) ⟨p0, p1, p2, p3, p4, r0, r1, r2, r3, r4⟩ ?_
      rotate_left
      · rintro w0 ⟨h1_, h2_, h3_, h4_, h5_, h6_, h7_, h8_, h9_, h10_⟩; go_simp; (try with_reducible rfl)
      try simp only [Act.put, List.getElem_toArray, List.getElem_cons_succ, List.getElem_cons_zero, List.setIfInBounds_toArray, List.set_cons_zero, List.set_cons_succ]
      refine wpAnyL_take (i := 13) (v := ?_) rfl (by kernel_rfl) (by kernel_rfl) (by kernel_rfl) (by kernel_rfl) (by kernel_rfl) (fun _ _ _ h => h) (Or.inl ⟨by kernel_rfl, ?_⟩) ⟨p0, p1, p2, p3, p4, r0, r1, r2, r3, r4⟩ ?_
      rotate_left
      · rintro w0 ⟨h1_, h2_, h3_, h4_, h5_, h6_, h7_, h8_, h9_, h10_⟩; go_simp; (try with_reducible rfl)
      try simp only [Act.put, List.getElem_toArray, List.getElem_cons_succ, List.getElem_cons_zero, List.setIfInBounds_toArray, List.set_cons_zero, List.set_cons_succ]
      refine wpAnyL_take (i := 14) (v := ?_) rfl (by kernel_rfl) (by kernel_rfl) (by kernel_rfl) (by kernel_rfl) (by kernel_rfl) (fun _ _ _ h => h) (Or.inl ⟨by kernel_rfl, ?_⟩) ⟨p0, p1, p2, p3, p4, r0, r1, r2, r3, r4⟩ ?_
      rotate_left
      · rintro w0 ⟨h1_, h2_, h3_, h4_, h5_, h6_, h7_, h8_, h9_, h10_⟩; go_simp; (try with_reducible rfl)
      try simp only [Act.put, List.getElem_toArray, List.getElem_cons_succ, List.getElem_cons_zero, List.setIfInBounds_toArray, List.set_cons_zero, List.set_cons_succ]
      refine wpAnyL_take (i := 15) (v := ?_) rfl (by kernel_rfl) (by kernel_rfl) (by kernel_rfl) (by kernel_rfl) (by kernel_rfl) (fun _ _ _ h => h) (Or.inl ⟨by kernel_rfl, ?_⟩) ⟨p0, p1, p2, p3, p4, r0, r1, r2, r3, r4⟩ ?_
      rotate_left
      · rintro w0 ⟨h1_, h2_, h3_, h4_, h5_, h6_, h7_, h8_, h9_, h10_⟩; go_simp; (try with_reducible rfl)
      try simp only [Act.put, List.getElem_toArray, List.getElem_cons_succ, List.getElem_cons_zero, List.setIfInBounds_toArray, List.set_cons_zero, List.set_cons_succ]
      refine wpAnyL_take (i := 16) (v := ?_) rfl (by kernel_rfl) (by kernel_rfl) (by kernel_rfl) (by kernel_rfl) (by kernel_rfl) (fun _ _ _ h => h) (Or.inl ⟨by kernel_rfl, ?_⟩) ⟨p0, p1, p2, p3, p4, r0, r1, r2, r3, r4⟩ ?_
      rotate_left
      · rintro w0 ⟨h1_, h2_, h3_, h4_, h5_, h6_, h7_, h8_, h9_, h10_⟩; go_simp; (try with_reducible rfl)
      try simp only [Act.put, List.getElem_toArray, List.getElem_cons_succ, List.getElem_cons_zero, List.setIfInBounds_toArray, List.set_cons_zero, List.set_cons_succ]
      refine wpAnyL_take (i := 17) (v := ?_) rfl (by kernel_rfl) (by kernel_rfl) (by kernel_rfl) (by kernel_rfl) (by kernel_rfl) (fun _ _ _ h => h) (Or.inl ⟨by kernel_rfl, ?_⟩) ⟨p0, p1, p2, p3, p4, r0, r1, r2, r3, r4⟩ ?_
      rotate_left
      · rintro w0 ⟨h1_, h2_, h3_, h4_, h5_, h6_, h7_, h8_, h9_, h10_⟩; go_simp; (try with_reducible rfl)
      try simp only [Act.put, List.getElem_toArray, List.getElem_cons_succ, List.getElem_cons_zero, List.setIfInBounds_toArray, List.set_cons_zero, List.set_cons_succ]
      refine wpAnyL_take (i := 18) (v := ?_) rfl (by kernel_rfl) (by kernel_rfl) (by kernel_rfl) (by kernel_rfl) (by kernel_rfl) (fun _ _ _ h => h) (Or.inl ⟨by kernel_rfl, ?_⟩) ⟨p0, p1, p2, p3, p4, r0, r1, r2, r3, r4⟩ ?_
      rotate_left
      · rintro w0 ⟨h1_, h2_, h3_, h4_, h5_, h6_, h7_, h8_, h9_, h10_⟩; go_simp; (try with_reducible rfl)
      try simp only [Act.put, List.getElem_toArray, List.getElem_cons_succ, List.getElem_cons_zero, List.setIfInBounds_toArray, List.set_cons_zero, List.set_cons_succ]
      refine wpAnyL_take (i := 19) (v := ?_) rfl (by kernel_rfl) (by kernel_rfl) (by kernel_rfl) (by kernel_rfl) (by kernel_rfl) (fun _ _ _ h => h) (Or.inl ⟨by kernel_rfl, ?_⟩) ⟨p0, p1, p2, p3, p4, r0, r1, r2, r3, r4⟩ ?_
      rotate_left
      · rintro w0 ⟨h1_, h2_, h3_, h4_, h5_, h6_, h7_, h8_, h9_, h10_⟩; go_simp; (try with_reducible rfl)
      try simp only [Act.put, List.getElem_toArray, List.getElem_cons_succ, List.getElem_cons_zero, List.setIfInBounds_toArray, List.set_cons_zero, List.set_cons_succ]
      refine wpAnyL_take (i := 20) (v := ?_) rfl (by kernel_rfl) (by kernel_rfl) (by kernel_rfl) (by kernel_rfl) (by kernel_rfl) (fun _ _ _ h => h) (Or.inl ⟨by kernel_rfl, ?_⟩) ⟨p0, p1, p2, p3, p4, r0, r1, r2, r3, r4⟩ ?_
      rotate_left
      · rintro w0 ⟨h1_, h2_, h3_, h4_, h5_, h6_, h7_, h8_, h9_, h10_⟩; go_simp; (try with_reducible rfl)
      try simp only [Act.put, List.getElem_toArray, List.getElem_cons_succ, List.getElem_cons_zero, List.setIfInBounds_toArray, List.set_cons_zero, List.set_cons_succ]
      refine wpAnyL_take (i := 21) (v := ?_) rfl (by kernel_rfl) (by kernel_rfl) (by kernel_rfl) (by kernel_rfl) (by kernel_rfl) (fun _ _ _ h => h) (Or.inl ⟨by kernel_rfl, ?_⟩) ⟨p0, p1, p2, p3, p4, r0, r1, r2, r3, r4⟩ ?_
      rotate_left
      · rintro w0 ⟨h1_, h2_, h3_, h4_, h5_, h6_, h7_, h8_, h9_, h10_⟩; go_simp; (try with_reducible rfl)
      try simp only [Act.put, List.getElem_toArray, List.getElem_cons_succ, List.getElem_cons_zero, List.setIfInBounds_toArray, List.set_cons_zero, List.set_cons_succ]
      refine wpAnyL_take (i := 22) (v := ?_) rfl (by kernel_rfl) (by kernel_rfl) (by kernel_rfl) (by kernel_rfl) (by kernel_rfl) (fun _ _ _ h => h) (Or.inl ⟨by kernel_rfl, ?_⟩) ⟨p0, p1, p2, p3, p4, r0, r1, r2, r3, r4⟩ ?_
      rotate_left
      · rintro w0 ⟨h1_, h2_, h3_, h4_, h5_, h6_, h7_, h8_, h9_, h10_⟩; go_simp; (try with_reducible rfl)
      try simp only [Act.put, List.getElem_toArray, List.getElem_cons_succ, List.getElem_cons_zero, List.setIfInBounds_toArray, List.set_cons_zero, List.set_cons_succ]
      refine wpAnyL_take (i := 23) (v := ?_) rfl (by kernel_rfl) (by kernel_rfl) (by kernel_rfl) (by kernel_rfl) (by kernel_rfl) (fun _ _ _ h => h) (Or.inl ⟨by kernel_rfl, ?_⟩) ⟨p0, p1, p2, p3, p4, r0, r1, r2, r3, r4⟩ ?_
      rotate_left
      · rintro w0 ⟨h1_, h2_, h3_, h4_, h5_, h6_, h7_, h8_, h9_, h10_⟩; go_simp; (try with_reducible rfl)
      try simp only [Act.put, List.getElem_toArray, List.getElem_cons_succ, List.getElem_cons_zero, List.setIfInBounds_toArray, List.set_cons_zero, List.set_cons_succ]
      refine wpAnyL_take (i := 24) (v := ?_) rfl (by kernel_rfl) (by kernel_rfl) (by kernel_rfl) (by kernel_rfl) (by kernel_rfl) (fun _ _ _ h => h) (Or.inl ⟨by kernel_rfl, ?_⟩) ⟨p0, p1, p2, p3, p4, r0, r1, r2, r3, r4⟩ ?_
      rotate_left
      · rintro w0 ⟨h1_, h2_, h3_, h4_, h5_, h6_, h7_, h8_, h9_, h10_⟩; go_simp; (try with_reducible rfl)
      try simp only [Act.put, List.getElem_toArray, List.getElem_cons_succ, List.getElem_cons_zero, List.setIfInBounds_toArray, List.set_cons_zero, List.set_cons_succ]
      refine wpAnyL_take (i := 25) (v := undef) rfl (by kernel_rfl) (by kernel_rfl) (by kernel_rfl) (by kernel_rfl) (by kernel_rfl) (fun _ _ _ h => h) (Or.inr ⟨by kernel_rfl, rfl⟩) ⟨p0, p1, p2, p3, p4, r0, r1, r2, r3, r4⟩ ?_
      try simp only [Act.put, List.getElem_toArray, List.getElem_cons_succ, List.getElem_cons_zero, List.setIfInBounds_toArray, List.set_cons_zero, List.set_cons_succ]
      refine wpAnyL_take (i := 26) (v := undef) rfl (by kernel_rfl) (by kernel_rfl) (by kernel_rfl) (by kernel_rfl) (by kernel_rfl) (fun _ _ _ h => h) (Or.inr ⟨by kernel_rfl, rfl⟩) ⟨p0, p1, p2, p3, p4, r0, r1, r2, r3, r4⟩ ?_
      try simp only [Act.put, List.getElem_toArray, List.getElem_cons_succ, List.getElem_cons_zero, List.setIfInBounds_toArray, List.set_cons_zero, List.set_cons_succ]
      refine wpAnyL_take (i := 27) (v := undef) rfl (by kernel_rfl) (by kernel_rfl) (by kernel_rfl) (by kernel_rfl) (by kernel_rfl) (fun _ _ _ h => h) (Or.inr ⟨by kernel_rfl, rfl⟩) ⟨p0, p1, p2, p3, p4, r0, r1, r2, r3, r4⟩ ?_
      try simp only [Act.put, List.getElem_toArray, List.getElem_cons_succ, List.getElem_cons_zero, List.setIfInBounds_toArray, List.set_cons_zero, List.set_cons_succ]
      refine wpAnyL_take (i := 28) (v := undef) rfl (by kernel_rfl) (by kernel_rfl) (by kernel_rfl) (by kernel_rfl) (by kernel_rfl) (fun _ _ _ h => h) (Or.inr ⟨by kernel_rfl, rfl⟩) ⟨p0, p1, p2, p3, p4, r0, r1, r2, r3, r4⟩ ?_
      try simp only [Act.put, List.getElem_toArray, List.getElem_cons_succ, List.getElem_cons_zero, List.setIfInBounds_toArray, List.set_cons_zero, List.set_cons_succ]
      refine wpAnyL_take (i := 29) (v := undef) rfl (by kernel_rfl) (by kernel_rfl) (by kernel_rfl) (by kernel_rfl) (by kernel_rfl) (fun _ _ _ h => h) (Or.inr ⟨by kernel_rfl, rfl⟩) ⟨p0, p1, p2, p3, p4, r0, r1, r2, r3, r4⟩ ?_
      try simp only [Act.put, List.getElem_toArray, List.getElem_cons_succ, List.getElem_cons_zero, List.setIfInBounds_toArray, List.set_cons_zero, List.set_cons_succ]
      refine wpAnyL_take (i := 30) (v := undef) rfl (by kernel_rfl) (by kernel_rfl) (by kernel_rfl) (by kernel_rfl) (by kernel_rfl) (fun _ _ _ h => h) (Or.inr ⟨by kernel_rfl, rfl⟩) ⟨p0, p1, p2, p3, p4, r0, r1, r2, r3, r4⟩ ?_
      try simp only [Act.put, List.getElem_toArray, List.getElem_cons_succ, List.getElem_cons_zero, List.setIfInBounds_toArray, List.set_cons_zero, List.set_cons_succ]
      refine wpAnyL_take (i := 31) (v := undef) rfl (by kernel_rfl) (by kernel_rfl) (by kernel_rfl) (by kernel_rfl) (by kernel_rfl) (fun _ _ _ h => h) (Or.inr ⟨by kernel_rfl, rfl⟩) ⟨p0, p1, p2, p3, p4, r0, r1, r2, r3, r4⟩ ?_
      try simp only [Act.put, List.getElem_toArray, List.getElem_cons_succ, List.getElem_cons_zero, List.setIfInBounds_toArray, List.set_cons_zero, List.set_cons_succ]
      refine wpAnyL_take (i := 32) (v := undef) rfl (by kernel_rfl) (by kernel_rfl) (by kernel_rfl) (by kernel_rfl) (by kernel_rfl) (fun _ _ _ h => h) (Or.inr ⟨by kernel_rfl, rfl⟩) ⟨p0, p1, p2, p3, p4, r0, r1, r2, r3, r4⟩ ?_
      try simp only [Act.put, List.getElem_toArray, List.getElem_cons_succ, List.getElem_cons_zero, List.setIfInBounds_toArray, List.set_cons_zero, List.set_cons_succ]
      refine wpAnyL_take (i := 33) (v := undef) rfl (by kernel_rfl) (by kernel_rfl) (by kernel_rfl) (by kernel_rfl) (by kernel_rfl) (fun _ _ _ h => h) (Or.inr ⟨by kernel_rfl, rfl⟩) ⟨p0, p1, p2, p3, p4, r0, r1, r2, r3, r4⟩ ?_
      try simp only [Act.put, List.getElem_toArray, List.getElem_cons_succ, List.getElem_cons_zero, List.setIfInBounds_toArray, List.set_cons_zero, List.set_cons_succ]
      refine wpAnyL_take (i := 34) (v := undef) rfl (by kernel_rfl) (by kernel_rfl) (by kernel_rfl) (by kernel_rfl) (by kernel_rfl) (fun _ _ _ h => h) (Or.inr ⟨by kernel_rfl, rfl⟩) ⟨p0, p1, p2, p3, p4, r0, r1, r2, r3, r4⟩ ?_
      try simp only [Act.put, List.getElem_toArray, List.getElem_cons_succ, List.getElem_cons_zero, List.setIfInBounds_toArray, List.set_cons_zero, List.set_cons_succ]
      refine wpAnyL_take (i := 35) (v := undef) rfl (by kernel_rfl) (by kernel_rfl) (by kernel_rfl) (by kernel_rfl) (by kernel_rfl) (fun _ _ _ h => h) (Or.inr ⟨by kernel_rfl, rfl⟩) ⟨p0, p1, p2, p3, p4, r0, r1, r2, r3, r4⟩ ?_
      try simp only [Act.put, List.getElem_toArray, List.getElem_cons_succ, List.getElem_cons_zero, List.setIfInBounds_toArray, List.set_cons_zero, List.set_cons_succ]
      refine wpAnyL_take (i := 36) (v := ?_) rfl (by kernel_rfl) (by kernel_rfl) (by kernel_rfl) (by kernel_rfl) (by kernel_rfl) (fun _ _ _ h => h) (Or.inl ⟨by kernel_rfl, ?_⟩) ⟨p0, p1, p2, p3, p4, r0, r1, r2, r3, r4⟩ ?_
      rotate_left
      · rintro w0 ⟨h1_, h2_, h3_, h4_, h5_, h6_, h7_, h8_, h9_, h10_⟩; go_simp; (try with_reducible rfl)
      try simp only [Act.put, List.getElem_toArray, List.getElem_cons_succ, List.getElem_cons_zero, List.setIfInBounds_toArray, List.set_cons_zero, List.set_cons_succ]
      refine wpAnyL_take (i := 37) (v := ?_) rfl (by kernel_rfl) (by kernel_rfl) (by kernel_rfl) (by kernel_rfl) (by kernel_rfl) (fun _ _ _ h => h) (Or.inl ⟨by kernel_rfl, ?_⟩) ⟨p0, p1, p2, p3, p4, r0, r1, r2, r3, r4⟩ ?_
      rotate_left
      · rintro w0 ⟨h1_, h2_, h3_, h4_, h5_, h6_, h7_, h8_, h9_, h10_⟩; go_simp; (try with_reducible rfl)
      try simp only [Act.put, List.getElem_toArray, List.getElem_cons_succ, List.getElem_cons_zero, List.setIfInBounds_toArray, List.set_cons_zero, List.set_cons_succ]
      refine wpAnyL_take (i := 38) (v := undef) rfl (by kernel_rfl) (by kernel_rfl) (by kernel_rfl) (by kernel_rfl) (by kernel_rfl) (fun _ _ _ h => h) (Or.inr ⟨by kernel_rfl, rfl⟩) ⟨p0, p1, p2, p3, p4, r0, r1, r2, r3, r4⟩ ?_
      try simp only [Act.put, List.getElem_toArray, List.getElem_cons_succ, List.getElem_cons_zero, List.setIfInBounds_toArray, List.set_cons_zero, List.set_cons_succ]
      refine wpAnyL_take (i := 39) (v := undef) rfl (by kernel_rfl) (by kernel_rfl) (by kernel_rfl) (by kernel_rfl) (by kernel_rfl) (fun _ _ _ h => h) (Or.inr ⟨by kernel_rfl, rfl⟩) ⟨p0, p1, p2, p3, p4, r0, r1, r2, r3, r4⟩ ?_
      try simp only [Act.put, List.getElem_toArray, List.getElem_cons_succ, List.getElem_cons_zero, List.setIfInBounds_toArray, List.set_cons_zero, List.set_cons_succ]
      refine wpAnyL_take (i := 40) (v := undef) rfl (by kernel_rfl) (by kernel_rfl) (by kernel_rfl) (by kernel_rfl) (by kernel_rfl) (fun _ _ _ h => h) (Or.inr ⟨by kernel_rfl, rfl⟩) ⟨p0, p1, p2, p3, p4, r0, r1, r2, r3, r4⟩ ?_
      try simp only [Act.put, List.getElem_toArray, List.getElem_cons_succ, List.getElem_cons_zero, List.setIfInBounds_toArray, List.set_cons_zero, List.set_cons_succ]
      refine wpAnyL_take (i := 41) (v := undef) rfl (by kernel_rfl) (by kernel_rfl) (by kernel_rfl) (by kernel_rfl) (by kernel_rfl) (fun _ _ _ h => h) (Or.inr ⟨by kernel_rfl, rfl⟩) ⟨p0, p1, p2, p3, p4, r0, r1, r2, r3, r4⟩ ?_
      try simp only [Act.put, List.getElem_toArray, List.getElem_cons_succ, List.getElem_cons_zero, List.setIfInBounds_toArray, List.set_cons_zero, List.set_cons_succ]
      refine wpAnyL_take (i := 42) (v := undef) rfl (by kernel_rfl) (by kernel_rfl) (by kernel_rfl) (by kernel_rfl) (by kernel_rfl) (fun _ _ _ h => h) (Or.inr ⟨by kernel_rfl, rfl⟩) ⟨p0, p1, p2, p3, p4, r0, r1, r2, r3, r4⟩ ?_
      try simp only [Act.put, List.getElem_toArray, List.getElem_cons_succ, List.getElem_cons_zero, List.setIfInBounds_toArray, List.set_cons_zero, List.set_cons_succ]
      refine wpAnyL_take (i := 43) (v := undef) rfl (by kernel_rfl) (by kernel_rfl) (by kernel_rfl) (by kernel_rfl) (by kernel_rfl) (fun _ _ _ h => h) (Or.inr ⟨by kernel_rfl, rfl⟩) ⟨p0, p1, p2, p3, p4, r0, r1, r2, r3, r4⟩ ?_
      try simp only [Act.put, List.getElem_toArray, List.getElem_cons_succ, List.getElem_cons_zero, List.setIfInBounds_toArray, List.set_cons_zero, List.set_cons_succ]
      refine wpAnyL_take (i := 44) (v := undef) rfl (by kernel_rfl) (by kernel_rfl) (by kernel_rfl) (by kernel_rfl) (by kernel_rfl) (fun _ _ _ h => h) (Or.inr ⟨by kernel_rfl, rfl⟩) ⟨p0, p1, p2, p3, p4, r0, r1, r2, r3, r4⟩ ?_
      try simp only [Act.put, List.getElem_toArray, List.getElem_cons_succ, List.getElem_cons_zero, List.setIfInBounds_toArray, List.set_cons_zero, List.set_cons_succ]
      refine wpAnyL_take (i := 45) (v := undef) rfl (by kernel_rfl) (by kernel_rfl) (by kernel_rfl) (by kernel_rfl) (by kernel_rfl) (fun _ _ _ h => h) (Or.inr ⟨by kernel_rfl, rfl⟩) ⟨p0, p1, p2, p3, p4, r0, r1, r2, r3, r4⟩ ?_
      try simp only [Act.put, List.getElem_toArray, List.getElem_cons_succ, List.getElem_cons_zero, List.setIfInBounds_toArray, List.set_cons_zero, List.set_cons_succ]
      refine wpAnyL_take (i := 46) (v := undef) rfl (by kernel_rfl) (by kernel_rfl) (by kernel_rfl) (by kernel_rfl) (by kernel_rfl) (fun _ _ _ h => h) (Or.inr ⟨by kernel_rfl, rfl⟩) ⟨p0, p1, p2, p3, p4, r0, r1, r2, r3, r4⟩ ?_
      try simp only [Act.put, List.getElem_toArray, List.getElem_cons_succ, List.getElem_cons_zero, List.setIfInBounds_toArray, List.set_cons_zero, List.set_cons_succ]
      refine wpAnyL_take (i := 47) (v := undef) rfl (by kernel_rfl) (by kernel_rfl) (by kernel_rfl) (by kernel_rfl) (by kernel_rfl) (fun _ _ _ h => h) (Or.inr ⟨by kernel_rfl, rfl⟩) ⟨p0, p1, p2, p3, p4, r0, r1, r2, r3, r4⟩ ?_
      try simp only [Act.put, List.getElem_toArray, List.getElem_cons_succ, List.getElem_cons_zero, List.setIfInBounds_toArray, List.set_cons_zero, List.set_cons_succ]
      refine wpAnyL_take (i := 48) (v := undef) rfl (by kernel_rfl) (by kernel_rfl) (by kernel_rfl) (by kernel_rfl) (by kernel_rfl) (fun _ _ _ h => h) (Or.inr ⟨by kernel_rfl, rfl⟩) ⟨p0, p1, p2, p3, p4, r0, r1, r2, r3, r4⟩ ?_
      try simp only [Act.put, List.getElem_toArray, List.getElem_cons_succ, List.getElem_cons_zero, List.setIfInBounds_toArray, List.set_cons_zero, List.set_cons_succ]
      refine wpAnyL_take (i := 49) (v := ?_) rfl (by kernel_rfl) (by kernel_rfl) (by kernel_rfl) (by kernel_rfl) (by kernel_rfl) (fun _ _ _ h => h) (Or.inl ⟨by kernel_rfl, ?_⟩) ⟨p0, p1, p2, p3, p4, r0, r1, r2, r3, r4⟩ ?_
      rotate_left
      · rintro w0 ⟨h1_, h2_, h3_, h4_, h5_, h6_, h7_, h8_, h9_, h10_⟩; go_simp; (try with_reducible rfl)
      try simp only [Act.put, List.getElem_toArray, List.getElem_cons_succ, List.getElem_cons_zero, List.setIfInBounds_toArray, List.set_cons_zero, List.set_cons_succ]
      refine wpAnyL_take (i := 50) (v := ?_) rfl (by kernel_rfl) (by kernel_rfl) (by kernel_rfl) (by kernel_rfl) (by kernel_rfl) (fun _ _ _ h => h) (Or.inl ⟨by kernel_rfl, ?_⟩) ⟨p0, p1, p2, p3, p4, r0, r1, r2, r3, r4⟩ ?_
      rotate_left
      · rintro w0 ⟨h1_, h2_, h3_, h4_, h5_, h6_, h7_, h8_, h9_, h10_⟩; go_simp; (try with_reducible rfl)
      try simp only [Act.put, List.getElem_toArray, List.getElem_cons_succ, List.getElem_cons_zero, List.setIfInBounds_toArray, List.set_cons_zero, List.set_cons_succ]
      refine wpAnyL_take (i := 51) (v := undef) rfl (by kernel_rfl) (by kernel_rfl) (by kernel_rfl) (by kernel_rfl) (by kernel_rfl) (fun _ _ _ h => h) (Or.inr ⟨by kernel_rfl, rfl⟩) ⟨p0, p1, p2, p3, p4, r0, r1, r2, r3, r4⟩ ?_
      try simp only [Act.put, List.getElem_toArray, List.getElem_cons_succ, List.getElem_cons_zero, List.setIfInBounds_toArray, List.set_cons_zero, List.set_cons_succ]
      refine wpAnyL_take (i := 52) (v := undef) rfl (by kernel_rfl) (by kernel_rfl) (by kernel_rfl) (by kernel_rfl) (by kernel_rfl) (fun _ _ _ h => h) (Or.inr ⟨by kernel_rfl, rfl⟩) ⟨p0, p1, p2, p3, p4, r0, r1, r2, r3, r4⟩ ?_
      try simp only [Act.put, List.getElem_toArray, List.getElem_cons_succ, List.getElem_cons_zero, List.setIfInBounds_toArray, List.set_cons_zero, List.set_cons_succ]
      refine wpAnyL_take (i := 53) (v := undef) rfl (by kernel_rfl) (by kernel_rfl) (by kernel_rfl) (by kernel_rfl) (by kernel_rfl) (fun _ _ _ h => h) (Or.inr ⟨by kernel_rfl, rfl⟩) ⟨p0, p1, p2, p3, p4, r0, r1, r2, r3, r4⟩ ?_
      try simp only [Act.put, List.getElem_toArray, List.getElem_cons_succ, List.getElem_cons_zero, List.setIfInBounds_toArray, List.set_cons_zero, List.set_cons_succ]
      refine wpAnyL_take (i := 54) (v := undef) rfl (by kernel_rfl) (by kernel_rfl) (by kernel_rfl) (by kernel_rfl) (by kernel_rfl) (fun _ _ _ h => h) (Or.inr ⟨by kernel_rfl, rfl⟩) ⟨p0, p1, p2, p3, p4, r0, r1, r2, r3, r4⟩ ?_
      try simp only [Act.put, List.getElem_toArray, List.getElem_cons_succ, List.getElem_cons_zero, List.setIfInBounds_toArray, List.set_cons_zero, List.set_cons_succ]
      refine wpAnyL_take (i := 55) (v := undef) rfl (by kernel_rfl) (by kernel_rfl) (by kernel_rfl) (by kernel_rfl) (by kernel_rfl) (fun _ _ _ h => h) (Or.inr ⟨by kernel_rfl, rfl⟩) ⟨p0, p1, p2, p3, p4, r0, r1, r2, r3, r4⟩ ?_
      try simp only [Act.put, List.getElem_toArray, List.getElem_cons_succ, List.getElem_cons_zero, List.setIfInBounds_toArray, List.set_cons_zero, List.set_cons_succ]
      refine wpAnyL_take (i := 56) (v := undef) rfl (by kernel_rfl) (by kernel_rfl) (by kernel_rfl) (by kernel_rfl) (by kernel_rfl) (fun _ _ _ h => h) (Or.inr ⟨by kernel_rfl, rfl⟩) ⟨p0, p1, p2, p3, p4, r0, r1, r2, r3, r4⟩ ?_
      try simp only [Act.put, List.getElem_toArray, List.getElem_cons_succ, List.getElem_cons_zero, List.setIfInBounds_toArray, List.set_cons_zero, List.set_cons_succ]
      refine wpAnyL_take (i := 57) (v := undef) rfl (by kernel_rfl) (by kernel_rfl) (by kernel_rfl) (by kernel_rfl) (by kernel_rfl) (fun _ _ _ h => h) (Or.inr ⟨by kernel_rfl, rfl⟩) ⟨p0, p1, p2, p3, p4, r0, r1, r2, r3, r4⟩ ?_
      try simp only [Act.put, List.getElem_toArray, List.getElem_cons_succ, List.getElem_cons_zero, List.setIfInBounds_toArray, List.set_cons_zero, List.set_cons_succ]
      refine wpAnyL_take (i := 58) (v := undef) rfl (by kernel_rfl) (by kernel_rfl) (by kernel_rfl) (by kernel_rfl) (by kernel_rfl) (fun _ _ _ h => h) (Or.inr ⟨by kernel_rfl, rfl⟩) ⟨p0, p1, p2, p3, p4, r0, r1, r2, r3, r4⟩ ?_
      try simp only [Act.put, List.getElem_toArray, List.getElem_cons_succ, List.getElem_cons_zero, List.setIfInBounds_toArray, List.set_cons_zero, List.set_cons_succ]
      refine wpAnyL_take (i := 59) (v := undef) rfl (by kernel_rfl) (by kernel_rfl) (by kernel_rfl) (by kernel_rfl) (by kernel_rfl) (fun _ _ _ h => h) (Or.inr ⟨by kernel_rfl, rfl⟩) ⟨p0, p1, p2, p3, p4, r0, r1, r2, r3, r4⟩ ?_
      try simp only [Act.put, List.getElem_toArray, List.getElem_cons_succ, List.getElem_cons_zero, List.setIfInBounds_toArray, List.set_cons_zero, List.set_cons_succ]
      refine wpAnyL_take (i := 60) (v := undef) rfl (by kernel_rfl) (by kernel_rfl) (by kernel_rfl) (by kernel_rfl) (by kernel_rfl) (fun _ _ _ h => h) (Or.inr ⟨by kernel_rfl, rfl⟩) ⟨p0, p1, p2, p3, p4, r0, r1, r2, r3, r4⟩ ?_
      try simp only [Act.put, List.getElem_toArray, List.getElem_cons_succ, List.getElem_cons_zero, List.setIfInBounds_toArray, List.set_cons_zero, List.set_cons_succ]
      refine wpAnyL_one (i := 61) (by kernel_rfl) rfl (fun K hK => ?_)
      rw [if_neg (Bool.eq_false_iff.1 (by kernel_rfl))]
      refine hK.out _ _ (fun _ => ⟨p0, p1, p2, p3, p4, r0, r1, r2, r3, r4⟩) ?_
      clear hK K
      try simp only [Act.put, List.getElem_toArray, List.getElem_cons_succ, List.getElem_cons_zero, List.setIfInBounds_toArray, List.set_cons_zero, List.set_cons_succ]
      refine wpAnyL_take (i := 62) (v := undef) rfl (by kernel_rfl) (by kernel_rfl) (by kernel_rfl) (by kernel_rfl) (by kernel_rfl) (fun _ _ _ h => h) (Or.inr ⟨by kernel_rfl, rfl⟩) ⟨p0, p1, p2, p3, p4, r0, r1, r2, r3, r4⟩ ?_
      try simp only [Act.put, List.getElem_toArray, List.getElem_cons_succ, List.getElem_cons_zero, List.setIfInBounds_toArray, List.set_cons_zero, List.set_cons_succ]
      refine wpAnyL_take (i := 63) (v := ?_) rfl (by kernel_rfl) (by kernel_rfl) (by kernel_rfl) (by kernel_rfl) (by kernel_rfl) (fun _ _ _ h => h) (Or.inl ⟨by kernel_rfl, ?_⟩) ⟨p0, p1, p2, p3, p4, r0, r1, r2, r3, r4⟩ ?_
      rotate_left
      · rintro w0 ⟨h1_, h2_, h3_, h4_, h5_, h6_, h7_, h8_, h9_, h10_⟩; go_simp; (try with_reducible rfl)
      try simp only [Act.put, List.getElem_toArray, List.getElem_cons_succ, List.getElem_cons_zero, List.setIfInBounds_toArray, List.set_cons_zero, List.set_cons_succ]
      refine wpAnyL_done (by kernel_rfl) ?_ _
      go_wp2_with fail
      go_ret
      exact ⟨⟨q + 1, rfl⟩, by rw [HN.out]; rfl⟩
    have t1 := u32_eq h1
    have K1 := Lib.hid h1
    clear h1
    by_cases h2 : x.x.part = y.x.part
    case neg =>
      have t2 := int_ne h2
      have HN := Lib.hid (HH.out.1 (fun e => h2 (by rw [e])))
      clear h2
      go_wp2_with fail
      refine wp_region_late [] (fun w' => w'.cell? ⟨b, o + j * 5, none⟩ = some (.int .u32 (x.x.gen : Int)) ∧ w'.cell? ⟨b, o + j * 5 + 1, none⟩ = some (.int .u32 (x.x.seq : Int)) ∧ w'.cell? ⟨b, o + j * 5 + 2, none⟩ = some (.int .i64 x.x.part) ∧ w'.cell? ⟨b, o + j * 5 + 3, none⟩ = some (.int .i64 x.x.parts) ∧ w'.cell? ⟨b, o + j * 5 + 4, none⟩ = some (.slice x.A x.n x.c) ∧ w'.cell? ⟨b', o' + j * 5, none⟩ = some (.int .u32 (y.x.gen : Int)) ∧ w'.cell? ⟨b', o' + j * 5 + 1, none⟩ = some (.int .u32 (y.x.seq : Int)) ∧ w'.cell? ⟨b', o' + j * 5 + 2, none⟩ = some (.int .i64 y.x.part) ∧ w'.cell? ⟨b', o' + j * 5 + 3, none⟩ = some (.int .i64 y.x.parts) ∧ w'.cell? ⟨b', o' + j * 5 + 4, none⟩ = some (.slice y.A y.n y.c)) (by kernel_rfl) ?_
      refine wpAnyL_take (i := 0) (v := ?_) rfl (by kernel_rfl) (by kernel_rfl) (by kernel_rfl) (by kernel_rfl) (by kernel_rfl) (fun _ _ _ h => h) (Or.inl ⟨by kernel_rfl, ?_⟩) ⟨p0, p1, p2, p3, p4, r0, r1, r2, r3, r4⟩ ?_
      rotate_left
      · rintro w0 ⟨h1_, h2_, h3_, h4_, h5_, h6_, h7_, h8_, h9_, h10_⟩; go_simp; (try with_reducible rfl)
      try simp only [Act.put, List.getElem_toArray, List.getElem_cons_succ, List.getElem_cons_zero, List.setIfInBounds_toArray, List.set_cons_zero, List.set_cons_succ]
      refine wpAnyL_take (i := 1) (v := ?_) rfl (by kernel_rfl) (by kernel_rfl) (by kernel_rfl) (by kernel_rfl) (by kernel_rfl) (fun _ _ _ h => h) (Or.inl ⟨by kernel_rfl, ?_⟩) ⟨p0, p1, p2, p3, p4, r0, r1, r2, r3, r4⟩ ?_
      rotate_left
      · rintro w0 ⟨h1_, h2_, h3_, h4_, h5_, h6_, h7_, h8_, h9_, h10_⟩; go_simp; (try with_reducible rfl)
      try simp only [Act.put, List.getElem_toArray, List.getElem_cons_succ, List.getElem_cons_zero, List.setIfInBounds_toArray, List.set_cons_zero, List.set_cons_succ]
      refine wpAnyL_take (i := 2) (v := ?_) rfl (by kernel_rfl) (by kernel_rfl) (by kernel_rfl) (by kernel_rfl) (by kernel_rfl) (fun _ _ _ h => h) (Or.inl ⟨by kernel_rfl, ?_⟩) ⟨p0, p1, p2, p3, p4, r0, r1, r2, r3, r4⟩ ?_
      rotate_left
      · rintro w0 ⟨h1_, h2_, h3_, h4_, h5_, h6_, h7_, h8_, h9_, h10_⟩; go_simp; (try with_reducible rfl)
      try simp only [Act.put, List.getElem_toArray, List.getElem_cons_succ, List.getElem_cons_zero, List.setIfInBounds_toArray, List.set_cons_zero, List.set_cons_succ]
      refine wpAnyL_take (i := 3) (v := ?_) rfl (by kernel_rfl) (by kernel_rfl) (by kernel_rfl) (by kernel_rfl) (by kernel_rfl) (fun _ _ _ h => h) (Or.inl ⟨by kernel_rfl, ?_⟩) ⟨p0, p1, p2, p3, p4, r0, r1, r2, r3, r4⟩ ?_
      rotate_left
      · rintro w0 ⟨h1_, h2_, h3_, h4_, h5_, h6_, h7_, h8_, h9_, h10_⟩; go_simp; (try with_reducible rfl)
      try simp only [Act.put, List.getElem_toArray, List.getElem_cons_succ, List.getElem_cons_zero, List.setIfInBounds_toArray, List.set_cons_zero, List.set_cons_succ]
      refine wpAnyL_take (i := 4) (v := ?_) rfl (by kernel_rfl) (by kernel_rfl) (by kernel_rfl) (by kernel_rfl) (by kernel_rfl) (fun _ _ _ h => h) (Or.inl ⟨by kernel_rfl, ?_⟩) ⟨p0, p1, p2, p3, p4, r0, r1, r2, r3, r4⟩ ?_
      rotate_left
      · rintro w0 ⟨h1_, h2_, h3_, h4_, h5_, h6_, h7_, h8_, h9_, h10_⟩; go_simp; (try with_reducible rfl)
      try simp only [Act.put, List.getElem_toArray, List.getElem_cons_succ, List.getElem_cons_zero, List.setIfInBounds_toArray, List.set_cons_zero, List.set_cons_succ]
      refine wpAnyL_take (i := 5) (v := ?_) rfl (by kernel_rfl) (by kernel_rfl) (by kernel_rfl) (by kernel_rfl) (by kernel_rfl) (fun _ _ _ h => h) (Or.inl ⟨by kernel_rfl, ?_⟩) ⟨p0, p1, p2, p3, p4, r0, r1, r2, r3, r4⟩ ?_
      rotate_left
      · rintro w0 ⟨h1_, h2_, h3_, h4_, h5_, h6_, h7_, h8_, h9_, h10_⟩; go_simp; (try with_reducible rfl)
      try simp only [Act.put, List.getElem_toArray, List.getElem_cons_succ, List.getElem_cons_zero, List.setIfInBounds_toArray, List.set_cons_zero, List.set_cons_succ]
      refine wpAnyL_take (i := 6) (v := ?_) rfl (by kernel_rfl) (by kernel_rfl) (by kernel_rfl) (by kernel_rfl) (by kernel_rfl) (fun _ _ _ h => h) (Or.inl ⟨by kernel_rfl, ?_⟩) ⟨p0, p1, p2, p3, p4, r0, r1, r2, r3, r4⟩ ?_
      rotate_left
      · rintro w0 ⟨h1_, h2_, h3_, h4_, h5_, h6_, h7_, h8_, h9_, h10_⟩; go_simp; (try with_reducible rfl)
      try simp only [Act.put, List.getElem_toArray, List.getElem_cons_succ, List.getElem_cons_zero, List.setIfInBounds_toArray, List.set_cons_zero, List.set_cons_succ]
      refine wpAnyL_take (i := 7) (v := ?_) rfl (by kernel_rfl) (by kernel_rfl) (by kernel_rfl) (by kernel_rfl) (by kernel_rfl) (fun _ _ _ h => h) (Or.inl ⟨by kernel_rfl, ?_⟩) ⟨p0, p1, p2, p3, p4, r0, r1, r2, r3, r4⟩ ?_
      rotate_left
      · rintro w0 ⟨h1_, h2_, h3_, h4_, h5_, h6_, h7_, h8_, h9_, h10_⟩; go_simp; (try with_reducible rfl)
      try simp only [Act.put, List.getElem_toArray, List.getElem_cons_succ, List.getElem_cons_zero, List.setIfInBounds_toArray, List.set_cons_zero, List.set_cons_succ]
      refine wpAnyL_take (i := 8) (v := ?_) rfl (by kernel_rfl) (by kernel_rfl) (by kernel_rfl) (by kernel_rfl) (by kernel_rfl) (fun _ _ _ h => h) (Or.inl ⟨by kernel_rfl, ?_⟩) ⟨p0, p1, p2, p3, p4, r0, r1, r2, r3, r4⟩ ?_
      rotate_left
      · rintro w0 ⟨h1_, h2_, h3_, h4_, h5_, h6_, h7_, h8_, h9_, h10_⟩; go_simp; (try with_reducible rfl)
      try simp only [Act.put, List.getElem_toArray, List.getElem_cons_succ, List.getElem_cons_zero, List.setIfInBounds_toArray, List.set_cons_zero, List.set_cons_succ]
      refine wpAnyL_take (i := 9) (v := ?_) rfl (by kernel_rfl) (by kernel_rfl) (by kernel_rfl) (by kernel_rfl) (by kernel_rfl) (fun _ _ _ h => h) (Or.inl ⟨by kernel_rfl, ?_⟩) ⟨p0, p1, p2, p3, p4, r0, r1, r2, r3, r4⟩ ?_
      rotate_left
      · rintro w0 ⟨h1_, h2_, h3_, h4_, h5_, h6_, h7_, h8_, h9_, h10_⟩; go_simp; (try with_reducible rfl)
      try simp only [Act.put, List.getElem_toArray, List.getElem_cons_succ, List.getElem_cons_zero, List.setIfInBounds_toArray, List.set_cons_zero, List.set_cons_succ]
      refine wpAnyL_take (i := 10) (v := ?_) rfl (by kernel_rfl) (by kernel_rfl) (by kernel_rfl) (by kernel_rfl) (by kernel_rfl) (fun _ _ _ h => h) (Or.inl ⟨by kernel_rfl, ?_⟩) ⟨p0, p1, p2, p3, p4, r0, r1, r2, r3, r4⟩ ?_
      rotate_left
      · rintro w0 ⟨h1_, h2_, h3_, h4_, h5_, h6_, h7_, h8_, h9_, h10_⟩; go_simp; (try with_reducible rfl)
      try simp only [Act.put, List.getElem_toArray, List.getElem_cons_succ, List.getElem_cons_zero, List.setIfInBounds_toArray, List.set_cons_zero, List.set_cons_succ]
      refine wpAnyL_take (i := 11) (v := ?_) rfl (by kernel_rfl) (by kernel_rfl) (by kernel_rfl) (by kernel_rfl) (by kernel_rfl) (fun _ _ _ h => h) (Or.inl ⟨by kernel_rfl, ?_⟩) ⟨p0, p1, p2, p3, p4, r0, r1, r2, r3, r4⟩ ?_
      rotate_left
      · rintro w0 ⟨h1_, h2_, h3_, h4_, h5_, h6_, h7_, h8_, h9_, h10_⟩; go_simp; (try with_reducible rfl)
      try simp only [Act.put, List.getElem_toArray, List.getElem_cons_succ, List.getElem_cons_zero, List.setIfInBounds_toArray, List.set_cons_zero, List.set_cons_succ]
      refine wpAnyL_take (i := 12) (v := ?_) rfl (by kernel_rfl) (by kernel_rfl) (by kernel_rfl) (by kernel_rfl) (by kernel_rfl) (fun _ _ _ h => h) (Or.inl ⟨by kernel_rfl, ?_⟩) ⟨p0, p1, p2, p3, p4, r0, r1, r2, r3, r4⟩ ?_
      rotate_left
      · rintro w0 ⟨h1_, h2_, h3_, h4_, h5_, h6_, h7_, h8_, h9_, h10_⟩; go_simp; (try with_reducible rfl)
      try simp only [Act.put, List.getElem_toArray, List.getElem_cons_succ, List.getElem_cons_zero, List.setIfInBounds_toArray, List.set_cons_zero, List.set_cons_succ]
      refine wpAnyL_take (i := 13) (v := ?_) rfl (by kernel_rfl) (by kernel_rfl) (by kernel_rfl) (by kernel_rfl) (by kernel_rfl) (fun _ _ _ h => h) (Or.inl ⟨by kernel_rfl, ?_⟩) ⟨p0, p1, p2, p3, p4, r0, r1, r2, r3, r4⟩ ?_
      rotate_left
      · rintro w0 ⟨h1_, h2_, h3_, h4_, h5_, h6_, h7_, h8_, h9_, h10_⟩; go_simp; (try with_reducible rfl)
      try simp only [Act.put, List.getElem_toArray, List.getElem_cons_succ, List.getElem_cons_zero, List.setIfInBounds_toArray, List.set_cons_zero, List.set_cons_succ]
      refine wpAnyL_take (i := 14) (v := ?_) rfl (by kernel_rfl) (by kernel_rfl) (by kernel_rfl) (by kernel_rfl) (by kernel_rfl) (fun _ _ _ h => h) (Or.inl ⟨by kernel_rfl, ?_⟩) ⟨p0, p1, p2, p3, p4, r0, r1, r2, r3, r4⟩ ?_
      rotate_left
      · rintro w0 ⟨h1_, h2_, h3_, h4_, h5_, h6_, h7_, h8_, h9_, h10_⟩; go_simp; (try with_reducible rfl)
      try simp only [Act.put, List.getElem_toArray, List.getElem_cons_succ, List.getElem_cons_zero, List.setIfInBounds_toArray, List.set_cons_zero, List.set_cons_succ]
      refine wpAnyL_take (i := 15) (v := ?_) rfl (by kernel_rfl) (by kernel_rfl) (by kernel_rfl) (by kernel_rfl) (by kernel_rfl) (fun _ _ _ h => h) (Or.inl ⟨by kernel_rfl, ?_⟩) ⟨p0, p1, p2, p3, p4, r0, r1, r2, r3, r4⟩ ?_
      rotate_left
      · rintro w0 ⟨h1_, h2_, h3_, h4_, h5_, h6_, h7_, h8_, h9_, h10_⟩; go_simp; (try with_reducible rfl)
      try simp only [Act.put, List.getElem_toArray, List.getElem_cons_succ, List.getElem_cons_zero, List.setIfInBounds_toArray, List.set_cons_zero, List.set_cons_succ]
      refine wpAnyL_take (i := 16) (v := ?_) rfl (by kernel_rfl) (by kernel_rfl) (by kernel_rfl) (by kernel_rfl) (by kernel_rfl) (fun _ _ _ h => h) (Or.inl ⟨by kernel_rfl, ?_⟩) ⟨p0, p1, p2, p3, p4, r0, r1, r2, r3, r4⟩ ?_
      rotate_left
      · rintro w0 ⟨h1_, h2_, h3_, h4_, h5_, h6_, h7_, h8_, h9_, h10_⟩; go_simp; (try with_reducible rfl)
      try simp only [Act.put, List.getElem_toArray, List.getElem_cons_succ, List.getElem_cons_zero, List.setIfInBounds_toArray, List.set_cons_zero, List.set_cons_succ]
      refine wpAnyL_take (i := 17) (v := ?_) rfl (by kernel_rfl) (by kernel_rfl) (by kernel_rfl) (by kernel_rfl) (by kernel_rfl) (fun _ _ _ h => h) (Or.inl ⟨by kernel_rfl, ?_⟩) ⟨p0, p1, p2, p3, p4, r0, r1, r2, r3, r4⟩ ?_
      rotate_left
      · rintro w0 ⟨h1_, h2_, h3_, h4_, h5_, h6_, h7_, h8_, h9_, h10_⟩; go_simp; (try with_reducible rfl)
      try simp only [Act.put, List.getElem_toArray, List.getElem_cons_succ, List.getElem_cons_zero, List.setIfInBounds_toArray, List.set_cons_zero, List.set_cons_succ]
      refine wpAnyL_take (i := 18) (v := ?_) rfl (by kernel_rfl) (by kernel_rfl) (by kernel_rfl) (by kernel_rfl) (by kernel_rfl) (fun _ _ _ h => h) (Or.inl ⟨by kernel_rfl, ?_⟩) ⟨p0, p1, p2, p3, p4, r0, r1, r2, r3, r4⟩ ?_
      rotate_left
      · rintro w0 ⟨h1_, h2_, h3_, h4_, h5_, h6_, h7_, h8_, h9_, h10_⟩; go_simp; (try with_reducible rfl)
      try simp only [Act.put, List.getElem_toArray, List.getElem_cons_succ, List.getElem_cons_zero, List.setIfInBounds_toArray, List.set_cons_zero, List.set_cons_succ]
      refine wpAnyL_take (i := 19) (v := ?_) rfl (by kernel_rfl) (by kernel_rfl) (by kernel_rfl) (by kernel_rfl) (by kernel_rfl) (fun _ _ _ h => h) (Or.inl ⟨by kernel_rfl, ?_⟩) ⟨p0, p1, p2, p3, p4, r0, r1, r2, r3, r4⟩ ?_
      rotate_left
      · rintro w0 ⟨h1_, h2_, h3_, h4_, h5_, h6_, h7_, h8_, h9_, h10_⟩; go_simp; (try with_reducible rfl)
      try simp only [Act.put, List.getElem_toArray, List.getElem_cons_succ, List.getElem_cons_zero, List.setIfInBounds_toArray, List.set_cons_zero, List.set_cons_succ]
      refine wpAnyL_take (i := 20) (v := ?_) rfl (by kernel_rfl) (by kernel_rfl) (by kernel_rfl) (by kernel_rfl) (by kernel_rfl) (fun _ _ _ h => h) (Or.inl ⟨by kernel_rfl, ?_⟩) ⟨p0, p1, p2, p3, p4, r0, r1, r2, r3, r4⟩ ?_
      rotate_left
      · rintro w0 ⟨h1_, h2_, h3_, h4_, h5_, h6_, h7_, h8_, h9_, h10_⟩; go_simp; (try with_reducible rfl)
      try simp only [Act.put, List.getElem_toArray, List.getElem_cons_succ, List.getElem_cons_zero, List.setIfInBounds_toArray, List.set_cons_zero, List.set_cons_succ]
      refine wpAnyL_take (i := 21) (v := ?_) rfl (by kernel_rfl) (by kernel_rfl) (by kernel_rfl) (by kernel_rfl) (by kernel_rfl) (fun _ _ _ h => h) (Or.inl ⟨by kernel_rfl, ?_⟩) ⟨p0, p1, p2, p3, p4, r0, r1, r2, r3, r4⟩ ?_
      rotate_left
      · rintro w0 ⟨h1_, h2_, h3_, h4_, h5_, h6_, h7_, h8_, h9_, h10_⟩; go_simp; (try with_reducible rfl)
      try simp only [Act.put, List.getElem_toArray, List.getElem_cons_succ, List.getElem_cons_zero, List.setIfInBounds_toArray, List.set_cons_zero, List.set_cons_succ]
      refine wpAnyL_take (i := 22) (v := ?_) rfl (by kernel_rfl) (by kernel_rfl) (by kernel_rfl) (by kernel_rfl) (by kernel_rfl) (fun _ _ _ h => h) (Or.inl ⟨by kernel_rfl, ?_⟩) ⟨p0, p1, p2, p3, p4, r0, r1, r2, r3, r4⟩ ?_
      rotate_left
      · rintro w0 ⟨h1_, h2_, h3_, h4_, h5_, h6_, h7_, h8_, h9_, h10_⟩; go_simp; (try with_reducible rfl)
      try simp only [Act.put, List.getElem_toArray, List.getElem_cons_succ, List.getElem_cons_zero, List.setIfInBounds_toArray, List.set_cons_zero, List.set_cons_succ]
      refine wpAnyL_take (i := 23) (v := ?_) rfl (by kernel_rfl) (by kernel_rfl) (by kernel_rfl) (by kernel_rfl) (by kernel_rfl) (fun _ _ _ h => h) (Or.inl ⟨by kernel_rfl, ?_⟩) ⟨p0, p1, p2, p3, p4, r0, r1, r2, r3, r4⟩ ?_
      rotate_left
      · rintro w0 ⟨h1_, h2_, h3_, h4_, h5_, h6_, h7_, h8_, h9_, h10_⟩; go_simp; (try with_reducible rfl)
      try simp only [Act.put, List.getElem_toArray, List.getElem_cons_succ, List.getElem_cons_zero, List.setIfInBounds_toArray, List.set_cons_zero, List.set_cons_succ]
      refine wpAnyL_take (i := 24) (v := ?_) rfl (by kernel_rfl) (by kernel_rfl) (by kernel_rfl) (by kernel_rfl) (by kernel_rfl) (fun _ _ _ h => h) (Or.inl ⟨by kernel_rfl, ?_⟩) ⟨p0, p1, p2, p3, p4, r0, r1, r2, r3, r4⟩ ?_
      rotate_left
      · rintro w0 ⟨h1_, h2_, h3_, h4_, h5_, h6_, h7_, h8_, h9_, h10_⟩; go_simp; (try with_reducible rfl)
      try simp only [Act.put, List.getElem_toArray, List.getElem_cons_succ, List.getElem_cons_zero, List.setIfInBounds_toArray, List.set_cons_zero, List.set_cons_succ]
      refine wpAnyL_take (i := 25) (v := ?_) rfl (by kernel_rfl) (by kernel_rfl) (by kernel_rfl) (by kernel_rfl) (by kernel_rfl) (fun _ _ _ h => h) (Or.inl ⟨by kernel_rfl, ?_⟩) ⟨p0, p1, p2, p3, p4, r0, r1, r2, r3, r4⟩ ?_
      rotate_left
      · rintro w0 ⟨h1_, h2_, h3_, h4_, h5_, h6_, h7_, h8_, h9_, h10_⟩; go_simp; (try with_reducible rfl)
      try simp only [Act.put, List.getElem_toArray, List.getElem_cons_succ, List.getElem_cons_zero, List.setIfInBounds_toArray, List.set_cons_zero, List.set_cons_succ]
      refine wpAnyL_take (i := 26) (v := ?_) rfl (by kernel_rfl) (by kernel_rfl) (by kernel_rfl) (by kernel_rfl) (by kernel_rfl) (fun _ _ _ h => h) (Or.inl ⟨by kernel_rfl, ?_⟩) ⟨p0, p1, p2, p3, p4, r0, r1, r2, r3, r4⟩ ?_
      rotate_left
      · rintro w0 ⟨h1_, h2_, h3_, h4_, h5_, h6_, h7_, h8_, h9_, h10_⟩; go_simp; (try with_reducible rfl)
      try simp only [Act.put, List.getElem_toArray, List.getElem_cons_succ, List.getElem_cons_zero, List.setIfInBounds_toArray, List.set_cons_zero, List.set_cons_succ]
      refine wpAnyL_take (i := 27) (v := ?_) rfl (by kernel_rfl) (by kernel_rfl) (by kernel_rfl) (by kernel_rfl) (by kernel_rfl) (fun _ _ _ h => h) (Or.inl ⟨by kernel_rfl, ?_⟩) ⟨p0, p1, p2, p3, p4, r0, r1, r2, r3, r4⟩ ?_
      rotate_left
      · rintro w0 ⟨h1_, h2_, h3_, h4_, h5_, h6_, h7_, h8_, h9_, h10_⟩; go_simp; (try with_reducible rfl)
      try simp only [Act.put, List.getElem_toArray, List.getElem_cons_succ, List.getElem_cons_zero, List.setIfInBounds_toArray, List.set_cons_zero, List.set_cons_succ]
      refine wpAnyL_take (i := 28) (v := ?_) rfl (by kernel_rfl) (by kernel_rfl) (by kernel_rfl) (by kernel_rfl) (by kernel_rfl) (fun _ _ _ h => h) (Or.inl ⟨by kernel_rfl, ?_⟩) ⟨p0, p1, p2, p3, p4, r0, r1, r2, r3, r4⟩ ?_
      rotate_left
      · rintro w0 ⟨h1_, h2_, h3_, h4_, h5_, h6_, h7_, h8_, h9_, h10_⟩; go_simp; (try with_reducible rfl)
      try simp only [Act.put, List.getElem_toArray, List.getElem_cons_succ, List.getElem_cons_zero, List.setIfInBounds_toArray, List.set_cons_zero, List.set_cons_succ]
      refine wpAnyL_take (i := 29) (v := ?_) rfl (by kernel_rfl) (by kernel_rfl) (by kernel_rfl) (by kernel_rfl) (by kernel_rfl) (fun _ _ _ h => h) (Or.inl ⟨by kernel_rfl, ?_⟩) ⟨p0, p1, p2, p3, p4, r0, r1, r2, r3, r4⟩ ?_
      rotate_left
      · rintro w0 ⟨h1_, h2_, h3_, h4_, h5_, h6_, h7_, h8_, h9_, h10_⟩; go_simp; (try with_reducible rfl)
      try simp only [Act.put, List.getElem_toArray, List.getElem_cons_succ, List.getElem_cons_zero, List.setIfInBounds_toArray, List.set_cons_zero, List.set_cons_succ]
      refine wpAnyL_take (i := 30) (v := ?_) rfl (by kernel_rfl) (by kernel_rfl) (by kernel_rfl) (by kernel_rfl) (by kernel_rfl) (fun _ _ _ h => h) (Or.inl ⟨by kernel_rfl, ?_⟩) ⟨p0, p1, p2, p3, p4, r0, r1, r2, r3, r4⟩ ?_
      rotate_left
      · rintro w0 ⟨h1_, h2_, h3_, h4_, h5_, h6_, h7_, h8_, h9_, h10_⟩; go_simp; (try with_reducible rfl)
      try simp only [Act.put, List.getElem_toArray, List.getElem_cons_succ, List.getElem_cons_zero, List.setIfInBounds_toArray, List.set_cons_zero, List.set_cons_succ]
      refine wpAnyL_take (i := 31) (v := ?_) rfl (by kernel_rfl) (by kernel_rfl) (by kernel_rfl) (by kernel_rfl) (by kernel_rfl) (fun _ _ _ h => h) (Or.inl ⟨by kernel_rfl, ?_⟩) ⟨p0, p1, p2, p3, p4, r0, r1, r2, r3, r4⟩ ?_
      rotate_left
      · rintro w0 ⟨h1_, h2_, h3_, h4_, h5_, h6_, h7_, h8_, h9_, h10_⟩; go_simp; (try with_reducible rfl)
      try simp only [Act.put, List.getElem_toArray, List.getElem_cons_succ, List.getElem_cons_zero, List.setIfInBounds_toArray, List.set_cons_zero, List.set_cons_succ]
      refine wpAnyL_take (i := 32) (v := ?_) rfl (by kernel_rfl) (by kernel_rfl) (by kernel_rfl) (by kernel_rfl) (by kernel_rfl) (fun _ _ _ h => h) (Or.inl ⟨by kernel_rfl, ?_⟩) ⟨p0, p1, p2, p3, p4, r0, r1, r2, r3, r4⟩ ?_
      rotate_left
      · rintro w0 ⟨h1_, h2_, h3_, h4_, h5_, h6_, h7_, h8_, h9_, h10_⟩; go_simp; (try with_reducible rfl)
      try simp only [Act.put, List.getElem_toArray, List.getElem_cons_succ, List.getElem_cons_zero, List.setIfInBounds_toArray, List.set_cons_zero, List.set_cons_succ]
      refine wpAnyL_take (i := 33) (v := ?_) rfl (by kernel_rfl) (by kernel_rfl) (by kernel_rfl) (by kernel_rfl) (by kernel_rfl) (fun _ _ _ h => h) (Or.inl ⟨by kernel_rfl, ?_⟩) ⟨p0, p1, p2, p3, p4, r0, r1, r2, r3, r4⟩ ?_
      rotate_left
      · rintro w0 ⟨h1_, h2_, h3_, h4_, h5_, h6_, h7_, h8_, h9_, h10_⟩; go_simp; (try with_reducible rfl)
      try simp only [Act.put, List.getElem_toArray, List.getElem_cons_succ, List.getElem_cons_zero, List.setIfInBounds_toArray, List.set_cons_zero, List.set_cons_succ]
      refine wpAnyL_take (i := 34) (v := ?_) rfl (by kernel_rfl) (by kernel_rfl) (by kernel_rfl) (by kernel_rfl) (by kernel_rfl) (fun _ _ _ h => h) (Or.inl ⟨by kernel_rfl, ?_⟩) ⟨p0, p1, p2, p3, p4, r0, r1, r2, r3, r4⟩ ?_
      rotate_left
      · rintro w0 ⟨h1_, h2_, h3_, h4_, h5_, h6_, h7_, h8_, h9_, h10_⟩; go_simp; (try with_reducible rfl)
      try simp only [Act.put, List.getElem_toArray, List.getElem_cons_succ, List.getElem_cons_zero, List.setIfInBounds_toArray, List.set_cons_zero, List.set_cons_succ]
      refine wpAnyL_take (i := 35) (v := ?_) rfl (by kernel_rfl) (by kernel_rfl) (by kernel_rfl) (by kernel_rfl) (by kernel_rfl) (fun _ _ _ h => h) (Or.inl ⟨by kernel_rfl, ?_⟩) ⟨p0, p1, p2, p3, p4, r0, r1, r2, r3, r4⟩ ?_
      rotate_left
      · rintro w0 ⟨h1_, h2_, h3_, h4_, h5_, h6_, h7_, h8_, h9_, h10_⟩; go_simp; (try with_reducible rfl)
      try simp only [Act.put, List.getElem_toArray, List.getElem_cons_succ, List.getElem_cons_zero, List.setIfInBounds_toArray, List.set_cons_zero, List.set_cons_succ]
      refine wpAnyL_take (i := 36) (v := ?_) rfl (by kernel_rfl) (by kernel_rfl) (by kernel_rfl) (by kernel_rfl) (by kernel_rfl) (fun _ _ _ h => h) (Or.inl ⟨by kernel_rfl, ?_⟩) ⟨p0, p1, p2, p3, p4, r0, r1, r2, r3, r4⟩ ?_
      rotate_left
      · rintro w0 ⟨h1_, h2_, h3_, h4_, h5_, h6_, h7_, h8_, h9_, h10_⟩; go_simp; (try with_reducible rfl)
      try simp only [Act.put, List.getElem_toArray, List.getElem_cons_succ, List.getElem_cons_zero, List.setIfInBounds_toArray, List.set_cons_zero, List.set_cons_succ]
      refine wpAnyL_take (i := 37) (v := ?_) rfl (by kernel_rfl) (by kernel_rfl) (by kernel_rfl) (by kernel_rfl) (by kernel_rfl) (fun _ _ _ h => h) (Or.inl ⟨by kernel_rfl, ?_⟩) ⟨p0, p1, p2, p3, p4, r0, r1, r2, r3, r4⟩ ?_
      rotate_left
      · rintro w0 ⟨h1_, h2_, h3_, h4_, h5_, h6_, h7_, h8_, h9_, h10_⟩; go_simp; (try with_reducible rfl)
      try simp only [Act.put, List.getElem_toArray, List.getElem_cons_succ, List.getElem_cons_zero, List.setIfInBounds_toArray, List.set_cons_zero, List.set_cons_succ]
      refine wpAnyL_take (i := 38) (v := undef) rfl (by kernel_rfl) (by kernel_rfl) (by kernel_rfl) (by kernel_rfl) (by kernel_rfl) (fun _ _ _ h => h) (Or.inr ⟨by kernel_rfl, rfl⟩) ⟨p0, p1, p2, p3, p4, r0, r1, r2, r3, r4⟩ ?_
      try simp only [Act.put, List.getElem_toArray, List.getElem_cons_succ, List.getElem_cons_zero, List.setIfInBounds_toArray, List.set_cons_zero, List.set_cons_succ]
      refine wpAnyL_take (i := 39) (v := undef) rfl (by kernel_rfl) (by kernel_rfl) (by kernel_rfl) (by kernel_rfl) (by kernel_rfl) (fun _ _ _ h => h) (Or.inr ⟨by kernel_rfl, rfl⟩) ⟨p0, p1, p2, p3, p4, r0, r1, r2, r3, r4⟩ ?_
      try simp only [Act.put, List.getElem_toArray, List.getElem_cons_succ, List.getElem_cons_zero, List.setIfInBounds_toArray, List.set_cons_zero, List.set_cons_succ]
      refine wpAnyL_take (i := 40) (v := undef) rfl (by kernel_rfl) (by kernel_rfl) (by kernel_rfl) (by kernel_rfl) (by kernel_rfl) (fun _ _ _ h => h) (Or.inr ⟨by kernel_rfl, rfl⟩) ⟨p0, p1, p2, p3, p4, r0, r1, r2, r3, r4⟩ ?_
      try simp only [Act.put, List.getElem_toArray, List.getElem_cons_succ, List.getElem_cons_zero, List.setIfInBounds_toArray, List.set_cons_zero, List.set_cons_succ]
      refine wpAnyL_take (i := 41) (v := undef) rfl (by kernel_rfl) (by kernel_rfl) (by kernel_rfl) (by kernel_rfl) (by kernel_rfl) (fun _ _ _ h => h) (Or.inr ⟨by kernel_rfl, rfl⟩) ⟨p0, p1, p2, p3, p4, r0, r1, r2, r3, r4⟩ ?_
      try simp only [Act.put, List.getElem_toArray, List.getElem_cons_succ, List.getElem_cons_zero, List.setIfInBounds_toArray, List.set_cons_zero, List.set_cons_succ]
      refine wpAnyL_take (i := 42) (v := undef) rfl (by kernel_rfl) (by kernel_rfl) (by kernel_rfl) (by kernel_rfl) (by kernel_rfl) (fun _ _ _ h => h) (Or.inr ⟨by kernel_rfl, rfl⟩) ⟨p0, p1, p2, p3, p4, r0, r1, r2, r3, r4⟩ ?_
      try simp only [Act.put, List.getElem_toArray, List.getElem_cons_succ, List.getElem_cons_zero, List.setIfInBounds_toArray, List.set_cons_zero, List.set_cons_succ]
      refine wpAnyL_take (i := 43) (v := undef) rfl (by kernel_rfl) (by kernel_rfl) (by kernel_rfl) (by kernel_rfl) (by kernel_rfl) (fun _ _ _ h => h) (Or.inr ⟨by kernel_rfl, rfl⟩) ⟨p0, p1, p2, p3, p4, r0, r1, r2, r3, r4⟩ ?_
      try simp only [Act.put, List.getElem_toArray, List.getElem_cons_succ, List.getElem_cons_zero, List.setIfInBounds_toArray, List.set_cons_zero, List.set_cons_succ]
      refine wpAnyL_take (i := 44) (v := undef) rfl (by kernel_rfl) (by kernel_rfl) (by kernel_rfl) (by kernel_rfl) (by kernel_rfl) (fun _ _ _ h => h) (Or.inr ⟨by kernel_rfl, rfl⟩) ⟨p0, p1, p2, p3, p4, r0, r1, r2, r3, r4⟩ ?_
      try simp only [Act.put, List.getElem_toArray, List.getElem_cons_succ, List.getElem_cons_zero, List.setIfInBounds_toArray, List.set_cons_zero, List.set_cons_succ]
      refine wpAnyL_take (i := 45) (v := undef) rfl (by kernel_rfl) (by kernel_rfl) (by kernel_rfl) (by kernel_rfl) (by kernel_rfl) (fun _ _ _ h => h) (Or.inr ⟨by kernel_rfl, rfl⟩) ⟨p0, p1, p2, p3, p4, r0, r1, r2, r3, r4⟩ ?_
      try simp only [Act.put, List.getElem_toArray, List.getElem_cons_succ, List.getElem_cons_zero, List.setIfInBounds_toArray, List.set_cons_zero, List.set_cons_succ]
      refine wpAnyL_take (i := 46) (v := undef) rfl (by kernel_rfl) (by kernel_rfl) (by kernel_rfl) (by kernel_rfl) (by kernel_rfl) (fun _ _ _ h => h) (Or.inr ⟨by kernel_rfl, rfl⟩) ⟨p0, p1, p2, p3, p4, r0, r1, r2, r3, r4⟩ ?_
      try simp only [Act.put, List.getElem_toArray, List.getElem_cons_succ, List.getElem_cons_zero, List.setIfInBounds_toArray, List.set_cons_zero, List.set_cons_succ]
      refine wpAnyL_take (i := 47) (v := undef) rfl (by kernel_rfl) (by kernel_rfl) (by kernel_rfl) (by kernel_rfl) (by kernel_rfl) (fun _ _ _ h => h) (Or.inr ⟨by kernel_rfl, rfl⟩) ⟨p0, p1, p2, p3, p4, r0, r1, r2, r3, r4⟩ ?_
      try simp only [Act.put, List.getElem_toArray, List.getElem_cons_succ, List.getElem_cons_zero, List.setIfInBounds_toArray, List.set_cons_zero, List.set_cons_succ]
      refine wpAnyL_take (i := 48) (v := undef) rfl (by kernel_rfl) (by kernel_rfl) (by kernel_rfl) (by kernel_rfl) (by kernel_rfl) (fun _ _ _ h => h) (Or.inr ⟨by kernel_rfl, rfl⟩) ⟨p0, p1, p2, p3, p4, r0, r1, r2, r3, r4⟩ ?_
      try simp only [Act.put, List.getElem_toArray, List.getElem_cons_succ, List.getElem_cons_zero, List.setIfInBounds_toArray, List.set_cons_zero, List.set_cons_succ]
      refine wpAnyL_take (i := 49) (v := ?_) rfl (by kernel_rfl) (by kernel_rfl) (by kernel_rfl) (by kernel_rfl) (by kernel_rfl) (fun _ _ _ h => h) (Or.inl ⟨by kernel_rfl, ?_⟩) ⟨p0, p1, p2, p3, p4, r0, r1, r2, r3, r4⟩ ?_
      rotate_left
      · rintro w0 ⟨h1_, h2_, h3_, h4_, h5_, h6_, h7_, h8_, h9_, h10_⟩; go_simp; (try with_reducible rfl)
      try simp only [Act.put, List.getElem_toArray, List.getElem_cons_succ, List.getElem_cons_zero, List.setIfInBounds_toArray, List.set_cons_zero, List.set_cons_succ]
      refine wpAnyL_take (i := 50) (v := ?_) rfl (by kernel_rfl) (by kernel_rfl) (by kernel_rfl) (by kernel_rfl) (by kernel_rfl) (fun _ _ _ h => h) (Or.inl ⟨by kernel_rfl, ?_⟩) ⟨p0, p1, p2, p3, p4, r0, r1, r2, r3, r4⟩ ?_
      rotate_left
      · rintro w0 ⟨h1_, h2_, h3_, h4_, h5_, h6_, h7_, h8_, h9_, h10_⟩; go_simp; (try with_reducible rfl)
      try simp only [Act.put, List.getElem_toArray, List.getElem_cons_succ, List.getElem_cons_zero, List.setIfInBounds_toArray, List.set_cons_zero, List.set_cons_succ]
      refine wpAnyL_take (i := 51) (v := undef) rfl (by kernel_rfl) (by kernel_rfl) (by kernel_rfl) (by kernel_rfl) (by kernel_rfl) (fun _ _ _ h => h) (Or.inr ⟨by kernel_rfl, rfl⟩) ⟨p0, p1, p2, p3, p4, r0, r1, r2, r3, r4⟩ ?_
      try simp only [Act.put, List.getElem_toArray, List.getElem_cons_succ, List.getElem_cons_zero, List.setIfInBounds_toArray, List.set_cons_zero, List.set_cons_succ]
      refine wpAnyL_take (i := 52) (v := undef) rfl (by kernel_rfl) (by kernel_rfl) (by kernel_rfl) (by kernel_rfl) (by kernel_rfl) (fun _ _ _ h => h) (Or.inr ⟨by kernel_rfl, rfl⟩) ⟨p0, p1, p2, p3, p4, r0, r1, r2, r3, r4⟩ ?_
      try simp only [Act.put, List.getElem_toArray, List.getElem_cons_succ, List.getElem_cons_zero, List.setIfInBounds_toArray, List.set_cons_zero, List.set_cons_succ]
      refine wpAnyL_take (i := 53) (v := undef) rfl (by kernel_rfl) (by kernel_rfl) (by kernel_rfl) (by kernel_rfl) (by kernel_rfl) (fun _ _ _ h => h) (Or.inr ⟨by kernel_rfl, rfl⟩) ⟨p0, p1, p2, p3, p4, r0, r1, r2, r3, r4⟩ ?_
      try simp only [Act.put, List.getElem_toArray, List.getElem_cons_succ, List.getElem_cons_zero, List.setIfInBounds_toArray, List.set_cons_zero, List.set_cons_succ]
      refine wpAnyL_take (i := 54) (v := undef) rfl (by kernel_rfl) (by kernel_rfl) (by kernel_rfl) (by kernel_rfl) (by kernel_rfl) (fun _ _ _ h => h) (Or.inr ⟨by kernel_rfl, rfl⟩) ⟨p0, p1, p2, p3, p4, r0, r1, r2, r3, r4⟩ ?_
      try simp only [Act.put, List.getElem_toArray, List.getElem_cons_succ, List.getElem_cons_zero, List.setIfInBounds_toArray, List.set_cons_zero, List.set_cons_succ]
      refine wpAnyL_take (i := 55) (v := undef) rfl (by kernel_rfl) (by kernel_rfl) (by kernel_rfl) (by kernel_rfl) (by kernel_rfl) (fun _ _ _ h => h) (Or.inr ⟨by kernel_rfl, rfl⟩) ⟨p0, p1, p2, p3, p4, r0, r1, r2, r3, r4⟩ ?_
      try simp only [Act.put, List.getElem_toArray, List.getElem_cons_succ, List.getElem_cons_zero, List.setIfInBounds_toArray, List.set_cons_zero, List.set_cons_succ]
      refine wpAnyL_take (i := 56) (v := undef) rfl (by kernel_rfl) (by kernel_rfl) (by kernel_rfl) (by kernel_rfl) (by kernel_rfl) (fun _ _ _ h => h) (Or.inr ⟨by kernel_rfl, rfl⟩) ⟨p0, p1, p2, p3, p4, r0, r1, r2, r3, r4⟩ ?_
      try simp only [Act.put, List.getElem_toArray, List.getElem_cons_succ, List.getElem_cons_zero, List.setIfInBounds_toArray, List.set_cons_zero, List.set_cons_succ]
      refine wpAnyL_take (i := 57) (v := undef) rfl (by kernel_rfl) (by kernel_rfl) (by kernel_rfl) (by kernel_rfl) (by kernel_rfl) (fun _ _ _ h => h) (Or.inr ⟨by kernel_rfl, rfl⟩) ⟨p0, p1, p2, p3, p4, r0, r1, r2, r3, r4⟩ ?_
      try simp only [Act.put, List.getElem_toArray, List.getElem_cons_succ, List.getElem_cons_zero, List.setIfInBounds_toArray, List.set_cons_zero, List.set_cons_succ]
      refine wpAnyL_take (i := 58) (v := undef) rfl (by kernel_rfl) (by kernel_rfl) (by kernel_rfl) (by kernel_rfl) (by kernel_rfl) (fun _ _ _ h => h) (Or.inr ⟨by kernel_rfl, rfl⟩) ⟨p0, p1, p2, p3, p4, r0, r1, r2, r3, r4⟩ ?_
      try simp only [Act.put, List.getElem_toArray, List.getElem_cons_succ, List.getElem_cons_zero, List.setIfInBounds_toArray, List.set_cons_zero, List.set_cons_succ]
      refine wpAnyL_take (i := 59) (v := undef) rfl (by kernel_rfl) (by kernel_rfl) (by kernel_rfl) (by kernel_rfl) (by kernel_rfl) (fun _ _ _ h => h) (Or.inr ⟨by kernel_rfl, rfl⟩) ⟨p0, p1, p2, p3, p4, r0, r1, r2, r3, r4⟩ ?_
      try simp only [Act.put, List.getElem_toArray, List.getElem_cons_succ, List.getElem_cons_zero, List.setIfInBounds_toArray, List.set_cons_zero, List.set_cons_succ]
      refine wpAnyL_take (i := 60) (v := undef) rfl (by kernel_rfl) (by kernel_rfl) (by kernel_rfl) (by kernel_rfl) (by kernel_rfl) (fun _ _ _ h => h) (Or.inr ⟨by kernel_rfl, rfl⟩) ⟨p0, p1, p2, p3, p4, r0, r1, r2, r3, r4⟩ ?_
      try simp only [Act.put, List.getElem_toArray, List.getElem_cons_succ, List.getElem_cons_zero, List.setIfInBounds_toArray, List.set_cons_zero, List.set_cons_succ]
      refine wpAnyL_one (i := 61) (by kernel_rfl) rfl (fun K hK => ?_)
      rw [if_neg (Bool.eq_false_iff.1 (by kernel_rfl))]
      refine hK.out _ _ (fun _ => ⟨p0, p1, p2, p3, p4, r0, r1, r2, r3, r4⟩) ?_
      clear hK K
      try simp only [Act.put, List.getElem_toArray, List.getElem_cons_succ, List.getElem_cons_zero, List.setIfInBounds_toArray, List.set_cons_zero, List.set_cons_succ]
      refine wpAnyL_take (i := 62) (v := undef) rfl (by kernel_rfl) (by kernel_rfl) (by kernel_rfl) (by kernel_rfl) (by kernel_rfl) (fun _ _ _ h => h) (Or.inr ⟨by kernel_rfl, rfl⟩) ⟨p0, p1, p2, p3, p4, r0, r1, r2, r3, r4⟩ ?_
      try simp only [Act.put, List.getElem_toArray, List.getElem_cons_succ, List.getElem_cons_zero, List.setIfInBounds_toArray, List.set_cons_zero, List.set_cons_succ]
      refine wpAnyL_take (i := 63) (v := ?_) rfl (by kernel_rfl) (by kernel_rfl) (by kernel_rfl) (by kernel_rfl) (by kernel_rfl) (fun _ _ _ h => h) (Or.inl ⟨by kernel_rfl, ?_⟩) ⟨p0, p1, p2, p3, p4, r0, r1, r2, r3, r4⟩ ?_
      rotate_left
      · rintro w0 ⟨h1_, h2_, h3_, h4_, h5_, h6_, h7_, h8_, h9_, h10_⟩; go_simp; (try with_reducible rfl)
      try simp only [Act.put, List.getElem_toArray, List.getElem_cons_succ, List.getElem_cons_zero, List.setIfInBounds_toArray, List.set_cons_zero, List.set_cons_succ]
      refine wpAnyL_done (by kernel_rfl) ?_ _
      go_wp2_with fail
      go_ret
      exact ⟨⟨q + 1, rfl⟩, by rw [HN.out]; rfl⟩
    have t2 := int_eq h2
    have K2 := Lib.hid h2
    clear h2
    by_cases h3 : x.x.parts = y.x.parts
    case neg =>
      have t3 := int_ne h3
      have HN := Lib.hid (HH.out.1 (fun e => h3 (by rw [e])))
      clear h3
      go_wp2_with fail
      refine wp_region_late [] (fun w' => w'.cell? ⟨b, o + j * 5, none⟩ = some (.int .u32 (x.x.gen : Int)) ∧ w'.cell? ⟨b, o + j * 5 + 1, none⟩ = some (.int .u32 (x.x.seq : Int)) ∧ w'.cell? ⟨b, o + j * 5 + 2, none⟩ = some (.int .i64 x.x.part) ∧ w'.cell? ⟨b, o + j * 5 + 3, none⟩ = some (.int .i64 x.x.parts) ∧ w'.cell? ⟨b, o + j * 5 + 4, none⟩ = some (.slice x.A x.n x.c) ∧ w'.cell? ⟨b', o' + j * 5, none⟩ = some (.int .u32 (y.x.gen : Int)) ∧ w'.cell? ⟨b', o' + j * 5 + 1, none⟩ = some (.int .u32 (y.x.seq : Int)) ∧ w'.cell? ⟨b', o' + j * 5 + 2, none⟩ = some (.int .i64 y.x.part) ∧ w'.cell? ⟨b', o' + j * 5 + 3, none⟩ = some (.int .i64 y.x.parts) ∧ w'.cell? ⟨b', o' + j * 5 + 4, none⟩ = some (.slice y.A y.n y.c)) (by kernel_rfl) ?_
      refine wpAnyL_take (i := 0) (v := ?_) rfl (by kernel_rfl) (by kernel_rfl) (by kernel_rfl) (by kernel_rfl) (by kernel_rfl) (fun _ _ _ h => h) (Or.inl ⟨by kernel_rfl, ?_⟩) ⟨p0, p1, p2, p3, p4, r0, r1, r2, r3, r4⟩ ?_
      rotate_left
      · rintro w0 ⟨h1_, h2_, h3_, h4_, h5_, h6_, h7_, h8_, h9_, h10_⟩; go_simp; (try with_reducible rfl)
      try simp only [Act.put, List.getElem_toArray, List.getElem_cons_succ, List.getElem_cons_zero, List.setIfInBounds_toArray, List.set_cons_zero, List.set_cons_succ]
      refine wpAnyL_take (i := 1) (v := ?_) rfl (by kernel_rfl) (by kernel_rfl) (by kernel_rfl) (by kernel_rfl) (by kernel_rfl) (fun _ _ _ h => h) (Or.inl ⟨by kernel_rfl, ?_⟩) ⟨p0, p1, p2, p3, p4, r0, r1, r2, r3, r4⟩ ?_
      rotate_left
      · rintro w0 ⟨h1_, h2_, h3_, h4_, h5_, h6_, h7_, h8_, h9_, h10_⟩; go_simp; (try with_reducible rfl)
      try simp only [Act.put, List.getElem_toArray, List.getElem_cons_succ, List.getElem_cons_zero, List.setIfInBounds_toArray, List.set_cons_zero, List.set_cons_succ]
      refine wpAnyL_take (i := 2) (v := ?_) rfl (by kernel_rfl) (by kernel_rfl) (by kernel_rfl) (by kernel_rfl) (by kernel_rfl) (fun _ _ _ h => h) (Or.inl ⟨by kernel_rfl, ?_⟩) ⟨p0, p1, p2, p3, p4, r0, r1, r2, r3, r4⟩ ?_
      rotate_left
      · rintro w0 ⟨h1_, h2_, h3_, h4_, h5_, h6_, h7_, h8_, h9_, h10_⟩; go_simp; (try with_reducible rfl)
      try simp only [Act.put, List.getElem_toArray, List.getElem_cons_succ, List.getElem_cons_zero, List.setIfInBounds_toArray, List.set_cons_zero, List.set_cons_succ]
      refine wpAnyL_take (i := 3) (v := ?_) rfl (by kernel_rfl) (by kernel_rfl) (by kernel_rfl) (by kernel_rfl) (by kernel_rfl) (fun _ _ _ h => h) (Or.inl ⟨by kernel_rfl, ?_⟩) ⟨p0, p1, p2, p3, p4, r0, r1, r2, r3, r4⟩ ?_
      rotate_left
      · rintro w0 ⟨h1_, h2_, h3_, h4_, h5_, h6_, h7_, h8_, h9_, h10_⟩; go_simp; (try with_reducible rfl)
      try simp only [Act.put, List.getElem_toArray, List.getElem_cons_succ, List.getElem_cons_zero, List.setIfInBounds_toArray, List.set_cons_zero, List.set_cons_succ]
      refine wpAnyL_take (i := 4) (v := ?_) rfl (by kernel_rfl) (by kernel_rfl) (by kernel_rfl) (by kernel_rfl) (by kernel_rfl) (fun _ _ _ h => h) (Or.inl ⟨by kernel_rfl, ?_⟩) ⟨p0, p1, p2, p3, p4, r0, r1, r2, r3, r4⟩ ?_
      rotate_left
      · rintro w0 ⟨h1_, h2_, h3_, h4_, h5_, h6_, h7_, h8_, h9_, h10_⟩; go_simp; (try with_reducible rfl)
      try simp only [Act.put, List.getElem_toArray, List.getElem_cons_succ, List.getElem_cons_zero, List.setIfInBounds_toArray, List.set_cons_zero, List.set_cons_succ]
      refine wpAnyL_take (i := 5) (v := ?_) rfl (by kernel_rfl) (by kernel_rfl) (by kernel_rfl) (by kernel_rfl) (by kernel_rfl) (fun _ _ _ h => h) (Or.inl ⟨by kernel_rfl, ?_⟩) ⟨p0, p1, p2, p3, p4, r0, r1, r2, r3, r4⟩ ?_
      rotate_left
      · rintro w0 ⟨h1_, h2_, h3_, h4_, h5_, h6_, h7_, h8_, h9_, h10_⟩; go_simp; (try with_reducible rfl)
      try simp only [Act.put, List.getElem_toArray, List.getElem_cons_succ, List.getElem_cons_zero, List.setIfInBounds_toArray, List.set_cons_zero, List.set_cons_succ]
      refine wpAnyL_take (i := 6) (v := ?_) rfl (by kernel_rfl) (by kernel_rfl) (by kernel_rfl) (by kernel_rfl) (by kernel_rfl) (fun _ _ _ h => h) (Or.inl ⟨by kernel_rfl, ?_⟩) ⟨p0, p1, p2, p3, p4, r0, r1, r2, r3, r4⟩ ?_
      rotate_left
      · rintro w0 ⟨h1_, h2_, h3_, h4_, h5_, h6_, h7_, h8_, h9_, h10_⟩; go_simp; (try with_reducible rfl)
      try simp only [Act.put, List.getElem_toArray, List.getElem_cons_succ, List.getElem_cons_zero, List.setIfInBounds_toArray, List.set_cons_zero, List.set_cons_succ]
      refine wpAnyL_take (i := 7) (v := ?_) rfl (by kernel_rfl) (by kernel_rfl) (by kernel_rfl) (by kernel_rfl) (by kernel_rfl) (fun _ _ _ h => h) (Or.inl ⟨by kernel_rfl, ?_⟩) ⟨p0, p1, p2, p3, p4, r0, r1, r2, r3, r4⟩ ?_
      rotate_left
      · rintro w0 ⟨h1_, h2_, h3_, h4_, h5_, h6_, h7_, h8_, h9_, h10_⟩; go_simp; (try with_reducible rfl)
      try simp only [Act.put, List.getElem_toArray, List.getElem_cons_succ, List.getElem_cons_zero, List.setIfInBounds_toArray, List.set_cons_zero, List.set_cons_succ]
      refine wpAnyL_take (i := 8) (v := ?_) rfl (by kernel_rfl) (by kernel_rfl) (by kernel_rfl) (by kernel_rfl) (by kernel_rfl) (fun _ _ _ h => h) (Or.inl ⟨by kernel_rfl, ?_⟩) ⟨p0, p1, p2, p3, p4, r0, r1, r2, r3, r4⟩ ?_
      rotate_left
      · rintro w0 ⟨h1_, h2_, h3_, h4_, h5_, h6_, h7_, h8_, h9_, h10_⟩; go_simp; (try with_reducible rfl)
      try simp only [Act.put, List.getElem_toArray, List.getElem_cons_succ, List.getElem_cons_zero, List.setIfInBounds_toArray, List.set_cons_zero, List.set_cons_succ]
      refine wpAnyL_take (i := 9) (v := ?_) rfl (by kernel_rfl) (by kernel_rfl) (by kernel_rfl) (by kernel_rfl) (by kernel_rfl) (fun _ _ _ h => h) (Or.inl ⟨by kernel_rfl, ?_⟩) ⟨p0, p1, p2, p3, p4, r0, r1, r2, r3, r4⟩ ?_
      rotate_left
      · rintro w0 ⟨h1_, h2_, h3_, h4_, h5_, h6_, h7_, h8_, h9_, h10_⟩; go_simp; (try with_reducible rfl)
      try simp only [Act.put, List.getElem_toArray, List.getElem_cons_succ, List.getElem_cons_zero, List.setIfInBounds_toArray, List.set_cons_zero, List.set_cons_succ]
      refine wpAnyL_take (i := 10) (v := ?_) rfl (by kernel_rfl) (by kernel_rfl) (by kernel_rfl) (by kernel_rfl) (by kernel_rfl) (fun _ _ _ h => h) (Or.inl ⟨by kernel_rfl, ?_⟩) ⟨p0, p1, p2, p3, p4, r0, r1, r2, r3, r4⟩ ?_
      rotate_left
      · rintro w0 ⟨h1_, h2_, h3_, h4_, h5_, h6_, h7_, h8_, h9_, h10_⟩; go_simp; (try with_reducible rfl)
      try simp only [Act.put, List.getElem_toArray, List.getElem_cons_succ, List.getElem_cons_zero, List.setIfInBounds_toArray, List.set_cons_zero, List.set_cons_succ]
      refine wpAnyL_take (i := 11) (v := ?_) rfl (by kernel_rfl) (by kernel_rfl) (by kernel_rfl) (by kernel_rfl) (by kernel_rfl) (fun _ _ _ h => h) (Or.inl ⟨by kernel_rfl, ?_⟩) ⟨p0, p1, p2, p3, p4, r0, r1, r2, r3, r4⟩ ?_
      rotate_left
      · rintro w0 ⟨h1_, h2_, h3_, h4_, h5_, h6_, h7_, h8_, h9_, h10_⟩; go_simp; (try with_reducible rfl)
      try simp only [Act.put, List.getElem_toArray, List.getElem_cons_succ, List.getElem_cons_zero, List.setIfInBounds_toArray, List.set_cons_zero, List.set_cons_succ]
      refine wpAnyL_take (i := 12) (v := ?_) rfl (by kernel_rfl) (by kernel_rfl) (by kernel_rfl) (by kernel_rfl) (by kernel_rfl) (fun _ _ _ h => h) (Or.inl ⟨by kernel_rfl, ?_⟩) ⟨p0, p1, p2, p3, p4, r0, r1, r2, r3, r4⟩ ?_
      rotate_left
      · rintro w0 ⟨h1_, h2_, h3_, h4_, h5_, h6_, h7_, h8_, h9_, h10_⟩; go_simp; (try with_reducible rfl)
      try simp only [Act.put, List.getElem_toArray, List.getElem_cons_succ, List.getElem_cons_zero, List.setIfInBounds_toArray, List.set_cons_zero, List.set_cons_succ]
      refine wpAnyL_take (i := 13) (v := ?_) rfl (by kernel_rfl) (by kernel_rfl) (by kernel_rfl) (by kernel_rfl) (by kernel_rfl) (fun _ _ _ h => h) (Or.inl ⟨by kernel_rfl, ?_⟩) ⟨p0, p1, p2, p3, p4, r0, r1, r2, r3, r4⟩ ?_
      rotate_left
      · rintro w0 ⟨h1_, h2_, h3_, h4_, h5_, h6_, h7_, h8_, h9_, h10_⟩; go_simp; (try with_reducible rfl)
      try simp only [Act.put, List.getElem_toArray, List.getElem_cons_succ, List.getElem_cons_zero, List.setIfInBounds_toArray, List.set_cons_zero, List.set_cons_succ]
      refine wpAnyL_take (i := 14) (v := ?_) rfl (by kernel_rfl) (by kernel_rfl) (by kernel_rfl) (by kernel_rfl) (by kernel_rfl) (fun _ _ _ h => h) (Or.inl ⟨by kernel_rfl, ?_⟩) ⟨p0, p1, p2, p3, p4, r0, r1, r2, r3, r4⟩ ?_
      rotate_left
      · rintro w0 ⟨h1_, h2_, h3_, h4_, h5_, h6_, h7_, h8_, h9_, h10_⟩; go_simp; (try with_reducible rfl)
      try simp only [Act.put, List.getElem_toArray, List.getElem_cons_succ, List.getElem_cons_zero, List.setIfInBounds_toArray, List.set_cons_zero, List.set_cons_succ]
      refine wpAnyL_take (i := 15) (v := ?_) rfl (by kernel_rfl) (by kernel_rfl) (by kernel_rfl) (by kernel_rfl) (by kernel_rfl) (fun _ _ _ h => h) (Or.inl ⟨by kernel_rfl, ?_⟩) ⟨p0, p1, p2, p3, p4, r0, r1, r2, r3, r4⟩ ?_
      rotate_left
      · rintro w0 ⟨h1_, h2_, h3_, h4_, h5_, h6_, h7_, h8_, h9_, h10_⟩; go_simp; (try with_reducible rfl)
      try simp only [Act.put, List.getElem_toArray, List.getElem_cons_succ, List.getElem_cons_zero, List.setIfInBounds_toArray, List.set_cons_zero, List.set_cons_succ]
      refine wpAnyL_take (i := 16) (v := ?_) rfl (by kernel_rfl) (by kernel_rfl) (by kernel_rfl) (by kernel_rfl) (by kernel_rfl) (fun _ _ _ h => h) (Or.inl ⟨by kernel_rfl, ?_⟩) ⟨p0, p1, p2, p3, p4, r0, r1, r2, r3, r4⟩ ?_
      rotate_left
      · rintro w0 ⟨h1_, h2_, h3_, h4_, h5_, h6_, h7_, h8_, h9_, h10_⟩; go_simp; (try with_reducible rfl)
      try simp only [Act.put, List.getElem_toArray, List.getElem_cons_succ, List.getElem_cons_zero, List.setIfInBounds_toArray, List.set_cons_zero, List.set_cons_succ]
      refine wpAnyL_take (i := 17) (v := ?_) rfl (by kernel_rfl) (by kernel_rfl) (by kernel_rfl) (by kernel_rfl) (by kernel_rfl) (fun _ _ _ h => h) (Or.inl ⟨by kernel_rfl, ?_⟩) ⟨p0, p1, p2, p3, p4, r0, r1, r2, r3, r4⟩ ?_
      rotate_left
      · rintro w0 ⟨h1_, h2_, h3_, h4_, h5_, h6_, h7_, h8_, h9_, h10_⟩; go_simp; (try with_reducible rfl)
      try simp only [Act.put, List.getElem_toArray, List.getElem_cons_succ, List.getElem_cons_zero, List.setIfInBounds_toArray, List.set_cons_zero, List.set_cons_succ]
      refine wpAnyL_take (i := 18) (v := ?_) rfl (by kernel_rfl) (by kernel_rfl) (by kernel_rfl) (by kernel_rfl) (by kernel_rfl) (fun _ _ _ h => h) (Or.inl ⟨by kernel_rfl, ?_⟩) ⟨p0, p1, p2, p3, p4, r0, r1, r2, r3, r4⟩ ?_
      rotate_left
      · rintro w0 ⟨h1_, h2_, h3_, h4_, h5_, h6_, h7_, h8_, h9_, h10_⟩; go_simp; (try with_reducible rfl)
      try simp only [Act.put, List.getElem_toArray, List.getElem_cons_succ, List.getElem_cons_zero, List.setIfInBounds_toArray, List.set_cons_zero, List.set_cons_succ]
      refine wpAnyL_take (i := 19) (v := ?_) rfl (by kernel_rfl) (by kernel_rfl) (by kernel_rfl) (by kernel_rfl) (by kernel_rfl) (fun _ _ _ h => h) (Or.inl ⟨by kernel_rfl, ?_⟩) ⟨p0, p1, p2, p3, p4, r0, r1, r2, r3, r4⟩ ?_
      rotate_left
      · rintro w0 ⟨h1_, h2_, h3_, h4_, h5_, h6_, h7_, h8_, h9_, h10_⟩; go_simp; (try with_reducible rfl)
      try simp only [Act.put, List.getElem_toArray, List.getElem_cons_succ, List.getElem_cons_zero, List.setIfInBounds_toArray, List.set_cons_zero, List.set_cons_succ]
      refine wpAnyL_take (i := 20) (v := ?_) rfl (by kernel_rfl) (by kernel_rfl) (by kernel_rfl) (by kernel_rfl) (by kernel_rfl) (fun _ _ _ h => h) (Or.inl ⟨by kernel_rfl, ?_⟩) ⟨p0, p1, p2, p3, p4, r0, r1, r2, r3, r4⟩ ?_
      rotate_left
      · rintro w0 ⟨h1_, h2_, h3_, h4_, h5_, h6_, h7_, h8_, h9_, h10_⟩; go_simp; (try with_reducible rfl)
      try simp only [Act.put, List.getElem_toArray, List.getElem_cons_succ, List.getElem_cons_zero, List.setIfInBounds_toArray, List.set_cons_zero, List.set_cons_succ]
      refine wpAnyL_take (i := 21) (v := ?_) rfl (by kernel_rfl) (by kernel_rfl) (by kernel_rfl) (by kernel_rfl) (by kernel_rfl) (fun _ _ _ h => h) (Or.inl ⟨by kernel_rfl, ?_⟩) ⟨p0, p1, p2, p3, p4, r0, r1, r2, r3, r4⟩ ?_
      rotate_left
      · rintro w0 ⟨h1_, h2_, h3_, h4_, h5_, h6_, h7_, h8_, h9_, h10_⟩; go_simp; (try with_reducible rfl)
      try simp only [Act.put, List.getElem_toArray, List.getElem_cons_succ, List.getElem_cons_zero, List.setIfInBounds_toArray, List.set_cons_zero, List.set_cons_succ]
      refine wpAnyL_take (i := 22) (v := ?_) rfl (by kernel_rfl) (by kernel_rfl) (by kernel_rfl) (by kernel_rfl) (by kernel_rfl) (fun _ _ _ h => h) (Or.inl ⟨by kernel_rfl, ?_⟩) ⟨p0, p1, p2, p3, p4, r0, r1, r2, r3, r4⟩ ?_
      rotate_left
      · rintro w0 ⟨h1_, h2_, h3_, h4_, h5_, h6_, h7_, h8_, h9_, h10_⟩; go_simp; (try with_reducible rfl)
      try simp only [Act.put, List.getElem_toArray, List.getElem_cons_succ, List.getElem_cons_zero, List.setIfInBounds_toArray, List.set_cons_zero, List.set_cons_succ]
      refine wpAnyL_take (i := 23) (v := ?_) rfl (by kernel_rfl) (by kernel_rfl) (by kernel_rfl) (by kernel_rfl) (by kernel_rfl) (fun _ _ _ h => h) (Or.inl ⟨by kernel_rfl, ?_⟩) ⟨p0, p1, p2, p3, p4, r0, r1, r2, r3, r4⟩ ?_
      rotate_left
      · rintro w0 ⟨h1_, h2_, h3_, h4_, h5_, h6_, h7_, h8_, h9_, h10_⟩; go_simp; (try with_reducible rfl)
      try simp only [Act.put, List.getElem_toArray, List.getElem_cons_succ, List.getElem_cons_zero, List.setIfInBounds_toArray, List.set_cons_zero, List.set_cons_succ]
      refine wpAnyL_take (i := 24) (v := ?_) rfl (by kernel_rfl) (by kernel_rfl) (by kernel_rfl) (by kernel_rfl) (by kernel_rfl) (fun _ _ _ h => h) (Or.inl ⟨by kernel_rfl, ?_⟩) ⟨p0, p1, p2, p3, p4, r0, r1, r2, r3, r4⟩ ?_
      rotate_left
      · rintro w0 ⟨h1_, h2_, h3_, h4_, h5_, h6_, h7_, h8_, h9_, h10_⟩; go_simp; (try with_reducible rfl)
      try simp only [Act.put, List.getElem_toArray, List.getElem_cons_succ, List.getElem_cons_zero, List.setIfInBounds_toArray, List.set_cons_zero, List.set_cons_succ]
      refine wpAnyL_take (i := 25) (v := ?_) rfl (by kernel_rfl) (by kernel_rfl) (by kernel_rfl) (by kernel_rfl) (by kernel_rfl) (fun _ _ _ h => h) (Or.inl ⟨by kernel_rfl, ?_⟩) ⟨p0, p1, p2, p3, p4, r0, r1, r2, r3, r4⟩ ?_
      rotate_left
      · rintro w0 ⟨h1_, h2_, h3_, h4_, h5_, h6_, h7_, h8_, h9_, h10_⟩; go_simp; (try with_reducible rfl)
      try simp only [Act.put, List.getElem_toArray, List.getElem_cons_succ, List.getElem_cons_zero, List.setIfInBounds_toArray, List.set_cons_zero, List.set_cons_succ]
      refine wpAnyL_take (i := 26) (v := ?_) rfl (by kernel_rfl) (by kernel_rfl) (by kernel_rfl) (by kernel_rfl) (by kernel_rfl) (fun _ _ _ h => h) (Or.inl ⟨by kernel_rfl, ?_⟩) ⟨p0, p1, p2, p3, p4, r0, r1, r2, r3, r4⟩ ?_
      rotate_left
      · rintro w0 ⟨h1_, h2_, h3_, h4_, h5_, h6_, h7_, h8_, h9_, h10_⟩; go_simp; (try with_reducible rfl)
      try simp only [Act.put, List.getElem_toArray, List.getElem_cons_succ, List.getElem_cons_zero, List.setIfInBounds_toArray, List.set_cons_zero, List.set_cons_succ]
      refine wpAnyL_take (i := 27) (v := ?_) rfl (by kernel_rfl) (by kernel_rfl) (by kernel_rfl) (by kernel_rfl) (by kernel_rfl) (fun _ _ _ h => h) (Or.inl ⟨by kernel_rfl, ?_⟩) ⟨p0, p1, p2, p3, p4, r0, r1, r2, r3, r4⟩ ?_
      rotate_left
      · rintro w0 ⟨h1_, h2_, h3_, h4_, h5_, h6_, h7_, h8_, h9_, h10_⟩; go_simp; (try with_reducible rfl)
      try simp only [Act.put, List.getElem_toArray, List.getElem_cons_succ, List.getElem_cons_zero, List.setIfInBounds_toArray, List.set_cons_zero, List.set_cons_succ]
      refine wpAnyL_take (i := 28) (v := ?_) rfl (by kernel_rfl) (by kernel_rfl) (by kernel_rfl) (by kernel_rfl) (by kernel_rfl) (fun _ _ _ h => h) (Or.inl ⟨by kernel_rfl, ?_⟩) ⟨p0, p1, p2, p3, p4, r0, r1, r2, r3, r4⟩ ?_
      rotate_left
      · rintro w0 ⟨h1_, h2_, h3_, h4_, h5_, h6_, h7_, h8_, h9_, h10_⟩; go_simp; (try with_reducible rfl)
      try simp only [Act.put, List.getElem_toArray, List.getElem_cons_succ, List.getElem_cons_zero, List.setIfInBounds_toArray, List.set_cons_zero, List.set_cons_succ]
      refine wpAnyL_take (i := 29) (v := ?_) rfl (by kernel_rfl) (by kernel_rfl) (by kernel_rfl) (by kernel_rfl) (by kernel_rfl) (fun _ _ _ h => h) (Or.inl ⟨by kernel_rfl, ?_⟩) ⟨p0, p1, p2, p3, p4, r0, r1, r2, r3, r4⟩ ?_
      rotate_left
      · rintro w0 ⟨h1_, h2_, h3_, h4_, h5_, h6_, h7_, h8_, h9_, h10_⟩; go_simp; (try with_reducible rfl)
      try simp only [Act.put, List.getElem_toArray, List.getElem_cons_succ, List.getElem_cons_zero, List.setIfInBounds_toArray, List.set_cons_zero, List.set_cons_succ]
      refine wpAnyL_take (i := 30) (v := ?_) rfl (by kernel_rfl) (by kernel_rfl) (by kernel_rfl) (by kernel_rfl) (by kernel_rfl) (fun _ _ _ h => h) (Or.inl ⟨by kernel_rfl, ?_⟩) ⟨p0, p1, p2, p3, p4, r0, r1, r2, r3, r4⟩ ?_
      rotate_left
      · rintro w0 ⟨h1_, h2_, h3_, h4_, h5_, h6_, h7_, h8_, h9_, h10_⟩; go_simp; (try with_reducible rfl)
      try simp only [Act.put, List.getElem_toArray, List.getElem_cons_succ, List.getElem_cons_zero, List.setIfInBounds_toArray, List.set_cons_zero, List.set_cons_succ]
      refine wpAnyL_take (i := 31) (v := ?_) rfl (by kernel_rfl) (by kernel_rfl) (by kernel_rfl) (by kernel_rfl) (by kernel_rfl) (fun _ _ _ h => h) (Or.inl ⟨by kernel_rfl, ?_⟩) ⟨p0, p1, p2, p3, p4, r0, r1, r2, r3, r4⟩ ?_
      rotate_left
      · rintro w0 ⟨h1_, h2_, h3_, h4_, h5_, h6_, h7_, h8_, h9_, h10_⟩; go_simp; (try with_reducible rfl)
      try simp only [Act.put, List.getElem_toArray, List.getElem_cons_succ, List.getElem_cons_zero, List.setIfInBounds_toArray, List.set_cons_zero, List.set_cons_succ]
      refine wpAnyL_take (i := 32) (v := ?_) rfl (by kernel_rfl) (by kernel_rfl) (by kernel_rfl) (by kernel_rfl) (by kernel_rfl) (fun _ _ _ h => h) (Or.inl ⟨by kernel_rfl, ?_⟩) ⟨p0, p1, p2, p3, p4, r0, r1, r2, r3, r4⟩ ?_
      rotate_left
      · rintro w0 ⟨h1_, h2_, h3_, h4_, h5_, h6_, h7_, h8_, h9_, h10_⟩; go_simp; (try with_reducible rfl)
      try simp only [Act.put, List.getElem_toArray, List.getElem_cons_succ, List.getElem_cons_zero, List.setIfInBounds_toArray, List.set_cons_zero, List.set_cons_succ]
      refine wpAnyL_take (i := 33) (v := ?_) rfl (by kernel_rfl) (by kernel_rfl) (by kernel_rfl) (by kernel_rfl) (by kernel_rfl) (fun _ _ _ h => h) (Or.inl ⟨by kernel_rfl, ?_⟩) ⟨p0, p1, p2, p3, p4, r0, r1, r2, r3, r4⟩ ?_
      rotate_left
      · rintro w0 ⟨h1_, h2_, h3_, h4_, h5_, h6_, h7_, h8_, h9_, h10_⟩; go_simp; (try with_reducible rfl)
      try simp only [Act.put, List.getElem_toArray, List.getElem_cons_succ, List.getElem_cons_zero, List.setIfInBounds_toArray, List.set_cons_zero, List.set_cons_succ]
      refine wpAnyL_take (i := 34) (v := ?_) rfl (by kernel_rfl) (by kernel_rfl) (by kernel_rfl) (by kernel_rfl) (by kernel_rfl) (fun _ _ _ h => h) (Or.inl ⟨by kernel_rfl, ?_⟩) ⟨p0, p1, p2, p3, p4, r0, r1, r2, r3, r4⟩ ?_
      rotate_left
      · rintro w0 ⟨h1_, h2_, h3_, h4_, h5_, h6_, h7_, h8_, h9_, h10_⟩; go_simp; (try with_reducible rfl)
      try simp only [Act.put, List.getElem_toArray, List.getElem_cons_succ, List.getElem_cons_zero, List.setIfInBounds_toArray, List.set_cons_zero, List.set_cons_succ]
      refine wpAnyL_take (i := 35) (v := ?_) rfl (by kernel_rfl) (by kernel_rfl) (by kernel_rfl) (by kernel_rfl) (by kernel_rfl) (fun _ _ _ h => h) (Or.inl ⟨by kernel_rfl, ?_⟩) ⟨p0, p1, p2, p3, p4, r0, r1, r2, r3, r4⟩ ?_
      rotate_left
      · rintro w0 ⟨h1_, h2_, h3_, h4_, h5_, h6_, h7_, h8_, h9_, h10_⟩; go_simp; (try with_reducible rfl)
      try simp only [Act.put, List.getElem_toArray, List.getElem_cons_succ, List.getElem_cons_zero, List.setIfInBounds_toArray, List.set_cons_zero, List.set_cons_succ]
      refine wpAnyL_take (i := 36) (v := ?_) rfl (by kernel_rfl) (by kernel_rfl) (by kernel_rfl) (by kernel_rfl) (by kernel_rfl) (fun _ _ _ h => h) (Or.inl ⟨by kernel_rfl, ?_⟩) ⟨p0, p1, p2, p3, p4, r0, r1, r2, r3, r4⟩ ?_
      rotate_left
      · rintro w0 ⟨h1_, h2_, h3_, h4_, h5_, h6_, h7_, h8_, h9_, h10_⟩; go_simp; (try with_reducible rfl)
      try simp only [Act.put, List.getElem_toArray, List.getElem_cons_succ, List.getElem_cons_zero, List.setIfInBounds_toArray, List.set_cons_zero, List.set_cons_succ]
      refine wpAnyL_take (i := 37) (v := ?_) rfl (by kernel_rfl) (by kernel_rfl) (by kernel_rfl) (by kernel_rfl) (by kernel_rfl) (fun _ _ _ h => h) (Or.inl ⟨by kernel_rfl, ?_⟩) ⟨p0, p1, p2, p3, p4, r0, r1, r2, r3, r4⟩ ?_
      rotate_left
      · rintro w0 ⟨h1_, h2_, h3_, h4_, h5_, h6_, h7_, h8_, h9_, h10_⟩; go_simp; (try with_reducible rfl)
      try simp only [Act.put, List.getElem_toArray, List.getElem_cons_succ, List.getElem_cons_zero, List.setIfInBounds_toArray, List.set_cons_zero, List.set_cons_succ]
      refine wpAnyL_take (i := 38) (v := ?_) rfl (by kernel_rfl) (by kernel_rfl) (by kernel_rfl) (by kernel_rfl) (by kernel_rfl) (fun _ _ _ h => h) (Or.inl ⟨by kernel_rfl, ?_⟩) ⟨p0, p1, p2, p3, p4, r0, r1, r2, r3, r4⟩ ?_
      rotate_left
      · rintro w0 ⟨h1_, h2_, h3_, h4_, h5_, h6_, h7_, h8_, h9_, h10_⟩; go_simp; (try with_reducible rfl)
      try simp only [Act.put, List.getElem_toArray, List.getElem_cons_succ, List.getElem_cons_zero, List.setIfInBounds_toArray, List.set_cons_zero, List.set_cons_succ]
      refine wpAnyL_take (i := 39) (v := ?_) rfl (by kernel_rfl) (by kernel_rfl) (by kernel_rfl) (by kernel_rfl) (by kernel_rfl) (fun _ _ _ h => h) (Or.inl ⟨by kernel_rfl, ?_⟩) ⟨p0, p1, p2, p3, p4, r0, r1, r2, r3, r4⟩ ?_
      rotate_left
      · rintro w0 ⟨h1_, h2_, h3_, h4_, h5_, h6_, h7_, h8_, h9_, h10_⟩; go_simp; (try with_reducible rfl)
      try simp only [Act.put, List.getElem_toArray, List.getElem_cons_succ, List.getElem_cons_zero, List.setIfInBounds_toArray, List.set_cons_zero, List.set_cons_succ]
      refine wpAnyL_take (i := 40) (v := ?_) rfl (by kernel_rfl) (by kernel_rfl) (by kernel_rfl) (by kernel_rfl) (by kernel_rfl) (fun _ _ _ h => h) (Or.inl ⟨by kernel_rfl, ?_⟩) ⟨p0, p1, p2, p3, p4, r0, r1, r2, r3, r4⟩ ?_
      rotate_left
      · rintro w0 ⟨h1_, h2_, h3_, h4_, h5_, h6_, h7_, h8_, h9_, h10_⟩; go_simp; (try with_reducible rfl)
      try simp only [Act.put, List.getElem_toArray, List.getElem_cons_succ, List.getElem_cons_zero, List.setIfInBounds_toArray, List.set_cons_zero, List.set_cons_succ]
      refine wpAnyL_take (i := 41) (v := ?_) rfl (by kernel_rfl) (by kernel_rfl) (by kernel_rfl) (by kernel_rfl) (by kernel_rfl) (fun _ _ _ h => h) (Or.inl ⟨by kernel_rfl, ?_⟩) ⟨p0, p1, p2, p3, p4, r0, r1, r2, r3, r4⟩ ?_
      rotate_left
      · rintro w0 ⟨h1_, h2_, h3_, h4_, h5_, h6_, h7_, h8_, h9_, h10_⟩; go_simp; (try with_reducible rfl)
      try simp only [Act.put, List.getElem_toArray, List.getElem_cons_succ, List.getElem_cons_zero, List.setIfInBounds_toArray, List.set_cons_zero, List.set_cons_succ]
      refine wpAnyL_take (i := 42) (v := ?_) rfl (by kernel_rfl) (by kernel_rfl) (by kernel_rfl) (by kernel_rfl) (by kernel_rfl) (fun _ _ _ h => h) (Or.inl ⟨by kernel_rfl, ?_⟩) ⟨p0, p1, p2, p3, p4, r0, r1, r2, r3, r4⟩ ?_
      rotate_left
      · rintro w0 ⟨h1_, h2_, h3_, h4_, h5_, h6_, h7_, h8_, h9_, h10_⟩; go_simp; (try with_reducible rfl)
      try simp only [Act.put, List.getElem_toArray, List.getElem_cons_succ, List.getElem_cons_zero, List.setIfInBounds_toArray, List.set_cons_zero, List.set_cons_succ]
      refine wpAnyL_take (i := 43) (v := ?_) rfl (by kernel_rfl) (by kernel_rfl) (by kernel_rfl) (by kernel_rfl) (by kernel_rfl) (fun _ _ _ h => h) (Or.inl ⟨by kernel_rfl, ?_⟩) ⟨p0, p1, p2, p3, p4, r0, r1, r2, r3, r4⟩ ?_
      rotate_left
      · rintro w0 ⟨h1_, h2_, h3_, h4_, h5_, h6_, h7_, h8_, h9_, h10_⟩; go_simp; (try with_reducible rfl)
      try simp only [Act.put, List.getElem_toArray, List.getElem_cons_succ, List.getElem_cons_zero, List.setIfInBounds_toArray, List.set_cons_zero, List.set_cons_succ]
      refine wpAnyL_take (i := 44) (v := ?_) rfl (by kernel_rfl) (by kernel_rfl) (by kernel_rfl) (by kernel_rfl) (by kernel_rfl) (fun _ _ _ h => h) (Or.inl ⟨by kernel_rfl, ?_⟩) ⟨p0, p1, p2, p3, p4, r0, r1, r2, r3, r4⟩ ?_
      rotate_left
      · rintro w0 ⟨h1_, h2_, h3_, h4_, h5_, h6_, h7_, h8_, h9_, h10_⟩; go_simp; (try with_reducible rfl)
      try simp only [Act.put, List.getElem_toArray, List.getElem_cons_succ, List.getElem_cons_zero, List.setIfInBounds_toArray, List.set_cons_zero, List.set_cons_succ]
      refine wpAnyL_take (i := 45) (v := ?_) rfl (by kernel_rfl) (by kernel_rfl) (by kernel_rfl) (by kernel_rfl) (by kernel_rfl) (fun _ _ _ h => h) (Or.inl ⟨by kernel_rfl, ?_⟩) ⟨p0, p1, p2, p3, p4, r0, r1, r2, r3, r4⟩ ?_
      rotate_left
      · rintro w0 ⟨h1_, h2_, h3_, h4_, h5_, h6_, h7_, h8_, h9_, h10_⟩; go_simp; (try with_reducible rfl)
      try simp only [Act.put, List.getElem_toArray, List.getElem_cons_succ, List.getElem_cons_zero, List.setIfInBounds_toArray, List.set_cons_zero, List.set_cons_succ]
      refine wpAnyL_take (i := 46) (v := ?_) rfl (by kernel_rfl) (by kernel_rfl) (by kernel_rfl) (by kernel_rfl) (by kernel_rfl) (fun _ _ _ h => h) (Or.inl ⟨by kernel_rfl, ?_⟩) ⟨p0, p1, p2, p3, p4, r0, r1, r2, r3, r4⟩ ?_
      rotate_left
      · rintro w0 ⟨h1_, h2_, h3_, h4_, h5_, h6_, h7_, h8_, h9_, h10_⟩; go_simp; (try with_reducible rfl)
      try simp only [Act.put, List.getElem_toArray, List.getElem_cons_succ, List.getElem_cons_zero, List.setIfInBounds_toArray, List.set_cons_zero, List.set_cons_succ]
      refine wpAnyL_take (i := 47) (v := ?_) rfl (by kernel_rfl) (by kernel_rfl) (by kernel_rfl) (by kernel_rfl) (by kernel_rfl) (fun _ _ _ h => h) (Or.inl ⟨by kernel_rfl, ?_⟩) ⟨p0, p1, p2, p3, p4, r0, r1, r2, r3, r4⟩ ?_
      rotate_left
      · rintro w0 ⟨h1_, h2_, h3_, h4_, h5_, h6_, h7_, h8_, h9_, h10_⟩; go_simp; (try with_reducible rfl)
      try simp only [Act.put, List.getElem_toArray, List.getElem_cons_succ, List.getElem_cons_zero, List.setIfInBounds_toArray, List.set_cons_zero, List.set_cons_succ]
      refine wpAnyL_take (i := 48) (v := ?_) rfl (by kernel_rfl) (by kernel_rfl) (by kernel_rfl) (by kernel_rfl) (by kernel_rfl) (fun _ _ _ h => h) (Or.inl ⟨by kernel_rfl, ?_⟩) ⟨p0, p1, p2, p3, p4, r0, r1, r2, r3, r4⟩ ?_
      rotate_left
      · rintro w0 ⟨h1_, h2_, h3_, h4_, h5_, h6_, h7_, h8_, h9_, h10_⟩; go_simp; (try with_reducible rfl)
      try simp only [Act.put, List.getElem_toArray, List.getElem_cons_succ, List.getElem_cons_zero, List.setIfInBounds_toArray, List.set_cons_zero, List.set_cons_succ]
      refine wpAnyL_take (i := 49) (v := ?_) rfl (by kernel_rfl) (by kernel_rfl) (by kernel_rfl) (by kernel_rfl) (by kernel_rfl) (fun _ _ _ h => h) (Or.inl ⟨by kernel_rfl, ?_⟩) ⟨p0, p1, p2, p3, p4, r0, r1, r2, r3, r4⟩ ?_
      rotate_left
      · rintro w0 ⟨h1_, h2_, h3_, h4_, h5_, h6_, h7_, h8_, h9_, h10_⟩; go_simp; (try with_reducible rfl)
      try simp only [Act.put, List.getElem_toArray, List.getElem_cons_succ, List.getElem_cons_zero, List.setIfInBounds_toArray, List.set_cons_zero, List.set_cons_succ]
      refine wpAnyL_take (i := 50) (v := ?_) rfl (by kernel_rfl) (by kernel_rfl) (by kernel_rfl) (by kernel_rfl) (by kernel_rfl) (fun _ _ _ h => h) (Or.inl ⟨by kernel_rfl, ?_⟩) ⟨p0, p1, p2, p3, p4, r0, r1, r2, r3, r4⟩ ?_
      rotate_left
      · rintro w0 ⟨h1_, h2_, h3_, h4_, h5_, h6_, h7_, h8_, h9_, h10_⟩; go_simp; (try with_reducible rfl)
      try simp only [Act.put, List.getElem_toArray, List.getElem_cons_succ, List.getElem_cons_zero, List.setIfInBounds_toArray, List.set_cons_zero, List.set_cons_succ]
      refine wpAnyL_take (i := 51) (v := undef) rfl (by kernel_rfl) (by kernel_rfl) (by kernel_rfl) (by kernel_rfl) (by kernel_rfl) (fun _ _ _ h => h) (Or.inr ⟨by kernel_rfl, rfl⟩) ⟨p0, p1, p2, p3, p4, r0, r1, r2, r3, r4⟩ ?_
      try simp only [Act.put, List.getElem_toArray, List.getElem_cons_succ, List.getElem_cons_zero, List.setIfInBounds_toArray, List.set_cons_zero, List.set_cons_succ]
      refine wpAnyL_take (i := 52) (v := undef) rfl (by kernel_rfl) (by kernel_rfl) (by kernel_rfl) (by kernel_rfl) (by kernel_rfl) (fun _ _ _ h => h) (Or.inr ⟨by kernel_rfl, rfl⟩) ⟨p0, p1, p2, p3, p4, r0, r1, r2, r3, r4⟩ ?_
      try simp only [Act.put, List.getElem_toArray, List.getElem_cons_succ, List.getElem_cons_zero, List.setIfInBounds_toArray, List.set_cons_zero, List.set_cons_succ]
      refine wpAnyL_take (i := 53) (v := undef) rfl (by kernel_rfl) (by kernel_rfl) (by kernel_rfl) (by kernel_rfl) (by kernel_rfl) (fun _ _ _ h => h) (Or.inr ⟨by kernel_rfl, rfl⟩) ⟨p0, p1, p2, p3, p4, r0, r1, r2, r3, r4⟩ ?_
      try simp only [Act.put, List.getElem_toArray, List.getElem_cons_succ, List.getElem_cons_zero, List.setIfInBounds_toArray, List.set_cons_zero, List.set_cons_succ]
      refine wpAnyL_take (i := 54) (v := undef) rfl (by kernel_rfl) (by kernel_rfl) (by kernel_rfl) (by kernel_rfl) (by kernel_rfl) (fun _ _ _ h => h) (Or.inr ⟨by kernel_rfl, rfl⟩) ⟨p0, p1, p2, p3, p4, r0, r1, r2, r3, r4⟩ ?_
      try simp only [Act.put, List.getElem_toArray, List.getElem_cons_succ, List.getElem_cons_zero, List.setIfInBounds_toArray, List.set_cons_zero, List.set_cons_succ]
      refine wpAnyL_take (i := 55) (v := undef) rfl (by kernel_rfl) (by kernel_rfl) (by kernel_rfl) (by kernel_rfl) (by kernel_rfl) (fun _ _ _ h => h) (Or.inr ⟨by kernel_rfl, rfl⟩) ⟨p0, p1, p2, p3, p4, r0, r1, r2, r3, r4⟩ ?_
      try simp only [Act.put, List.getElem_toArray, List.getElem_cons_succ, List.getElem_cons_zero, List.setIfInBounds_toArray, List.set_cons_zero, List.set_cons_succ]
      refine wpAnyL_take (i := 56) (v := undef) rfl (by kernel_rfl) (by kernel_rfl) (by kernel_rfl) (by kernel_rfl) (by kernel_rfl) (fun _ _ _ h => h) (Or.inr ⟨by kernel_rfl, rfl⟩) ⟨p0, p1, p2, p3, p4, r0, r1, r2, r3, r4⟩ ?_
      try simp only [Act.put, List.getElem_toArray, List.getElem_cons_succ, List.getElem_cons_zero, List.setIfInBounds_toArray, List.set_cons_zero, List.set_cons_succ]
      refine wpAnyL_take (i := 57) (v := undef) rfl (by kernel_rfl) (by kernel_rfl) (by kernel_rfl) (by kernel_rfl) (by kernel_rfl) (fun _ _ _ h => h) (Or.inr ⟨by kernel_rfl, rfl⟩) ⟨p0, p1, p2, p3, p4, r0, r1, r2, r3, r4⟩ ?_
      try simp only [Act.put, List.getElem_toArray, List.getElem_cons_succ, List.getElem_cons_zero, List.setIfInBounds_toArray, List.set_cons_zero, List.set_cons_succ]
      refine wpAnyL_take (i := 58) (v := undef) rfl (by kernel_rfl) (by kernel_rfl) (by kernel_rfl) (by kernel_rfl) (by kernel_rfl) (fun _ _ _ h => h) (Or.inr ⟨by kernel_rfl, rfl⟩) ⟨p0, p1, p2, p3, p4, r0, r1, r2, r3, r4⟩ ?_
      try simp only [Act.put, List.getElem_toArray, List.getElem_cons_succ, List.getElem_cons_zero, List.setIfInBounds_toArray, List.set_cons_zero, List.set_cons_succ]
      refine wpAnyL_take (i := 59) (v := undef) rfl (by kernel_rfl) (by kernel_rfl) (by kernel_rfl) (by kernel_rfl) (by kernel_rfl) (fun _ _ _ h => h) (Or.inr ⟨by kernel_rfl, rfl⟩) ⟨p0, p1, p2, p3, p4, r0, r1, r2, r3, r4⟩ ?_
      try simp only [Act.put, List.getElem_toArray, List.getElem_cons_succ, List.getElem_cons_zero, List.setIfInBounds_toArray, List.set_cons_zero, List.set_cons_succ]
      refine wpAnyL_take (i := 60) (v := undef) rfl (by kernel_rfl) (by kernel_rfl) (by kernel_rfl) (by kernel_rfl) (by kernel_rfl) (fun _ _ _ h => h) (Or.inr ⟨by kernel_rfl, rfl⟩) ⟨p0, p1, p2, p3, p4, r0, r1, r2, r3, r4⟩ ?_
      try simp only [Act.put, List.getElem_toArray, List.getElem_cons_succ, List.getElem_cons_zero, List.setIfInBounds_toArray, List.set_cons_zero, List.set_cons_succ]
      refine wpAnyL_one (i := 61) (by kernel_rfl) rfl (fun K hK => ?_)
      rw [if_neg (Bool.eq_false_iff.1 (by kernel_rfl))]
      refine hK.out _ _ (fun _ => ⟨p0, p1, p2, p3, p4, r0, r1, r2, r3, r4⟩) ?_
      clear hK K
      try simp only [Act.put, List.getElem_toArray, List.getElem_cons_succ, List.getElem_cons_zero, List.setIfInBounds_toArray, List.set_cons_zero, List.set_cons_succ]
      refine wpAnyL_take (i := 62) (v := undef) rfl (by kernel_rfl) (by kernel_rfl) (by kernel_rfl) (by kernel_rfl) (by kernel_rfl) (fun _ _ _ h => h) (Or.inr ⟨by kernel_rfl, rfl⟩) ⟨p0, p1, p2, p3, p4, r0, r1, r2, r3, r4⟩ ?_
      try simp only [Act.put, List.getElem_toArray, List.getElem_cons_succ, List.getElem_cons_zero, List.setIfInBounds_toArray, List.set_cons_zero, List.set_cons_succ]
      refine wpAnyL_take (i := 63) (v := ?_) rfl (by kernel_rfl) (by kernel_rfl) (by kernel_rfl) (by kernel_rfl) (by kernel_rfl) (fun _ _ _ h => h) (Or.inl ⟨by kernel_rfl, ?_⟩) ⟨p0, p1, p2, p3, p4, r0, r1, r2, r3, r4⟩ ?_
      rotate_left
      · rintro w0 ⟨h1_, h2_, h3_, h4_, h5_, h6_, h7_, h8_, h9_, h10_⟩; go_simp; (try with_reducible rfl)
      try simp only [Act.put, List.getElem_toArray, List.getElem_cons_succ, List.getElem_cons_zero, List.setIfInBounds_toArray, List.set_cons_zero, List.set_cons_succ]
      refine wpAnyL_done (by kernel_rfl) ?_ _
      go_wp2_with fail
      go_ret
      exact ⟨⟨q + 1, rfl⟩, by rw [HN.out]; rfl⟩
    have t3 := int_eq h3
    have K3 := Lib.hid h3
    clear h3
    have hdd : decide (x.x.data = y.x.data) = true → x.x = y.x := fun h => cl_ext K0.out K1.out K2.out K3.out (of_decide_eq_true h)
    have hdn : decide (x.x.data = y.x.data) = false → x.x ≠ y.x := fun h e => by rw [e] at h; simp at h
    have HD := Lib.hid (And.intro hdd hdn)
    clear hdd hdn
    go_wp2_with fail
    refine wp_region_late [] (fun w' => w'.cell? ⟨b, o + j * 5, none⟩ = some (.int .u32 (x.x.gen : Int)) ∧ w'.cell? ⟨b, o + j * 5 + 1, none⟩ = some (.int .u32 (x.x.seq : Int)) ∧ w'.cell? ⟨b, o + j * 5 + 2, none⟩ = some (.int .i64 x.x.part) ∧ w'.cell? ⟨b, o + j * 5 + 3, none⟩ = some (.int .i64 x.x.parts) ∧ w'.cell? ⟨b, o + j * 5 + 4, none⟩ = some (.slice x.A x.n x.c) ∧ w'.cell? ⟨b', o' + j * 5, none⟩ = some (.int .u32 (y.x.gen : Int)) ∧ w'.cell? ⟨b', o' + j * 5 + 1, none⟩ = some (.int .u32 (y.x.seq : Int)) ∧ w'.cell? ⟨b', o' + j * 5 + 2, none⟩ = some (.int .i64 y.x.part) ∧ w'.cell? ⟨b', o' + j * 5 + 3, none⟩ = some (.int .i64 y.x.parts) ∧ w'.cell? ⟨b', o' + j * 5 + 4, none⟩ = some (.slice y.A y.n y.c)) (by kernel_rfl) ?_
    refine wpAnyL_take (i := 0) (v := ?_) rfl (by kernel_rfl) (by kernel_rfl) (by kernel_rfl) (by kernel_rfl) (by kernel_rfl) (fun _ _ _ h => h) (Or.inl ⟨by kernel_rfl, ?_⟩) ⟨p0, p1, p2, p3, p4, r0, r1, r2, r3, r4⟩ ?_
    rotate_left
    · rintro w0 ⟨h1_, h2_, h3_, h4_, h5_, h6_, h7_, h8_, h9_, h10_⟩; go_simp; (try with_reducible rfl)
    try simp only [Act.put, List.getElem_toArray, List.getElem_cons_succ, List.getElem_cons_zero, List.setIfInBounds_toArray, List.set_cons_zero, List.set_cons_succ]
    refine wpAnyL_take (i := 1) (v := ?_) rfl (by kernel_rfl) (by kernel_rfl) (by kernel_rfl) (by kernel_rfl) (by kernel_rfl) (fun _ _ _ h => h) (Or.inl ⟨by kernel_rfl, ?_⟩) ⟨p0, p1, p2, p3, p4, r0, r1, r2, r3, r4⟩ ?_
    rotate_left
    · rintro w0 ⟨h1_, h2_, h3_, h4_, h5_, h6_, h7_, h8_, h9_, h10_⟩; go_simp; (try with_reducible rfl)
    try simp only [Act.put, List.getElem_toArray, List.getElem_cons_succ, List.getElem_cons_zero, List.setIfInBounds_toArray, List.set_cons_zero, List.set_cons_succ]
    refine wpAnyL_take (i := 2) (v := ?_) rfl (by kernel_rfl) (by kernel_rfl) (by kernel_rfl) (by kernel_rfl) (by kernel_rfl) (fun _ _ _ h => h) (Or.inl ⟨by kernel_rfl, ?_⟩) ⟨p0, p1, p2, p3, p4, r0, r1, r2, r3, r4⟩ ?_
    rotate_left
    · rintro w0 ⟨h1_, h2_, h3_, h4_, h5_, h6_, h7_, h8_, h9_, h10_⟩; go_simp; (try with_reducible rfl)
    try simp only [Act.put, List.getElem_toArray, List.getElem_cons_succ, List.getElem_cons_zero, List.setIfInBounds_toArray, List.set_cons_zero, List.set_cons_succ]
    refine wpAnyL_take (i := 3) (v := ?_) rfl (by kernel_rfl) (by kernel_rfl) (by kernel_rfl) (by kernel_rfl) (by kernel_rfl) (fun _ _ _ h => h) (Or.inl ⟨by kernel_rfl, ?_⟩) ⟨p0, p1, p2, p3, p4, r0, r1, r2, r3, r4⟩ ?_
    rotate_left
    · rintro w0 ⟨h1_, h2_, h3_, h4_, h5_, h6_, h7_, h8_, h9_, h10_⟩; go_simp; (try with_reducible rfl)
    try simp only [Act.put, List.getElem_toArray, List.getElem_cons_succ, List.getElem_cons_zero, List.setIfInBounds_toArray, List.set_cons_zero, List.set_cons_succ]
    refine wpAnyL_take (i := 4) (v := ?_) rfl (by kernel_rfl) (by kernel_rfl) (by kernel_rfl) (by kernel_rfl) (by kernel_rfl) (fun _ _ _ h => h) (Or.inl ⟨by kernel_rfl, ?_⟩) ⟨p0, p1, p2, p3, p4, r0, r1, r2, r3, r4⟩ ?_
    rotate_left
    · rintro w0 ⟨h1_, h2_, h3_, h4_, h5_, h6_, h7_, h8_, h9_, h10_⟩; go_simp; (try with_reducible rfl)
    try simp only [Act.put, List.getElem_toArray, List.getElem_cons_succ, List.getElem_cons_zero, List.setIfInBounds_toArray, List.set_cons_zero, List.set_cons_succ]
    refine wpAnyL_take (i := 5) (v := ?_) rfl (by kernel_rfl) (by kernel_rfl) (by kernel_rfl) (by kernel_rfl) (by kernel_rfl) (fun _ _ _ h => h) (Or.inl ⟨by kernel_rfl, ?_⟩) ⟨p0, p1, p2, p3, p4, r0, r1, r2, r3, r4⟩ ?_
    rotate_left
    · rintro w0 ⟨h1_, h2_, h3_, h4_, h5_, h6_, h7_, h8_, h9_, h10_⟩; go_simp; (try with_reducible rfl)
    try simp only [Act.put, List.getElem_toArray, List.getElem_cons_succ, List.getElem_cons_zero, List.setIfInBounds_toArray, List.set_cons_zero, List.set_cons_succ]
    refine wpAnyL_take (i := 6) (v := ?_) rfl (by kernel_rfl) (by kernel_rfl) (by kernel_rfl) (by kernel_rfl) (by kernel_rfl) (fun _ _ _ h => h) (Or.inl ⟨by kernel_rfl, ?_⟩) ⟨p0, p1, p2, p3, p4, r0, r1, r2, r3, r4⟩ ?_
    rotate_left
    · rintro w0 ⟨h1_, h2_, h3_, h4_, h5_, h6_, h7_, h8_, h9_, h10_⟩; go_simp; (try with_reducible rfl)
    try simp only [Act.put, List.getElem_toArray, List.getElem_cons_succ, List.getElem_cons_zero, List.setIfInBounds_toArray, List.set_cons_zero, List.set_cons_succ]
    refine wpAnyL_take (i := 7) (v := ?_) rfl (by kernel_rfl) (by kernel_rfl) (by kernel_rfl) (by kernel_rfl) (by kernel_rfl) (fun _ _ _ h => h) (Or.inl ⟨by kernel_rfl, ?_⟩) ⟨p0, p1, p2, p3, p4, r0, r1, r2, r3, r4⟩ ?_
    rotate_left
    · rintro w0 ⟨h1_, h2_, h3_, h4_, h5_, h6_, h7_, h8_, h9_, h10_⟩; go_simp; (try with_reducible rfl)
    try simp only [Act.put, List.getElem_toArray, List.getElem_cons_succ, List.getElem_cons_zero, List.setIfInBounds_toArray, List.set_cons_zero, List.set_cons_succ]
    refine wpAnyL_take (i := 8) (v := ?_) rfl (by kernel_rfl) (by kernel_rfl) (by kernel_rfl) (by kernel_rfl) (by kernel_rfl) (fun _ _ _ h => h) (Or.inl ⟨by kernel_rfl, ?_⟩) ⟨p0, p1, p2, p3, p4, r0, r1, r2, r3, r4⟩ ?_
    rotate_left
    · rintro w0 ⟨h1_, h2_, h3_, h4_, h5_, h6_, h7_, h8_, h9_, h10_⟩; go_simp; (try with_reducible rfl)
    try simp only [Act.put, List.getElem_toArray, List.getElem_cons_succ, List.getElem_cons_zero, List.setIfInBounds_toArray, List.set_cons_zero, List.set_cons_succ]
    refine wpAnyL_take (i := 9) (v := ?_) rfl (by kernel_rfl) (by kernel_rfl) (by kernel_rfl) (by kernel_rfl) (by kernel_rfl) (fun _ _ _ h => h) (Or.inl ⟨by kernel_rfl, ?_⟩) ⟨p0, p1, p2, p3, p4, r0, r1, r2, r3, r4⟩ ?_
    rotate_left
    · rintro w0 ⟨h1_, h2_, h3_, h4_, h5_, h6_, h7_, h8_, h9_, h10_⟩; go_simp; (try with_reducible rfl)
    try simp only [Act.put, List.getElem_toArray, List.getElem_cons_succ, List.getElem_cons_zero, List.setIfInBounds_toArray, List.set_cons_zero, List.set_cons_succ]
    refine wpAnyL_take (i := 10) (v := ?_) rfl (by kernel_rfl) (by kernel_rfl) (by kernel_rfl) (by kernel_rfl) (by kernel_rfl) (fun _ _ _ h => h) (Or.inl ⟨by kernel_rfl, ?_⟩) ⟨p0, p1, p2, p3, p4, r0, r1, r2, r3, r4⟩ ?_
    rotate_left
    · rintro w0 ⟨h1_, h2_, h3_, h4_, h5_, h6_, h7_, h8_, h9_, h10_⟩; go_simp; (try with_reducible rfl)
    try simp only [Act.put, List.getElem_toArray, List.getElem_cons_succ, List.getElem_cons_zero, List.setIfInBounds_toArray, List.set_cons_zero, List.set_cons_succ]
    refine wpAnyL_take (i := 11) (v := ?_) rfl (by kernel_rfl) (by kernel_rfl) (by kernel_rfl) (by kernel_rfl) (by kernel_rfl) (fun _ _ _ h => h) (Or.inl ⟨by kernel_rfl, ?_⟩) ⟨p0, p1, p2, p3, p4, r0, r1, r2, r3, r4⟩ ?_
    rotate_left
    · rintro w0 ⟨h1_, h2_, h3_, h4_, h5_, h6_, h7_, h8_, h9_, h10_⟩; go_simp; (try with_reducible rfl)
    try simp only [Act.put, List.getElem_toArray, List.getElem_cons_succ, List.getElem_cons_zero, List.setIfInBounds_toArray, List.set_cons_zero, List.set_cons_succ]
    refine wpAnyL_take (i := 12) (v := ?_) rfl (by kernel_rfl) (by kernel_rfl) (by kernel_rfl) (by kernel_rfl) (by kernel_rfl) (fun _ _ _ h => h) (Or.inl ⟨by kernel_rfl, ?_⟩) ⟨p0, p1, p2, p3, p4, r0, r1, r2, r3, r4⟩ ?_
    rotate_left
    · rintro w0 ⟨h1_, h2_, h3_, h4_, h5_, h6_, h7_, h8_, h9_, h10_⟩; go_simp; (try with_reducible rfl)
    try simp only [Act.put, List.getElem_toArray, List.getElem_cons_succ, List.getElem_cons_zero, List.setIfInBounds_toArray, List.set_cons_zero, List.set_cons_succ]
    refine wpAnyL_take (i := 13) (v := ?_) rfl (by kernel_rfl) (by kernel_rfl) (by kernel_rfl) (by kernel_rfl) (by kernel_rfl) (fun _ _ _ h => h) (Or.inl ⟨by kernel_rfl, ?_⟩) ⟨p0, p1, p2, p3, p4, r0, r1, r2, r3, r4⟩ ?_
    rotate_left
    · rintro w0 ⟨h1_, h2_, h3_, h4_, h5_, h6_, h7_, h8_, h9_, h10_⟩; go_simp; (try with_reducible rfl)
    try simp only [Act.put, List.getElem_toArray, List.getElem_cons_succ, List.getElem_cons_zero, List.setIfInBounds_toArray, List.set_cons_zero, List.set_cons_succ]
    refine wpAnyL_take (i := 14) (v := ?_) rfl (by kernel_rfl) (by kernel_rfl) (by kernel_rfl) (by kernel_rfl) (by kernel_rfl) (fun _ _ _ h => h) (Or.inl ⟨by kernel_rfl, ?_⟩) ⟨p0, p1, p2, p3, p4, r0, r1, r2, r3, r4⟩ ?_
    rotate_left
    · rintro w0 ⟨h1_, h2_, h3_, h4_, h5_, h6_, h7_, h8_, h9_, h10_⟩; go_simp; (try with_reducible rfl)
    try simp only [Act.put, List.getElem_toArray, List.getElem_cons_succ, List.getElem_cons_zero, List.setIfInBounds_toArray, List.set_cons_zero, List.set_cons_succ]
    refine wpAnyL_take (i := 15) (v := ?_) rfl (by kernel_rfl) (by kernel_rfl) (by kernel_rfl) (by kernel_rfl) (by kernel_rfl) (fun _ _ _ h => h) (Or.inl ⟨by kernel_rfl, ?_⟩) ⟨p0, p1, p2, p3, p4, r0, r1, r2, r3, r4⟩ ?_
    rotate_left
    · rintro w0 ⟨h1_, h2_, h3_, h4_, h5_, h6_, h7_, h8_, h9_, h10_⟩; go_simp; (try with_reducible rfl)
    try simp only [Act.put, List.getElem_toArray, List.getElem_cons_succ, List.getElem_cons_zero, List.setIfInBounds_toArray, List.set_cons_zero, List.set_cons_succ]
    refine wpAnyL_take (i := 16) (v := ?_) rfl (by kernel_rfl) (by kernel_rfl) (by kernel_rfl) (by kernel_rfl) (by kernel_rfl) (fun _ _ _ h => h) (Or.inl ⟨by kernel_rfl, ?_⟩) ⟨p0, p1, p2, p3, p4, r0, r1, r2, r3, r4⟩ ?_
    rotate_left
    · rintro w0 ⟨h1_, h2_, h3_, h4_, h5_, h6_, h7_, h8_, h9_, h10_⟩; go_simp; (try with_reducible rfl)
    try simp only [Act.put, List.getElem_toArray, List.getElem_cons_succ, List.getElem_cons_zero, List.setIfInBounds_toArray, List.set_cons_zero, List.set_cons_succ]
    refine wpAnyL_take (i := 17) (v := ?_) rfl (by kernel_rfl) (by kernel_rfl) (by kernel_rfl) (by kernel_rfl) (by kernel_rfl) (fun _ _ _ h => h) (Or.inl ⟨by kernel_rfl, ?_⟩) ⟨p0, p1, p2, p3, p4, r0, r1, r2, r3, r4⟩ ?_
    rotate_left
    · rintro w0 ⟨h1_, h2_, h3_, h4_, h5_, h6_, h7_, h8_, h9_, h10_⟩; go_simp; (try with_reducible rfl)
    try simp only [Act.put, List.getElem_toArray, List.getElem_cons_succ, List.getElem_cons_zero, List.setIfInBounds_toArray, List.set_cons_zero, List.set_cons_succ]
    refine wpAnyL_take (i := 18) (v := ?_) rfl (by kernel_rfl) (by kernel_rfl) (by kernel_rfl) (by kernel_rfl) (by kernel_rfl) (fun _ _ _ h => h) (Or.inl ⟨by kernel_rfl, ?_⟩) ⟨p0, p1, p2, p3, p4, r0, r1, r2, r3, r4⟩ ?_
    rotate_left
    · rintro w0 ⟨h1_, h2_, h3_, h4_, h5_, h6_, h7_, h8_, h9_, h10_⟩; go_simp; (try with_reducible rfl)
    try simp only [Act.put, List.getElem_toArray, List.getElem_cons_succ, List.getElem_cons_zero, List.setIfInBounds_toArray, List.set_cons_zero, List.set_cons_succ]
    refine wpAnyL_take (i := 19) (v := ?_) rfl (by kernel_rfl) (by kernel_rfl) (by kernel_rfl) (by kernel_rfl) (by kernel_rfl) (fun _ _ _ h => h) (Or.inl ⟨by kernel_rfl, ?_⟩) ⟨p0, p1, p2, p3, p4, r0, r1, r2, r3, r4⟩ ?_
    rotate_left
    · rintro w0 ⟨h1_, h2_, h3_, h4_, h5_, h6_, h7_, h8_, h9_, h10_⟩; go_simp; (try with_reducible rfl)
    try simp only [Act.put, List.getElem_toArray, List.getElem_cons_succ, List.getElem_cons_zero, List.setIfInBounds_toArray, List.set_cons_zero, List.set_cons_succ]
    refine wpAnyL_take (i := 20) (v := ?_) rfl (by kernel_rfl) (by kernel_rfl) (by kernel_rfl) (by kernel_rfl) (by kernel_rfl) (fun _ _ _ h => h) (Or.inl ⟨by kernel_rfl, ?_⟩) ⟨p0, p1, p2, p3, p4, r0, r1, r2, r3, r4⟩ ?_
    rotate_left
    · rintro w0 ⟨h1_, h2_, h3_, h4_, h5_, h6_, h7_, h8_, h9_, h10_⟩; go_simp; (try with_reducible rfl)
    try simp only [Act.put, List.getElem_toArray, List.getElem_cons_succ, List.getElem_cons_zero, List.setIfInBounds_toArray, List.set_cons_zero, List.set_cons_succ]
    refine wpAnyL_take (i := 21) (v := ?_) rfl (by kernel_rfl) (by kernel_rfl) (by kernel_rfl) (by kernel_rfl) (by kernel_rfl) (fun _ _ _ h => h) (Or.inl ⟨by kernel_rfl, ?_⟩) ⟨p0, p1, p2, p3, p4, r0, r1, r2, r3, r4⟩ ?_
    rotate_left
    · rintro w0 ⟨h1_, h2_, h3_, h4_, h5_, h6_, h7_, h8_, h9_, h10_⟩; go_simp; (try with_reducible rfl)
    try simp only [Act.put, List.getElem_toArray, List.getElem_cons_succ, List.getElem_cons_zero, List.setIfInBounds_toArray, List.set_cons_zero, List.set_cons_succ]
    refine wpAnyL_take (i := 22) (v := ?_) rfl (by kernel_rfl) (by kernel_rfl) (by kernel_rfl) (by kernel_rfl) (by kernel_rfl) (fun _ _ _ h => h) (Or.inl ⟨by kernel_rfl, ?_⟩) ⟨p0, p1, p2, p3, p4, r0, r1, r2, r3, r4⟩ ?_
    rotate_left
    · rintro w0 ⟨h1_, h2_, h3_, h4_, h5_, h6_, h7_, h8_, h9_, h10_⟩; go_simp; (try with_reducible rfl)
    try simp only [Act.put, List.getElem_toArray, List.getElem_cons_succ, List.getElem_cons_zero, List.setIfInBounds_toArray, List.set_cons_zero, List.set_cons_succ]
    refine wpAnyL_take (i := 23) (v := ?_) rfl (by kernel_rfl) (by kernel_rfl) (by kernel_rfl) (by kernel_rfl) (by kernel_rfl) (fun _ _ _ h => h) (Or.inl ⟨by kernel_rfl, ?_⟩) ⟨p0, p1, p2, p3, p4, r0, r1, r2, r3, r4⟩ ?_
    rotate_left
    · rintro w0 ⟨h1_, h2_, h3_, h4_, h5_, h6_, h7_, h8_, h9_, h10_⟩; go_simp; (try with_reducible rfl)
    try simp only [Act.put, List.getElem_toArray, List.getElem_cons_succ, List.getElem_cons_zero, List.setIfInBounds_toArray, List.set_cons_zero, List.set_cons_succ]
    refine wpAnyL_take (i := 24) (v := ?_) rfl (by kernel_rfl) (by kernel_rfl) (by kernel_rfl) (by kernel_rfl) (by kernel_rfl) (fun _ _ _ h => h) (Or.inl ⟨by kernel_rfl, ?_⟩) ⟨p0, p1, p2, p3, p4, r0, r1, r2, r3, r4⟩ ?_
    rotate_left
    · rintro w0 ⟨h1_, h2_, h3_, h4_, h5_, h6_, h7_, h8_, h9_, h10_⟩; go_simp; (try with_reducible rfl)
    try simp only [Act.put, List.getElem_toArray, List.getElem_cons_succ, List.getElem_cons_zero, List.setIfInBounds_toArray, List.set_cons_zero, List.set_cons_succ]
    refine wpAnyL_take (i := 25) (v := ?_) rfl (by kernel_rfl) (by kernel_rfl) (by kernel_rfl) (by kernel_rfl) (by kernel_rfl) (fun _ _ _ h => h) (Or.inl ⟨by kernel_rfl, ?_⟩) ⟨p0, p1, p2, p3, p4, r0, r1, r2, r3, r4⟩ ?_
    rotate_left
    · rintro w0 ⟨h1_, h2_, h3_, h4_, h5_, h6_, h7_, h8_, h9_, h10_⟩; go_simp; (try with_reducible rfl)
    try simp only [Act.put, List.getElem_toArray, List.getElem_cons_succ, List.getElem_cons_zero, List.setIfInBounds_toArray, List.set_cons_zero, List.set_cons_succ]
    refine wpAnyL_take (i := 26) (v := ?_) rfl (by kernel_rfl) (by kernel_rfl) (by kernel_rfl) (by kernel_rfl) (by kernel_rfl) (fun _ _ _ h => h) (Or.inl ⟨by kernel_rfl, ?_⟩) ⟨p0, p1, p2, p3, p4, r0, r1, r2, r3, r4⟩ ?_
    rotate_left
    · rintro w0 ⟨h1_, h2_, h3_, h4_, h5_, h6_, h7_, h8_, h9_, h10_⟩; go_simp; (try with_reducible rfl)
    try simp only [Act.put, List.getElem_toArray, List.getElem_cons_succ, List.getElem_cons_zero, List.setIfInBounds_toArray, List.set_cons_zero, List.set_cons_succ]
    refine wpAnyL_take (i := 27) (v := ?_) rfl (by kernel_rfl) (by kernel_rfl) (by kernel_rfl) (by kernel_rfl) (by kernel_rfl) (fun _ _ _ h => h) (Or.inl ⟨by kernel_rfl, ?_⟩) ⟨p0, p1, p2, p3, p4, r0, r1, r2, r3, r4⟩ ?_
    rotate_left
    · rintro w0 ⟨h1_, h2_, h3_, h4_, h5_, h6_, h7_, h8_, h9_, h10_⟩; go_simp; (try with_reducible rfl)
    try simp only [Act.put, List.getElem_toArray, List.getElem_cons_succ, List.getElem_cons_zero, List.setIfInBounds_toArray, List.set_cons_zero, List.set_cons_succ]
    refine wpAnyL_take (i := 28) (v := ?_) rfl (by kernel_rfl) (by kernel_rfl) (by kernel_rfl) (by kernel_rfl) (by kernel_rfl) (fun _ _ _ h => h) (Or.inl ⟨by kernel_rfl, ?_⟩) ⟨p0, p1, p2, p3, p4, r0, r1, r2, r3, r4⟩ ?_
    rotate_left
    · rintro w0 ⟨h1_, h2_, h3_, h4_, h5_, h6_, h7_, h8_, h9_, h10_⟩; go_simp; (try with_reducible rfl)
    try simp only [Act.put, List.getElem_toArray, List.getElem_cons_succ, List.getElem_cons_zero, List.setIfInBounds_toArray, List.set_cons_zero, List.set_cons_succ]
    refine wpAnyL_take (i := 29) (v := ?_) rfl (by kernel_rfl) (by kernel_rfl) (by kernel_rfl) (by kernel_rfl) (by kernel_rfl) (fun _ _ _ h => h) (Or.inl ⟨by kernel_rfl, ?_⟩) ⟨p0, p1, p2, p3, p4, r0, r1, r2, r3, r4⟩ ?_
    rotate_left
    · rintro w0 ⟨h1_, h2_, h3_, h4_, h5_, h6_, h7_, h8_, h9_, h10_⟩; go_simp; (try with_reducible rfl)
    try simp only [Act.put, List.getElem_toArray, List.getElem_cons_succ, List.getElem_cons_zero, List.setIfInBounds_toArray, List.set_cons_zero, List.set_cons_succ]
    refine wpAnyL_take (i := 30) (v := ?_) rfl (by kernel_rfl) (by kernel_rfl) (by kernel_rfl) (by kernel_rfl) (by kernel_rfl) (fun _ _ _ h => h) (Or.inl ⟨by kernel_rfl, ?_⟩) ⟨p0, p1, p2, p3, p4, r0, r1, r2, r3, r4⟩ ?_
    rotate_left
    · rintro w0 ⟨h1_, h2_, h3_, h4_, h5_, h6_, h7_, h8_, h9_, h10_⟩; go_simp; (try with_reducible rfl)
    try simp only [Act.put, List.getElem_toArray, List.getElem_cons_succ, List.getElem_cons_zero, List.setIfInBounds_toArray, List.set_cons_zero, List.set_cons_succ]
    refine wpAnyL_take (i := 31) (v := ?_) rfl (by kernel_rfl) (by kernel_rfl) (by kernel_rfl) (by kernel_rfl) (by kernel_rfl) (fun _ _ _ h => h) (Or.inl ⟨by kernel_rfl, ?_⟩) ⟨p0, p1, p2, p3, p4, r0, r1, r2, r3, r4⟩ ?_
    rotate_left
    · rintro w0 ⟨h1_, h2_, h3_, h4_, h5_, h6_, h7_, h8_, h9_, h10_⟩; go_simp; (try with_reducible rfl)
    try simp only [Act.put, List.getElem_toArray, List.getElem_cons_succ, List.getElem_cons_zero, List.setIfInBounds_toArray, List.set_cons_zero, List.set_cons_succ]
    refine wpAnyL_take (i := 32) (v := ?_) rfl (by kernel_rfl) (by kernel_rfl) (by kernel_rfl) (by kernel_rfl) (by kernel_rfl) (fun _ _ _ h => h) (Or.inl ⟨by kernel_rfl, ?_⟩) ⟨p0, p1, p2, p3, p4, r0, r1, r2, r3, r4⟩ ?_
    rotate_left
    · rintro w0 ⟨h1_, h2_, h3_, h4_, h5_, h6_, h7_, h8_, h9_, h10_⟩; go_simp; (try with_reducible rfl)
    try simp only [Act.put, List.getElem_toArray, List.getElem_cons_succ, List.getElem_cons_zero, List.setIfInBounds_toArray, List.set_cons_zero, List.set_cons_succ]
    refine wpAnyL_take (i := 33) (v := ?_) rfl (by kernel_rfl) (by kernel_rfl) (by kernel_rfl) (by kernel_rfl) (by kernel_rfl) (fun _ _ _ h => h) (Or.inl ⟨by kernel_rfl, ?_⟩) ⟨p0, p1, p2, p3, p4, r0, r1, r2, r3, r4⟩ ?_
    rotate_left
    · rintro w0 ⟨h1_, h2_, h3_, h4_, h5_, h6_, h7_, h8_, h9_, h10_⟩; go_simp; (try with_reducible rfl)
    try simp only [Act.put, List.getElem_toArray, List.getElem_cons_succ, List.getElem_cons_zero, List.setIfInBounds_toArray, List.set_cons_zero, List.set_cons_succ]
    refine wpAnyL_take (i := 34) (v := ?_) rfl (by kernel_rfl) (by kernel_rfl) (by kernel_rfl) (by kernel_rfl) (by kernel_rfl) (fun _ _ _ h => h) (Or.inl ⟨by kernel_rfl, ?_⟩) ⟨p0, p1, p2, p3, p4, r0, r1, r2, r3, r4⟩ ?_
    rotate_left
    · rintro w0 ⟨h1_, h2_, h3_, h4_, h5_, h6_, h7_, h8_, h9_, h10_⟩; go_simp; (try with_reducible rfl)
    try simp only [Act.put, List.getElem_toArray, List.getElem_cons_succ, List.getElem_cons_zero, List.setIfInBounds_toArray, List.set_cons_zero, List.set_cons_succ]
    refine wpAnyL_take (i := 35) (v := ?_) rfl (by kernel_rfl) (by kernel_rfl) (by kernel_rfl) (by kernel_rfl) (by kernel_rfl) (fun _ _ _ h => h) (Or.inl ⟨by kernel_rfl, ?_⟩) ⟨p0, p1, p2, p3, p4, r0, r1, r2, r3, r4⟩ ?_
    rotate_left
    · rintro w0 ⟨h1_, h2_, h3_, h4_, h5_, h6_, h7_, h8_, h9_, h10_⟩; go_simp; (try with_reducible rfl)
    try simp only [Act.put, List.getElem_toArray, List.getElem_cons_succ, List.getElem_cons_zero, List.setIfInBounds_toArray, List.set_cons_zero, List.set_cons_succ]
    refine wpAnyL_take (i := 36) (v := ?_) rfl (by kernel_rfl) (by kernel_rfl) (by kernel_rfl) (by kernel_rfl) (by kernel_rfl) (fun _ _ _ h => h) (Or.inl ⟨by kernel_rfl, ?_⟩) ⟨p0, p1, p2, p3, p4, r0, r1, r2, r3, r4⟩ ?_
    rotate_left
    · rintro w0 ⟨h1_, h2_, h3_, h4_, h5_, h6_, h7_, h8_, h9_, h10_⟩; go_simp; (try with_reducible rfl)
    try simp only [Act.put, List.getElem_toArray, List.getElem_cons_succ, List.getElem_cons_zero, List.setIfInBounds_toArray, List.set_cons_zero, List.set_cons_succ]
    refine wpAnyL_take (i := 37) (v := ?_) rfl (by kernel_rfl) (by kernel_rfl) (by kernel_rfl) (by kernel_rfl) (by kernel_rfl) (fun _ _ _ h => h) (Or.inl ⟨by kernel_rfl, ?_⟩) ⟨p0, p1, p2, p3, p4, r0, r1, r2, r3, r4⟩ ?_
    rotate_left
    · rintro w0 ⟨h1_, h2_, h3_, h4_, h5_, h6_, h7_, h8_, h9_, h10_⟩; go_simp; (try with_reducible rfl)
    try simp only [Act.put, List.getElem_toArray, List.getElem_cons_succ, List.getElem_cons_zero, List.setIfInBounds_toArray, List.set_cons_zero, List.set_cons_succ]
    refine wpAnyL_take (i := 38) (v := ?_) rfl (by kernel_rfl) (by kernel_rfl) (by kernel_rfl) (by kernel_rfl) (by kernel_rfl) (fun _ _ _ h => h) (Or.inl ⟨by kernel_rfl, ?_⟩) ⟨p0, p1, p2, p3, p4, r0, r1, r2, r3, r4⟩ ?_
    rotate_left
    · rintro w0 ⟨h1_, h2_, h3_, h4_, h5_, h6_, h7_, h8_, h9_, h10_⟩; go_simp; (try with_reducible rfl)
    try simp only [Act.put, List.getElem_toArray, List.getElem_cons_succ, List.getElem_cons_zero, List.setIfInBounds_toArray, List.set_cons_zero, List.set_cons_succ]
    refine wpAnyL_take (i := 39) (v := ?_) rfl (by kernel_rfl) (by kernel_rfl) (by kernel_rfl) (by kernel_rfl) (by kernel_rfl) (fun _ _ _ h => h) (Or.inl ⟨by kernel_rfl, ?_⟩) ⟨p0, p1, p2, p3, p4, r0, r1, r2, r3, r4⟩ ?_
    rotate_left
    · rintro w0 ⟨h1_, h2_, h3_, h4_, h5_, h6_, h7_, h8_, h9_, h10_⟩; go_simp; (try with_reducible rfl)
    try simp only [Act.put, List.getElem_toArray, List.getElem_cons_succ, List.getElem_cons_zero, List.setIfInBounds_toArray, List.set_cons_zero, List.set_cons_succ]
    refine wpAnyL_take (i := 40) (v := ?_) rfl (by kernel_rfl) (by kernel_rfl) (by kernel_rfl) (by kernel_rfl) (by kernel_rfl) (fun _ _ _ h => h) (Or.inl ⟨by kernel_rfl, ?_⟩) ⟨p0, p1, p2, p3, p4, r0, r1, r2, r3, r4⟩ ?_
    rotate_left
    · rintro w0 ⟨h1_, h2_, h3_, h4_, h5_, h6_, h7_, h8_, h9_, h10_⟩; go_simp; (try with_reducible rfl)
    try simp only [Act.put, List.getElem_toArray, List.getElem_cons_succ, List.getElem_cons_zero, List.setIfInBounds_toArray, List.set_cons_zero, List.set_cons_succ]
    refine wpAnyL_take (i := 41) (v := ?_) rfl (by kernel_rfl) (by kernel_rfl) (by kernel_rfl) (by kernel_rfl) (by kernel_rfl) (fun _ _ _ h => h) (Or.inl ⟨by kernel_rfl, ?_⟩) ⟨p0, p1, p2, p3, p4, r0, r1, r2, r3, r4⟩ ?_
    rotate_left
    · rintro w0 ⟨h1_, h2_, h3_, h4_, h5_, h6_, h7_, h8_, h9_, h10_⟩; go_simp; (try with_reducible rfl)
    try simp only [Act.put, List.getElem_toArray, List.getElem_cons_succ, List.getElem_cons_zero, List.setIfInBounds_toArray, List.set_cons_zero, List.set_cons_succ]
    refine wpAnyL_take (i := 42) (v := ?_) rfl (by kernel_rfl) (by kernel_rfl) (by kernel_rfl) (by kernel_rfl) (by kernel_rfl) (fun _ _ _ h => h) (Or.inl ⟨by kernel_rfl, ?_⟩) ⟨p0, p1, p2, p3, p4, r0, r1, r2, r3, r4⟩ ?_
    rotate_left
    · rintro w0 ⟨h1_, h2_, h3_, h4_, h5_, h6_, h7_, h8_, h9_, h10_⟩; go_simp; (try with_reducible rfl)
    try simp only [Act.put, List.getElem_toArray, List.getElem_cons_succ, List.getElem_cons_zero, List.setIfInBounds_toArray, List.set_cons_zero, List.set_cons_succ]
    refine wpAnyL_take (i := 43) (v := ?_) rfl (by kernel_rfl) (by kernel_rfl) (by kernel_rfl) (by kernel_rfl) (by kernel_rfl) (fun _ _ _ h => h) (Or.inl ⟨by kernel_rfl, ?_⟩) ⟨p0, p1, p2, p3, p4, r0, r1, r2, r3, r4⟩ ?_
    rotate_left
    · rintro w0 ⟨h1_, h2_, h3_, h4_, h5_, h6_, h7_, h8_, h9_, h10_⟩; go_simp; (try with_reducible rfl)
    try simp only [Act.put, List.getElem_toArray, List.getElem_cons_succ, List.getElem_cons_zero, List.setIfInBounds_toArray, List.set_cons_zero, List.set_cons_succ]
    refine wpAnyL_take (i := 44) (v := ?_) rfl (by kernel_rfl) (by kernel_rfl) (by kernel_rfl) (by kernel_rfl) (by kernel_rfl) (fun _ _ _ h => h) (Or.inl ⟨by kernel_rfl, ?_⟩) ⟨p0, p1, p2, p3, p4, r0, r1, r2, r3, r4⟩ ?_
    rotate_left
    · rintro w0 ⟨h1_, h2_, h3_, h4_, h5_, h6_, h7_, h8_, h9_, h10_⟩; go_simp; (try with_reducible rfl)
    try simp only [Act.put, List.getElem_toArray, List.getElem_cons_succ, List.getElem_cons_zero, List.setIfInBounds_toArray, List.set_cons_zero, List.set_cons_succ]
    refine wpAnyL_take (i := 45) (v := ?_) rfl (by kernel_rfl) (by kernel_rfl) (by kernel_rfl) (by kernel_rfl) (by kernel_rfl) (fun _ _ _ h => h) (Or.inl ⟨by kernel_rfl, ?_⟩) ⟨p0, p1, p2, p3, p4, r0, r1, r2, r3, r4⟩ ?_
    rotate_left
    · rintro w0 ⟨h1_, h2_, h3_, h4_, h5_, h6_, h7_, h8_, h9_, h10_⟩; go_simp; (try with_reducible rfl)
    try simp only [Act.put, List.getElem_toArray, List.getElem_cons_succ, List.getElem_cons_zero, List.setIfInBounds_toArray, List.set_cons_zero, List.set_cons_succ]
    refine wpAnyL_take (i := 46) (v := ?_) rfl (by kernel_rfl) (by kernel_rfl) (by kernel_rfl) (by kernel_rfl) (by kernel_rfl) (fun _ _ _ h => h) (Or.inl ⟨by kernel_rfl, ?_⟩) ⟨p0, p1, p2, p3, p4, r0, r1, r2, r3, r4⟩ ?_
    rotate_left
    · rintro w0 ⟨h1_, h2_, h3_, h4_, h5_, h6_, h7_, h8_, h9_, h10_⟩; go_simp; (try with_reducible rfl)
    try simp only [Act.put, List.getElem_toArray, List.getElem_cons_succ, List.getElem_cons_zero, List.setIfInBounds_toArray, List.set_cons_zero, List.set_cons_succ]
    refine wpAnyL_take (i := 47) (v := ?_) rfl (by kernel_rfl) (by kernel_rfl) (by kernel_rfl) (by kernel_rfl) (by kernel_rfl) (fun _ _ _ h => h) (Or.inl ⟨by kernel_rfl, ?_⟩) ⟨p0, p1, p2, p3, p4, r0, r1, r2, r3, r4⟩ ?_
    rotate_left
    · rintro w0 ⟨h1_, h2_, h3_, h4_, h5_, h6_, h7_, h8_, h9_, h10_⟩; go_simp; (try with_reducible rfl)
    try simp only [Act.put, List.getElem_toArray, List.getElem_cons_succ, List.getElem_cons_zero, List.setIfInBounds_toArray, List.set_cons_zero, List.set_cons_succ]
    refine wpAnyL_take (i := 48) (v := ?_) rfl (by kernel_rfl) (by kernel_rfl) (by kernel_rfl) (by kernel_rfl) (by kernel_rfl) (fun _ _ _ h => h) (Or.inl ⟨by kernel_rfl, ?_⟩) ⟨p0, p1, p2, p3, p4, r0, r1, r2, r3, r4⟩ ?_
    rotate_left
    · rintro w0 ⟨h1_, h2_, h3_, h4_, h5_, h6_, h7_, h8_, h9_, h10_⟩; go_simp; (try with_reducible rfl)
    try simp only [Act.put, List.getElem_toArray, List.getElem_cons_succ, List.getElem_cons_zero, List.setIfInBounds_toArray, List.set_cons_zero, List.set_cons_succ]
    refine wpAnyL_take (i := 49) (v := ?_) rfl (by kernel_rfl) (by kernel_rfl) (by kernel_rfl) (by kernel_rfl) (by kernel_rfl) (fun _ _ _ h => h) (Or.inl ⟨by kernel_rfl, ?_⟩) ⟨p0, p1, p2, p3, p4, r0, r1, r2, r3, r4⟩ ?_
    rotate_left
    · rintro w0 ⟨h1_, h2_, h3_, h4_, h5_, h6_, h7_, h8_, h9_, h10_⟩; go_simp; (try with_reducible rfl)
    try simp only [Act.put, List.getElem_toArray, List.getElem_cons_succ, List.getElem_cons_zero, List.setIfInBounds_toArray, List.set_cons_zero, List.set_cons_succ]
    refine wpAnyL_take (i := 50) (v := ?_) rfl (by kernel_rfl) (by kernel_rfl) (by kernel_rfl) (by kernel_rfl) (by kernel_rfl) (fun _ _ _ h => h) (Or.inl ⟨by kernel_rfl, ?_⟩) ⟨p0, p1, p2, p3, p4, r0, r1, r2, r3, r4⟩ ?_
    rotate_left
    · rintro w0 ⟨h1_, h2_, h3_, h4_, h5_, h6_, h7_, h8_, h9_, h10_⟩; go_simp; (try with_reducible rfl)
    try simp only [Act.put, List.getElem_toArray, List.getElem_cons_succ, List.getElem_cons_zero, List.setIfInBounds_toArray, List.set_cons_zero, List.set_cons_succ]
    refine wpAnyL_take (i := 51) (v := ?_) rfl (by kernel_rfl) (by kernel_rfl) (by kernel_rfl) (by kernel_rfl) (by kernel_rfl) (fun _ _ _ h => h) (Or.inl ⟨by kernel_rfl, ?_⟩) ⟨p0, p1, p2, p3, p4, r0, r1, r2, r3, r4⟩ ?_
    rotate_left
    · rintro w0 ⟨h1_, h2_, h3_, h4_, h5_, h6_, h7_, h8_, h9_, h10_⟩; go_simp; (try with_reducible rfl)
    try simp only [Act.put, List.getElem_toArray, List.getElem_cons_succ, List.getElem_cons_zero, List.setIfInBounds_toArray, List.set_cons_zero, List.set_cons_succ]
    refine wpAnyL_take (i := 52) (v := ?_) rfl (by kernel_rfl) (by kernel_rfl) (by kernel_rfl) (by kernel_rfl) (by kernel_rfl) (fun _ _ _ h => h) (Or.inl ⟨by kernel_rfl, ?_⟩) ⟨p0, p1, p2, p3, p4, r0, r1, r2, r3, r4⟩ ?_
    rotate_left
    · rintro w0 ⟨h1_, h2_, h3_, h4_, h5_, h6_, h7_, h8_, h9_, h10_⟩; go_simp; (try with_reducible rfl)
    try simp only [Act.put, List.getElem_toArray, List.getElem_cons_succ, List.getElem_cons_zero, List.setIfInBounds_toArray, List.set_cons_zero, List.set_cons_succ]
    refine wpAnyL_take (i := 53) (v := ?_) rfl (by kernel_rfl) (by kernel_rfl) (by kernel_rfl) (by kernel_rfl) (by kernel_rfl) (fun _ _ _ h => h) (Or.inl ⟨by kernel_rfl, ?_⟩) ⟨p0, p1, p2, p3, p4, r0, r1, r2, r3, r4⟩ ?_
    rotate_left
    · rintro w0 ⟨h1_, h2_, h3_, h4_, h5_, h6_, h7_, h8_, h9_, h10_⟩; go_simp; (try with_reducible rfl)
    try simp only [Act.put, List.getElem_toArray, List.getElem_cons_succ, List.getElem_cons_zero, List.setIfInBounds_toArray, List.set_cons_zero, List.set_cons_succ]
    refine wpAnyL_take (i := 54) (v := ?_) rfl (by kernel_rfl) (by kernel_rfl) (by kernel_rfl) (by kernel_rfl) (by kernel_rfl) (fun _ _ _ h => h) (Or.inl ⟨by kernel_rfl, ?_⟩) ⟨p0, p1, p2, p3, p4, r0, r1, r2, r3, r4⟩ ?_
    rotate_left
    · rintro w0 ⟨h1_, h2_, h3_, h4_, h5_, h6_, h7_, h8_, h9_, h10_⟩; go_simp; (try with_reducible rfl)
    try simp only [Act.put, List.getElem_toArray, List.getElem_cons_succ, List.getElem_cons_zero, List.setIfInBounds_toArray, List.set_cons_zero, List.set_cons_succ]
    refine wpAnyL_take (i := 55) (v := ?_) rfl (by kernel_rfl) (by kernel_rfl) (by kernel_rfl) (by kernel_rfl) (by kernel_rfl) (fun _ _ _ h => h) (Or.inl ⟨by kernel_rfl, ?_⟩) ⟨p0, p1, p2, p3, p4, r0, r1, r2, r3, r4⟩ ?_
    rotate_left
    · rintro w0 ⟨h1_, h2_, h3_, h4_, h5_, h6_, h7_, h8_, h9_, h10_⟩; go_simp; (try with_reducible rfl)
    try simp only [Act.put, List.getElem_toArray, List.getElem_cons_succ, List.getElem_cons_zero, List.setIfInBounds_toArray, List.set_cons_zero, List.set_cons_succ]
    refine wpAnyL_take (i := 56) (v := ?_) rfl (by kernel_rfl) (by kernel_rfl) (by kernel_rfl) (by kernel_rfl) (by kernel_rfl) (fun _ _ _ h => h) (Or.inl ⟨by kernel_rfl, ?_⟩) ⟨p0, p1, p2, p3, p4, r0, r1, r2, r3, r4⟩ ?_
    rotate_left
    · rintro w0 ⟨h1_, h2_, h3_, h4_, h5_, h6_, h7_, h8_, h9_, h10_⟩; go_simp; (try with_reducible rfl)
    try simp only [Act.put, List.getElem_toArray, List.getElem_cons_succ, List.getElem_cons_zero, List.setIfInBounds_toArray, List.set_cons_zero, List.set_cons_succ]
    refine wpAnyL_take (i := 57) (v := ?_) rfl (by kernel_rfl) (by kernel_rfl) (by kernel_rfl) (by kernel_rfl) (by kernel_rfl) (fun _ _ _ h => h) (Or.inl ⟨by kernel_rfl, ?_⟩) ⟨p0, p1, p2, p3, p4, r0, r1, r2, r3, r4⟩ ?_
    rotate_left
    · rintro w0 ⟨h1_, h2_, h3_, h4_, h5_, h6_, h7_, h8_, h9_, h10_⟩; go_simp; (try with_reducible rfl)
    try simp only [Act.put, List.getElem_toArray, List.getElem_cons_succ, List.getElem_cons_zero, List.setIfInBounds_toArray, List.set_cons_zero, List.set_cons_succ]
    refine wpAnyL_take (i := 58) (v := ?_) rfl (by kernel_rfl) (by kernel_rfl) (by kernel_rfl) (by kernel_rfl) (by kernel_rfl) (fun _ _ _ h => h) (Or.inl ⟨by kernel_rfl, ?_⟩) ⟨p0, p1, p2, p3, p4, r0, r1, r2, r3, r4⟩ ?_
    rotate_left
    · rintro w0 ⟨h1_, h2_, h3_, h4_, h5_, h6_, h7_, h8_, h9_, h10_⟩; go_simp; (try with_reducible rfl)
    try simp only [Act.put, List.getElem_toArray, List.getElem_cons_succ, List.getElem_cons_zero, List.setIfInBounds_toArray, List.set_cons_zero, List.set_cons_succ]
    refine wpAnyL_take (i := 59) (v := ?_) rfl (by kernel_rfl) (by kernel_rfl) (by kernel_rfl) (by kernel_rfl) (by kernel_rfl) (fun _ _ _ h => h) (Or.inl ⟨by kernel_rfl, ?_⟩) ⟨p0, p1, p2, p3, p4, r0, r1, r2, r3, r4⟩ ?_
    rotate_left
    · rintro w0 ⟨h1_, h2_, h3_, h4_, h5_, h6_, h7_, h8_, h9_, h10_⟩; go_simp; (try with_reducible rfl)
    try simp only [Act.put, List.getElem_toArray, List.getElem_cons_succ, List.getElem_cons_zero, List.setIfInBounds_toArray, List.set_cons_zero, List.set_cons_succ]
    refine wpAnyL_take (i := 60) (v := ?_) rfl (by kernel_rfl) (by kernel_rfl) (by kernel_rfl) (by kernel_rfl) (by kernel_rfl) (fun _ _ _ h => h) (Or.inl ⟨by kernel_rfl, ?_⟩) ⟨p0, p1, p2, p3, p4, r0, r1, r2, r3, r4⟩ ?_
    rotate_left
    · rintro w0 ⟨h1_, h2_, h3_, h4_, h5_, h6_, h7_, h8_, h9_, h10_⟩; go_simp; (try with_reducible rfl)
    try simp only [Act.put, List.getElem_toArray, List.getElem_cons_succ, List.getElem_cons_zero, List.setIfInBounds_toArray, List.set_cons_zero, List.set_cons_succ]
    refine wpAnyL_one (i := 61) (by kernel_rfl) rfl (fun K hK => ?_)
    go_simp
    refine (rows_any _ _ _ _ _ _ _ _ _ HH.out.2.2.1.ints HH.out.2.2.2.ints (by have := HH.out.2.2.1.most; omega) (by have := HH.out.2.2.2.most; omega)).mono ?_; rintro e w9 ⟨⟨q9, rfl⟩, rfl⟩
    obtain ⟨rb, hrb⟩ : ∃ rb, decide (x.x.data = y.x.data) = rb := ⟨_, rfl⟩
    have HD2 := HD.out
    rw [hrb] at HD2 ⊢
    have HD3 := Lib.hid HD2
    clear HD2 hrb
    go_wp2_with fail
    refine hK.out _ _ (fun _ => ⟨p0, p1, p2, p3, p4, r0, r1, r2, r3, r4⟩) ?_
    clear hK K
    try simp only [Act.put, List.getElem_toArray, List.getElem_cons_succ, List.getElem_cons_zero, List.setIfInBounds_toArray, List.set_cons_zero, List.set_cons_succ]
    refine wpAnyL_take (i := 62) (v := ?_) rfl (by kernel_rfl) (by kernel_rfl) (by kernel_rfl) (by kernel_rfl) (by kernel_rfl) (fun _ _ _ h => h) (Or.inl ⟨by kernel_rfl, ?_⟩) ⟨p0, p1, p2, p3, p4, r0, r1, r2, r3, r4⟩ ?_
    rotate_left
    · rintro w0 ⟨h1_, h2_, h3_, h4_, h5_, h6_, h7_, h8_, h9_, h10_⟩; go_simp; (try with_reducible rfl)
    try simp only [Act.put, List.getElem_toArray, List.getElem_cons_succ, List.getElem_cons_zero, List.setIfInBounds_toArray, List.set_cons_zero, List.set_cons_succ]
    refine wpAnyL_take (i := 63) (v := ?_) rfl (by kernel_rfl) (by kernel_rfl) (by kernel_rfl) (by kernel_rfl) (by kernel_rfl) (fun _ _ _ h => h) (Or.inl ⟨by kernel_rfl, ?_⟩) ⟨p0, p1, p2, p3, p4, r0, r1, r2, r3, r4⟩ ?_
    rotate_left
    · rintro w0 ⟨h1_, h2_, h3_, h4_, h5_, h6_, h7_, h8_, h9_, h10_⟩; go_simp; (try with_reducible rfl)
    try simp only [Act.put, List.getElem_toArray, List.getElem_cons_succ, List.getElem_cons_zero, List.setIfInBounds_toArray, List.set_cons_zero, List.set_cons_succ]
    refine wpAnyL_done (by kernel_rfl) ?_ _
    cases rb with
    | false =>
      go_wp2_with fail
      go_ret
      exact ⟨⟨_, rfl⟩, by rw [HH.out.1 (HD3.out.2 trivial)]; rfl⟩
    | true =>
      go_wp2_with fail
      exact ⟨⟨j + 1, by omega, by go_num, ⟨_, rfl⟩, HH.out.2.1 (HD3.out.1 rfl)⟩, by simp [intOf]; omega⟩
end Go.Proofs.YtfoeapjlklfjgaaDoor
