/- What a loss leaves of a disk: plain lists. No condition. -/
import Derived.Test.YtkjmccicdjkccaaDMath3
import Derived.Test.YtkjmccicdjkccaaLawAct
import Derived.Test.YtkjmccicdjkccaaDiskJ
namespace Go.Proofs.Ytkjmccicdjkccaa
set_option linter.unusedSimpArgs false
set_option linter.unusedVariables false
namespace DSt
theorem lay1_get {su : List (List Nat)} {x : Nat × List Nat} {cs : List Nat} {i : Nat} (hx : x.1 < su.length) : (lay1 su x cs).getD i [] = su.getD i [] ∨ (x.1 = i ∧ ((lay1 su x cs).getD i [] = [] ∨ (lay1 su x cs).getD i [] = x.2)) := by
  unfold lay1
  split
  · exact .inl rfl
  · split
    · rw [getD_set hx]
      by_cases h : i = x.1
      · rw [if_pos h]; exact .inr ⟨h.symm, .inr rfl⟩
      · rw [if_neg h]; exact .inl rfl
    · split
      · rw [getD_set hx]
        by_cases h : i = x.1
        · rw [if_pos h]; exact .inr ⟨h.symm, .inl rfl⟩
        · rw [if_neg h]; exact .inl rfl
      · exact .inl rfl
theorem layBy_get {p : List (Nat × List Nat)} {su : List (List Nat)} {cs : List Nat} {i : Nat} (hp : ∀ x ∈ p, x.1 < su.length) :
    (layBy su p cs).getD i [] = su.getD i [] ∨ ∃ x ∈ p, x.1 = i ∧ ((layBy su p cs).getD i [] = [] ∨ (layBy su p cs).getD i [] = x.2) := by
  induction p generalizing su cs with
  | nil => exact .inl rfl
  | cons x p ih =>
    rw [layBy]
    rcases ih (su := lay1 su x cs) (cs := cs.tail) (fun y hy => by rw [len_lay1]; exact hp y (List.mem_cons_of_mem _ hy)) with h | ⟨y, hy, h1, h2⟩
    · rcases lay1_get (cs := cs) (i := i) (hp x (by simp)) with h3 | ⟨h3, h4⟩
      · exact .inl (h.trans h3)
      · refine .inr ⟨x, by simp, h3, ?_⟩
        rw [h]
        exact h4
    · exact .inr ⟨y, List.mem_cons_of_mem _ hy, h1, h2⟩
end DSt

/-- A disk of N sectors behind writes, nothing planned. -/
structure Wn (s : DSt) (N j : Nat) : Prop where
  up : s.Up
  len : s.sure.length = N
  beg : s.begun ≤ j
  pend : s.pend.length ≤ j
theorem Wn.start (n : Nat) : Wn (DSt.new n) n 0 := ⟨DSt.new_up n, by show (List.replicate n _).length = n; simp, Nat.le_refl _, Nat.le_refl _⟩
theorem Wn.write {s : DSt} {N j : Nat} (h : Wn s N j) {i : Nat} (hi : i < N) {l : List Nat} (hl : l.length = 64) : Wn (s.write (i : Int) l).1 N (j + 1) := by
  rw [h.up.write (by rw [h.len]; exact hi) hl]
  exact ⟨⟨rfl, rfl⟩, h.len, Nat.succ_le_succ h.beg, by show (s.pend ++ [(i, l)]).length ≤ _; rw [List.length_append]; exact Nat.succ_le_succ h.pend⟩
/-- Writes that were asked for since what is sure. -/
structure Ws (s : DSt) (su : List (List Nat)) (xs : List ActEl) (k : Nat) : Prop where
  up : s.Up
  sure : s.sure = su
  beg : s.begun ≤ 100 + k
  pend : s.pend.length ≤ k
  was : ∀ p ∈ s.pend, p.1 < su.length ∧ ∃ x ∈ xs.take k, x.i = (p.1 : Int) ∧ p.2 = rowL x.c false
theorem Wn.flushed {s : DSt} {N j : Nat} (h : Wn s N j) (hj : j < 100) (xs : List ActEl) : s.flush.1.sure.length = N ∧ Ws s.flush.1 s.flush.1.sure xs 0 := by
  rw [h.up.flush]
  have hb := h.beg
  exact ⟨by show (DSt.lay s.sure s.pend).length = N; rw [DSt.len_lay]; exact h.len, ⟨rfl, rfl⟩, rfl, by show s.begun + 1 ≤ _; omega, Nat.le_refl _, fun _ h => by cases h⟩
theorem Ws.write {s : DSt} {su : List (List Nat)} {xs : List ActEl} {k : Nat} {x : ActEl} (h : Ws s su xs k) (hx : xs[k]? = some x) : Ws (s.write x.i (rowL x.c false)).1 su xs (k + 1) := by
  have hmem : ∀ y ∈ xs.take k, y ∈ xs.take (k + 1) := fun y hy => by rw [List.take_add_one]; exact List.mem_append_left _ hy
  by_cases hi : s.has x.i = true
  · have h1 := of_decide_eq_true hi
    obtain ⟨i, hxi⟩ : ∃ i : Nat, x.i = (i : Int) := ⟨x.i.toNat, by omega⟩
    have hil : i < s.sure.length := by omega
    rw [hxi, h.up.write hil (rowL_len x.c)]
    refine ⟨⟨rfl, rfl⟩, h.sure, ?_, ?_, fun p hp => ?_⟩
    · have := h.beg; show s.begun + 1 ≤ _; omega
    · show (s.pend ++ [(i, rowL x.c false)]).length ≤ _
      rw [List.length_append]
      exact Nat.succ_le_succ h.pend
    · rcases List.mem_append.1 hp with hp | hp
      · obtain ⟨h2, y, hy, h3⟩ := h.was p hp
        exact ⟨h2, y, hmem y hy, h3⟩
      · rw [List.mem_singleton] at hp
        subst hp
        exact ⟨by rw [← h.sure]; exact hil, x, by rw [List.take_add_one, hx]; simp, hxi, rfl⟩
  · have hw : s.write x.i (rowL x.c false) = (s, 1) := DSt.write_arg h.up.down (by rw [show s.has x.i = false by simpa using hi]; rfl)
    rw [hw]
    exact ⟨h.up, h.sure, Nat.le_succ_of_le h.beg, Nat.le_succ_of_le h.pend, fun p hp => by
      obtain ⟨h2, y, hy, h3⟩ := h.was p hp
      exact ⟨h2, y, hmem y hy, h3⟩⟩
/-- May a sector be as it is now? -/
def mayB (xs : List ActEl) (i : Nat) (o nw : List Nat) (k : Nat) : Bool := decide (o = nw) || (xs.take k).any fun x => decide (x.i = (i : Int)) && (decide (nw = []) || decide (nw = rowL x.c false))
theorem mayB_zero (xs : List ActEl) (i : Nat) (o nw : List Nat) : mayB xs i o nw 0 = decide (o = nw) := by unfold mayB; simp
theorem mayB_succ {xs : List ActEl} {i : Nat} {o nw : List Nat} {k : Nat} {x : ActEl} (hx : xs[k]? = some x) : mayB xs i o nw (k + 1) = (mayB xs i o nw k || (decide (x.i = (i : Int)) && (decide (nw = []) || decide (nw = rowL x.c false)))) := by
  unfold mayB
  rw [List.take_add_one, hx, List.any_append, Bool.or_assoc]
  simp
theorem mayB_yes {s : DSt} {su : List (List Nat)} {xs : List ActEl} {k : Nat} (h : Ws s su xs k) (cs : List Nat) (i : Nat) : mayB xs i (su.getD i []) ((s.up cs).sure.getD i []) k = true := by
  have hp : ∀ x ∈ s.pend, x.1 < s.sure.length := fun x hx => by rw [h.sure]; exact (h.was x hx).1
  have e : (s.up cs).sure = DSt.layBy s.sure s.pend cs := rfl
  rw [e]
  unfold mayB
  rw [Bool.or_eq_true]
  rcases DSt.layBy_get (cs := cs) (i := i) hp with h1 | ⟨p, hpm, h1, h2⟩
  · left
    rw [h1, h.sure]
    exact decide_eq_true rfl
  · right
    obtain ⟨_, x, hx, h3, h4⟩ := h.was p hpm
    rw [List.any_eq_true]
    refine ⟨x, hx, ?_⟩
    rw [Bool.and_eq_true, Bool.or_eq_true]
    refine ⟨decide_eq_true (by rw [h3, h1]), ?_⟩
    rcases h2 with h2 | h2
    · exact .inl (decide_eq_true h2)
    · exact .inr (decide_eq_true (by rw [h2, h4]))
end Go.Proofs.Ytkjmccicdjkccaa
