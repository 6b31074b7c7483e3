/- Plain facts for the laws of layer 6. No condition. -/
import Derived.Test.YtdlcngmcjidomaaDoorCellMath
import Derived.Test.YtdlcngmcjidomaaDoorCrcTurn
namespace Go.Proofs.YtdlcngmcjidomaaDoor
set_option linter.unusedSimpArgs false
set_option linter.unusedVariables false

namespace Cl
theorem joins_nil : joins [] = false := by unfold joins; rw [decide_eq_false (by simp)]; rfl
theorem split_mem {g s : Nat} {r : List Nat} {x : Cl} (h : x ∈ split g s r) : x.parts = (need r.length : Nat) ∧ x.gen = g ∧ x.seq = s := by
  unfold split at h
  obtain ⟨i, _, rfl⟩ := List.mem_map.1 h
  exact ⟨rfl, rfl, rfl⟩
theorem joins_len {l : List Cl} {k : Nat} (h : ∀ x ∈ l, x.parts = (k : Nat)) (hk : k ≠ l.length) : joins l = false := by
  cases hl : l with
  | nil => exact joins_nil
  | cons x t =>
    rw [← hl]
    refine joins_no (i := 0) (x := x) (by rw [hl]; rfl) fun r => ?_
    have h1 := r.parts
    have h2 := h x (by rw [hl]; simp)
    omega
theorem joins_missing {g s : Nat} {r : List Nat} {k : Nat} (hk : k < need r.length) : joins ((split g s r).take k ++ (split g s r).drop (k + 1)) = false := by
  have hl := split_len g s r
  refine joins_len (k := need r.length) (fun x hx => ?_) ?_
  · rcases List.mem_append.1 hx with hx | hx
    · exact (split_mem (List.mem_of_mem_take hx)).1
    · exact (split_mem (List.mem_of_mem_drop hx)).1
  · rw [List.length_append, List.length_take, List.length_drop, hl]
    omega
theorem joins_twice {g s : Nat} {r : List Nat} {k : Nat} (hk : k < need r.length) : joins ((split g s r).take (k + 1) ++ (split g s r).drop k) = false := by
  have hl := split_len g s r
  refine joins_len (k := need r.length) (fun x hx => ?_) ?_
  · rcases List.mem_append.1 hx with hx | hx
    · exact (split_mem (List.mem_of_mem_take hx)).1
    · exact (split_mem (List.mem_of_mem_drop hx)).1
  · rw [List.length_append, List.length_take, List.length_drop, hl]
    omega
theorem joins_mixed {g s s' : Nat} {r : List Nat} {k : Nat} {y : Cl} (hs : s ≠ s') (hy : y.seq = s') (h2 : 2 ≤ need r.length) (hk : k < need r.length) : joins ((split g s r).set k y) = false := by
  have hl := split_len g s r
  rw [Bool.eq_false_iff]
  intro e
  obtain ⟨_, hr⟩ := joins_right e
  have hset : ((split g s r).set k y)[k]? = some y := List.getElem?_set_self (by omega)
  have hj : ∃ j, j ≠ k ∧ j < need r.length := by
    by_cases h0 : k = 0
    · exact ⟨1, by omega, by omega⟩
    · exact ⟨0, by omega, by omega⟩
  obtain ⟨j, hjk, hj⟩ := hj
  have hother : ((split g s r).set k y)[j]? = some (cellAt g s r j) := by rw [List.getElem?_set_ne (Ne.symm hjk), split_get hj]
  have h1 := (hr k y hset).seq
  have h3 := (hr j _ hother).seq
  have h4 : (cellAt g s r j).seq = s := rfl
  rw [← h3, h4, hy] at h1
  exact hs h1.symm
theorem set_same {α : Type} {l : List α} {i : Nat} {x : α} (h : l[i]? = some x) : l.set i x = l := by
  refine List.ext_getElem? fun j => ?_
  by_cases e : i = j
  · subst e
    rw [List.getElem?_set_self (List.getElem?_eq_some_iff.1 h).1, h]
  · rw [List.getElem?_set_ne e]
theorem joins_swap {g s : Nat} {r : List Nat} {i k : Nat} (hi : i < need r.length) (hk : k < need r.length) (hne : i ≠ k) : joins (((split g s r).set i (cellAt g s r k)).set k (cellAt g s r i)) = false := by
  have hl := split_len g s r
  refine joins_no (i := i) (x := cellAt g s r k) (by rw [List.getElem?_set_ne (Ne.symm hne), List.getElem?_set_self (by omega)]) fun h => ?_
  have h1 := h.part
  have h2 : (cellAt g s r k).part = (k : Nat) := rfl
  omega
theorem isEnc_open {l : List Nat} (h : isEnc l = true) (hl : ∀ x ∈ l, x < 256) : (openL l).2 = true := by
  have h1 := (isEnc_iff.1 h).1
  rw [isEnc_prog h1 hl, Bool.and_eq_true] at h
  exact h.1
theorem isEnc_turned {x : Cl} (hx : x.Ok) (hm : x.may = true) {k v y : Nat} (hv : x.enc[k]? = some v) (hy : y < 256) : isEnc (x.enc.set k (v ^^^ y)) = decide (y = 0) := by
  have hlt := enc_lt hx hm
  have hvl : v < 256 := hlt v (List.mem_of_getElem? hv)
  have hbody : ∀ c ∈ x.body, c < 256 := fun c hc => hlt c (by unfold enc seal_; exact List.mem_append_right _ hc)
  have ho := openL_turned x.body hbody k v y hv hvl hy
  by_cases h0 : y = 0
  · subst h0
    rw [decide_eq_true rfl, Nat.xor_zero, set_same hv]
    exact isEnc_enc hx hm
  · rw [decide_eq_false h0, Bool.eq_false_iff]
    intro e
    have := isEnc_open e (fun c hc => by
      rcases List.mem_or_eq_of_mem_set hc with hc | rfl
      · exact hlt c hc
      · exact Nat.xor_lt_two_pow (n := 8) hvl hy)
    have e2 : (openL (x.enc.set k (v ^^^ y))).2 = decide (y = 0) := ho
    rw [e2, decide_eq_false h0] at this
    cases this
theorem enc_inj {x y : Cl} (hx : x.Ok) (hy : y.Ok) (hmx : x.may = true) (hmy : y.may = true) (h : x.enc = y.enc) : x = y := by
  rw [← raw_enc hx hmx, h, raw_enc hy hmy]
theorem need_mono {m n : Nat} (h : m ≤ n) (hn : n ≤ 392) : need m ≤ need n := by
  unfold need
  split
  · omega
  · rw [if_neg (by omega)]; omega
theorem cellAt_full {g s : Nat} {r : List Nat} {i : Nat} (h : i + 1 < need r.length) : (cellAt g s r i).data.length = 49 := by
  have hm := cellAt_may (gen := g) (seq := s) (r := r) (i := i) (by omega)
  obtain ⟨_, _, _, _, _, _, h7⟩ := may_iff.1 hm
  have h2 : (cellAt g s r i).part = (i : Nat) := rfl
  have h3 : (cellAt g s r i).parts = (need r.length : Nat) := rfl
  omega
end Cl
end Go.Proofs.YtdlcngmcjidomaaDoor
