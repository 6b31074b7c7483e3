/- What is written is read: the bytes of a number, read. No condition but the reach of a slice. -/
import Derived.Test.YticheiocmhaakaaDoorNatQ
namespace Go.Proofs.YticheiocmhaakaaDoor
open Go.RowKit

theorem Ints.ints {w : World} {kd : IntKind} {lim : Nat} {A : Option Addr} {n c : Nat} {l : List Nat} (h : Ints w kd lim A n c l) : Ints w kd lim A n c l := h
theorem le4_shift (a : List Nat) (l : List Nat) (p : Nat) : le4 (a ++ l) (a.length + p) = le4 l p := by
  have h : ∀ k, (a ++ l)[a.length + k]? = l[k]? := fun k => by rw [List.getElem?_append_right (by omega), Nat.add_sub_cancel_left]
  unfold le4
  rw [h, Nat.add_assoc a.length p 1, h, Nat.add_assoc a.length p 2, h, Nat.add_assoc a.length p 3, h]
theorem le4_byt4 (x : Nat) (l : List Nat) (h : x < 4294967296) : le4 (byt4 x ++ l) 0 = x := by
  unfold le4 byt4
  simp
  omega
theorem le4_flat (L : List Nat) (hL : ∀ x ∈ L, x < 4294967296) : ∀ i x, L[i]? = some x → le4 (L.flatMap byt4) (4 * i) = x := by
  induction L with
  | nil => intro i x h; simp at h
  | cons y L ih =>
    intro i x h
    rw [List.flatMap_cons]
    cases i with
    | zero =>
      simp at h
      subst h
      exact le4_byt4 _ _ (hL _ List.mem_cons_self)
    | succ i =>
      have := le4_shift (byt4 y) (L.flatMap byt4) (4 * i)
      rw [show (byt4 y).length + 4 * i = 4 * (i + 1) by simp [byt4]; omega] at this
      rw [this]
      exact ih (fun z hz => hL z (List.mem_cons_of_mem _ hz)) i x (by simpa using h)
theorem enc_reads (v : Nat) (h : (lmb v).length ≤ 4096) : ReadOk (enc (lmb v)) ∧ cnt (enc (lmb v)) = (lmb v).length ∧ limbsAt (enc (lmb v)) (lmb v).length = lmb v ∧ (enc (lmb v)).drop (2 + 4 * (lmb v).length) = [] ∧ (enc (lmb v)).length = 2 + 4 * (lmb v).length := by
  have hl := lmb_lt v
  have htop := Num.dig_top (b := 4294967296) (by decide) v
  have htop' : ∀ x, (lmb v)[(lmb v).length - 1]? = some x → x ≠ 0 := htop
  generalize lmb v = L at *
  have e := enc_yes h
  have hlen : (enc L).length = 2 + 4 * L.length := by rw [e, List.length_append, flat_len]; rfl
  have hc : cnt (enc L) = L.length := by
    rw [e]; unfold cnt; simp; omega
  have hle : ∀ i x, L[i]? = some x → le4 (enc L) (2 + 4 * i) = x := by
    intro i x hx
    rw [e]
    have := le4_shift [L.length % 256, L.length / 256] (L.flatMap byt4) (4 * i)
    rw [show [L.length % 256, L.length / 256].length + 4 * i = 2 + 4 * i from rfl] at this
    rw [this]
    exact le4_flat L hl i x hx
  refine ⟨⟨by omega, by omega, by omega, ?_⟩, hc, ?_, List.drop_eq_nil_of_le (by omega), hlen⟩
  · rw [hc]
    rcases Nat.eq_zero_or_pos L.length with h0 | h0
    · exact .inl h0
    · refine .inr ?_
      obtain ⟨x, hx⟩ : ∃ x, L[L.length - 1]? = some x := ⟨_, List.getElem?_eq_getElem (by omega)⟩
      rw [hle _ x hx]
      exact htop' x hx
  · apply List.ext_getElem?
    intro i
    rcases Nat.lt_or_ge i L.length with hi | hi
    · rw [limbsAt_get _ hi, hle i _ (List.getElem?_eq_getElem hi), List.getElem?_eq_getElem hi]
    · rw [List.getElem?_eq_none (by rw [limbsAt_len]; exact hi), List.getElem?_eq_none hi]

theorem read_ok (A : Option Addr) (n c : Nat) (l : List Nat) (w : World) (hr : Byt w A n c l) (hn : n ≤ 70368744177664) (h : ReadOk l) :
    Calls Tryd.prog 32 #[.slice A n c] w fun e w' => ∃ A2 A3 m3 c3, e = .returned (.tuple #[.slice A2 (cnt l) (cnt l), .slice A3 m3 c3, .bool true]) ∧ m3 ≤ n ∧ OwnL w' w.heap.size A2 (cnt l) (cnt l) (limbsAt l (cnt l)) ∧ OwnB w' w.heap.size A3 m3 c3 (l.drop (2 + 4 * cnt l)) ∧ Below w.heap.size w w' := by
  refine (read_any A n c l w hr hn).mono fun e w' ⟨h1, h2⟩ => ?_
  rcases h1 with ⟨_, A2, A3, m3, c3, h3, h4, h5⟩ | ⟨h3, _⟩
  · refine ⟨A2, A3, m3, c3, h3, ?_, h4, h5, h2⟩
    have := h5.len
    rw [List.length_drop, hr.len] at this
    omega
  · exact absurd h h3
theorem read_bad (A : Option Addr) (n c : Nat) (l : List Nat) (w : World) (hr : Byt w A n c l) (hn : n ≤ 70368744177664) (h : ¬ ReadOk l) :
    Calls Tryd.prog 32 #[.slice A n c] w fun e w' => e = .returned (.tuple #[.slice none 0 0, .slice none 0 0, .bool false]) ∧ Below w.heap.size w w' := by
  refine (read_any A n c l w hr hn).mono fun e w' ⟨h1, h2⟩ => ?_
  rcases h1 with ⟨h3, _⟩ | ⟨_, h3⟩
  · exact absurd h3 h
  · exact ⟨h3, h2⟩
theorem rread_ok (A : Option Addr) (n c : Nat) (l : List Nat) (w : World) (hr : Byt w A n c l) (hn : n ≤ 70368744177664) (h : ReadOk l) :
    Calls Tryd.prog 33 #[.slice A n c] w fun e w' => ∃ A2 c2 A3 m3 c3, e = .returned (.tuple #[.slice A2 (cnt l) c2, .slice A3 m3 c3, .bool true]) ∧ m3 ≤ n ∧ OwnL w' w.heap.size A2 (cnt l) c2 (limbsAt l (cnt l)) ∧ Byt w' A3 m3 c3 (l.drop (2 + 4 * cnt l)) ∧ Below w.heap.size w w' := by
  refine (rread_any A n c l w hr hn).mono fun e w' ⟨h1, h2⟩ => ?_
  rcases h1 with ⟨_, A2, c2, A3, m3, c3, h3, h4, h5⟩ | ⟨h3, _⟩
  · refine ⟨A2, c2, A3, m3, c3, h3, ?_, h4, h5, h2⟩
    have := h5.len
    rw [List.length_drop, hr.len] at this
    omega
  · exact absurd h h3
theorem rread_bad (A : Option Addr) (n c : Nat) (l : List Nat) (w : World) (hr : Byt w A n c l) (hn : n ≤ 70368744177664) (h : ¬ ReadOk l) :
    Calls Tryd.prog 33 #[.slice A n c] w fun e w' => e = .returned (.tuple #[.slice none 0 0, .slice none 0 0, .bool false]) ∧ Below w.heap.size w w' := by
  refine (rread_any A n c l w hr hn).mono fun e w' ⟨h1, h2⟩ => ?_
  rcases h1 with ⟨h3, _⟩ | ⟨_, h3⟩
  · exact absurd h3 h
  · exact ⟨h3, h2⟩
theorem read_enc (A : Option Addr) (n c v : Nat) (w : World) (hr : Byt w A n c (enc (lmb v))) (hv : (lmb v).length ≤ 4096) :
    Calls Tryd.prog 32 #[.slice A n c] w fun e w' => ∃ A2 m A3 c3, e = .returned (.tuple #[.slice A2 m m, .slice A3 0 c3, .bool true]) ∧ m ≤ 4096 ∧ OwnL w' w.heap.size A2 m m (lmb v) ∧ Below w.heap.size w w' := by
  obtain ⟨h1, h2, h3, h4, h5⟩ := enc_reads v hv
  have hn := hr.len
  refine (read_ok A n c _ w hr (by omega) h1).mono fun e w' ⟨A2, A3, m3, c3, g1, g2, g3, g4, g5⟩ => ?_
  rw [h2, h4] at g4
  have hm : m3 = 0 := g4.len.symm
  subst hm
  rw [h2] at g1 g3
  rw [h3] at g3
  exact ⟨A2, _, A3, c3, g1, hv, g3, g5⟩
end Go.Proofs.YticheiocmhaakaaDoor
