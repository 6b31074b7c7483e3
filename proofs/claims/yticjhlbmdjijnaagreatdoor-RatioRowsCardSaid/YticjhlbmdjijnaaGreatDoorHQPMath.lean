/- A fraction's text, read: plain mathematics. No condition. -/
import Derived.Test.YticjhlbmdjijnaaGreatDoorHQTxt
import Derived.Test.YticjhlbmdjijnaaGreatDoorG8
import Derived.Lib.Bytealg
namespace Go.Proofs.YticjhlbmdjijnaaGreatDoor
set_option linter.unusedSimpArgs false
set_option linter.unusedVariables false

/-- What stands ahead of a sign, and behind it. -/
def cutH (c : Nat) (l : List Nat) : List Nat := l.takeWhile (fun x => x != c)
def cutT (c : Nat) (l : List Nat) : List Nat := (l.dropWhile (fun x => x != c)).drop 1
theorem cutH_cons (c x : Nat) (l : List Nat) : cutH c (x :: l) = if x = c then [] else x :: cutH c l := by
  unfold cutH
  by_cases h : x = c
  · rw [if_pos h, List.takeWhile_cons_of_neg (by simpa using h)]
  · rw [if_neg h, List.takeWhile_cons_of_pos (by simpa using h)]
theorem cutT_cons (c x : Nat) (l : List Nat) : cutT c (x :: l) = if x = c then l else cutT c l := by
  unfold cutT
  by_cases h : x = c
  · rw [if_pos h, List.dropWhile_cons_of_neg (by simpa using h)]; rfl
  · rw [if_neg h, List.dropWhile_cons_of_pos (by simpa using h)]
theorem cut_split {c : Nat} {l : List Nat} (h : c ∈ l) : l = cutH c l ++ c :: cutT c l := by
  induction l with
  | nil => cases h
  | cons x l ih =>
    rw [cutH_cons, cutT_cons]
    by_cases hx : x = c
    · rw [if_pos hx, if_pos hx, hx]; rfl
    · rw [if_neg hx, if_neg hx, List.cons_append, ← ih ((List.mem_cons.1 h).resolve_left (fun e => hx e.symm))]
theorem cutH_not (c : Nat) (l : List Nat) : c ∉ cutH c l := by
  induction l with
  | nil => intro h; cases h
  | cons x l ih =>
    rw [cutH_cons]
    by_cases hx : x = c
    · rw [if_pos hx]; intro h; cases h
    · rw [if_neg hx]
      intro h
      rcases List.mem_cons.1 h with h | h
      · exact hx h.symm
      · exact ih h
theorem cutH_none {c : Nat} {l : List Nat} (h : c ∉ l) : cutH c l = l := by
  induction l with
  | nil => rfl
  | cons x l ih =>
    rw [cutH_cons, if_neg (fun e => h (by rw [e]; simp)), ih (fun hm => h (List.mem_cons_of_mem _ hm))]
theorem cutT_none {c : Nat} {l : List Nat} (h : c ∉ l) : cutT c l = [] := by
  induction l with
  | nil => rfl
  | cons x l ih =>
    rw [cutT_cons, if_neg (fun e => h (by rw [e]; simp)), ih (fun hm => h (List.mem_cons_of_mem _ hm))]
theorem cut_app {c : Nat} {l m : List Nat} (h : c ∉ l) : cutH c (l ++ c :: m) = l ∧ cutT c (l ++ c :: m) = m := by
  induction l with
  | nil => rw [List.nil_append, cutH_cons, cutT_cons, if_pos rfl, if_pos rfl]; exact ⟨rfl, rfl⟩
  | cons x l ih =>
    have hx : ¬ x = c := fun e => h (by rw [e]; simp)
    have := ih (fun hm => h (List.mem_cons_of_mem _ hm))
    rw [List.cons_append, cutH_cons, cutT_cons, if_neg hx, if_neg hx, this.1, this.2]
    exact ⟨rfl, rfl⟩
theorem cutH_take {c : Nat} {l : List Nat} : l.take (cutH c l).length = cutH c l := by
  induction l with
  | nil => rfl
  | cons x l ih =>
    rw [cutH_cons]
    by_cases hx : x = c
    · rw [if_pos hx]; rfl
    · rw [if_neg hx, List.length_cons, List.take_succ_cons, ih]
theorem cutT_drop {c : Nat} {l : List Nat} (h : c ∈ l) : l.drop ((cutH c l).length + 1) = cutT c l := by
  have e := cut_split h
  have : l.drop ((cutH c l).length + 1) = (cutH c l ++ c :: cutT c l).drop ((cutH c l).length + 1) := by rw [← e]
  rw [this, List.drop_append, List.drop_eq_nil_of_le (by omega)]
  simp
theorem cut_len {c : Nat} {l : List Nat} (h : c ∈ l) : (cutH c l).length + 1 + (cutT c l).length = l.length := by
  have e := congrArg List.length (cut_split h)
  rw [List.length_append, List.length_cons] at e
  omega
theorem cutH_lt {c : Nat} {l : List Nat} (hl : ∀ x ∈ l, x < 256) : ∀ x ∈ cutH c l, x < 256 := fun x hx => hl x ((List.takeWhile_sublist _).subset hx)
theorem cutT_lt {c : Nat} {l : List Nat} (hl : ∀ x ∈ l, x < 256) : ∀ x ∈ cutT c l, x < 256 := fun x hx => hl x ((List.dropWhile_sublist _).subset (List.mem_of_mem_drop hx))
/-- The index of a sign. -/
def idx (c : Nat) (l : List Nat) : Int := if c ∈ l then ((cutH c l).length : Int) else -1
theorem u8_eq {x c : Nat} (hx : x < 256) (hc : c < 256) : (UInt8.ofNat x == UInt8.ofNat c) = decide (x = c) := by
  by_cases h : x = c
  · subst h; simp
  · rw [decide_eq_false h]
    apply beq_false_of_ne
    intro e
    have := congrArg UInt8.toNat e
    rw [UInt8.toNat_ofNat', UInt8.toNat_ofNat', Nat.mod_eq_of_lt hx, Nat.mod_eq_of_lt hc] at this
    exact h this
theorem indexByte_idx (l : List Nat) (c : Nat) (hl : ∀ x ∈ l, x < 256) (hc : c < 256) : Lib.indexByte (str l).data.toList (UInt8.ofNat c) = idx c l := by
  rw [str_list]
  induction l with
  | nil => rfl
  | cons x l ih =>
    have hx := hl x (by simp)
    have ih := ih (fun y hy => hl y (List.mem_cons_of_mem _ hy))
    rw [List.map_cons]
    unfold Lib.indexByte
    rw [u8_eq hx hc, ih]
    unfold idx
    rw [cutH_cons]
    by_cases h : x = c
    · rw [if_pos h, if_pos (by simp [h])]
      simp [h]
    · rw [if_neg h]
      by_cases hm : c ∈ l
      · rw [if_pos hm, if_pos (List.mem_cons_of_mem _ hm)]
        simp [h]
      · rw [if_neg hm, if_neg (fun e => (List.mem_cons.1 e).elim (fun e => h e.symm) hm)]
        simp [h]

/-- A decimal fraction, of what stands ahead of the point, and behind it. -/
def qdok (h t : List Nat) : Bool := decide (Reads (bod h)) && (decide (1 ≤ t.length) && decide (Digs t))
def qdv (h t : List Nat) : Rat := if qdok h t then qv (zv (decide (h[0]? = some 45)) (dec (bod h) * 10 ^ t.length + dec t)) ((10 ^ t.length : Nat) : Int) else 0
/-- Is a text a fraction's? Which one (0, if it is none)? -/
def qfok (h t : List Nat) : Bool := zok h && (decide (Reads t) && decide (0 < dec t))
def qpok (l : List Nat) : Bool :=
  if 1000 < l.length then false else if 46 ∈ l then qdok (cutH 46 l) (cutT 46 l) else if 47 ∈ l then qfok (cutH 47 l) (cutT 47 l) else zok l
def qpv (l : List Nat) : Rat :=
  if 1000 < l.length then 0 else if 46 ∈ l then qdv (cutH 46 l) (cutT 46 l) else if 47 ∈ l then (if qfok (cutH 47 l) (cutT 47 l) then qv (zpv (cutH 47 l)) ((dec (cutT 47 l) : Nat) : Int) else 0) else qv (zpv l) 1
section
variable {l : List Nat}
theorem qp_long (h : 1000 < l.length) : qpok l = false ∧ qpv l = 0 := by unfold qpok qpv; rw [if_pos h, if_pos h]; exact ⟨rfl, rfl⟩
theorem qp_point (h : ¬ 1000 < l.length) (hp : 46 ∈ l) : qpok l = qdok (cutH 46 l) (cutT 46 l) ∧ qpv l = qdv (cutH 46 l) (cutT 46 l) := by
  unfold qpok qpv; rw [if_neg h, if_neg h, if_pos hp, if_pos hp]; exact ⟨rfl, rfl⟩
theorem qp_slash (h : ¬ 1000 < l.length) (hp : 46 ∉ l) (hs : 47 ∈ l) : qpok l = qfok (cutH 47 l) (cutT 47 l) ∧ qpv l = if qfok (cutH 47 l) (cutT 47 l) then qv (zpv (cutH 47 l)) ((dec (cutT 47 l) : Nat) : Int) else 0 := by
  unfold qpok qpv; rw [if_neg h, if_neg h, if_neg hp, if_neg hp, if_pos hs, if_pos hs]; exact ⟨rfl, rfl⟩
theorem qp_whole (h : ¬ 1000 < l.length) (hp : 46 ∉ l) (hs : 47 ∉ l) : qpok l = zok l ∧ qpv l = qv (zpv l) 1 := by
  unfold qpok qpv; rw [if_neg h, if_neg h, if_neg hp, if_neg hp, if_neg hs, if_neg hs]; exact ⟨rfl, rfl⟩
theorem qd_yes {h t : List Nat} (h1 : Reads (bod h)) (h2 : 1 ≤ t.length) (h3 : Digs t) : qdok h t = true ∧ qdv h t = qv (zv (decide (h[0]? = some 45)) (dec (bod h) * 10 ^ t.length + dec t)) ((10 ^ t.length : Nat) : Int) := by
  have e : qdok h t = true := by unfold qdok; rw [decide_eq_true h1, decide_eq_true h2, decide_eq_true h3]; rfl
  unfold qdv
  rw [e]
  exact ⟨rfl, rfl⟩
theorem qd_no {h t : List Nat} (hn : ¬ (Reads (bod h) ∧ 1 ≤ t.length ∧ Digs t)) : qdok h t = false ∧ qdv h t = 0 := by
  have e : qdok h t = false := by
    unfold qdok
    rw [← Bool.decide_and, ← Bool.decide_and]
    exact decide_eq_false hn
  unfold qdv
  rw [e]
  exact ⟨rfl, rfl⟩
theorem ten_pow (a b n : Nat) (h : n ≤ a * b) : 10 ^ n ≤ (10 ^ a) ^ b := by
  rw [← Nat.pow_mul]; exact Nat.pow_le_pow_right (by decide) h
theorem ten_few {n : Nat} (hn : n ≤ 1000) : 10 ^ n < 4294967296 ^ 128 := Nat.lt_of_le_of_lt (ten_pow 8 125 n hn) (by decide +kernel)
theorem dec_few {l : List Nat} (h : Digs l) (hn : l.length ≤ 1000) : dec l < 4294967296 ^ 128 := Nat.lt_trans (dec_lt l h) (ten_few hn)
/-- A number and digits behind it. -/
theorem dec_step {h t : List Nat} {i x : Nat} (hx : t[i]? = some x) : dec (h ++ t.take (i + 1)) = dec (h ++ t.take i) * 10 + (x - 48) := by
  rw [List.take_add_one, hx, Option.toList_some, ← List.append_assoc, dec_snoc]
theorem digs_app {h t : List Nat} (h1 : Digs h) (h2 : Digs t) : Digs (h ++ t) := fun c hc => (List.mem_append.1 hc).elim (h1 c) (h2 c)
theorem digs_take {t : List Nat} (h : Digs t) (i : Nat) : Digs (t.take i) := fun c hc => h c (List.mem_of_mem_take hc)
end
end Go.Proofs.YticjhlbmdjijnaaGreatDoor
