/- What a cell is, its sector, and the cells of a record: plain lists. No condition. -/
import Derived.Test.YtdlcngmcjidomaaDoorCrcW
namespace Go.Proofs.YtdlcngmcjidomaaDoor
set_option linter.unusedSimpArgs false
set_option linter.unusedVariables false

/-- A cell. -/
structure Cl where
  (gen seq : Nat) (part parts : Int) (data : List Nat)
instance : Inhabited Cl := ⟨⟨0, 0, 0, 0, []⟩⟩
instance : DecidableEq Cl := fun a b => decidable_of_iff (a.gen = b.gen ∧ a.seq = b.seq ∧ a.part = b.part ∧ a.parts = b.parts ∧ a.data = b.data) (by
  obtain ⟨a1, a2, a3, a4, a5⟩ := a
  obtain ⟨b1, b2, b3, b4, b5⟩ := b
  constructor
  · rintro ⟨h1, h2, h3, h4, h5⟩
    dsimp only at h1 h2 h3 h4 h5
    subst h1; subst h2; subst h3; subst h4; subst h5
    rfl
  · intro h
    cases h
    exact ⟨rfl, rfl, rfl, rfl, rfl⟩)

namespace Cl
def zero : Cl := ⟨0, 0, 0, 0, []⟩
def may (x : Cl) : Bool := decide (1 ≤ x.parts ∧ x.parts ≤ 8 ∧ 0 ≤ x.part ∧ x.part < x.parts ∧ 1 ≤ x.data.length ∧ x.data.length ≤ 49 ∧ (x.data.length = 49 ∨ x.part = x.parts - 1))
def body (x : Cl) : List Nat := four x.gen ++ (four x.seq ++ ([x.part.toNat, x.parts.toNat, x.data.length] ++ (x.data ++ List.replicate (49 - x.data.length) 0)))
def enc (x : Cl) : List Nat := seal_ x.body
def raw (l : List Nat) : Cl := ⟨Crc.num ((l.drop 4).take 4), Crc.num ((l.drop 8).take 4), (l.getD 12 0 : Nat), (l.getD 13 0 : Nat), (l.drop 15).take (l.getD 14 0)⟩
def isEnc (l : List Nat) : Bool := decide (l.length = 64) && ((raw l).may && decide ((raw l).enc = l))
def dec (l : List Nat) : Cl := if isEnc l then raw l else zero
def code (l : List Nat) : Int := if isEnc l then 0 else 2
/-- The bounds of its numbers. -/
structure Ok (x : Cl) : Prop where
  gen : x.gen < 4294967296
  seq : x.seq < 4294967296
  data : ∀ c ∈ x.data, c < 256

theorem may_iff {x : Cl} : x.may = true ↔ (1 ≤ x.parts ∧ x.parts ≤ 8 ∧ 0 ≤ x.part ∧ x.part < x.parts ∧ 1 ≤ x.data.length ∧ x.data.length ≤ 49 ∧ (x.data.length = 49 ∨ x.part = x.parts - 1)) := by
  unfold may; exact decide_eq_true_iff
theorem body_len {x : Cl} (h : x.data.length ≤ 49) : x.body.length = 60 := by
  unfold body
  simp only [List.length_append, four_len, List.length_cons, List.length_nil, List.length_replicate]
  omega
theorem enc_len {x : Cl} (h : x.data.length ≤ 49) : x.enc.length = 64 := by
  unfold enc seal_
  rw [List.length_append, four_len, body_len h]
theorem enc_drop (x : Cl) : x.enc.drop 4 = x.body := by
  unfold enc seal_
  exact List.drop_left' (four_len _)
theorem four_num {m : List Nat} (hl : m.length = 4) (hm : ∀ x ∈ m, x < 256) : four (Crc.num m) = m :=
  (four_iff _ m (by have := Crc.num_lt m hm; rw [hl] at this; exact this) hl hm).2 rfl
theorem part4 {a b c d : List Nat} (h : a.length = 4) (h2 : b.length = 4) : (a ++ (b ++ (c ++ d))).take 4 = a ∧ (a ++ (b ++ (c ++ d))).drop 4 = b ++ (c ++ d) ∧ ((a ++ (b ++ (c ++ d))).drop 4).take 4 = b ∧ (a ++ (b ++ (c ++ d))).drop 8 = c ++ d := by
  have h1 : (a ++ (b ++ (c ++ d))).drop 4 = b ++ (c ++ d) := List.drop_left' h
  refine ⟨List.take_left' h, h1, by rw [h1]; exact List.take_left' h2, ?_⟩
  rw [show 8 = 4 + 4 from rfl, ← List.drop_drop, h1]
  exact List.drop_left' h2
theorem raw_enc {x : Cl} (hx : x.Ok) (h : x.may = true) : raw x.enc = x := by
  obtain ⟨h1, h2, h3, h4, h5, h6, h7⟩ := may_iff.1 h
  have e : x.enc.drop 4 = four x.gen ++ (four x.seq ++ ([x.part.toNat, x.parts.toNat, x.data.length] ++ (x.data ++ List.replicate (49 - x.data.length) 0))) := enc_drop x
  obtain ⟨e1, e2, e3, e4⟩ := part4 (c := [x.part.toNat, x.parts.toNat, x.data.length]) (d := x.data ++ List.replicate (49 - x.data.length) 0) (four_len x.gen) (four_len x.seq)
  have k1 : (x.enc.drop 4).take 4 = four x.gen := by rw [e]; exact e1
  have k2 : (x.enc.drop 8).take 4 = four x.seq := by
    rw [show 8 = 4 + 4 from rfl, ← List.drop_drop, e]; exact e3
  have k3 : x.enc.drop 12 = [x.part.toNat, x.parts.toNat, x.data.length] ++ (x.data ++ List.replicate (49 - x.data.length) 0) := by
    rw [show 12 = 4 + 8 from rfl, ← List.drop_drop, e]; exact e4
  have g : ∀ i, x.enc.getD (12 + i) 0 = (x.enc.drop 12).getD i 0 := fun i => by
    rw [List.getD_eq_getElem?_getD, List.getD_eq_getElem?_getD, List.getElem?_drop]
  have g0 : x.enc.getD 12 0 = x.part.toNat := by rw [g 0, k3]; rfl
  have g1 : x.enc.getD 13 0 = x.parts.toNat := by rw [g 1, k3]; rfl
  have g2 : x.enc.getD 14 0 = x.data.length := by rw [g 2, k3]; rfl
  have k4 : x.enc.drop 15 = x.data ++ List.replicate (49 - x.data.length) 0 := by
    rw [show 15 = 12 + 3 from rfl, ← List.drop_drop, k3]; rfl
  unfold raw
  rw [k1, k2, g0, g1, g2, k4, num_four _ hx.gen, num_four _ hx.seq, List.take_left' rfl, Int.toNat_of_nonneg h3, Int.toNat_of_nonneg (by omega)]
theorem isEnc_enc {x : Cl} (hx : x.Ok) (h : x.may = true) : isEnc x.enc = true := by
  unfold isEnc
  rw [raw_enc hx h, h, decide_eq_true (enc_len (may_iff.1 h).2.2.2.2.2.1), decide_eq_true rfl]; rfl
theorem dec_enc {x : Cl} (hx : x.Ok) (h : x.may = true) : dec x.enc = x ∧ code x.enc = 0 := by
  unfold dec code
  rw [isEnc_enc hx h]
  exact ⟨raw_enc hx h, rfl⟩
theorem isEnc_iff {l : List Nat} : isEnc l = true ↔ l.length = 64 ∧ (raw l).may = true ∧ (raw l).enc = l := by
  unfold isEnc
  rw [Bool.and_eq_true, Bool.and_eq_true, decide_eq_true_iff, decide_eq_true_iff]
theorem isEnc_14 {l : List Nat} (h : isEnc l = true) : l.getD 14 0 ≤ 49 := by
  obtain ⟨h1, h2, h3⟩ := isEnc_iff.1 h
  have hm := (may_iff.1 h2).2.2.2.2.2.1
  have k : (raw l).enc.getD 14 0 = (raw l).data.length := by
    have e := enc_drop (raw l)
    rw [List.getD_eq_getElem?_getD, show 14 = 4 + 10 from rfl, ← List.getElem?_drop, e]
    unfold body
    simp [four]
  rw [h3] at k
  omega
/-- The parts of 64 bytes. -/
theorem parts64 {l : List Nat} (h : l.length = 64) : l = l.take 4 ++ ((l.drop 4).take 4 ++ ((l.drop 8).take 4 ++ ([l.getD 12 0, l.getD 13 0, l.getD 14 0] ++ l.drop 15))) := by
  have e1 : l.drop 4 = (l.drop 4).take 4 ++ l.drop 8 := by
    rw [show l.drop 8 = (l.drop 4).drop 4 by rw [List.drop_drop], List.take_append_drop]
  have e2 : l.drop 8 = (l.drop 8).take 4 ++ l.drop 12 := by
    rw [show l.drop 12 = (l.drop 8).drop 4 by rw [List.drop_drop], List.take_append_drop]
  have g : ∀ i, i < 64 → l.drop i = l.getD i 0 :: l.drop (i + 1) := fun i hi => by
    rw [List.drop_eq_getElem_cons (by omega), List.getD_eq_getElem?_getD, List.getElem?_eq_getElem (by omega)]; rfl
  have e3 : l.drop 12 = [l.getD 12 0, l.getD 13 0, l.getD 14 0] ++ l.drop 15 := by
    rw [g 12 (by omega), g 13 (by omega), g 14 (by omega)]; rfl
  rw [← e3, ← e2, ← e1, List.take_append_drop]
theorem zeros_iff {t : List Nat} {n : Nat} (h : t.length = n) : t = List.replicate n 0 ↔ t.all (· == 0) = true := by
  rw [List.all_eq_true]
  constructor
  · intro e x hx
    rw [e] at hx
    simp [List.eq_of_mem_replicate hx]
  · intro e
    exact List.eq_replicate_iff.2 ⟨h, fun x hx => by simpa using e x hx⟩
theorem data_len {l : List Nat} (h : l.length = 64) (h14 : l.getD 14 0 ≤ 49) : ((l.drop 15).take (l.getD 14 0)).length = l.getD 14 0 := by
  rw [List.length_take, List.length_drop]; omega
/-- The body's own test: what stands behind the bytes is 0. -/
theorem body_raw {l : List Nat} (h : l.length = 64) (hl : ∀ x ∈ l, x < 256) (h14 : l.getD 14 0 ≤ 49) : (raw l).body = l.drop 4 ↔ (l.drop (15 + l.getD 14 0)).all (· == 0) = true := by
  have hd := data_len h h14
  have ht : (l.drop (15 + l.getD 14 0)).length = 49 - l.getD 14 0 := by rw [List.length_drop]; omega
  have e15 : l.drop 15 = (l.drop 15).take (l.getD 14 0) ++ l.drop (15 + l.getD 14 0) := by
    rw [← List.drop_drop, List.take_append_drop]
  have e4 : l.drop 4 = (l.drop 4).take 4 ++ ((l.drop 8).take 4 ++ ([l.getD 12 0, l.getD 13 0, l.getD 14 0] ++ l.drop 15)) := by
    have := congrArg (List.drop 4) (parts64 h)
    rw [List.drop_left' (by rw [List.length_take]; omega)] at this
    exact this
  have m1 : ∀ x ∈ (l.drop 4).take 4, x < 256 := fun x hx => hl x (List.mem_of_mem_drop (List.mem_of_mem_take hx))
  have m2 : ∀ x ∈ (l.drop 8).take 4, x < 256 := fun x hx => hl x (List.mem_of_mem_drop (List.mem_of_mem_take hx))
  have f1 := four_num (m := (l.drop 4).take 4) (by rw [List.length_take, List.length_drop]; omega) m1
  have f2 := four_num (m := (l.drop 8).take 4) (by rw [List.length_take, List.length_drop]; omega) m2
  rw [← zeros_iff ht]
  have eb : (raw l).body = (l.drop 4).take 4 ++ ((l.drop 8).take 4 ++ ([l.getD 12 0, l.getD 13 0, l.getD 14 0] ++ ((l.drop 15).take (l.getD 14 0) ++ List.replicate (49 - l.getD 14 0) 0))) := by
    unfold body raw
    dsimp only
    rw [f1, f2, hd, Int.toNat_natCast, Int.toNat_natCast]
  have e45 : l.drop 4 = (l.drop 4).take 4 ++ ((l.drop 8).take 4 ++ ([l.getD 12 0, l.getD 13 0, l.getD 14 0] ++ ((l.drop 15).take (l.getD 14 0) ++ l.drop (15 + l.getD 14 0)))) := by
    rw [← e15]; exact e4
  rw [eb]
  constructor
  · intro e
    exact (List.append_cancel_left (List.append_cancel_left (List.append_cancel_left (List.append_cancel_left (e.trans e45))))).symm
  · intro e
    refine Eq.trans ?_ e45.symm
    rw [e]
/-- What the program tells: the sum is right, and the bytes behind are 0. -/
theorem isEnc_prog {l : List Nat} (h : l.length = 64) (hl : ∀ x ∈ l, x < 256) : isEnc l = ((openL l).2 && (decide (l.getD 14 0 ≤ 49) && ((raw l).may && (l.drop (15 + l.getD 14 0)).all (· == 0)))) := by
  by_cases h14 : l.getD 14 0 ≤ 49
  · rw [decide_eq_true h14, Bool.true_and, Bool.eq_iff_iff, isEnc_iff, Bool.and_eq_true, Bool.and_eq_true, ← body_raw h hl h14]
    have ht4 : (l.take 4).length = 4 := by rw [List.length_take]; omega
    have hm4 : ∀ x ∈ l.take 4, x < 256 := fun x hx => hl x (List.mem_of_mem_take hx)
    constructor
    · rintro ⟨_, h2, h3⟩
      have h4 : (raw l).body = l.drop 4 := by rw [← enc_drop, h3]
      refine ⟨?_, h2, h4⟩
      have : openL l = openL (seal_ (raw l).body) := by
        have e : seal_ (raw l).body = l := h3
        rw [e]
      rw [this, openL_seal]
    · rintro ⟨h2, h3, h4⟩
      refine ⟨h, h3, ?_⟩
      unfold openL at h2
      split at h2
      · next ho =>
        have e := ho.2
        unfold enc seal_
        rw [h4, e, four_num ht4 hm4, List.take_append_drop]
      · cases h2
  · rw [decide_eq_false h14, Bool.false_and, Bool.and_false, Bool.eq_false_iff]
    exact fun e => h14 (isEnc_14 e)
theorem raw_ok {l : List Nat} (hl : ∀ x ∈ l, x < 256) : (raw l).Ok := by
  have hn : ∀ k, Crc.num ((l.drop k).take 4) < 4294967296 := fun k => by
    have h1 := Crc.num_lt ((l.drop k).take 4) (fun x hx => hl x (List.mem_of_mem_drop (List.mem_of_mem_take hx)))
    refine Nat.lt_of_lt_of_le h1 ?_
    have : ((l.drop k).take 4).length ≤ 4 := by rw [List.length_take]; omega
    calc 2 ^ (8 * ((l.drop k).take 4).length) ≤ 2 ^ 32 := Nat.pow_le_pow_right (by decide) (by omega)
      _ = 4294967296 := by decide
  exact ⟨hn 4, hn 8, fun x hx => hl x (List.mem_of_mem_drop (List.mem_of_mem_take hx))⟩
theorem zero_ok : zero.Ok := ⟨by decide, by decide, fun _ h => by cases h⟩
theorem dec_ok {l : List Nat} (hl : ∀ x ∈ l, x < 256) : (dec l).Ok := by
  unfold dec
  split
  · exact raw_ok hl
  · exact zero_ok
theorem enc_lt {x : Cl} (hx : x.Ok) (h : x.may = true) : ∀ c ∈ x.enc, c < 256 := by
  obtain ⟨h1, h2, h3, h4, h5, h6, h7⟩ := may_iff.1 h
  intro c hc
  unfold enc seal_ body at hc
  simp only [List.mem_append, List.mem_cons, List.not_mem_nil, or_false] at hc
  rcases hc with hc | hc | hc | hc | hc | hc
  · exact four_lt _ _ hc
  · exact four_lt _ _ hc
  · exact four_lt _ _ hc
  · rcases hc with rfl | rfl | rfl <;> omega
  · exact hx.data c hc
  · rw [List.eq_of_mem_replicate hc]; decide

/-! ### The cells of a record -/
def need (n : Nat) : Nat := if n < 1 ∨ 392 < n then 0 else (n + 48) / 49
def cellAt (gen seq : Nat) (r : List Nat) (i : Nat) : Cl := ⟨gen, seq, i, need r.length, (r.drop (49 * i)).take 49⟩
def split (gen seq : Nat) (r : List Nat) : List Cl := (List.range (need r.length)).map (cellAt gen seq r)
def splitCode (r : List Nat) : Int := if need r.length = 0 then 1 else 0
def flat (l : List Cl) : List Nat := l.flatMap (·.data)
def joins (l : List Cl) : Bool := decide (l ≠ []) && decide (split (l.headD zero).gen (l.headD zero).seq (flat l) = l)
def join (l : List Cl) : List Nat := if joins l then flat l else []
def joinCode (l : List Cl) : Int := if joins l then 0 else 2

theorem need_le (n : Nat) : need n ≤ 8 := by unfold need; split <;> omega
theorem need_pos {n : Nat} (h1 : 1 ≤ n) (h2 : n ≤ 392) : need n = (n + 48) / 49 ∧ 1 ≤ need n := by
  unfold need
  rw [if_neg (by omega)]
  exact ⟨rfl, by omega⟩
theorem need_zero {n : Nat} (h : n < 1 ∨ 392 < n) : need n = 0 := by unfold need; rw [if_pos h]
theorem need_iff {n : Nat} : need n = 0 ↔ n < 1 ∨ 392 < n := by
  constructor
  · intro h
    by_cases hc : n < 1 ∨ 392 < n
    · exact hc
    · have := (need_pos (n := n) (by omega) (by omega)).2; omega
  · exact need_zero
theorem split_len (gen seq : Nat) (r : List Nat) : (split gen seq r).length = need r.length := by unfold split; simp
theorem split_get {gen seq : Nat} {r : List Nat} {i : Nat} (h : i < need r.length) : (split gen seq r)[i]? = some (cellAt gen seq r i) := by
  unfold split
  rw [List.getElem?_map, List.getElem?_range h]; rfl
theorem cellAt_may {gen seq : Nat} {r : List Nat} {i : Nat} (h : i < need r.length) : (cellAt gen seq r i).may = true := by
  have hc : ¬ (r.length < 1 ∨ 392 < r.length) := fun e => by rw [need_zero e] at h; omega
  obtain ⟨h1, h2⟩ := need_pos (n := r.length) (by omega) (by omega)
  rw [may_iff]
  unfold cellAt
  dsimp only
  rw [List.length_take, List.length_drop]
  have h8 := need_le r.length
  omega
theorem cellAt_ok {gen seq : Nat} {r : List Nat} (i : Nat) (hg : gen < 4294967296) (hs : seq < 4294967296) (hr : ∀ x ∈ r, x < 256) : (cellAt gen seq r i).Ok :=
  ⟨hg, hs, fun c hc => hr c (List.mem_of_mem_drop (List.mem_of_mem_take hc))⟩
theorem flat_range (r : List Nat) (m : Nat) : ((List.range m).map fun i => (r.drop (49 * i)).take 49).flatten = r.take (49 * m) := by
  induction m with
  | zero => simp
  | succ m ih =>
    rw [List.range_succ, List.map_append, List.flatten_append, ih, List.map_singleton, List.flatten_singleton, show 49 * (m + 1) = 49 * m + 49 by omega, List.take_add]
theorem flat_split {gen seq : Nat} {r : List Nat} (h : need r.length ≠ 0) : flat (split gen seq r) = r := by
  have hc : ¬ (r.length < 1 ∨ 392 < r.length) := fun e => h (need_zero e)
  obtain ⟨h1, h2⟩ := need_pos (n := r.length) (by omega) (by omega)
  unfold flat split
  rw [List.flatMap_map, List.flatMap_def]
  have := flat_range r (need r.length)
  unfold cellAt
  dsimp only
  rw [this, List.take_of_length_le (by omega)]
theorem split_head {gen seq : Nat} {r : List Nat} (h : need r.length ≠ 0) : (split gen seq r).headD zero = cellAt gen seq r 0 ∧ split gen seq r ≠ [] := by
  have h0 := split_get (gen := gen) (seq := seq) (r := r) (i := 0) (by omega)
  cases hl : split gen seq r with
  | nil => rw [hl] at h0; cases h0
  | cons x t => rw [hl] at h0; cases h0; exact ⟨rfl, by simp⟩
theorem joins_split {gen seq : Nat} {r : List Nat} (h : need r.length ≠ 0) : joins (split gen seq r) = true := by
  obtain ⟨h1, h2⟩ := split_head (gen := gen) (seq := seq) h
  unfold joins
  rw [decide_eq_true h2, Bool.true_and, h1, flat_split h]
  exact decide_eq_true rfl
theorem join_split {gen seq : Nat} {r : List Nat} (h : need r.length ≠ 0) : join (split gen seq r) = r ∧ joinCode (split gen seq r) = 0 := by
  unfold join joinCode
  rw [joins_split h]
  exact ⟨flat_split h, rfl⟩
/-- What the program asks of each cell. -/
structure Right (l : List Cl) (i : Nat) (x : Cl) : Prop where
  may : x.may = true
  part : x.part = i
  parts : x.parts = l.length
  gen : x.gen = (l.headD zero).gen
  seq : x.seq = (l.headD zero).seq
theorem joins_right {l : List Cl} (h : joins l = true) : l ≠ [] ∧ ∀ (i : Nat) (x : Cl), l[i]? = some x → Right l i x := by
  unfold joins at h
  rw [Bool.and_eq_true, decide_eq_true_iff, decide_eq_true_iff] at h
  obtain ⟨h1, h2⟩ := h
  refine ⟨h1, fun i x hx => ?_⟩
  have hlen := split_len (l.headD zero).gen (l.headD zero).seq (flat l)
  rw [h2] at hlen
  have hi : i < need (flat l).length := by rw [← hlen]; exact (List.getElem?_eq_some_iff.1 hx).1
  have hg := split_get (gen := (l.headD zero).gen) (seq := (l.headD zero).seq) (r := flat l) hi
  rw [h2, hx] at hg
  cases hg
  exact ⟨cellAt_may hi, rfl, by show ((need (flat l).length : Nat) : Int) = _; rw [hlen], rfl, rfl⟩
theorem flat_cons (x : Cl) (l : List Cl) : flat (x :: l) = x.data ++ flat l := rfl
theorem flat_append (l m : List Cl) : flat (l ++ m) = flat l ++ flat m := by unfold flat; rw [List.flatMap_append]
theorem flat_full {l : List Cl} (h : ∀ x ∈ l, x.data.length = 49) : (flat l).length = 49 * l.length := by
  induction l with
  | nil => rfl
  | cons x l ih =>
    rw [flat_cons, List.length_append, ih (fun y hy => h y (by simp [hy])), h x (by simp), List.length_cons]
    omega
theorem flat_get {l : List Cl} {x : Cl} {i : Nat} (h : ∀ (j : Nat) (y : Cl), l[j]? = some y → j < i → y.data.length = 49) (hx : l[i]? = some x) : (flat l).drop (49 * i) = x.data ++ flat (l.drop (i + 1)) := by
  obtain ⟨hi, e⟩ := List.getElem?_eq_some_iff.1 hx
  have hs : l = l.take i ++ x :: l.drop (i + 1) := by
    rw [← e, ← List.drop_eq_getElem_cons hi, List.take_append_drop]
  have hf : (flat (l.take i)).length = 49 * i := by
    rw [flat_full, List.length_take]
    · congr 1; omega
    · intro y hy
      obtain ⟨j, hj⟩ := List.getElem?_of_mem hy
      rw [List.getElem?_take] at hj
      split at hj
      · exact h j y hj (by assumption)
      · cases hj
  have hfl : flat l = flat (l.take i) ++ (x.data ++ flat (l.drop (i + 1))) := by
    rw [← flat_cons, ← flat_append, ← hs]
  rw [hfl]
  exact List.drop_left' hf
theorem right_joins {l : List Cl} (h0 : l ≠ []) (h : ∀ (i : Nat) (x : Cl), l[i]? = some x → Right l i x) : joins l = true := by
  obtain ⟨m, hm⟩ : ∃ m, l.length = m + 1 := ⟨l.length - 1, by have := List.length_pos_iff.2 h0; omega⟩
  have hfull : ∀ (j : Nat) (y : Cl), l[j]? = some y → j < m → y.data.length = 49 := fun j y hy hj => by
    have r := h j y hy
    obtain ⟨_, _, _, _, _, _, h7⟩ := may_iff.1 r.may
    have := r.part
    have := r.parts
    omega
  have hlast : l[m]? = some l[m] := List.getElem?_eq_getElem (by omega)
  have rl := h m _ hlast
  obtain ⟨l1, l2, l3, l4, l5, l6, _⟩ := may_iff.1 rl.may
  have hp := rl.parts
  have hfd := flat_get (i := m) (fun j y hy hj => hfull j y hy hj) hlast
  have hfl : (flat l).length = 49 * m + l[m].data.length := by
    have h1 := congrArg List.length hfd
    rw [List.length_drop, List.length_append, List.drop_eq_nil_of_le (by omega)] at h1
    have h2 : (flat ([] : List Cl)).length = 0 := rfl
    rw [h2] at h1
    omega
  have hneed : need (flat l).length = l.length := by
    rw [(need_pos (by omega) (by omega)).1, hfl]
    omega
  unfold joins
  rw [decide_eq_true h0, Bool.true_and]
  refine decide_eq_true (List.ext_getElem? fun i => ?_)
  by_cases hi : i < l.length
  · rw [split_get (by omega)]
    have hx : l[i]? = some l[i] := List.getElem?_eq_getElem hi
    rw [hx]
    have r := h i _ hx
    have hd : ((flat l).drop (49 * i)).take 49 = l[i].data := by
      rw [flat_get (fun j y hy hj => hfull j y hy (by omega)) hx]
      by_cases him : i < m
      · exact List.take_left' (hfull i _ hx him)
      · rw [List.drop_eq_nil_of_le (by omega)]
        have e : flat ([] : List Cl) = [] := rfl
        rw [e, List.append_nil]
        exact List.take_of_length_le (may_iff.1 r.may).2.2.2.2.2.1
    unfold cellAt
    rw [hd, hneed]
    have e1 := r.part
    have e2 := r.parts
    have e3 := r.gen
    have e4 := r.seq
    generalize l[i] = x at *
    obtain ⟨x1, x2, x3, x4, x5⟩ := x
    dsimp only at e1 e2 e3 e4
    rw [e1, e2, e3, e4]
  · rw [List.getElem?_eq_none (by rw [split_len]; omega), List.getElem?_eq_none (by omega)]
theorem joins_no {l : List Cl} {i : Nat} {x : Cl} (hx : l[i]? = some x) (h : ¬ Right l i x) : joins l = false := by
  rw [Bool.eq_false_iff]
  exact fun e => h ((joins_right e).2 i x hx)
/-- Of more than nine cells the first nine are looked at. -/
theorem joins_nine {l : List Cl} (h : 9 < l.length) (r : List Nat) (g s : Nat) : split g s r ≠ l ∧ joins l = false := by
  have h1 : split g s r ≠ l := fun e => by have := split_len g s r; rw [e] at this; have := need_le r.length; omega
  refine ⟨h1, ?_⟩
  rw [Bool.eq_false_iff]
  intro e
  have := (joins_right e).2 0 _ (List.getElem?_eq_getElem (by omega))
  have hp := this.parts
  have hm := (may_iff.1 this.may).2.1
  omega
end Cl
end Go.Proofs.YtdlcngmcjidomaaDoor
