/- Reading decimal digits: plain mathematics. No condition. -/
import Derived.Test.YticheiocmhaakaaDoorDec
namespace Go.Proofs.YticheiocmhaakaaDoor

/-- The value of decimal digits, written out as bytes. -/
def dec (l : List Nat) : Nat := l.foldl (fun d c => d * 10 + (c - 48)) 0
theorem dec_nil : dec [] = 0 := rfl
theorem dec_snoc (l : List Nat) (c : Nat) : dec (l ++ [c]) = dec l * 10 + (c - 48) := by unfold dec; rw [List.foldl_append]; rfl
theorem dec_append (l m : List Nat) : dec (l ++ m) = dec l * 10 ^ m.length + dec m := by
  unfold dec
  rw [List.foldl_append]
  generalize List.foldl (fun d c => d * 10 + (c - 48)) 0 l = a
  have h : ∀ (m : List Nat) (a b : Nat), List.foldl (fun d c => d * 10 + (c - 48)) (a + b) m = a * 10 ^ m.length + List.foldl (fun d c => d * 10 + (c - 48)) b m := by
    intro m
    induction m with
    | nil => intro a b; simp
    | cons c m ih =>
      intro a b
      simp only [List.foldl_cons, List.length_cons]
      rw [show (a + b) * 10 + (c - 48) = a * 10 + (b * 10 + (c - 48)) by omega, ih, Nat.pow_succ, Nat.mul_assoc, Nat.mul_comm 10]
  simpa using h m a 0
def Digs (l : List Nat) : Prop := ∀ c ∈ l, 48 ≤ c ∧ c ≤ 57
theorem dec_lt (l : List Nat) (h : Digs l) : dec l < 10 ^ l.length := by
  generalize hn : l.length = n
  induction n generalizing l with
  | zero => rw [List.eq_nil_of_length_eq_zero hn]; simp [dec]
  | succ n ih =>
    have hne : l ≠ [] := by intro e; rw [e] at hn; simp at hn
    rw [← List.dropLast_concat_getLast hne, dec_snoc]
    have h1 := ih l.dropLast (fun c hc => h c ((List.dropLast_sublist l).subset hc)) (by simp [hn])
    have h2 := h _ (List.getLast_mem hne)
    rw [Nat.pow_succ]
    omega
/-- Whether a text is a number's: P1.2. -/
structure Reads (l : List Nat) : Prop where
  pos : 1 ≤ l.length
  most : l.length ≤ 40000
  lead : ¬ (1 < l.length ∧ l[0]? = some 48)
  digs : Digs l
theorem dropWhile_nil {α : Type} (p : α → Bool) (l : List α) : l.dropWhile p = [] ↔ ∀ x ∈ l, p x = true := by
  induction l with
  | nil => simp
  | cons x l ih =>
    by_cases h : p x = true
    · rw [List.dropWhile_cons_of_pos h, ih]; simp [h]
    · rw [List.dropWhile_cons_of_neg h]; simp [h]
theorem dropWhile_head {α : Type} (p : α → Bool) (l : List α) (x : α) (m : List α) (h : l.dropWhile p = x :: m) : p x = false := by
  induction l with
  | nil => cases h
  | cons y l ih =>
    by_cases hy : p y = true
    · rw [List.dropWhile_cons_of_pos hy] at h; exact ih h
    · rw [List.dropWhile_cons_of_neg hy] at h
      cases h
      simpa using hy
/-- Trim leaves nothing just if all is in the set. -/
theorem trimS_nil (l cs : List UInt8) : Lib.trimS l cs = [] ↔ ∀ x ∈ l, cs.contains x = true := by
  unfold Lib.trimS Lib.trimLeftS Lib.trimRightS
  constructor
  · intro h
    rw [dropWhile_nil] at h
    cases hr : l.reverse.dropWhile (cs.contains ·) with
    | nil =>
      rw [dropWhile_nil] at hr
      intro x hx
      exact hr x (by simpa using hx)
    | cons y m =>
      have h1 := dropWhile_head _ _ _ _ hr
      have h2 := h y (by rw [hr]; simp)
      rw [h1] at h2
      cases h2
  · intro h
    have : l.reverse.dropWhile (cs.contains ·) = [] := (dropWhile_nil _ _).2 fun x hx => h x (by simpa using hx)
    rw [this]
    rfl
def tens : List UInt8 := [48, 49, 50, 51, 52, 53, 54, 55, 56, 57]
theorem tens_iff (x : Nat) (h : x < 256) : tens.contains (UInt8.ofNat x) = true ↔ 48 ≤ x ∧ x ≤ 57 := by
  have : ∀ x : Fin 256, tens.contains (UInt8.ofNat x.val) = true ↔ 48 ≤ x.val ∧ x.val ≤ 57 := by decide +kernel
  exact this ⟨x, h⟩
theorem trim_digs (l : List Nat) (hl : ∀ x ∈ l, x < 256) : Lib.trimS (str l).data.toList tens = [] ↔ Digs l := by
  rw [trimS_nil, str_list]
  constructor
  · intro h c hc
    exact (tens_iff c (hl c hc)).1 (h _ (List.mem_map.2 ⟨c, hc, rfl⟩))
  · intro h x hx
    obtain ⟨c, hc, rfl⟩ := List.mem_map.1 hx
    exact (tens_iff c (hl c hc)).2 (h c hc)
theorem str_size (l : List Nat) : (str l).size = l.length := by simp [str, ByteArray.size]
/-- Every string is its bytes'. -/
def bl (s : ByteArray) : List Nat := s.data.toList.map UInt8.toNat
theorem str_bl (s : ByteArray) : str (bl s) = s := by
  apply ByteArray.ext
  apply Array.toList_inj.1
  rw [str_list]
  unfold bl
  rw [List.map_map]
  conv => rhs; rw [← List.map_id s.data.toList]
  apply List.map_congr_left
  intro x _
  simp
theorem bl_lt (s : ByteArray) : ∀ x ∈ bl s, x < 256 := by
  intro x hx
  obtain ⟨c, _, rfl⟩ := List.mem_map.1 hx
  exact c.toNat_lt
theorem bl_str (l : List Nat) (h : ∀ x ∈ l, x < 256) : bl (str l) = l := by
  unfold bl
  rw [str_list, List.map_map]
  conv => rhs; rw [← List.map_id l]
  apply List.map_congr_left
  intro x hx
  simp [Nat.mod_eq_of_lt (h x hx)]
theorem str_inj {l m : List Nat} (hl : ∀ x ∈ l, x < 256) (hm : ∀ x ∈ m, x < 256) (h : str l = str m) : l = m := by
  rw [← bl_str l hl, h, bl_str m hm]
theorem str_get (l : List Nat) (hl : ∀ x ∈ l, x < 256) (i x : Nat) (hx : l[i]? = some x) (h : i < (str l).size) : ((str l)[i]'h).toNat = x := by
  have e : (str l).data.toList[i]? = some (UInt8.ofNat x) := by rw [str_list, List.getElem?_map, hx]; rfl
  have h' : i < (str l).data.toList.length := h
  rw [List.getElem?_eq_getElem h'] at e
  have e2 : (str l)[i]'h = UInt8.ofNat x := Option.some.inj e
  rw [e2, UInt8.toNat_ofNat']
  exact Nat.mod_eq_of_lt (hl x (List.mem_of_getElem? hx))
theorem str_take (l : List Nat) (n : Nat) : (str l).extract 0 n = str (l.take n) := by
  apply ByteArray.ext
  apply Array.toList_inj.1
  simp [str]
theorem str_drop (l : List Nat) (n : Nat) : (str l).extract n (str l).size = str (l.drop n) := by
  apply ByteArray.ext
  apply Array.toList_inj.1
  simp [str, ByteArray.size]
  exact List.take_of_length_le (by simp)
end Go.Proofs.YticheiocmhaakaaDoor
