/- Texts of several parts in one: Dec, ParseMath, DecMore, NatL, NatO. Each says what it proves; no condition but those named there. -/
import Derived.Test.YticjhlbmdjijnaaDoorG1
import Derived.Lib.TrimByte
import Derived.Lib.SlTrimSet
import Derived.Test.YticjhlbmdjijnaaDoorShelf2
import Derived.Test.YticjhlbmdjijnaaDoorG5
import Derived.Laws.IdiomStrings
/- Decimal digits, strings: plain mathematics. No condition. -/
namespace Go.Proofs.YticjhlbmdjijnaaDoor

/-- The decimal text of a number, its bytes. -/
def decTxt (v : Nat) : List Nat := if v = 0 then [48] else (Num.dig 10 v).reverse.map (48 + ·)
/-- Bytes as a string. -/
def str (l : List Nat) : ByteArray := ⟨(l.map UInt8.ofNat).toArray⟩
theorem str_list (l : List Nat) : (str l).data.toList = l.map UInt8.ofNat := by simp [str]
theorem str_append (l m : List Nat) : str l ++ str m = str (l ++ m) := by
  apply ByteArray.ext
  simp [str]
namespace Num
theorem strip_rev {b : Nat} (hb : 2 ≤ b) (R : List Nat) (h : ∀ x ∈ R, x < b) : R.dropWhile (· == 0) = (dig b (val b R.reverse)).reverse := by
  induction R with
  | nil => simp [val, dig_zero]
  | cons x R ih =>
    have ih' := ih fun y hy => h y (List.mem_cons_of_mem _ hy)
    rw [List.reverse_cons]
    by_cases hx : x = 0
    · subst hx
      rw [List.dropWhile_cons_of_pos (by simp), ih', val_snoc, Nat.mul_zero, Nat.add_zero]
    · rw [List.dropWhile_cons_of_neg (by simpa using hx), dig_val hb (R.reverse ++ [x])]
      · simp
      · intro y hy
        have : y ∈ x :: R := by simpa [or_comm] using hy
        exact h y this
      · intro y hy
        rw [List.length_append, List.length_singleton, Nat.add_sub_cancel, List.getElem?_append_right (by omega)] at hy
        simp at hy
        omega
theorem strip {b : Nat} (hb : 2 ≤ b) (D : List Nat) (h : ∀ x ∈ D, x < b) : D.reverse.dropWhile (· == 0) = (dig b (val b D)).reverse := by
  have := strip_rev hb D.reverse (by simpa using h)
  rwa [List.reverse_reverse] at this
end Num
theorem dropWhile_congr {α : Type} (p q : α → Bool) (l : List α) (h : ∀ x ∈ l, p x = q x) : l.dropWhile p = l.dropWhile q := by
  induction l with
  | nil => rfl
  | cons x l ih =>
    rw [List.dropWhile_cons, List.dropWhile_cons, h x List.mem_cons_self, ih fun y hy => h y (List.mem_cons_of_mem _ hy)]
theorem byte_zero (x : Nat) (h : x < 10) : (UInt8.ofNat (48 + x) == 48) = (x == 0) := by
  obtain rfl | rfl | rfl | rfl | rfl | rfl | rfl | rfl | rfl | rfl : x = 0 ∨ x = 1 ∨ x = 2 ∨ x = 3 ∨ x = 4 ∨ x = 5 ∨ x = 6 ∨ x = 7 ∨ x = 8 ∨ x = 9 := by omega
  all_goals decide
/-- What TrimLeft leaves of digits with zeros ahead. -/
theorem trim_dec (D : List Nat) (v : Nat) (h : ∀ x ∈ D, x < 10) (hv : Num.val 10 D = v) (h0 : 0 < v) : (⟨(Lib.trimLeftB (str (D.map (48 + ·)).reverse).data.toList 48).toArray⟩ : ByteArray) = str (decTxt v) := by
  have e : Lib.trimLeftB (str (D.map (48 + ·)).reverse).data.toList 48 = ((Num.dig 10 v).reverse.map (48 + ·)).map UInt8.ofNat := by
    rw [str_list, ← List.map_reverse]
    unfold Lib.trimLeftB
    rw [List.map_map, List.dropWhile_map, dropWhile_congr ((fun x => x == 48) ∘ UInt8.ofNat ∘ fun x => 48 + x) (· == 0) D.reverse (fun x hx => byte_zero x (h x (by simpa using hx))), Num.strip (by decide) D h, hv, List.map_map]
  rw [e]
  unfold str decTxt
  rw [if_neg (by omega)]
theorem decTxt_zero : decTxt 0 = [48] := rfl
theorem decTxt_pos {v : Nat} (h : 0 < v) : decTxt v = (Num.dig 10 v).reverse.map (48 + ·) := by unfold decTxt; rw [if_neg (by omega)]
end Go.Proofs.YticjhlbmdjijnaaDoor

/- Reading decimal digits: plain mathematics. No condition. -/
namespace Go.Proofs.YticjhlbmdjijnaaDoor

/-- The value of decimal digits, written out as bytes. -/
def dec (l : List Nat) : Nat := l.foldl (fun d c => d * 10 + (c - 48)) 0
theorem dec_nil : dec [] = 0 := rfl
theorem dec_snoc (l : List Nat) (c : Nat) : dec (l ++ [c]) = dec l * 10 + (c - 48) := by unfold dec; rw [List.foldl_append]; rfl
theorem dec_append (l m : List Nat) : dec (l ++ m) = dec l * 10 ^ m.length + dec m := by
  unfold dec
  rw [List.foldl_append]
  generalize List.foldl (fun d c => d * 10 + (c - 48)) 0 l = a
  have h : ∀ (m : List Nat) (a b : Nat), List.foldl (fun d c => d * 10 + (c - 48)) (a + b) m = a * 10 ^ m.length + List.foldl (fun d c => d * 10 + (c - 48)) b m := by
    intro m
    induction m with
    | nil => intro a b; simp
    | cons c m ih =>
      intro a b
      simp only [List.foldl_cons, List.length_cons]
      rw [show (a + b) * 10 + (c - 48) = a * 10 + (b * 10 + (c - 48)) by omega, ih, Nat.pow_succ, Nat.mul_assoc, Nat.mul_comm 10]
  simpa using h m a 0
def Digs (l : List Nat) : Prop := ∀ c ∈ l, 48 ≤ c ∧ c ≤ 57
theorem dec_lt (l : List Nat) (h : Digs l) : dec l < 10 ^ l.length := by
  generalize hn : l.length = n
  induction n generalizing l with
  | zero => rw [List.eq_nil_of_length_eq_zero hn]; simp [dec]
  | succ n ih =>
    have hne : l ≠ [] := by intro e; rw [e] at hn; simp at hn
    rw [← List.dropLast_concat_getLast hne, dec_snoc]
    have h1 := ih l.dropLast (fun c hc => h c ((List.dropLast_sublist l).subset hc)) (by simp [hn])
    have h2 := h _ (List.getLast_mem hne)
    rw [Nat.pow_succ]
    omega
/-- Whether a text is a number's: P1.2. -/
structure Reads (l : List Nat) : Prop where
  pos : 1 ≤ l.length
  most : l.length ≤ 40000
  lead : ¬ (1 < l.length ∧ l[0]? = some 48)
  digs : Digs l
theorem dropWhile_nil {α : Type} (p : α → Bool) (l : List α) : l.dropWhile p = [] ↔ ∀ x ∈ l, p x = true := by
  induction l with
  | nil => simp
  | cons x l ih =>
    by_cases h : p x = true
    · rw [List.dropWhile_cons_of_pos h, ih]; simp [h]
    · rw [List.dropWhile_cons_of_neg h]; simp [h]
theorem dropWhile_head {α : Type} (p : α → Bool) (l : List α) (x : α) (m : List α) (h : l.dropWhile p = x :: m) : p x = false := by
  induction l with
  | nil => cases h
  | cons y l ih =>
    by_cases hy : p y = true
    · rw [List.dropWhile_cons_of_pos hy] at h; exact ih h
    · rw [List.dropWhile_cons_of_neg hy] at h
      cases h
      simpa using hy
/-- Trim leaves nothing just if all is in the set. -/
theorem trimS_nil (l cs : List UInt8) : Lib.trimS l cs = [] ↔ ∀ x ∈ l, cs.contains x = true := by
  unfold Lib.trimS Lib.trimLeftS Lib.trimRightS
  constructor
  · intro h
    rw [dropWhile_nil] at h
    cases hr : l.reverse.dropWhile (cs.contains ·) with
    | nil =>
      rw [dropWhile_nil] at hr
      intro x hx
      exact hr x (by simpa using hx)
    | cons y m =>
      have h1 := dropWhile_head _ _ _ _ hr
      have h2 := h y (by rw [hr]; simp)
      rw [h1] at h2
      cases h2
  · intro h
    have : l.reverse.dropWhile (cs.contains ·) = [] := (dropWhile_nil _ _).2 fun x hx => h x (by simpa using hx)
    rw [this]
    rfl
def tens : List UInt8 := [48, 49, 50, 51, 52, 53, 54, 55, 56, 57]
theorem tens_iff (x : Nat) (h : x < 256) : tens.contains (UInt8.ofNat x) = true ↔ 48 ≤ x ∧ x ≤ 57 := by
  have : ∀ x : Fin 256, tens.contains (UInt8.ofNat x.val) = true ↔ 48 ≤ x.val ∧ x.val ≤ 57 := by decide +kernel
  exact this ⟨x, h⟩
theorem trim_digs (l : List Nat) (hl : ∀ x ∈ l, x < 256) : Lib.trimS (str l).data.toList tens = [] ↔ Digs l := by
  rw [trimS_nil, str_list]
  constructor
  · intro h c hc
    exact (tens_iff c (hl c hc)).1 (h _ (List.mem_map.2 ⟨c, hc, rfl⟩))
  · intro h x hx
    obtain ⟨c, hc, rfl⟩ := List.mem_map.1 hx
    exact (tens_iff c (hl c hc)).2 (h c hc)
theorem str_size (l : List Nat) : (str l).size = l.length := by simp [str, ByteArray.size]
/-- Every string is its bytes'. -/
def bl (s : ByteArray) : List Nat := s.data.toList.map UInt8.toNat
theorem str_bl (s : ByteArray) : str (bl s) = s := by
  apply ByteArray.ext
  apply Array.toList_inj.1
  rw [str_list]
  unfold bl
  rw [List.map_map]
  conv => rhs; rw [← List.map_id s.data.toList]
  apply List.map_congr_left
  intro x _
  simp
theorem bl_lt (s : ByteArray) : ∀ x ∈ bl s, x < 256 := by
  intro x hx
  obtain ⟨c, _, rfl⟩ := List.mem_map.1 hx
  exact c.toNat_lt
theorem bl_str (l : List Nat) (h : ∀ x ∈ l, x < 256) : bl (str l) = l := by
  unfold bl
  rw [str_list, List.map_map]
  conv => rhs; rw [← List.map_id l]
  apply List.map_congr_left
  intro x hx
  simp [Nat.mod_eq_of_lt (h x hx)]
theorem str_inj {l m : List Nat} (hl : ∀ x ∈ l, x < 256) (hm : ∀ x ∈ m, x < 256) (h : str l = str m) : l = m := by
  rw [← bl_str l hl, h, bl_str m hm]
theorem str_get (l : List Nat) (hl : ∀ x ∈ l, x < 256) (i x : Nat) (hx : l[i]? = some x) (h : i < (str l).size) : ((str l)[i]'h).toNat = x := by
  have e : (str l).data.toList[i]? = some (UInt8.ofNat x) := by rw [str_list, List.getElem?_map, hx]; rfl
  have h' : i < (str l).data.toList.length := h
  rw [List.getElem?_eq_getElem h'] at e
  have e2 : (str l)[i]'h = UInt8.ofNat x := Option.some.inj e
  rw [e2, UInt8.toNat_ofNat']
  exact Nat.mod_eq_of_lt (hl x (List.mem_of_getElem? hx))
theorem str_take (l : List Nat) (n : Nat) : (str l).extract 0 n = str (l.take n) := by
  apply ByteArray.ext
  apply Array.toList_inj.1
  simp [str]
theorem str_drop (l : List Nat) (n : Nat) : (str l).extract n (str l).size = str (l.drop n) := by
  apply ByteArray.ext
  apply Array.toList_inj.1
  simp [str, ByteArray.size]
  exact List.take_of_length_le (by simp)
end Go.Proofs.YticjhlbmdjijnaaDoor

/- Decimal text and its value: plain mathematics. No condition. -/
namespace Go.Proofs.YticjhlbmdjijnaaDoor

theorem decTxt_small {x : Nat} (h : x < 10) : decTxt x = [48 + x] := by
  obtain rfl | rfl | rfl | rfl | rfl | rfl | rfl | rfl | rfl | rfl : x = 0 ∨ x = 1 ∨ x = 2 ∨ x = 3 ∨ x = 4 ∨ x = 5 ∨ x = 6 ∨ x = 7 ∨ x = 8 ∨ x = 9 := by omega
  · rfl
  all_goals
    rw [decTxt_pos (by omega), Num.dig_pos (by decide) (by omega), show Num.dig 10 _ = [] from Num.dig_zero 10]
    rfl
theorem decTxt_snoc {x m : Nat} (h : x < 10) (hm : 0 < m) : decTxt (x + 10 * m) = decTxt m ++ [48 + x] := by
  rw [decTxt_pos (by omega), decTxt_pos hm, Num.dig_cons (by decide) h (by omega)]
  simp
theorem dec_decTxt (v : Nat) : dec (decTxt v) = v ∧ Digs (decTxt v) ∧ 1 ≤ (decTxt v).length ∧ (0 < v → (decTxt v)[0]? ≠ some 48) := by
  induction v using Nat.strongRecOn with
  | ind v ih =>
    rcases Nat.lt_or_ge v 10 with h | h
    · rw [decTxt_small h]
      refine ⟨by simp [dec], ?_, by simp, fun h0 => by simp; omega⟩
      intro c hc
      rw [List.mem_singleton.1 hc]
      omega
    · obtain ⟨i1, i2, i3, i4⟩ := ih (v / 10) (by omega)
      have e : v = v % 10 + 10 * (v / 10) := by omega
      rw [e, decTxt_snoc (by omega) (by omega)]
      refine ⟨?_, ?_, by simp, fun _ => ?_⟩
      · rw [dec_snoc, i1]; omega
      · intro c hc
        rcases List.mem_append.1 hc with hc | hc
        · exact i2 c hc
        · rw [List.mem_singleton.1 hc]; omega
      · rw [List.getElem?_append_left (by omega)]
        exact i4 (by omega)
theorem decTxt_len (k : Nat) : ∀ v, v < 10 ^ (k + 1) → (decTxt v).length ≤ k + 1 := by
  induction k with
  | zero => intro v h; rw [decTxt_small (by simpa using h)]; simp
  | succ k ih =>
    intro v h
    rcases Nat.lt_or_ge v 10 with h1 | h1
    · rw [decTxt_small h1]; simp
    · rw [show v = v % 10 + 10 * (v / 10) by omega, decTxt_snoc (by omega) (by omega), List.length_append]
      have := ih (v / 10) (by rw [Nat.pow_succ] at h; omega)
      simp
      omega
theorem reads_dec (v k : Nat) (h : v < 10 ^ (k + 1)) (hk : k < 40000) : Reads (decTxt v) := by
  obtain ⟨_, h2, h3, h4⟩ := dec_decTxt v
  refine ⟨h3, Nat.le_trans (decTxt_len k v h) hk, fun ⟨a, b⟩ => ?_, h2⟩
  rcases Nat.eq_zero_or_pos v with rfl | h0
  · rw [decTxt_zero] at a; simp at a
  · exact h4 h0 b
theorem digs_lt {l : List Nat} (h : Digs l) : ∀ x ∈ l, x < 256 := fun x hx => by have := h x hx; omega
theorem lead_bad (z : Nat) (l : List Nat) : ¬ Reads (48 :: z :: l) := fun h => h.lead ⟨by simp, rfl⟩
end Go.Proofs.YticjhlbmdjijnaaDoor

/- The contract of nat.Text. No condition but the reach of a slice. -/
namespace Go.Proofs.YticjhlbmdjijnaaDoor
open Go.RowKit

abbrev Byt (w : World) (A : Option Addr) (n c : Nat) (l : List Nat) : Prop := Ints w .u8 256 A n c l
abbrev OwnB (w : World) (base : Nat) (A : Option Addr) (n c : Nat) (l : List Nat) : Prop := OwnI w base .u8 256 5 A n c l
theorem info_byte : (Tryd.prog.info? 5).map (fun i => (i.zero, i.size, i.bytes)) = some (some (.int .u8 0), 1, 1) := by kernel_rfl
/-- 'string(b)'. -/
theorem conv_str {P : Program} {w : World} {A : Option Addr} {n c : Nat} {l : List Nat} (src dst e : TypeId) (hs : P.underlying src = some (.slice e)) (he : P.underlying e = some (.int .u8)) (hd : P.underlying dst = some .string) (h : Byt w A n c l) :
    (convert src dst (.slice A n c)).run P w = .ok (.string (str l)) w := by
  cases A with
  | none =>
    have h0 : n = 0 := by
      rcases Nat.eq_zero_or_pos n with h0 | h0
      · exact h0
      · obtain ⟨_, _, _, he, _⟩ := h.get h0
        cases he
    subst h0
    have := h.len
    rw [List.eq_nil_of_length_eq_zero this]
    rw [run_convert_bytes_string w src dst e none 0 c hs he hd]
    simp [Conv.bytesToString, str]
    rfl
  | some ad =>
    have hl : (l.map UInt8.ofNat).length = n := by rw [List.length_map, h.len]
    have hb := run_convert_bytes_back (P := P) w src dst e ad c (l.map UInt8.ofNat) hs he hd (fun j hj => by
      have hjn : j < n := by omega
      obtain ⟨b, o, x, hA, _, hx, hxl, hc⟩ := h.get hjn
      cases hA
      rw [add_plain, hc]
      have e1 : (l.map UInt8.ofNat)[j]? = some (UInt8.ofNat x) := by rw [List.getElem?_map, hx]; rfl
      rw [List.getElem?_eq_getElem hj] at e1
      rw [Option.some.inj e1]
      simp only [UInt8.toNat_ofNat']
      rw [Nat.mod_eq_of_lt hxl])
    rw [hl] at hb
    exact hb

set_option maxRecDepth 100000 in
set_option maxHeartbeats 800000 in
theorem rev8_any (base : Nat) (A : Option Addr) (n c : Nat) (l : List Nat) (w : World) (ho : OwnB w base A n c l) (hn : n ≤ 1099511627776) :
    Calls Tryd.prog 43 #[.slice A n c] w fun e w' => (∃ v, e = .returned v) ∧ OwnB w' base A n c l.reverse ∧ w.grownBy w' (A.map (·.block)) := by
  have hlen := ho.len
  go_enter Tryd.func43, Tryd.ntmps43
  go_wp2
  go_loopw [2, 3] (fun i j wr => ∃ k : Nat, k ≤ n ∧ i = .int .i64 k ∧ j = .int .i64 ((n : Int) - 1 - k) ∧ ∃ cur : List Nat, RevTo l cur k ∧ OwnB wr base A n c cur ∧ w.grownBy wr (A.map (·.block))) (fun i _ _ => n - (intOf i).toNat)
  case atStart => exact ⟨0, by omega, rfl, by simp, l, RevTo.zero l, ho, World.grownBy.refl _ _⟩
  case round =>
    obtain ⟨k, hk, rfl, rfl, cur, hR, ho, hg⟩ := hrel
    by_cases hlt : k < n - 1 - k
    · obtain ⟨g, x, rfl, hgb, hgs, hx, hxl, hc, hf⟩ := ho.get (k := k) (by omega)
      obtain ⟨g', y, he, _, _, hy, hyl, hc', hf'⟩ := ho.get (k := n - 1 - k) (by omega)
      cases he
      have e1 : (n : Int) - 1 - k = ((n - 1 - k : Nat) : Int) := by omega
      obtain ⟨j, hj⟩ : ∃ j, n - 1 - k = j := ⟨_, rfl⟩
      have hR' := hR.step (x := x) (y := y) (by omega) hx (by rw [hlen]; exact hy)
      rw [hlen] at hR'
      rw [e1]
      rw [hj] at hc' hf' hR' hlt ⊢
      have HR := Lib.hid hR'
      have hjn : j < n := by omega
      have hj2 : (j : Int) - 1 = (n : Int) - 1 - ((k + 1 : Nat) : Int) := by omega
      have HJ := Lib.hid hj2
      clear hR' hx hy e1 hj hj2
      go_wp2_with fail
      go_region
      go_wp2_with fail
      exact ⟨⟨k + 1, by omega, by go_num, by rw [HJ.out], _, HR.out, ((ho.stored k y hyl).stored j x hxl).drew, grown_drew (grown_set (grown_set hg k _) j _)⟩, by simp [intOf]; omega⟩
    · have hl : cur = l.reverse := hR.done (by omega)
      subst hl
      clear hR
      go_wp2_with fail
      go_end0
      exact ⟨⟨_, rfl⟩, ho, hg⟩


theorem text_len {v n k rest V : Nat} (hv : v < 4294967296 ^ n) (h : V + 10 ^ (9 * k) * rest = v) (hr : 0 < rest) : k ≤ 2 * n := by
  have h1 : 10 ^ (9 * k) ≤ v := by
    have := Nat.mul_le_mul_left (10 ^ (9 * k)) hr
    omega
  have h2 : 4294967296 ^ n ≤ (10 ^ 18) ^ n := Nat.pow_le_pow_left (by decide) n
  rw [← Nat.pow_mul] at h2
  have h3 := (Nat.pow_lt_pow_iff_right (a := 10) (by decide)).1 (Nat.lt_of_le_of_lt h1 (Nat.lt_of_lt_of_le hv h2))
  omega
set_option maxRecDepth 100000 in
set_option maxHeartbeats 1600000 in
theorem text_any (A : Option Addr) (n c : Nat) (l : List Nat) (w : World) (hr : Lim w A n c l) (hn : n ≤ 34359738368) :
    Calls Tryd.prog 26 #[.slice A n c] w fun e w' => e = .returned (.string (str (decTxt (vl l)))) ∧ Below w.heap.size w w' := by
  have t1 := fun w0 h0 => trim_any A n c l w0 h0 (by omega)
  have hvn : vl l < 4294967296 ^ n := by rw [← hr.len]; exact Num.val_lt _ l hr.lt
  generalize vl l = v at *
  have HN := Lib.hid hvn
  clear hvn
  go_enter Tryd.func26, Tryd.ntmps26
  go_wp2_with fail
  refine (t1 _ hr).mono ?_; rintro e w1 ⟨A1, m1, rfl, hm1, ho1, hb1⟩
  have h1 := ho1.len
  clear t1
  by_cases hv0 : v = 0
  · subst hv0
    rw [lmb_zero] at h1
    obtain rfl : 0 = m1 := h1
    clear ho1
    go_wp2_with fail
    go_ret
    exact ⟨rfl, hb1⟩
  · have hp : 0 < m1 := by
      rcases Nat.eq_zero_or_pos m1 with h | h
      · rw [h] at h1
        have := (Num.dig_eq_nil (b := 4294967296) (by decide) v).1 (List.eq_nil_of_length_eq_zero h1)
        omega
      · exact h
    have HV0 := Lib.hid hv0
    have hz : ((m1 : Int) == 0) = false := by simp; omega
    clear hv0 h1
    go_wp2_with fail
    go_loopg [0, 3] v (fun rest av dv wr => ∃ k B m C x y D, av = .slice B m m ∧ dv = .slice C x y ∧ k ≤ 2 * n + 1 ∧ m ≤ n ∧ OwnL wr w.heap.size B m m (lmb rest) ∧ OwnB wr w.heap.size C x y (D.map (48 + ·)) ∧ Hid (∀ z ∈ D, z < 10) ∧ x = 9 * k ∧ Hid (Num.val 10 D + 10 ^ (9 * k) * rest = v) ∧ Dis C B ∧ Below w.heap.size w wr)
    case atStart =>
      refine ⟨0, A1, m1, none, 0, 0, [], rfl, rfl, by omega, hm1, ho1, OwnI.nil_ .., ?_, rfl, ?_, Dis.none_l _, hb1⟩
      · show ∀ z ∈ [], _
        intro z hz
        cases hz
      · show _ = _
        simp [Num.val]
    case round =>
      obtain ⟨k, B, m, C, x, y, D, rfl, rfl, hk1, hm, hoa, hod, HD, rfl, HE, hdis, hb⟩ := hrel
      have hlm := hoa.len
      by_cases hr0 : gk = 0
      · subst hr0
        rw [lmb_zero] at hlm
        obtain rfl : 0 = m := hlm
        have hval : Num.val 10 D = v := by
          have := HE.out
          rwa [Nat.mul_zero, Nat.add_zero] at this
        have HF := Lib.hid (trim_dec D v HD.out hval (Nat.pos_of_ne_zero HV0.out))
        have hk9 : 9 * k ≤ 1099511627776 := by omega
        have hrv := fun w0 h0 => rev8_any w.heap.size C (9 * k) y (D.map (48 + ·)) w0 h0 hk9
        clear hval
        go_wp2_with fail
        refine (hrv _ hod).mono ?_; rintro e w2 ⟨⟨u, rfl⟩, ho2, hg2⟩
        have hcv := fun w0 (h0 : Byt w0 C (9 * k) y (D.map (48 + ·)).reverse) => conv_str 62 9 5 Tryd.underlying62 Tryd.underlying5 Tryd.underlying9 h0
        have hcv2 := hcv _ ho2.ints
        have htl := Tryd.strings_TrimLeft_one (str (D.map (48 + ·)).reverse) 48 (by decide) w2
        rw [HF.out] at htl
        generalize str (D.map (48 + ·)).reverse = S at *
        clear hrv hcv
        go_wp2_with fail
        refine htl.mono ?_; rintro e w3 ⟨rfl, rfl⟩
        go_wp2_with fail
        go_ret
        exact ⟨rfl, below_own hb hg2 hb.size (fun ad h => (hod.lt_ ad h).1)⟩
      · have hmp : 0 < m := by
          rcases Nat.eq_zero_or_pos m with h | h
          · rw [h] at hlm
            have := (Num.dig_eq_nil (b := 4294967296) (by decide) gk).1 (List.eq_nil_of_length_eq_zero hlm)
            omega
          · exact h
        have hk2 : k ≤ 2 * n := text_len HN.out HE.out (Nat.pos_of_ne_zero hr0)
        obtain ⟨r, hr⟩ : ∃ r, gk % 1000000000 = r := ⟨_, rfl⟩
        obtain ⟨q, hq⟩ : ∃ q, gk / 1000000000 = q := ⟨_, rfl⟩
        have hrl : r < 1000000000 := by omega
        have hsm := small_any B m m (lmb gk) wr hoa.ints (by omega) hmp 1000000000 (by omega) (by omega)
        rw [vl_lmb, hr, hq] at hsm
        have HQ : Hid (q < gk) := by show q < gk; omega
        have HR : Hid (r + 1000000000 * q = gk) := by show _ = _; omega
        clear hr hq hr0 hlm
        go_wp2_with fail
        refine hsm.mono ?_; rintro e w2 ⟨B2, m2, rfl, hm2, ho2, hb2⟩
        have hod2 := hod.below hb2
        have hbe := below_step hb hb2 hb.size
        have hdis2 : Dis C B2 := ⟨fun a b ha hb e => by have h1 := (hod.lt_ a ha).2; have h2 := (ho2.lt_ b hb).1; omega⟩
        have ho2' := ho2.mono hb.size
        go_wp2_with fail
        go_loopw [3, 4, 18] (fun dv xv jv wk => ∃ (j d : Nat) (E : List Nat) (C : Option Addr) (x y : Nat), j ≤ 9 ∧ jv = .int .i64 j ∧ xv = .int .u32 d ∧ d < 1000000000 ∧ dv = .slice C x y ∧ x = 9 * k + j ∧ OwnB wk w.heap.size C x y ((D ++ E).map (48 + ·)) ∧ Hid (E.length = j) ∧ Hid (∀ z ∈ E, z < 10) ∧ Hid (Num.val 10 E + 10 ^ j * d = r) ∧
          OwnL wk w.heap.size B2 m2 m2 (lmb q) ∧ Dis C B2 ∧ Below w.heap.size w wk) (fun _ _ jv _ => 9 - (intOf jv).toNat)
        case atStart =>
          refine ⟨0, r, [], C, 9 * k, y, by omega, rfl, rfl, hrl, rfl, rfl, by simpa using hod2, rfl, ?_, ?_, ho2', hdis2, hbe⟩
          · show ∀ z ∈ [], _
            intro z hz
            cases hz
          · show _ = _
            simp [Num.val]
        case round =>
          obtain ⟨j, d, E, C, x, y, hj, rfl, rfl, hd, rfl, rfl, hod, HL, HZ, HS, hoq, hdis, hb⟩ := hrel
          by_cases hlt : j < 9
          · obtain ⟨z, hz⟩ : ∃ z, d % 10 = z := ⟨_, rfl⟩
            obtain ⟨d1, hd1⟩ : ∃ d1, d / 10 = d1 := ⟨_, rfl⟩
            have hzl : z < 10 := by omega
            have hd1l : d1 < 1000000000 := by omega
            have e1 : (d : Int) % 10 = (z : Int) := by omega
            have e2 : (d : Int) / 10 = (d1 : Int) := by omega
            have HS2 : Hid (Num.val 10 (E ++ [z]) + 10 ^ (j + 1) * d1 = r) := by
              show _ = _
              rw [Num.val_snoc, HL.out, Nat.pow_succ, ← HS.out, show d = z + 10 * d1 by omega, Nat.mul_add]
              simp only [Nat.mul_assoc]
              omega
            have HZ2 : Hid (∀ u ∈ E ++ [z], u < 10) := by
              show ∀ u ∈ E ++ [z], _
              intro u hu
              rcases List.mem_append.1 hu with hu | hu
              · exact HZ.out u hu
              · rw [List.mem_singleton.1 hu]; exact hzl
            clear hz hd1
            go_wp2_with (at_builtin; refine wpList_appI _ rfl _ _ _ rfl 5 1 Tryd.underlying62 info_byte (by omega) (hod.alloc _) rfl (Ints.one .u8 256 5 (48 + z) (by omega) (by omega) rfl) rfl (by omega) (by simp; have := hb.size; omega) ?_; intro A3 c3 w3 ho3 hg3 ha3)
            have hn3 := hod.len
            have e3 : 9 * k + j + 1 = 9 * k + (j + 1) := by omega
            rw [e3]
            refine ⟨⟨j + 1, d1, E ++ [z], A3, _, c3, by omega, by go_num, rfl, hd1l, rfl, rfl, ?_, ?_, HZ2, HS2, ?_, ?_, ?_⟩, by simp [intOf]; omega⟩
            · rw [e3] at ho3
              simpa using ho3
            · show _ = _
              rw [List.length_append, HL.out]; rfl
            · exact (hoq.alloc _).beside hg3 hdis
            · exact Dis.beside (w := wr.alloc (.cells #[.int .u8 ((48 : Int) + z)] 5)) (fun ad h => by have := (hoq.lt_ ad h).2; simp; omega) hdis ha3
            · exact below_own (hb.alloc hb.size _) hg3 (by simp; have := hb.size; omega) (fun ad h => (hod.lt_ ad h).1)
          · obtain rfl : j = 9 := by omega
            have hd0 : d = 0 := by
              have h1 := HS.out
              have : 0 ≤ Num.val 10 E := Nat.zero_le _
              rcases Nat.eq_zero_or_pos d with h | h
              · exact h
              · have h2 := Nat.mul_le_mul_left (10 ^ 9) h
                simp only [show (10 : Nat) ^ 9 = 1000000000 from rfl] at h1 h2
                omega
            subst hd0
            have HF : Hid (Num.val 10 (D ++ E) + 10 ^ (9 * (k + 1)) * q = v) := by
              show _ = _
              have h1 := HS.out
              have h2 := hod.len
              rw [List.length_map, List.length_append, HL.out] at h2
              rw [Nat.mul_zero, Nat.add_zero] at h1
              rw [Num.val_append, h1, show D.length = 9 * k by omega, ← HE.out, ← HR.out, show 9 * (k + 1) = 9 * k + 9 by omega, Nat.pow_add, Nat.mul_add, Nat.mul_assoc]
              simp only [show (10 : Nat) ^ 9 = 1000000000 from rfl]
              omega
            have HZ2 : Hid (∀ u ∈ D ++ E, u < 10) := by
              show ∀ u ∈ D ++ E, _
              intro u hu
              rcases List.mem_append.1 hu with hu | hu
              · exact HD.out u hu
              · exact HZ.out u hu
            go_wp2_with fail
            go_roundg q
            case measure => exact HQ.out
            case rel => exact ⟨k + 1, B2, m2, C, _, y, D ++ E, rfl, rfl, by omega, by omega, hoq, hod, HZ2, rfl, HF, hdis, hb⟩
end Go.Proofs.YticjhlbmdjijnaaDoor

/- The contracts of nat.Bytes and of heijunkaref01.Bytes. No condition but the reach of a slice. -/
namespace Go.Proofs.YticjhlbmdjijnaaDoor
open Go.RowKit

/-- A limb's bytes; a number's. -/
def byt4 (x : Nat) : List Nat := [x % 256, x / 256 % 256, x / 65536 % 256, x / 16777216 % 256]
def enc (L : List Nat) : List Nat := if 4096 < L.length then [] else L.length % 256 :: L.length / 256 :: L.flatMap byt4
theorem enc_yes {L : List Nat} (h : L.length ≤ 4096) : enc L = [L.length % 256, L.length / 256] ++ L.flatMap byt4 := by unfold enc; rw [if_neg (by omega)]; rfl
theorem enc_no {L : List Nat} (h : 4096 < L.length) : enc L = [] := by unfold enc; rw [if_pos h]
theorem flat_len (L : List Nat) : (L.flatMap byt4).length = 4 * L.length := by
  induction L with
  | nil => rfl
  | cons x L ih => rw [List.flatMap_cons, List.length_append, ih]; simp [byt4]; omega
theorem flat_take {L : List Nat} {k x : Nat} (h : L[k]? = some x) : (L.take (k + 1)).flatMap byt4 = (L.take k).flatMap byt4 ++ byt4 x := by
  rw [List.take_add_one, h, Option.toList_some, List.flatMap_append, List.flatMap_cons, List.flatMap_nil, List.append_nil]

end Go.Proofs.YticjhlbmdjijnaaDoor
