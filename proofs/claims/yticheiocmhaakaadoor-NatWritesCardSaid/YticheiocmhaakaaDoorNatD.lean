/- The contracts of slices.Reverse, slices.Compare at rows of limbs, and of nat.Cmp. No condition but the reach of a slice. -/
import Derived.Test.YticheiocmhaakaaDoorNatB
import Derived.Test.YticheiocmhaakaaDoorBits
namespace Go.Proofs.YticheiocmhaakaaDoor
open Go.RowKit

/-- A row of which the first k and the last k elements have changed places. -/
structure RevTo (l cur : List Nat) (k : Nat) : Prop where
  len : cur.length = l.length
  at_ : ∀ t, t < l.length → cur[t]? = if t < k ∨ l.length - 1 - t < k then l[l.length - 1 - t]? else l[t]?
theorem RevTo.zero (l : List Nat) : RevTo l l 0 := ⟨rfl, fun t _ => by rw [if_neg (by omega)]⟩
theorem RevTo.step {l cur : List Nat} {k x y : Nat} (h : RevTo l cur k) (hk : k < l.length - 1 - k) (hx : cur[k]? = some x) (hy : cur[l.length - 1 - k]? = some y) :
    RevTo l ((cur.set k y).set (l.length - 1 - k) x) (k + 1) := by
  refine ⟨by simp [h.len], fun t ht => ?_⟩
  have ex := h.at_ k (by omega)
  rw [if_neg (by omega), hx] at ex
  have ey := h.at_ (l.length - 1 - k) (by omega)
  rw [if_neg (by omega), hy] at ey
  by_cases h1 : t = l.length - 1 - k
  · subst h1
    rw [List.getElem?_set_self (by simp [h.len]; omega), if_pos (by omega), show l.length - 1 - (l.length - 1 - k) = k by omega]
    exact ex
  · rw [List.getElem?_set_ne (fun e => h1 e.symm)]
    by_cases h2 : t = k
    · subst h2
      rw [List.getElem?_set_self (by rw [h.len]; omega), if_pos (by omega)]
      exact ey
    · rw [List.getElem?_set_ne (fun e => h2 e.symm), h.at_ t ht]
      by_cases h3 : t < k ∨ l.length - 1 - t < k
      · rw [if_pos h3, if_pos (by omega)]
      · rw [if_neg h3, if_neg (by omega)]
theorem RevTo.done {l cur : List Nat} {k : Nat} (h : RevTo l cur k) (hk : l.length - 1 - k ≤ k) : cur = l.reverse := by
  refine List.ext_getElem? fun t => ?_
  rcases Nat.lt_or_ge t l.length with ht | ht
  · rw [h.at_ t ht, List.getElem?_reverse ht]
    by_cases h3 : t < k ∨ l.length - 1 - t < k
    · rw [if_pos h3]
    · rw [if_neg h3, show l.length - 1 - t = t by omega]
  · rw [List.getElem?_eq_none (by rw [h.len]; exact ht), List.getElem?_eq_none (by simpa using ht)]

set_option maxRecDepth 100000 in
set_option maxHeartbeats 800000 in
theorem rev32_any (base : Nat) (A : Option Addr) (n c : Nat) (l : List Nat) (w : World) (ho : OwnL w base A n c l) (hn : n ≤ 1099511627776) :
    Calls Tryd.prog 42 #[.slice A n c] w fun e w' => (∃ v, e = .returned v) ∧ OwnL w' base A n c l.reverse ∧ w.grownBy w' (A.map (·.block)) := by
  have hlen := ho.len
  go_enter Tryd.func42, Tryd.ntmps42
  go_wp2
  go_loopw [2, 3] (fun i j wr => ∃ k : Nat, k ≤ n ∧ i = .int .i64 k ∧ j = .int .i64 ((n : Int) - 1 - k) ∧ ∃ cur : List Nat, RevTo l cur k ∧ OwnL wr base A n c cur ∧ w.grownBy wr (A.map (·.block))) (fun i _ _ => n - (intOf i).toNat)
  case atStart => exact ⟨0, by omega, rfl, by simp, l, RevTo.zero l, ho, World.grownBy.refl _ _⟩
  case round =>
    obtain ⟨k, hk, rfl, rfl, cur, hR, ho, hg⟩ := hrel
    by_cases hlt : k < n - 1 - k
    · obtain ⟨g, x, rfl, hgb, hgs, hx, hxl, hc, hf⟩ := ho.get (k := k) (by omega)
      obtain ⟨g', y, he, _, _, hy, hyl, hc', hf'⟩ := ho.get (k := n - 1 - k) (by omega)
      cases he
      have e1 : (n : Int) - 1 - k = ((n - 1 - k : Nat) : Int) := by omega
      obtain ⟨j, hj⟩ : ∃ j, n - 1 - k = j := ⟨_, rfl⟩
      have hR' := hR.step (x := x) (y := y) (by omega) hx (by rw [hlen]; exact hy)
      rw [hlen] at hR'
      rw [e1]
      rw [hj] at hc' hf' hR' hlt ⊢
      have HR := Lib.hid hR'
      have hjn : j < n := by omega
      have hj2 : (j : Int) - 1 = (n : Int) - 1 - ((k + 1 : Nat) : Int) := by omega
      have HJ := Lib.hid hj2
      clear hR' hx hy e1 hj hj2
      go_wp2_with fail
      go_region
      go_wp2_with fail
      exact ⟨⟨k + 1, by omega, by go_num, by rw [HJ.out], _, HR.out, ((ho.stored k y hyl).stored j x hxl).drew, grown_drew (grown_set (grown_set hg k _) j _)⟩, by simp [intOf]; omega⟩
    · have hl : cur = l.reverse := hR.done (by omega)
      subst hl
      clear hR
      go_wp2_with fail
      go_end0
      exact ⟨⟨_, rfl⟩, ho, hg⟩

set_option maxRecDepth 100000 in
theorem cmpc_any (x y : Nat) (w : World) :
    Calls Tryd.prog 56 #[.int .u32 x, .int .u32 y] w fun e w' => e = .returned (.int .i64 (Num.cmp x y)) ∧ w' = w := by
  rcases Nat.lt_trichotomy x y with h | h | h
  · rw [Num.cmp_lt h]
    have ht : decide ((x : Int) < y) = true := by simp; exact h
    go_enter Tryd.func56, Tryd.ntmps56
    go_wp2
    go_ret
    exact ⟨rfl, rfl⟩
  · subst h
    rw [Num.cmp_eq]
    go_enter Tryd.func56, Tryd.ntmps56
    go_wp2
    go_ret
    exact ⟨rfl, rfl⟩
  · rw [Num.cmp_gt h]
    go_enter Tryd.func56, Tryd.ntmps56
    go_wp2
    go_ret
    exact ⟨rfl, rfl⟩

/-- Two rows of one length, alike ahead of place k, that differ there: how they stand, read from their ends. -/
theorem cmp_rev (l l' : List Nat) (k x y : Nat) (hlen : l.length = l'.length) (hl : ∀ z ∈ l, z < 4294967296) (hl' : ∀ z ∈ l', z < 4294967296) (ht : l.take k = l'.take k) (hx : l[k]? = some x) (hy : l'[k]? = some y) (hne : x ≠ y) :
    Num.cmp x y = Num.cmp (vl l.reverse) (vl l'.reverse) := by
  have hk := (List.getElem?_eq_some_iff.1 hx).1
  have rx : l.reverse[l.length - 1 - k]? = some x := by
    rw [List.getElem?_reverse (by omega), show l.length - 1 - (l.length - 1 - k) = k by omega]; exact hx
  have ry : l'.reverse[l.length - 1 - k]? = some y := by
    rw [List.getElem?_reverse (by omega), show l'.length - 1 - (l.length - 1 - k) = k by omega]; exact hy
  have hd : l.reverse.drop (l.length - 1 - k + 1) = l'.reverse.drop (l.length - 1 - k + 1) := by
    rw [List.drop_reverse, List.drop_reverse, show l.length - (l.length - 1 - k + 1) = k by omega, show l'.length - (l.length - 1 - k + 1) = k by omega, ht]
  rcases Nat.lt_or_gt_of_ne hne with h | h
  · have := Num.val_lt_at l.reverse l'.reverse _ x y (by simpa using hlen) (fun z hz => hl z (by simpa using hz)) rx ry hd h
    rw [Num.cmp_lt h, Num.cmp_lt (show vl l.reverse < vl l'.reverse from this)]
  · have := Num.val_lt_at l'.reverse l.reverse _ y x (by simpa using hlen.symm) (fun z hz => hl' z (by simpa using hz)) ry rx hd.symm h
    rw [Num.cmp_gt h, Num.cmp_gt (show vl l'.reverse < vl l.reverse from this)]
theorem cmp_zero_iff (x y : Nat) : Num.cmp x y = 0 ↔ x = y := by
  unfold Num.cmp
  split
  · constructor
    · intro h; omega
    · intro h; omega
  · split
    · constructor
      · intro h; omega
      · intro h; omega
    · constructor
      · intro _; omega
      · intro _; rfl
theorem cmp_range (x y : Nat) : Num.cmp x y = -1 ∨ Num.cmp x y = 0 ∨ Num.cmp x y = 1 := by
  unfold Num.cmp
  split
  · exact .inl rfl
  · split
    · exact .inr (.inr rfl)
    · exact .inr (.inl rfl)

set_option maxRecDepth 100000 in
set_option maxHeartbeats 800000 in
theorem scmp_any (A A' : Option Addr) (n c c' : Nat) (l l' : List Nat) (w : World) (hr : Lim w A n c l) (hr' : Lim w A' n c' l') (hn : n ≤ 1099511627776) :
    Calls Tryd.prog 43 #[.slice A n c, .slice A' n c'] w fun e w' => e = .returned (.int .i64 (Num.cmp (vl l.reverse) (vl l'.reverse))) ∧ w' = w := by
  have hlen := hr.len
  have hlen' := hr'.len
  go_enter Tryd.func43, Tryd.ntmps43
  go_wp2
  go_loop [11] (fun i => ∃ k : Nat, k ≤ n ∧ i = .int .i64 k ∧ l.take k = l'.take k) (fun i => n - (intOf i).toNat)
  case atStart => exact ⟨0, by omega, rfl, rfl⟩
  case round =>
    obtain ⟨k, hk, rfl, ht⟩ := hrel
    by_cases hlt : k < n
    · obtain ⟨b, o, x, rfl, _, hx, hxl, hc⟩ := hr.get hlt
      obtain ⟨b', o', y, rfl, _, hy, hyl, hc'⟩ := hr'.get hlt
      have hcc := cmpc_any x y w
      by_cases hxy : x = y
      · rw [(cmp_zero_iff x y).2 hxy] at hcc
        have hs : l.take (k + 1) = l'.take (k + 1) := by rw [List.take_add_one, List.take_add_one, ht, hx, hy, hxy]
        have HS := Lib.hid hs
        clear hs ht hx hy hxy
        go_wp2_with fail
        refine hcc.mono ?_; rintro e w' ⟨rfl, rfl⟩
        go_wp2_with fail
        exact ⟨⟨k + 1, by omega, by go_num, HS.out⟩, by simp [intOf]; omega⟩
      · have hz : Num.cmp x y ≠ 0 := fun h => hxy ((cmp_zero_iff x y).1 h)
        have HF := Lib.hid (cmp_rev l l' k x y (by omega) hr.lt hr'.lt ht hx hy hxy)
        generalize Num.cmp x y = z at *
        have hz2 : (z != 0) = true := by simpa using hz
        clear ht hx hy
        go_wp2_with fail
        refine hcc.mono ?_; rintro e w' ⟨rfl, rfl⟩
        go_wp2_with fail
        go_ret
        exact ⟨ret_int HF.out, rfl⟩
    · obtain rfl : k = n := by omega
      have he : l = l' := by
        rw [List.take_of_length_le (by omega), List.take_of_length_le (by omega)] at ht
        exact ht
      have HE := Lib.hid he
      clear he ht
      go_wp2_with fail
      go_ret
      exact ⟨ret_int (by rw [HE.out, Num.cmp_eq]), rfl⟩

set_option maxRecDepth 100000 in
set_option maxHeartbeats 800000 in
theorem cmp_any (A A' : Option Addr) (n c n' c' : Nat) (l l' : List Nat) (w : World) (hr : Lim w A n c l) (hr' : Lim w A' n' c' l') (hn : n ≤ 1099511627776) (hn' : n' ≤ 1099511627776) :
    Calls Tryd.prog 18 #[.slice A n c, .slice A' n' c'] w fun e w' => e = .returned (.int .i64 (Num.cmp (vl l) (vl l'))) ∧ Below w.heap.size w w' := by
  go_enter Tryd.func18, Tryd.ntmps18
  go_wp2_with fail
  refine (trim_any A n c l w hr hn).mono ?_; rintro e w1 ⟨A1, m, rfl, hm, ho1, hb1⟩
  go_wp2_with fail
  refine (trim_any A' n' c' l' w1 (hr'.below hb1) hn').mono ?_; rintro e w2 ⟨A2, m', rfl, hm', ho2, hb2⟩
  have hb := below_step hb1 hb2 hb1.size
  have ho1' := ho1.below hb2
  have h1 := ho1.len
  have h2 := ho2.len
  by_cases heq : m = m'
  · subst heq
    have hd : Dis A1 A2 := ⟨fun x y hx hy => by have := (ho1.lt_ x hx).2; have := (ho2.lt_ y hy).1; omega⟩
    go_wp2_with fail
    refine (rev32_any _ A1 m m _ w2 ho1' (by omega)).mono ?_; rintro e w3 ⟨⟨v, rfl⟩, ho3, hg3⟩
    go_wp2_with fail
    refine (rev32_any _ A2 m m _ w3 (ho2.beside hg3 hd) (by omega)).mono ?_; rintro e w4 ⟨⟨v, rfl⟩, ho4, hg4⟩
    have hb4 : Below w.heap.size w w4 := below_own (below_own hb hg3 hb.size (fun ad h => (ho1.lt_ ad h).1)) hg4 (by have := hb.size; have := hg3.size; omega) (fun ad h => Nat.le_trans hb1.size (ho2.lt_ ad h).1)
    have hc := scmp_any A1 A2 m m m _ _ w4 (ho3.beside hg4 hd.symm).ints ho4.ints (by omega)
    rw [List.reverse_reverse, List.reverse_reverse, vl_lmb, vl_lmb] at hc
    go_wp2_with fail
    refine hc.mono ?_; rintro e w5 ⟨rfl, rfl⟩
    go_wp2_with fail
    go_ret
    exact ⟨rfl, hb4⟩
  · by_cases hlt : m < m'
    · have hv : vl l < vl l' := Num.lt_of_len (b := 4294967296) (by decide) (by show (lmb (vl l)).length < (lmb (vl l')).length; omega)
      have ht : ((m : Int) != (m' : Int)) = true := by simp; omega
      have HV := Lib.hid (Num.cmp_lt hv)
      clear hv
      go_wp2_with fail
      go_ret
      exact ⟨ret_int HV.out.symm, hb⟩
    · have hv : vl l' < vl l := Num.lt_of_len (b := 4294967296) (by decide) (by show (lmb (vl l')).length < (lmb (vl l)).length; omega)
      have ht : ((m : Int) != (m' : Int)) = true := by simp; omega
      have HV := Lib.hid (Num.cmp_gt hv)
      clear hv
      go_wp2_with fail
      go_ret
      exact ⟨ret_int HV.out.symm, hb⟩
end Go.Proofs.YticheiocmhaakaaDoor
