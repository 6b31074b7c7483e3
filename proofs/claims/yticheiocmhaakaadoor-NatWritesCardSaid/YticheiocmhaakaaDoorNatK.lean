/- The contracts of nat.Div, nat.Gcd. No condition but the reach of a slice. -/
import Derived.Test.YticheiocmhaakaaDoorNatJ
import Derived.Test.YticheiocmhaakaaDoorNatG
import Derived.Test.YticheiocmhaakaaDoorNatE
import Derived.OwnWalk
namespace Go.Proofs.YticheiocmhaakaaDoor
open Go.RowKit

theorem OwnL.of_below {w w' : World} {base : Nat} {A : Option Addr} {n c : Nat} {l : List Nat} (h : OwnL w base A n c l) (hb : Below w.heap.size w w') : OwnL w' base A n c l := h.below hb

set_option maxRecDepth 100000 in
set_option maxHeartbeats 800000 in
theorem div_zero (A A' : Option Addr) (n c n' c' : Nat) (l l' : List Nat) (w : World) (hr : Lim w A n c l) (hr' : Lim w A' n' c' l') (hn : n ≤ 549755813888) (hn' : n' ≤ 549755813888) (h0 : vl l' = 0) :
    Calls Tryd.prog 24 #[.slice A n c, .slice A' n' c'] w fun e w' => e = .returned (.tuple #[.slice none 0 0, .slice none 0 0, .bool false]) ∧ Below w.heap.size w w' := by
  have t1 := fun w0 h0 => trim_any A n c l w0 h0 (by omega)
  have t2 := fun w0 h0 => trim_any A' n' c' l' w0 h0 (by omega)
  rw [h0] at t2
  clear h0
  go_enter Tryd.func24, Tryd.ntmps24
  go_wp2_with fail
  refine (t1 _ hr).mono ?_; rintro e w1 ⟨A1, m1, rfl, hm1, ho1, hb1⟩
  go_wp2_with fail
  refine (t2 _ (hr'.below hb1)).mono ?_; rintro e w2 ⟨A2, m2, rfl, hm2, ho2, hb2⟩
  have h2 := ho2.len
  rw [lmb_zero] at h2
  obtain rfl : 0 = m2 := h2
  go_wp2_with fail
  go_ret3
  exact ⟨rfl, below_step hb1 hb2 hb1.size⟩

set_option maxRecDepth 100000 in
set_option maxHeartbeats 1600000 in
theorem div_any (A A' : Option Addr) (n c n' c' : Nat) (l l' : List Nat) (w : World) (hr : Lim w A n c l) (hr' : Lim w A' n' c' l') (hn : n ≤ 549755813888) (hn' : n' ≤ 549755813888) (h0 : 0 < vl l') :
    Calls Tryd.prog 24 #[.slice A n c, .slice A' n' c'] w fun e w' => ∃ A2 m A3 m3, e = .returned (.tuple #[.slice A2 m m, .slice A3 m3 m3, .bool true]) ∧ OwnL w' w.heap.size A2 m m (lmb (vl l / vl l')) ∧ OwnL w' w.heap.size A3 m3 m3 (lmb (vl l % vl l')) ∧
      m ≤ n ∧ m3 ≤ n' ∧ Below w.heap.size w w' := by
  have t1 := fun w0 h0 => trim_any A n c l w0 h0 (by omega)
  have t2 := fun w0 h0 => trim_any A' n' c' l' w0 h0 (by omega)
  generalize vl l = a at *
  generalize vl l' = b at *
  go_enter Tryd.func24, Tryd.ntmps24
  go_wp2_with fail
  refine (t1 _ hr).mono ?_; rintro e w1 ⟨A1, m1, rfl, hm1, ho1, hb1⟩
  go_wp2_with fail
  refine (t2 _ (hr'.below hb1)).mono ?_; rintro e w2 ⟨A2, m2, rfl, hm2, ho2, hb2⟩
  have h1 : (lmb a).length = m1 := ho1.len
  have h2 : (lmb b).length = m2 := ho2.len
  have hbe := below_step hb1 hb2 hb1.size
  have o1 := ho1.below hb2
  have o2 := ho2.mono hb1.size
  have hpos : 0 < m2 := by
    rcases Nat.eq_zero_or_pos m2 with h | h
    · rw [h] at h2
      have := (Num.dig_eq_nil (b := 4294967296) (by decide) b).1 (List.eq_nil_of_length_eq_zero h2)
      omega
    · exact h
  clear ho1 ho2 t1 t2
  by_cases hlt : m1 < m2
  · have hab : a < b := Num.lt_of_len (b := 4294967296) (by decide) (by
      show (lmb a).length < (lmb b).length
      rw [h1, h2]; exact hlt)
    have H1 := Lib.hid (Nat.div_eq_of_lt hab)
    have H2 := Lib.hid (Nat.mod_eq_of_lt hab)
    clear hab h1 h2
    go_wp2_with fail
    go_ret3
    rw [H1.out, H2.out, lmb_zero]
    exact ⟨_, _, _, _, rfl, OwnI.nil_ .., o1, by omega, by omega, hbe⟩
  · rcases (show m2 = 1 ∨ 2 ≤ m2 by omega) with rfl | h22
    · obtain ⟨g, d, rfl, _, _, hd, hdl, hcd, _⟩ := o2.get (k := 0) (by omega)
      have hdb : d = b := by
        have e := vl_lmb b
        obtain ⟨x, hx⟩ : ∃ x, lmb b = [x] := List.length_eq_one_iff.1 h2
        rw [hx] at hd e
        simp at hd
        simp [vl, Num.val] at e
        omega
      subst hdb
      have hsm := small_any A1 m1 m1 (lmb a) w2 o1.ints (by omega) (by omega) d h0 hdl
      rw [vl_lmb] at hsm
      obtain ⟨r, hrr⟩ : ∃ r, a % d = r := ⟨_, rfl⟩
      have hrd : r < d := by rw [← hrr]; exact Nat.mod_lt _ h0
      rw [hrr] at hsm
      have HR := Lib.hid hrr
      clear hd h1 h2 hrr
      go_wp2_with fail
      refine hsm.mono ?_; rintro e w3 ⟨A3, m3, rfl, hm3, ho3, hb3⟩
      have ht := trim_any (some ⟨w3.heap.size, 0, none⟩) 1 1 [r] _ (Ints.one (w := w3) .u32 4294967296 33 r rfl (by omega) rfl) (by omega)
      rw [show vl [r] = r by simp [vl, Num.val]] at ht
      go_wp2_with fail
      refine ht.mono ?_; rintro e w4 ⟨A4, m4, rfl, hm4, ho4, hb4⟩
      go_wp2_with fail
      go_ret3
      rw [HR.out]
      have hs3 := hb3.size
      have hs2 := hbe.size
      have e3 : Below w.heap.size w w3 := below_step hbe hb3 hs2
      exact ⟨_, _, _, _, rfl, ((ho3.alloc _).below hb4).mono hs2, ho4.mono (by simp; omega), by omega, by omega, below_step (e3.alloc e3.size _) hb4 (by simp; omega)⟩
    · obtain ⟨tp, htp⟩ : ∃ tp, (lmb b)[m2 - 1]? = some tp := ⟨_, List.getElem?_eq_getElem (by omega)⟩
      have htp0 : 0 < tp := by
        have := Num.dig_top (b := 4294967296) (by decide) b tp (by
          show (lmb b)[(lmb b).length - 1]? = _
          rw [h2]; exact htp)
        omega
      have hlg := long_any A1 A2 m1 m1 m2 m2 (lmb a) (lmb b) w2 o1.ints o2.ints (by omega) h22 (by omega) tp htp htp0
      rw [vl_lmb, vl_lmb] at hlg
      clear htp h1 h2
      go_wp2_with fail
      refine hlg.mono ?_; rintro e w3 ⟨A3, m3, A4, m4, rfl, ho3, ho4, hm3, hm4, hb3⟩
      go_wp2_with fail
      go_ret3
      have hs2 := hbe.size
      exact ⟨_, _, _, _, rfl, ho3.mono hs2, ho4.mono hs2, by omega, by omega, below_step hbe hb3 hs2⟩

set_option maxRecDepth 100000 in
set_option maxHeartbeats 800000 in
theorem gcd_any (A A' : Option Addr) (n c n' c' : Nat) (l l' : List Nat) (w : World) (hr : Lim w A n c l) (hr' : Lim w A' n' c' l') (hn : n ≤ 549755813888) (hn' : n' ≤ 549755813888) :
    Calls Tryd.prog 28 #[.slice A n c, .slice A' n' c'] w fun e w' => ∃ A2 m, e = .returned (.slice A2 m m) ∧ m ≤ n + n' ∧ OwnL w' w.heap.size A2 m m (lmb (Nat.gcd (vl l) (vl l'))) ∧ Below w.heap.size w w' := by
  have t1 := fun w0 h0 => trim_any A n c l w0 h0 (by omega)
  have t2 := fun w0 h0 => trim_any A' n' c' l' w0 h0 (by omega)
  generalize vl l = a at *
  generalize vl l' = b at *
  go_enter Tryd.func28, Tryd.ntmps28
  go_wp2_with fail
  refine (t1 _ hr).mono ?_; rintro e w1 ⟨A1, m1, rfl, hm1, ho1, hb1⟩
  go_wp2_with fail
  refine (t2 _ (hr'.below hb1)).mono ?_; rintro e w2 ⟨A2, m2, rfl, hm2, ho2, hb2⟩
  have hbe := below_step hb1 hb2 hb1.size
  have o1 := ho1.below hb2
  have o2 := ho2.mono hb1.size
  clear ho1 ho2 t1 t2
  go_wp2_with fail
  go_loopg [0, 1] b (fun y av bv wr => ∃ x B m B' m', av = .slice B m m ∧ bv = .slice B' m' m' ∧ m ≤ n + n' ∧ m' ≤ n' ∧ m ≤ 549755813888 ∧ OwnL wr w.heap.size B m m (lmb x) ∧ OwnL wr w.heap.size B' m' m' (lmb y) ∧ Hid (Nat.gcd x y = Nat.gcd a b) ∧ Below w.heap.size w wr)
  case atStart => exact ⟨a, _, _, _, _, rfl, rfl, by omega, by omega, by omega, o1, o2, rfl, hbe⟩
  case round =>
    obtain ⟨x, B, m, B', m', rfl, rfl, hm, hm', hml, hox, hoy, HG, hb⟩ := hrel
    have hlx := hox.len
    have hly := hoy.len
    by_cases hy0 : gk = 0
    · subst hy0
      rw [lmb_zero] at hly
      obtain rfl : 0 = m' := hly
      have hg := HG.out
      rw [Nat.gcd_zero_right] at hg
      have HX := Lib.hid hg
      clear hg
      go_wp2_with fail
      go_ret
      rw [← HX.out]
      exact ⟨_, _, rfl, hm, hox, hb⟩
    · have hpos : 0 < m' := by
        rcases Nat.eq_zero_or_pos m' with h | h
        · rw [h] at hly
          have := (Num.dig_eq_nil (b := 4294967296) (by decide) gk).1 (List.eq_nil_of_length_eq_zero hly)
          omega
        · exact h
      have hdv := div_any B B' m m m' m' (lmb x) (lmb gk) wr hox.ints hoy.ints (by omega) (by omega) (by rw [vl_lmb]; omega)
      rw [vl_lmb, vl_lmb] at hdv
      have HY := Lib.hid hy0
      clear hy0 hlx hly
      go_wp2_with fail
      refine hdv.mono ?_; rintro e w3 ⟨A3, m3, A4, m4, rfl, ho3, ho4, hm3, hm4, hb3⟩
      go_wp2_with fail
      go_roundg (x % gk)
      case measure => exact Nat.mod_lt _ (Nat.pos_of_ne_zero HY.out)
      case rel =>
        refine ⟨gk, _, _, _, _, rfl, rfl, by omega, by omega, by omega, hoy.below hb3, ho4.mono hb.size, ?_, below_step hb hb3 hb.size⟩
        show _ = _
        rw [← HG.out, Nat.gcd_comm, ← Nat.gcd_rec, Nat.gcd_comm]
end Go.Proofs.YticheiocmhaakaaDoor
