/- The contracts of nat.Bytes and of heijunkaref01.Bytes. No condition but the reach of a slice. -/
import Derived.Test.YticheiocmhaakaaDoorLawNat
namespace Go.Proofs.YticheiocmhaakaaDoor
open Go.RowKit

/-- A limb's bytes; a number's. -/
def byt4 (x : Nat) : List Nat := [x % 256, x / 256 % 256, x / 65536 % 256, x / 16777216 % 256]
def enc (L : List Nat) : List Nat := if 4096 < L.length then [] else L.length % 256 :: L.length / 256 :: L.flatMap byt4
theorem enc_yes {L : List Nat} (h : L.length ≤ 4096) : enc L = [L.length % 256, L.length / 256] ++ L.flatMap byt4 := by unfold enc; rw [if_neg (by omega)]; rfl
theorem enc_no {L : List Nat} (h : 4096 < L.length) : enc L = [] := by unfold enc; rw [if_pos h]
theorem flat_len (L : List Nat) : (L.flatMap byt4).length = 4 * L.length := by
  induction L with
  | nil => rfl
  | cons x L ih => rw [List.flatMap_cons, List.length_append, ih]; simp [byt4]; omega
theorem flat_take {L : List Nat} {k x : Nat} (h : L[k]? = some x) : (L.take (k + 1)).flatMap byt4 = (L.take k).flatMap byt4 ++ byt4 x := by
  rw [List.take_add_one, h, Option.toList_some, List.flatMap_append, List.flatMap_cons, List.flatMap_nil, List.append_nil]

set_option maxRecDepth 100000 in
set_option maxHeartbeats 1600000 in
theorem bytes_any (A : Option Addr) (n c : Nat) (l : List Nat) (w : World) (hr : Lim w A n c l) (hn : n ≤ 268435456) :
    Calls Tryd.prog 30 #[.slice A n c] w fun e w' => ∃ A2 m c2, e = .returned (.slice A2 m c2) ∧ m ≤ 4 * n + 2 ∧ OwnB w' w.heap.size A2 m c2 (enc (lmb (vl l))) ∧ Below w.heap.size w w' := by
  have t1 := trim_any A n c l w hr (by omega)
  obtain ⟨L, hL⟩ : ∃ L, lmb (vl l) = L := ⟨_, rfl⟩
  rw [hL] at t1
  have HLL := Lib.hid hL
  clear hL
  go_enter Tryd.func30, Tryd.ntmps30
  go_wp2_with fail
  refine t1.mono ?_; rintro e w1 ⟨A1, m1, rfl, hm1, ho1, hb1⟩
  have hl1 := ho1.len
  by_cases hbig : 4096 < m1
  · have HE := Lib.hid (enc_no (L := L) (by omega))
    have hbi : ((4096 : Int) < (m1 : Int)) := by omega
    clear hl1
    go_wp2_with fail
    go_ret
    rw [HLL.out, HE.out]
    exact ⟨none, 0, 0, rfl, by omega, OwnI.nil_ .., hb1⟩
  · obtain ⟨h0, hh0⟩ : ∃ h0, m1 % 256 = h0 := ⟨_, rfl⟩
    obtain ⟨h1, hh1⟩ : ∃ h1, m1 / 256 = h1 := ⟨_, rfl⟩
    have h0l : h0 < 256 := by omega
    have h1l : h1 < 256 := by omega
    have e0 : (m1 : Int) % 256 = (h0 : Int) := by omega
    have e1 : (m1 : Int) / 256 = (h1 : Int) := by omega
    have HE : Hid (enc L = [h0, h1] ++ (L.take m1).flatMap byt4) := by
      show _ = _
      rw [enc_yes (by omega), hl1, hh0, hh1, List.take_of_length_le (by omega)]
    have HLN := Lib.hid hl1
    have hs1 := hb1.size
    clear hl1 hh0 hh1
    go_wp2_with fail
    clear e0
    go_loopw [3, 21] (fun ov iv wr => ∃ (k : Nat) (C : Option Addr) (x y : Nat), k ≤ m1 ∧ iv = .int .i64 k ∧ ov = .slice C x y ∧ x = 2 + 4 * k ∧ OwnB wr w.heap.size C x y ([h0, h1] ++ (L.take k).flatMap byt4) ∧ OwnL wr w.heap.size A1 m1 m1 L ∧ Dis C A1 ∧ Below w.heap.size w wr) (fun _ iv _ => m1 - (intOf iv).toNat)
    case atStart =>
      refine ⟨0, _, 2, _, by omega, rfl, rfl, rfl, OwnI.lit .u8 256 5 (n := 2) _ rfl rfl (by simp) (by intro z hz; simp at hz; omega) (by omega) hs1, ho1.alloc _, ⟨fun a b ha hb e => by cases ha; have := (ho1.lt_ b hb).2; simp at e; omega⟩, hb1.alloc hs1 _⟩
    case round =>
      obtain ⟨k, C, x, y, hk, rfl, rfl, rfl, hoo, hol, hdis, hb⟩ := hrel
      by_cases hlt : k < m1
      · obtain ⟨b, off, x, rfl, _, hx, hxl, hc⟩ := hol.ints.get hlt
        have HX := Lib.hid (flat_take hx)
        obtain ⟨b0, hb0⟩ : ∃ b0, x % 256 = b0 := ⟨_, rfl⟩
        obtain ⟨x1, hx1⟩ : ∃ x1, x / 256 = x1 := ⟨_, rfl⟩
        obtain ⟨b1, hb1'⟩ : ∃ b1, x1 % 256 = b1 := ⟨_, rfl⟩
        obtain ⟨x2, hx2⟩ : ∃ x2, x / 65536 = x2 := ⟨_, rfl⟩
        obtain ⟨b2, hb2⟩ : ∃ b2, x2 % 256 = b2 := ⟨_, rfl⟩
        obtain ⟨x3, hx3⟩ : ∃ x3, x / 16777216 = x3 := ⟨_, rfl⟩
        have q0 : (x : Int) % 256 = (b0 : Int) := by omega
        have q1 : (x : Int) / 256 = (x1 : Int) := by omega
        have q2 : (x1 : Int) % 256 = (b1 : Int) := by omega
        have q3 : (x : Int) / 65536 = (x2 : Int) := by omega
        have q4 : (x2 : Int) % 256 = (b2 : Int) := by omega
        have q5 : (x : Int) / 16777216 = (x3 : Int) := by omega
        have l0 : b0 < 256 := by omega
        have l1 : b1 < 256 := by omega
        have l2 : b2 < 256 := by omega
        have l3 : x3 < 256 := by omega
        have HB : Hid (byt4 x = [b0, b1, b2, x3]) := by
          show byt4 x = _
          unfold byt4
          rw [hb0, hx1, hb1', hx2, hb2, hx3, Nat.mod_eq_of_lt l3]
        have hs := hb.size
        clear hx hb0 hx1 hb1' hx2 hb2 hx3
        go_wp2_with (at_builtin; refine wpList_appI _ rfl _ _ _ rfl 5 1 Tryd.underlying36 info_byte (by omega) (hoo.alloc _) rfl (Ints.lit .u8 256 5 (n := 4) [b0, b1, b2, x3] rfl rfl (by simp) (by intro z hz; simp at hz; omega)) rfl (by omega) (by simp; omega) ?_; intro A3 c3 w3 ho3 hg3 ha3)
        have e3 : 2 + 4 * k + 4 = 2 + 4 * (k + 1) := by omega
        rw [e3] at ho3
        rw [e3]
        refine ⟨⟨k + 1, A3, _, c3, by omega, by go_num, rfl, rfl, ?_, (hol.alloc _).beside hg3 hdis, ?_, below_own (hb.alloc hs _) hg3 (by simp; omega) (fun ad h => (hoo.lt_ ad h).1)⟩, by simp [intOf]; omega⟩
        · rw [HX.out, HB.out, ← List.append_assoc]; exact ho3
        · exact Dis.beside (w := wr.alloc _) (fun ad h => by have := (hol.lt_ ad h).2; simp; omega) hdis ha3
      · obtain rfl : k = m1 := by omega
        go_wp2_with fail
        go_ret
        rw [HLL.out, HE.out]
        exact ⟨C, _, y, rfl, by omega, hoo, hb⟩

set_option maxRecDepth 100000 in
set_option maxHeartbeats 1600000 in
theorem rbytes_any (A : Option Addr) (n c : Nat) (l : List Nat) (w : World) (hr : Lim w A n c l) (hn : n ≤ 268435456) :
    Calls Tryd.prog 36 #[.slice A n c] w fun e w' => ∃ A2 m c2, e = .returned (.slice A2 m c2) ∧ OwnB w' w.heap.size A2 m c2 (enc (lmb (vl l))) ∧ Below w.heap.size w w' := by
  have t1 := rtrim_any A n c l w hr (by omega)
  obtain ⟨L, hL⟩ : ∃ L, lmb (vl l) = L := ⟨_, rfl⟩
  rw [hL] at t1
  have HLL := Lib.hid hL
  clear hL
  go_enter Tryd.func36, Tryd.ntmps36
  go_wp2_with fail
  refine t1.mono ?_; rintro e w1 ⟨A1, m1, c1, rfl, hm1, ho1, hb1⟩
  have hl1 := ho1.len
  by_cases hbig : 4096 < m1
  · have HE := Lib.hid (enc_no (L := L) (by omega))
    have hbi : ((4096 : Int) < (m1 : Int)) := by omega
    clear hl1
    go_wp2_with fail
    go_ret
    rw [HLL.out, HE.out]
    exact ⟨none, 0, 0, rfl, OwnI.nil_ .., hb1⟩
  · obtain ⟨h0, hh0⟩ : ∃ h0, m1 % 256 = h0 := ⟨_, rfl⟩
    obtain ⟨h1, hh1⟩ : ∃ h1, m1 / 256 = h1 := ⟨_, rfl⟩
    have h0l : h0 < 256 := by omega
    have h1l : h1 < 256 := by omega
    have e0 : (m1 : Int) % 256 = (h0 : Int) := by omega
    have e0t : (m1 : Int).tmod 256 = (h0 : Int) := by rw [Int.tmod_eq_emod_of_nonneg (by omega)]; omega
    have e1 : (m1 : Int) / 256 = (h1 : Int) := by omega
    have e1t : (m1 : Int).tdiv 256 = (h1 : Int) := by rw [Int.tdiv_eq_ediv_of_nonneg (by omega)]; omega
    have HE : Hid (enc L = [h0, h1] ++ (L.take m1).flatMap byt4) := by
      show _ = _
      rw [enc_yes (by omega), hl1, hh0, hh1, List.take_of_length_le (by omega)]
    have HLN := Lib.hid hl1
    have hs1 := hb1.size
    clear hl1 hh0 hh1
    go_wp2_with fail
    go_loopw [4, 5] (fun ov iv wr => ∃ (k : Nat) (C : Option Addr) (x y : Nat), k ≤ m1 ∧ iv = .int .i64 k ∧ ov = .slice C x y ∧ x = 2 + 4 * k ∧ OwnB wr w.heap.size C x y ([h0, h1] ++ (L.take k).flatMap byt4) ∧ OwnL wr w.heap.size A1 m1 c1 L ∧ Dis C A1 ∧ Below w.heap.size w wr) (fun _ iv _ => m1 - (intOf iv).toNat)
    case atStart =>
      refine ⟨0, _, 2, _, by omega, rfl, rfl, rfl, OwnI.lit .u8 256 5 (n := 2) _ rfl rfl (by simp) (by intro z hz; simp at hz; omega) (by omega) hs1, ho1.alloc _, ⟨fun a b ha hb e => by cases ha; have := (ho1.lt_ b hb).2; simp at e; omega⟩, hb1.alloc hs1 _⟩
    case round =>
      obtain ⟨k, C, x, y, hk, rfl, rfl, rfl, hoo, hol, hdis, hb⟩ := hrel
      by_cases hlt : k < m1
      · obtain ⟨b, off, x, rfl, _, hx, hxl, hc⟩ := hol.ints.get hlt
        have HX := Lib.hid (flat_take hx)
        clear hx
        go_wp2_with fail
        go_loopw [4, 6, 7] (fun ov xv jv wk => ∃ (j X : Nat) (C : Option Addr) (xx y : Nat), j ≤ 4 ∧ jv = .int .i64 j ∧ xv = .int .u32 X ∧ X < 4294967296 ∧ Hid (X = x / 256 ^ j) ∧ ov = .slice C xx y ∧ xx = 2 + 4 * k + j ∧ OwnB wk w.heap.size C xx y ([h0, h1] ++ (L.take k).flatMap byt4 ++ (byt4 x).take j) ∧
            OwnL wk w.heap.size (some ⟨b, off, none⟩) m1 c1 L ∧ Dis C (some ⟨b, off, none⟩) ∧ Below w.heap.size w wk) (fun _ _ jv _ => 4 - (intOf jv).toNat)
        case atStart =>
          refine ⟨0, x, C, _, y, by omega, rfl, rfl, hxl, ?_, rfl, rfl, by simpa using hoo, hol, hdis, hb⟩
          show _ = _
          simp
        case round =>
          obtain ⟨j, X, C, xx, y, hj, rfl, rfl, hX, HXX, rfl, rfl, hoo, hol, hdis, hb⟩ := hrel
          by_cases hlj : j < 4
          · obtain ⟨z, hz⟩ : ∃ z, X % 256 = z := ⟨_, rfl⟩
            obtain ⟨X1, hX1⟩ : ∃ X1, X / 256 = X1 := ⟨_, rfl⟩
            have hzl : z < 256 := by omega
            have hX1l : X1 < 4294967296 := by omega
            have q1 : (X : Int) % 256 = (z : Int) := by omega
            have q2 : (X : Int) / 256 = (X1 : Int) := by omega
            have HT : Hid ((byt4 x).take (j + 1) = (byt4 x).take j ++ [z]) := by
              show _ = _
              rw [← hz, HXX.out]
              obtain rfl | rfl | rfl | rfl : j = 0 ∨ j = 1 ∨ j = 2 ∨ j = 3 := by omega
              all_goals simp [byt4]
            have HX1 : Hid (X1 = x / 256 ^ (j + 1)) := by
              show _ = _
              rw [← hX1, HXX.out, Nat.pow_succ, Nat.div_div_eq_div_mul]
            have hs := hb.size
            clear hz hX1
            go_wp2_with (at_builtin; refine wpList_appI _ rfl _ _ _ rfl 5 1 Tryd.underlying36 info_byte (by omega) (hoo.alloc _) rfl (Ints.one .u8 256 5 z (by omega) hzl rfl) rfl (by omega) (by simp; omega) ?_; intro A3 c3 w3 ho3 hg3 ha3)
            have e3 : 2 + 4 * k + j + 1 = 2 + 4 * k + (j + 1) := by omega
            rw [e3] at ho3
            rw [e3]
            refine ⟨⟨j + 1, X1, A3, _, c3, by omega, by go_num, rfl, hX1l, HX1, rfl, rfl, ?_, (hol.alloc _).beside hg3 hdis, ?_, below_own (hb.alloc hs _) hg3 (by simp; omega) (fun ad h => (hoo.lt_ ad h).1)⟩, by simp [intOf]; omega⟩
            · rw [HT.out, ← List.append_assoc]; exact ho3
            · exact Dis.beside (w := wr.alloc _) (fun ad h => by have := (hol.lt_ ad h).2; simp; omega) hdis ha3
          · obtain rfl : j = 4 := by omega
            have HF : Hid ([h0, h1] ++ (L.take k).flatMap byt4 ++ (byt4 x).take 4 = [h0, h1] ++ (L.take (k + 1)).flatMap byt4) := by
              show _ = _
              rw [HX.out, List.append_assoc]
              rfl
            go_wp2_with fail
            refine ⟨⟨k + 1, C, _, y, by omega, by go_num, rfl, by omega, by rw [← HF.out]; exact hoo, hol, hdis, hb⟩, by simp [intOf]; omega⟩
      · obtain rfl : k = m1 := by omega
        go_wp2_with fail
        go_ret
        rw [HLL.out, HE.out]
        exact ⟨C, _, y, rfl, hoo, hb⟩
end Go.Proofs.YticheiocmhaakaaDoor
