/- The contracts of heijunkaref01.Parse, Read, Rows, whole. No condition but the reach of a slice. -/
import Derived.Test.YticheiocmhaakaaDoorNatP
import Derived.Test.YticheiocmhaakaaDoorRefF
namespace Go.Proofs.YticheiocmhaakaaDoor
open Go.RowKit

set_option maxRecDepth 100000 in
set_option maxHeartbeats 400000 in
theorem rows_any (A B : Option Addr) (n c m d : Nat) (l k : List Nat) (w : World) (ha : Ints w .u8 256 A n c l) (hb : Ints w .u8 256 B m d k) (hn : n ≤ 140737488355328) (hm : m ≤ 140737488355328) :
    Calls Tryd.prog 35 #[.slice A n c, .slice B m d] w fun e w' => (∃ q, w' = w.drewN q) ∧ e = .returned (.bool (decide (l = k))) := by
  by_cases hnm : n = m
  · subst hnm
    go_enter Tryd.func35, Tryd.ntmps35
    go_wp2_with fail
    go_loopw [5] (fun i wr => ∃ j : Nat, j ≤ n ∧ i = .int .i64 j ∧ (∃ q, wr = w.drewN q) ∧ l.take j = k.take j) (fun i _ => n - (intOf i).toNat)
    case atStart => exact ⟨0, by omega, rfl, ⟨0, rfl⟩, rfl⟩
    case round =>
      obtain ⟨j, hj, rfl, ⟨q, rfl⟩, heq⟩ := hrel
      by_cases hlt : j < n
      · obtain ⟨b, o, x, rfl, _, hx, hxl, hc⟩ := ha.get hlt
        obtain ⟨b', o', y, rfl, _, hy, hyl, hcy⟩ := hb.get hlt
        have hcx' : (w.drewN q).cell? ⟨b, o + j, none⟩ = some (.int .u8 (x : Int)) := hc
        have hcy' : (w.drewN q).cell? ⟨b', o' + j, none⟩ = some (.int .u8 (y : Int)) := hcy
        have HE := Lib.hid heq
        have HX := Lib.hid hx
        have HY := Lib.hid hy
        clear heq hx hy
        by_cases hxy : x = y
        · have ht : ((x : Int) != (y : Int)) = false := by simp [hxy]
          have HXY := Lib.hid hxy
          clear hxy
          go_wp2_with (go_quiet (fail))
          exact ⟨⟨j + 1, by omega, by go_num, ⟨_, rfl⟩, by rw [List.take_add_one, List.take_add_one, HE.out, HX.out, HY.out, HXY.out]⟩, by simp [intOf]; omega⟩
        · have ht : ((x : Int) != (y : Int)) = true := by simp; omega
          have hne : l ≠ k := by
            rintro rfl
            have := HX.out.symm.trans HY.out
            exact hxy (Option.some.inj this)
          go_wp2_with (go_quiet (fail))
          go_ret
          exact ⟨⟨_, World.drewN_drewN ..⟩, ret_bool (decide_eq_false hne).symm⟩
      · obtain rfl : j = n := by omega
        have he : l = k := by
          rw [List.take_of_length_le (by rw [ha.len]; omega), List.take_of_length_le (by rw [hb.len]; omega)] at heq
          exact heq
        have HE := Lib.hid he
        clear heq he
        go_wp2_with fail
        go_ret
        exact ⟨⟨_, rfl⟩, ret_bool (decide_eq_true HE.out).symm⟩
  · have hne : l ≠ k := by
      rintro rfl
      exact hnm (ha.len.symm.trans hb.len)
    have ht : ((n : Int) != (m : Int)) = true := by simp; omega
    go_enter Tryd.func35, Tryd.ntmps35
    go_wp2_with fail
    go_ret
    exact ⟨⟨0, rfl⟩, ret_bool (decide_eq_false hne).symm⟩
theorem rows_true (A B : Option Addr) (n c m d : Nat) (l k : List Nat) (w : World) (ha : Byt w A n c l) (hb : Byt w B m d k) (hn : n ≤ 140737488355328) (hm : m ≤ 140737488355328) (he : l = k) :
    Calls Tryd.prog 35 #[.slice A n c, .slice B m d] w fun e w' => e = .returned (.bool true) ∧ Below w.heap.size w w' :=
  (rows_any A B n c m d l k w ha hb hn hm).mono fun e w' ⟨⟨q, h1⟩, h2⟩ => ⟨by rw [h2, decide_eq_true he], by rw [h1]; exact below_drewN (Below.refl _ _) q⟩

theorem rparse_ok (l : List Nat) (hl : ∀ x ∈ l, x < 256) (w : World) (h : Reads l) :
    Calls Tryd.prog 31 #[.string (str l)] w fun e w' => ∃ A m c, e = .returned (.tuple #[.slice A m c, .bool true]) ∧ m ≤ 200000 ∧ OwnL w' w.heap.size A m c (lmb (dec l)) ∧ Below w.heap.size w w' := by
  refine (rparse_any l hl w h.pos h.most h.lead).mono fun e w' ⟨h1, h2⟩ => ?_
  rcases h1 with ⟨_, A, m, c, h3, h4, h5⟩ | ⟨h3, _⟩
  · exact ⟨A, m, c, h3, h4, h5, h2⟩
  · exact absurd h.digs h3
set_option maxRecDepth 100000 in
set_option maxHeartbeats 800000 in
theorem rparse_bad (l : List Nat) (hl : ∀ x ∈ l, x < 256) (w : World) (h : ¬ Reads l) :
    Calls Tryd.prog 31 #[.string (str l)] w fun e w' => e = .returned (.tuple #[.slice none 0 0, .bool false]) ∧ Below w.heap.size w w' := by
  obtain ⟨n, hn⟩ : ∃ n, l.length = n := ⟨_, rfl⟩
  have hS : (str l).size = n := by rw [str_size, hn]
  by_cases h1 : n < 1
  · generalize str l = S at *
    clear h hl
    go_enter Tryd.func31, Tryd.ntmps31
    go_wp2_with fail
    go_ret2
    exact ⟨rfl, Below.refl _ _⟩
  by_cases h2 : 40000 < n
  · generalize str l = S at *
    clear h hl
    go_enter Tryd.func31, Tryd.ntmps31
    go_wp2_with fail
    go_ret2
    exact ⟨rfl, Below.refl _ _⟩
  obtain ⟨x, hx⟩ : ∃ x, l[0]? = some x := ⟨_, List.getElem?_eq_getElem (by omega)⟩
  by_cases h3 : 1 < n ∧ x = 48
  · have hix := fun h => str_get l hl 0 x hx h
    have hxl := hl x (List.mem_of_getElem? hx)
    obtain ⟨h3, h4⟩ := h3
    have ht : ((x : Int) == 48) = true := by simp; omega
    have hn1 : decide ((n : Int) < 1) = false := by simp; omega
    have hn2 : decide ((40000 : Int) < (n : Int)) = false := by simp; omega
    generalize str l = S at *
    clear h hl hx
    go_enter Tryd.func31, Tryd.ntmps31
    go_wp2_with fail
    go_ret2
    exact ⟨rfl, Below.refl _ _⟩
  · have hlead : ¬ (1 < l.length ∧ l[0]? = some 48) := fun ⟨a, b⟩ => h3 ⟨by omega, by rw [hx] at b; exact Option.some.inj b⟩
    refine (rparse_any l hl w (by omega) (by omega) hlead).mono fun e w' ⟨q1, q2⟩ => ?_
    rcases q1 with ⟨hd, _⟩ | ⟨_, q3⟩
    · exact absurd ⟨by omega, by omega, hlead, hd⟩ h
    · exact ⟨q3, q2⟩

theorem le4_dv (l : List Nat) (p : Nat) (h : p + 4 ≤ l.length) : dv ((l.drop p).take 4) = le4 l p := by
  have g : ∀ t, t < 4 → (l.drop p)[t]? = some (l[p + t]?.getD 0) := fun t ht => by
    rw [List.getElem?_drop, List.getElem?_eq_getElem (by omega)]; rfl
  rw [dv_take_succ (g 3 (by omega)), dv_take_succ (g 2 (by omega)), dv_take_succ (g 1 (by omega)), dv_take_succ (g 0 (by omega))]
  unfold le4
  simp [dv, Num.val]

set_option maxRecDepth 100000 in
set_option maxHeartbeats 3200000 in
theorem rread_any (A : Option Addr) (n c : Nat) (l : List Nat) (w : World) (hr : Byt w A n c l) (hn : n ≤ 70368744177664) :
    Calls Tryd.prog 33 #[.slice A n c] w fun e w' => ((ReadOk l ∧ ∃ A2 c2 A3 m3 c3, e = .returned (.tuple #[.slice A2 (cnt l) c2, .slice A3 m3 c3, .bool true]) ∧ OwnL w' w.heap.size A2 (cnt l) c2 (limbsAt l (cnt l)) ∧ Byt w' A3 m3 c3 (l.drop (2 + 4 * cnt l))) ∨
      (¬ ReadOk l ∧ e = .returned (.tuple #[.slice none 0 0, .slice none 0 0, .bool false]))) ∧ Below w.heap.size w w' := by
  have hlen := hr.len
  by_cases h2 : n < 2
  · have hbad : ¬ ReadOk l := fun h => by have := h.two; omega
    have HB := Lib.hid hbad
    clear hbad
    go_enter Tryd.func33, Tryd.ntmps33
    go_wp2_with fail
    go_ret3
    exact ⟨.inr ⟨HB.out, rfl⟩, Below.refl _ _⟩
  obtain ⟨b, o, x0, rfl, hb, hx0, hl0, hc0⟩ := hr.get (k := 0) (by omega)
  obtain ⟨x1, hx1, hl1, hc1⟩ := hr.get' (k := 1) (by omega)
  rw [Nat.add_zero] at hc0
  have hcap := hr.rd.cap
  obtain ⟨N, hN⟩ : ∃ N, cnt l = N := ⟨_, rfl⟩
  have hNe : x0 + 256 * x1 = N := by rw [← hN]; unfold cnt; rw [hx0, hx1]; rfl
  have hNl : N < 65536 := by omega
  obtain ⟨t1, ht1⟩ : ∃ t1, 256 * x1 = t1 := ⟨_, rfl⟩
  have s1 : IntKind.i64.wrap (x0 : Int) = (x0 : Int) := IntWalk.i64_in _ (by omega)
  have s2 : IntKind.i64.wrap (x1 : Int) = (x1 : Int) := IntWalk.i64_in _ (by omega)
  have s3 : IntKind.i64.wrap (256 * (x1 : Int)) = (t1 : Int) := by rw [IntWalk.i64_in _ (by omega)]; omega
  have s4 : IntKind.i64.wrap ((x0 : Int) + (t1 : Int)) = (N : Int) := by rw [IntWalk.i64_in _ (by omega)]; omega
  have p1 : (1 : Int) < (n : Int) := by omega
  have p0 : (0 : Int) < (n : Int) := by omega
  have HN := Lib.hid hN
  have HC := Lib.hid hlen
  clear hx0 hx1 hN hNe hlen ht1
  go_enter Tryd.func33, Tryd.ntmps33
  by_cases hbig : 4096 < N ∨ n < 2 + 4 * N
  · have hbad : ¬ ReadOk l := fun h => by
      have h1 := h.few
      have h2 := h.long
      have h3 := HC.out
      rw [HN.out] at h1 h2
      omega
    have HB := Lib.hid hbad
    clear hbad
    rcases (show 4096 < N ∨ (N ≤ 4096 ∧ n < 2 + 4 * N) by omega) with h4 | ⟨h4, h5⟩
    all_goals
      go_wp2_with (go_quiet (fail))
      go_ret3
      exact ⟨.inr ⟨HB.out, rfl⟩, below_drewN (Below.refl _ _) _⟩
  · have hN4 : N ≤ 4096 := by omega
    have hn4 : 2 + 4 * N ≤ n := by omega
    have q1 : ¬ ((4096 : Int) < (N : Int)) := by omega
    have q2 : ¬ ((n : Int) < 2 + 4 * (N : Int)) := by omega
    have hlenl := HC.out
    go_wp2_with (go_quiet (fail))
    go_loopw [6, 7] (fun av iv wr => ∃ (i : Nat) (C : Option Addr) (y : Nat) (a : List Nat), i ≤ N ∧ iv = .int .i64 i ∧ av = .slice C i y ∧ OwnL wr w.heap.size C i y a ∧ Hid (a = (limbsAt l N).take i) ∧ Below w.heap.size w wr) (fun _ iv _ => N - (intOf iv).toNat)
    case atStart => exact ⟨0, none, 0, [], by omega, rfl, rfl, OwnI.nil_ .., by show _ = _; simp, below_drewN (Below.refl _ _) _⟩
    case round =>
      obtain ⟨i, C, y, a, hi, rfl, rfl, hoa, HA, hbr⟩ := hrel
      by_cases hlt : i < N
      · obtain ⟨q, hq⟩ : ∃ q, 4 * i = q := ⟨_, rfl⟩
        obtain ⟨p, hp⟩ : ∃ p, 2 + q = p := ⟨_, rfl⟩
        have eq : 4 * (i : Int) = (q : Int) := by omega
        have ep : 2 + (q : Int) = (p : Int) := by omega
        have hpn : p + 4 ≤ n := by omega
        have HP : Hid (2 + 4 * i = p) := by show _ = _; omega
        have hii : (i : Int) < (N : Int) := by omega
        clear hq hp
        go_wp2_with fail
        go_loopw [8, 9] (fun xv kv wk => ∃ kk X : Nat, kk ≤ 4 ∧ kv = .int .i64 ((kk : Int) - 1) ∧ xv = .int .u32 X ∧ Hid (X < 256 ^ (4 - kk)) ∧ X < 4294967296 ∧ Hid (dv ((l.drop p).take kk) + 256 ^ kk * X = dv ((l.drop p).take 4)) ∧ wk = wr) (fun _ kv _ => (intOf kv + 1).toNat)
        case atStart =>
          refine ⟨4, 0, by omega, rfl, rfl, ?_, by omega, ?_, rfl⟩
          · show _ < _; simp
          · show _ = _; simp
        case round =>
          obtain ⟨kk, X, hkk, rfl, rfl, HB, hX, HS, rfl⟩ := hrel
          cases kk with
          | zero =>
            have HF : Hid (a ++ [X] = (limbsAt l N).take (i + 1)) := by
              show _ = _
              have h1 := HS.out
              rw [le4_dv l p (by omega)] at h1
              rw [HA.out, List.take_add_one, limbsAt_get l hlt, HP.out]
              simp [dv, Num.val] at h1
              rw [h1]; rfl
            have hs := hbr.size
            go_wp2_with (at_builtin; refine wpList_appI _ rfl _ _ _ rfl 33 4 Tryd.underlying22 info_u32 (by omega) (hoa.alloc _) rfl (Ints.one .u32 4294967296 33 X (by omega) hX rfl) rfl (by omega) (by simp; omega) ?_; intro A3 c3 w3 ho3 hg3 ha3)
            exact ⟨⟨i + 1, A3, c3, _, by omega, by go_num, rfl, ho3, HF, below_own (hbr.alloc hs _) hg3 (by simp; omega) (fun ad h => (hoa.lt_ ad h).1)⟩, by simp [intOf]; omega⟩
          | succ kk =>
            have ek : ((kk + 1 : Nat) : Int) - 1 = (kk : Int) := by omega
            obtain ⟨r, hrr⟩ : ∃ r, p + kk = r := ⟨_, rfl⟩
            have er : (p : Int) + (kk : Int) = (r : Int) := by omega
            obtain ⟨z, hz, hzl, hcz⟩ := (hr.below hbr).get' (k := r) (by omega)
            have hX3 : X < 16777216 := by
              have h1 := HB.out
              have h2 : 256 ^ (4 - (kk + 1)) ≤ 256 ^ 3 := Nat.pow_le_pow_right (by decide) (by omega)
              have h3 : (256 : Nat) ^ 3 = 16777216 := rfl
              omega
            have hzd : (l.drop p)[kk]? = some z := by rw [List.getElem?_drop, hrr]; exact hz
            have HS2 : Hid (dv ((l.drop p).take kk) + 256 ^ kk * (X * 256 + z) = dv ((l.drop p).take 4)) := by
              show _ = _
              have h1 := HS.out
              rw [dv_take_succ hzd, Nat.pow_succ] at h1
              rw [Nat.mul_add, Nat.mul_comm X 256, ← Nat.mul_assoc]
              omega
            have HB2 : Hid (X * 256 + z < 256 ^ (4 - kk)) := by
              show _ < _
              have h1 := HB.out
              have h2 : 256 ^ (4 - kk) = 256 ^ (4 - (kk + 1)) * 256 := by rw [← Nat.pow_succ]; congr 1; omega
              omega
            have hrn : (r : Int) < (n : Int) := by omega
            clear hz hzd hrr
            go_wp2_with fail
            refine ⟨⟨kk, X * 256 + z, by omega, rfl, by go_num, HB2, by omega, HS2, by first | rfl | trivial⟩, by simp [intOf]⟩
      · obtain rfl : i = N := by omega
        have hal : a = limbsAt l i := by
          have h1 := HA.out
          rw [List.take_of_length_le (by rw [limbsAt_len]; omega)] at h1
          exact h1
        obtain ⟨q, hq⟩ : ∃ q, 4 * i = q := ⟨_, rfl⟩
        obtain ⟨P, hP⟩ : ∃ P, 2 + q = P := ⟨_, rfl⟩
        have eq : 4 * (i : Int) = (q : Int) := by omega
        have eP : 2 + (q : Int) = (P : Int) := by omega
        have w1 : IntKind.i64.wrap (q : Int) = (q : Int) := IntWalk.i64_in _ (by omega)
        have w2 : IntKind.i64.wrap (P : Int) = (P : Int) := IntWalk.i64_in _ (by omega)
        obtain ⟨A6, hA6, hrow⟩ := (hr.below hbr).cutAt (k := P) (by omega)
        obtain ⟨n6, hn6⟩ : ∃ n6, n - P = n6 := ⟨_, rfl⟩
        obtain ⟨c6, hc6⟩ : ∃ c6, c - P = c6 := ⟨_, rfl⟩
        rw [hn6, hc6] at hrow
        have HPP : Hid (2 + 4 * i = P) := by show _ = _; omega
        have rp : (P : Int) ≤ (n : Int) := by omega
        have rc : (P : Int) ≤ (c : Int) := by omega
        have HAL := Lib.hid hal
        have hs := hbr.size
        have hok : (i = 0 ∨ le4 l (2 + 4 * (i - 1)) ≠ 0) → ReadOk l := fun h => ⟨by omega, by rw [HN.out]; exact hN4, by rw [HN.out]; omega, by rw [HN.out]; exact h⟩
        have HOK := Lib.hid hok
        rcases Nat.eq_zero_or_pos i with hk0 | hk0
        · subst hk0
          have HO := Lib.hid (HOK.out (.inl rfl))
          obtain ⟨A7, hA7, hrow2⟩ := (hr.below hbr).cutAt (k := 2) (by omega)
          obtain ⟨n7, hn7⟩ : ∃ n7, n - 2 = n7 := ⟨_, rfl⟩
          obtain ⟨c7, hc7⟩ : ∃ c7, c - 2 = c7 := ⟨_, rfl⟩
          rw [hn7, hc7] at hrow2
          have r2 : (2 : Int) ≤ (n : Int) := by omega
          have r3 : (2 : Int) ≤ (c : Int) := by omega
          clear hal hP hq hok hA6 hn6 hc6 hrow
          go_wp2_with (go_quiet (fail))
          go_ret3
          rw [HN.out, ← HAL.out]
          exact ⟨.inl ⟨HO.out, _, _, A7, n7, c7, rfl, hoa.drewN _, hrow2.drewN _⟩, below_drewN hbr _⟩
        · obtain ⟨k1, hk1⟩ : ∃ k1, i - 1 = k1 := ⟨_, rfl⟩
          have ek1 : (i : Int) - 1 = (k1 : Int) := by omega
          obtain ⟨g, z, rfl, _, _, hz, hzl, hcz, _⟩ := hoa.get (k := k1) (by omega)
          have hzv : z = le4 l (2 + 4 * (i - 1)) := by
            rw [hal, limbsAt_get l (by omega)] at hz
            rw [hk1]; exact (Option.some.inj hz).symm
          have rk : (k1 : Int) < (i : Int) := by omega
          by_cases hz0 : z = 0
          · have hbad : ¬ ReadOk l := fun h => by
              have h1 := h.top
              rw [HN.out] at h1
              rcases h1 with h1 | h1
              · omega
              · exact h1 (by rw [← hzv]; exact hz0)
            have HB := Lib.hid hbad
            subst hz0
            clear hal hP hq hok hz hzv hbad hk1
            go_wp2_with fail
            go_ret3
            exact ⟨.inr ⟨HB.out, rfl⟩, hbr⟩
          · have HO := Lib.hid (HOK.out (.inr (by rw [← hzv]; exact hz0)))
            have hze : ((z : Int) == 0) = false := by simp; exact hz0
            clear hal hP hq hok hz hzv hk1
            go_wp2_with (go_quiet (fail))
            go_ret3
            rw [HN.out, ← HAL.out, HPP.out]
            exact ⟨.inl ⟨HO.out, _, _, A6, n6, c6, rfl, hoa.drewN _, hrow.drewN _⟩, below_drewN hbr _⟩
end Go.Proofs.YticheiocmhaakaaDoor
