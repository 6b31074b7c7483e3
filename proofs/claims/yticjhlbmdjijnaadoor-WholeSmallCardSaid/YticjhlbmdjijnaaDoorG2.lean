/- Texts of several parts in one: RefC, RefD, RefE, NatI. Each says what it proves; no condition but those named there. -/
import Derived.Test.YticjhlbmdjijnaaDoorG1
import Derived.IntWalk
import Derived.Deep.RegionHeld3
import Derived.OwnWalk
/- The contracts of heijunkaref01.add, sub, mul. No condition but the reach of a slice. -/
namespace Go.Proofs.YticjhlbmdjijnaaDoor
open Go.RowKit

theorem dv_take_succ {l : List Nat} {k x : Nat} (h : l[k]? = some x) : dv (l.take (k + 1)) = dv (l.take k) + 256 ^ k * x := Num.val_take_succ _ h
theorem dv_snoc (l : List Nat) (x : Nat) : dv (l ++ [x]) = dv l + 256 ^ l.length * x := Num.val_snoc _ l x
theorem dv_set {l : List Nat} {k x : Nat} (y : Nat) (h : l[k]? = some x) : dv (l.set k y) + 256 ^ k * x = dv l + 256 ^ k * y := Num.val_set _ y h
theorem dv_lt (l : List Nat) (h : ∀ x ∈ l, x < 256) : dv l < 256 ^ l.length := Num.val_lt _ l h
theorem add_step' (P s t u C x y z C' : Nat) (hs : s + P * C = t + u) (h : x + y + C = z + 256 * C') : s + P * z + P * 256 * C' = (t + P * x) + (u + P * y) := by
  have h1 : P * (x + y + C) = P * (z + 256 * C') := by rw [h]
  simp only [Nat.mul_add, ← Nat.mul_assoc] at h1
  omega

set_option maxRecDepth 100000 in
set_option maxHeartbeats 1600000 in
theorem radd_any (A A' : Option Addr) (n c n' c' : Nat) (l l' : List Nat) (w : World) (hr : Dg w A n c l) (hr' : Dg w A' n' c' l') (hn : n ≤ 4398046511104) (hn' : n' ≤ 4398046511104) :
    Calls Tryd.prog 52 #[.slice A n c, .slice A' n' c'] w fun e w' => ∃ A2 m c2, e = .returned (.slice A2 m c2) ∧ m ≤ max n n' + 1 ∧ OwnD w' w.heap.size A2 m c2 (dg (dv l + dv l')) ∧ Below w.heap.size w w' := by
  have hlen := hr.len
  have hlen' := hr'.len
  obtain ⟨N, hN⟩ : ∃ N, max n n' = N := ⟨_, rfl⟩
  have hN1 : N ≤ 4398046511104 := by omega
  have hl1 : n ≤ N := by omega
  have hl2 : n' ≤ N := by omega
  have hl3 : N ≤ n ∨ N ≤ n' := by omega
  rw [hN]
  clear hN
  go_enter Tryd.func52, Tryd.ntmps52
  go_wp2_with fail
  go_loopw [5, 6, 7] (fun ov cv iv wr => ∃ (k cy : Nat) (C : Option Addr) (y : Nat) (o : List Nat), k ≤ N + 1 ∧ iv = .int .i64 k ∧ cv = .int .i64 cy ∧ cy ≤ 1 ∧ ov = .slice C k y ∧ OwnD wr w.heap.size C k y o ∧ Hid (dv o + 256 ^ k * cy = dv (l.take k) + dv (l'.take k)) ∧ Below w.heap.size w wr) (fun _ _ iv _ => N + 1 - (intOf iv).toNat)
  case atStart =>
    refine ⟨0, 0, none, 0, [], by omega, rfl, rfl, by omega, rfl, OwnI.nil_ .., ?_, Below.refl _ _⟩
    show _ = _
    simp [dv, Num.val]
  case round =>
    obtain ⟨k, cy, C, y, o, hk, rfl, rfl, hcy, rfl, hoo, HS, hb⟩ := hrel
    have hol := hoo.len
    by_cases hlt : k ≤ N
    · obtain ⟨x, hx⟩ : ∃ x, l[k]?.getD 0 = x := ⟨_, rfl⟩
      obtain ⟨y', hy⟩ : ∃ y, l'[k]?.getD 0 = y := ⟨_, rfl⟩
      have hxl := getD_lt (by omega) hr.lt k x hx
      have hyl := getD_lt (by omega) hr'.lt k y' hy
      have ha := fun w0 h0 => at_any A n c l w0 h0 k x hx
      have hb' := fun w0 h0 => at_any A' n' c' l' w0 h0 k y' hy
      obtain ⟨s, hs⟩ : ∃ s, x + y' + cy = s := ⟨_, rfl⟩
      obtain ⟨z, hz⟩ : ∃ z, s % 256 = z := ⟨_, rfl⟩
      obtain ⟨c1, hc1⟩ : ∃ c1, s / 256 = c1 := ⟨_, rfl⟩
      have hzl : z < 256 := by omega
      have hsl : s ≤ 511 := by omega
      have hc1l : c1 ≤ 1 := by omega
      have es : (x : Int) + (y' : Int) + (cy : Int) = (s : Int) := by omega
      have e1 : (s : Int) % 256 = (z : Int) := by omega
      have e1t : (s : Int).tmod 256 = (z : Int) := by rw [Int.tmod_eq_emod_of_nonneg (by omega)]; omega
      have e2 : (s : Int) / 256 = (c1 : Int) := by omega
      have e2t : (s : Int).tdiv 256 = (c1 : Int) := by rw [Int.tdiv_eq_ediv_of_nonneg (by omega)]; omega
      have HS2 : Hid (dv (o ++ [z]) + 256 ^ (k + 1) * c1 = dv (l.take (k + 1)) + dv (l'.take (k + 1))) := by
        show _ = _
        rw [dv_snoc, hol, dv_take_getD l k x hx, dv_take_getD l' k y' hy, Nat.pow_succ]
        exact add_step' _ _ _ _ cy x y' z c1 HS.out (by omega)
      clear hx hy hs hz hc1 hol
      have hwa : Dg wr A n c l := hr.below hb
      have hwb : Dg wr A' n' c' l' := hr'.below hb
      rcases (show k ≤ n ∨ (¬ k ≤ n ∧ k ≤ n') by omega) with hk1 | ⟨hk1, hk2⟩
      all_goals
        go_wp2_with fail
        refine (ha _ hwa).mono ?_; rintro e w' ⟨rfl, rfl⟩
        go_wp2_with fail
        refine (hb' _ hwb).mono ?_; rintro e w' ⟨rfl, rfl⟩
        go_wp2_with (at_builtin; refine wpList_appI _ rfl _ _ _ rfl 3 8 Tryd.underlying55 info_int (by omega) (hoo.alloc _) rfl (Ints.one .i64 256 3 z rfl hzl rfl) rfl (by omega) (by simp; have := hb.size; omega) ?_; intro A3 c3 w3 ho3 hg3 ha3)
        exact ⟨⟨k + 1, c1, A3, c3, _, by omega, by go_num, rfl, hc1l, rfl, ho3, HS2, below_own (hb.alloc hb.size _) hg3 (by simp; have := hb.size; omega) (fun ad h => (hoo.lt_ ad h).1)⟩, by simp [intOf]; omega⟩
    · obtain rfl : k = N + 1 := by omega
      have hfin : dv o = dv l + dv l' := by
        have h1 := HS.out
        rw [List.take_of_length_le (l := l) (by omega), List.take_of_length_le (l := l') (by omega)] at h1
        have h2 := dv_lt l hr.lt
        have h3 := dv_lt l' hr'.lt
        have h4 : 256 ^ l.length ≤ 256 ^ N := Nat.pow_le_pow_right (by decide) (by omega)
        have h5 : 256 ^ l'.length ≤ 256 ^ N := Nat.pow_le_pow_right (by decide) (by omega)
        rw [Nat.pow_succ] at h1
        rcases (show cy = 0 ∨ cy = 1 by omega) with rfl | rfl
        · omega
        · omega
      have HF := Lib.hid hfin
      have hct := fun w0 h0 => cut_any C (N + 1) y o w0 h0 (by omega)
      have hk1 : ¬ ((N : Int) + 1 ≤ (n : Int)) := by omega
      have hk2 : ¬ ((N : Int) + 1 ≤ (n' : Int)) := by omega
      clear hfin hol
      go_wp2_with fail
      refine (hct _ hoo.ints).mono ?_; rintro e w2 ⟨m, hm, rfl, hd, rfl⟩
      rw [HF.out] at hd
      have HD := Lib.hid hd
      clear hd hct
      go_wp2_with fail
      go_ret
      exact ⟨C, m, y, rfl, hm, by rw [← HD.out]; exact hoo.shrink hm, hb⟩

set_option maxRecDepth 100000 in
set_option maxHeartbeats 1600000 in
theorem rsub_any (A A' : Option Addr) (n c n' c' : Nat) (l l' : List Nat) (w : World) (hr : Dg w A n c l) (hr' : Dg w A' n' c' l') (hn : n ≤ 4398046511104) (_hn' : n' ≤ 4398046511104) (hle : dv l' ≤ dv l) :
    Calls Tryd.prog 67 #[.slice A n c, .slice A' n' c'] w fun e w' => ∃ A2 m c2, e = .returned (.slice A2 m c2) ∧ m ≤ n ∧ OwnD w' w.heap.size A2 m c2 (dg (dv l - dv l')) ∧ Below w.heap.size w w' := by
  have hlen := hr.len
  have hlen' := hr'.len
  go_enter Tryd.func67, Tryd.ntmps67
  go_wp2_with fail
  go_loopw [5, 6, 7] (fun ov cv iv wr => ∃ (k cy : Nat) (C : Option Addr) (y : Nat) (o : List Nat), k ≤ n ∧ iv = .int .i64 k ∧ cv = .int .i64 cy ∧ cy ≤ 1 ∧ ov = .slice C k y ∧ OwnD wr w.heap.size C k y o ∧ Hid (dv o + dv (l'.take k) = dv (l.take k) + 256 ^ k * cy) ∧ Below w.heap.size w wr) (fun _ _ iv _ => n - (intOf iv).toNat)
  case atStart =>
    refine ⟨0, 0, none, 0, [], by omega, rfl, rfl, by omega, rfl, OwnI.nil_ .., ?_, Below.refl _ _⟩
    show _ = _
    simp [dv, Num.val]
  case round =>
    obtain ⟨k, cy, C, y, o, hk, rfl, rfl, hcy, rfl, hoo, HS, hb⟩ := hrel
    have hol := hoo.len
    by_cases hlt : k < n
    · have hwb : Dg wr A' n' c' l' := hr'.below hb
      obtain ⟨ba, off, x, rfl, hbs, hx, hxl, hc⟩ := (hr.below hb).get hlt
      obtain ⟨y', hy⟩ : ∃ y, l'[k]?.getD 0 = y := ⟨_, rfl⟩
      have hyl := getD_lt (by omega) hr'.lt k y' hy
      have hat := fun w0 h0 => at_any A' n' c' l' w0 h0 k y' hy
      obtain ⟨u, hu⟩ : ∃ u : Int, (x : Int) - (y' : Int) = u := ⟨_, rfl⟩
      obtain ⟨t, ht⟩ : ∃ t : Int, u - (cy : Int) = t := ⟨_, rfl⟩
      have s1 : IntKind.i64.wrap ((x : Int) - (y' : Int)) = u := by rw [IntWalk.i64_in _ (by omega)]; omega
      have s2 : IntKind.i64.wrap (u - (cy : Int)) = t := by rw [IntWalk.i64_in _ (by omega)]; omega
      have kn : (k : Int) < (n : Int) := by omega
      have hstep : ∀ z b : Nat, z + y' + cy = x + 256 * b → dv (o ++ [z]) + dv (l'.take (k + 1)) = dv (l.take (k + 1)) + 256 ^ (k + 1) * b := by
        intro z b h
        rw [dv_snoc, hol, dv_take_succ hx, dv_take_getD l' k y' hy, Nat.pow_succ]
        have h1 : 256 ^ k * (z + y' + cy) = 256 ^ k * (x + 256 * b) := by rw [h]
        have h2 := HS.out
        simp only [Nat.mul_add, ← Nat.mul_assoc] at h1
        omega
      have HST := Lib.hid hstep
      by_cases hneg : t < 0
      · obtain ⟨z, hz⟩ : ∃ z : Nat, t + 256 = (z : Int) := ⟨(t + 256).toNat, by omega⟩
        have hzl : z < 256 := by omega
        have HS2 := Lib.hid (hstep z 1 (by omega))
        have hd : decide (t < 0) = true := by simp; exact hneg
        have htb : -300 ≤ t := by omega
        clear hx hy hu ht hol hstep
        go_wp2_with fail
        go_region_held3 (fun w' => w'.cell? ⟨ba, off + k, none⟩ = some (.int .i64 (x : Int))) (exact hc)
          ((go_at_call 46; refine (hat _ ?_).mono ?_; (first | exact hwb.drew | exact hwb); rintro e w' ⟨rfl, rfl⟩))
        go_wp2_with (at_builtin; refine wpList_appI _ rfl _ _ _ rfl 3 8 Tryd.underlying55 info_int (by omega) ((hoo.alloc _).drew) rfl ((Ints.one .i64 256 3 z rfl hzl rfl).drew) rfl (by omega) (by simp; have := hb.size; omega) ?_; intro A3 c3 w3 ho3 hg3 ha3)
        exact ⟨⟨k + 1, 1, A3, c3, _, by omega, by go_num, rfl, by omega, rfl, ho3, HS2, below_own (hb.alloc hb.size _).drew hg3 (by simp; have := hb.size; omega) (fun ad h => (hoo.lt_ ad h).1)⟩, by simp [intOf]; omega⟩
      · obtain ⟨z, hz⟩ : ∃ z : Nat, t = (z : Int) := ⟨t.toNat, by omega⟩
        subst hz
        have hzl : z < 256 := by omega
        have HS2 := Lib.hid (hstep z 0 (by omega))
        have hd : decide ((z : Int) < 0) = false := by simp
        clear hx hy hu ht hol hstep
        go_wp2_with fail
        go_region_held3 (fun w' => w'.cell? ⟨ba, off + k, none⟩ = some (.int .i64 (x : Int))) (exact hc)
          ((go_at_call 46; refine (hat _ ?_).mono ?_; (first | exact hwb.drew | exact hwb); rintro e w' ⟨rfl, rfl⟩))
        go_wp2_with (at_builtin; refine wpList_appI _ rfl _ _ _ rfl 3 8 Tryd.underlying55 info_int (by omega) ((hoo.alloc _).drew) rfl ((Ints.one .i64 256 3 z rfl hzl rfl).drew) rfl (by omega) (by simp; have := hb.size; omega) ?_; intro A3 c3 w3 ho3 hg3 ha3)
        exact ⟨⟨k + 1, 0, A3, c3, _, by omega, by go_num, rfl, by omega, rfl, ho3, HS2, below_own (hb.alloc hb.size _).drew hg3 (by simp; have := hb.size; omega) (fun ad h => (hoo.lt_ ad h).1)⟩, by simp [intOf]; omega⟩
    · obtain rfl : k = n := by omega
      have hfin : dv o = dv l - dv l' := Num.sub_fin l l' o k cy hlen hol hr.lt hoo.lt hle (by
        have h1 := HS.out
        rw [List.take_of_length_le (l := l) (by omega)] at h1
        exact h1)
      have HF := Lib.hid hfin
      have hct := fun w0 h0 => cut_any C k y o w0 h0 (by omega)
      clear hfin hol
      go_wp2_with fail
      refine (hct _ hoo.ints).mono ?_; rintro e w2 ⟨m, hm, rfl, hd, rfl⟩
      rw [HF.out] at hd
      have HD := Lib.hid hd
      clear hd hct
      go_wp2_with fail
      go_ret
      exact ⟨C, m, y, rfl, hm, by rw [← HD.out]; exact hoo.shrink hm, hb⟩

theorem mkI_int {w : World} {ops : Array Oper} {rest : List Oper} {o : Oper} {a : Act} {Q : Exit → Act → World → Prop} (hgd : o.guard = none) (l c : Operand) (ho : o.op = Op.makeSlice 55 l c) {kl kc : IntKind} {L C : Int} (n : Nat) (hl : a.eval l = .int kl L) (hc : a.eval c = .int kc C) (hL : L = (n : Int)) (hC : C = (n : Int)) (hn : n ≤ 17592186044416)
    (base : Nat) (hbase : base ≤ w.heap.size)
    (h : ∀ w', OwnD w' base (some ⟨w.heap.size, 0, none⟩) n n (List.replicate n 0) → w.grownBy w' none → wpList Tryd.prog ops Q rest (a.put o.dst (.slice (some ⟨w.heap.size, 0, none⟩) n n)) w') :
    wpList Tryd.prog ops Q (o :: rest) a w :=
  wpList_mkI w hgd l c 55 ho (lim := 256) (by omega) 3 8 Tryd.underlying55 info_int n hl hc hL hC (by omega) (by unfold maxLen; omega) base hbase h
theorem rmul_step (Pk Pj vo vo' t V C x y z d C1 : Nat) (hs : vo + Pk * Pj * C = t + Pk * x * V) (hv : vo' + Pk * Pj * z = vo + Pk * Pj * d) (h : z + x * y + C = d + 256 * C1) :
    vo' + Pk * (Pj * 256) * C1 = t + Pk * x * (V + Pj * y) := by
  have h1 : Pk * Pj * (z + x * y + C) = Pk * Pj * (d + 256 * C1) := by rw [h]
  have e : Pk * x * (V + Pj * y) = Pk * x * V + Pk * Pj * (x * y) := by
    rw [Nat.mul_add]
    congr 1
    rw [Nat.mul_assoc, Nat.mul_assoc, Nat.mul_left_comm x Pj y]
  rw [Nat.mul_add, Nat.mul_add, Nat.mul_add, ← Nat.mul_assoc (Pk * Pj) 256] at h1
  rw [e, ← Nat.mul_assoc Pk Pj 256]
  omega

set_option maxRecDepth 100000 in
set_option maxHeartbeats 3200000 in
theorem rmul_any (A A' : Option Addr) (n c n' c' : Nat) (l l' : List Nat) (w : World) (hr : Dg w A n c l) (hr' : Dg w A' n' c' l') (hn : n ≤ 4398046511104) (hn' : n' ≤ 4398046511104) :
    Calls Tryd.prog 53 #[.slice A n c, .slice A' n' c'] w fun e w' => ∃ A2 m c2, e = .returned (.slice A2 m c2) ∧ m ≤ n + n' + 1 ∧ OwnD w' w.heap.size A2 m c2 (dg (dv l * dv l')) ∧ Below w.heap.size w w' := by
  have hlen := hr.len
  have hlen' := hr'.len
  obtain ⟨N, hN⟩ : ∃ N, n + n' + 1 = N := ⟨_, rfl⟩
  have eN : (n : Int) + (n' : Int) + 1 = (N : Int) := by omega
  go_enter Tryd.func53, Tryd.ntmps53
  go_wp2_with (refine mkI_int rfl _ _ rfl N rfl rfl (by omega) (by omega) (by omega) w.heap.size (Nat.le_refl _) ?_; intro w2 hown hg2)
  have hb2 := below_none (Below.refl w.heap.size w) hg2 (Nat.le_refl _)
  go_loopw [6] (fun i wr => ∃ k : Nat, k ≤ n ∧ i = .int .i64 k ∧ ∃ o : List Nat, OwnD wr w.heap.size (some ⟨w.heap.size, 0, none⟩) N N o ∧
      Hid (dv o = dv (l.take k) * dv l') ∧ Hid (∀ j z : Nat, k + n' ≤ j → o[j]? = some z → z = 0) ∧ Below w.heap.size w wr) (fun i _ => n - (intOf i).toNat)
  case atStart =>
    refine ⟨0, by omega, rfl, _, hown, ?_, ?_, hb2⟩
    · show _ = _
      simp [dv, Num.val, Num.val_zeros]
    · show ∀ j z : Nat, _
      intro j z _ hz
      simp [List.getElem?_replicate] at hz
      omega
  case round =>
    obtain ⟨k, hk, rfl, o, ho, HV, HZ, hb⟩ := hrel
    by_cases hlt : k < n
    · obtain ⟨ba, off, x, rfl, hbs, hx, hxl, hc⟩ := hr.get hlt
      have HX := Lib.hid hx
      clear hx
      go_wp2_with fail
      go_loopw [7, 8] (fun cv jv wj => ∃ j C : Nat, j ≤ n' + 1 ∧ jv = .int .i64 j ∧ cv = .int .i64 C ∧ C < 256 ∧ (n' < j → C = 0) ∧ ∃ o : List Nat, OwnD wj w.heap.size (some ⟨w.heap.size, 0, none⟩) N N o ∧
          Hid (dv o + 256 ^ k * 256 ^ j * C = dv (l.take k) * dv l' + 256 ^ k * x * dv (l'.take j)) ∧ Hid (∀ t z : Nat, k + j ≤ t → k + n' ≤ t → o[t]? = some z → z = 0) ∧ Below w.heap.size w wj) (fun _ jv _ => n' + 1 - (intOf jv).toNat)
      case atStart =>
        refine ⟨0, 0, by omega, rfl, rfl, by omega, fun _ => rfl, o, ho, ?_, ?_, hb⟩
        · show _ = _
          rw [HV.out]; simp [dv, Num.val]
        · show ∀ t z : Nat, _
          intro t z _ h hz
          exact HZ.out t z h hz
      case round =>
        obtain ⟨j, C, hj, rfl, rfl, hC, hC0, o, ho, HS, HZ, hb⟩ := hrel
        by_cases hgo : j < n' ∨ 0 < C
        · have hjn : j ≤ n' := by
            rcases Nat.lt_or_ge n' j with h | h
            · have := hC0 h; omega
            · exact h
          obtain ⟨y, hy⟩ : ∃ y, l'[j]?.getD 0 = y := ⟨_, rfl⟩
          have hyl := getD_lt (by omega) hr'.lt j y hy
          have hat := fun w0 h0 => at_any A' n' c' l' w0 h0 j y hy
          obtain ⟨p, hp⟩ : ∃ p, k + j = p := ⟨_, rfl⟩
          obtain ⟨g, z, he, _, _, hz, hzl, hco, hf⟩ := ho.get (k := p) (by omega)
          cases he
          obtain ⟨P, hP⟩ : ∃ P, x * y = P := ⟨_, rfl⟩
          have hPl : P ≤ 65025 := by rw [← hP]; exact Nat.mul_le_mul (Nat.le_of_lt_succ hxl) (Nat.le_of_lt_succ hyl)
          have hPi : (x : Int) * (y : Int) = (P : Int) := by rw [← hP]; simp
          obtain ⟨u, hu⟩ : ∃ u, z + P = u := ⟨_, rfl⟩
          obtain ⟨s, hs⟩ : ∃ s, u + C = s := ⟨_, rfl⟩
          obtain ⟨d, hd⟩ : ∃ d, s % 256 = d := ⟨_, rfl⟩
          obtain ⟨C1, hC1⟩ : ∃ C1, s / 256 = C1 := ⟨_, rfl⟩
          have hdl : d < 256 := by omega
          have hC1l : C1 < 256 := by omega
          have hsl : s ≤ 65535 := by omega
          have hC10 : n' < j + 1 → C1 = 0 := by
            intro h
            have hz0 : z = 0 := HZ.out p z (by omega) (by omega) hz
            have hy0 : y = 0 := by rw [← hy, List.getElem?_eq_none (by omega)]; rfl
            have hP0 : P = 0 := by rw [← hP, hy0, Nat.mul_zero]
            omega
          have s1 : IntKind.i64.wrap ((k : Int) + (j : Int)) = (p : Int) := by rw [IntWalk.i64_in _ (by omega)]; omega
          have s2 : IntKind.i64.wrap (P : Int) = (P : Int) := IntWalk.i64_in _ (by omega)
          have s3 : IntKind.i64.wrap ((z : Int) + (P : Int)) = (u : Int) := by rw [IntWalk.i64_in _ (by omega)]; omega
          have s4 : IntKind.i64.wrap ((u : Int) + (C : Int)) = (s : Int) := by rw [IntWalk.i64_in _ (by omega)]; omega
          have ep : (k : Int) + (j : Int) = (p : Int) := by omega
          have s0 : IntKind.i64.wrap (p : Int) = (p : Int) := IntWalk.i64_in _ (by omega)
          have e1 : (s : Int) % 256 = (d : Int) := by omega
          have e1t : (s : Int).tmod 256 = (d : Int) := by rw [Int.tmod_eq_emod_of_nonneg (by omega)]; omega
          have e2 : (s : Int) / 256 = (C1 : Int) := by omega
          have e2t : (s : Int).tdiv 256 = (C1 : Int) := by rw [Int.tdiv_eq_ediv_of_nonneg (by omega)]; omega
          have hpN : (p : Int) < (N : Int) := by omega
          have hkn : (k : Int) < (n : Int) := by omega
          have hcx : wr.cell? ⟨ba, off + k, none⟩ = some (.int .i64 (x : Int)) := (hb.cell (p := ⟨ba, off + k, none⟩) hbs).trans hc
          have HS2 : Hid (dv (o.set p d) + 256 ^ k * 256 ^ (j + 1) * C1 = dv (l.take k) * dv l' + 256 ^ k * x * dv (l'.take (j + 1))) := by
            show _ = _
            rw [dv_take_getD l' j y hy, Nat.pow_succ]
            refine rmul_step (256 ^ k) (256 ^ j) (dv o) _ _ _ C x y z d C1 HS.out ?_ (by rw [hP]; omega)
            rw [← Nat.pow_add, hp]
            exact dv_set d hz
          have HZ2 : Hid (∀ t z' : Nat, k + (j + 1) ≤ t → k + n' ≤ t → (o.set p d)[t]? = some z' → z' = 0) := by
            show ∀ t z' : Nat, _
            intro t z' h1 h2 h3
            rw [List.getElem?_set_ne (by omega)] at h3
            exact HZ.out t z' (by omega) h2 h3
          have hwb : Dg wr A' n' c' l' := hr'.below hb
          have hgo' : (j : Int) < (n' : Int) ∨ (¬ (j : Int) < (n' : Int) ∧ (C : Int) > 0) := by omega
          clear hz hy hP hu hs hd hC1 hp hgo
          rcases hgo' with hg1 | ⟨hg1, hg3⟩
          all_goals
            go_wp2_with fail
            go_region_held3 (fun w' => w'.cell? ⟨ba, off + k, none⟩ = some (.int .i64 (x : Int)) ∧ w'.cell? ⟨w.heap.size, p, none⟩ = some (.int .i64 (z : Int))) (exact ⟨hcx, hco⟩)
              ((go_at_call 46; refine (hat _ ?_).mono ?_; (first | exact hwb.drew | exact hwb); rintro e w' ⟨rfl, rfl⟩))
            go_wp2_with fail
            exact ⟨⟨j + 1, C1, by omega, by go_num, rfl, hC1l, hC10, _, (ho.stored p d hdl).drew, HS2, HZ2, (hb.setCell (Nat.le_refl _) _).drew⟩, by simp [intOf]; omega⟩
        · obtain rfl : C = 0 := by omega
          have hjn : n' ≤ j := by omega
          have HF : Hid (dv o = dv (l.take (k + 1)) * dv l') := by
            show _ = _
            have h1 := HS.out
            rw [List.take_of_length_le (l := l') (by omega), Nat.mul_zero, Nat.add_zero] at h1
            rw [h1, dv_take_succ HX.out, Nat.add_mul]
          have HZ2 : Hid (∀ t z : Nat, k + 1 + n' ≤ t → o[t]? = some z → z = 0) := by
            show ∀ t z : Nat, _
            intro t z h1 h2
            exact HZ.out t z (by omega) (by omega) h2
          have hg1 : ¬ ((j : Int) < (n' : Int)) := by omega
          clear hgo
          go_wp2_with fail
          exact ⟨⟨k + 1, by omega, by go_num, o, ho, HF, HZ2, hb⟩, by simp [intOf]; omega⟩
    · obtain rfl : k = n := by omega
      have hfin : dv o = dv l * dv l' := by
        have h1 := HV.out
        rwa [List.take_of_length_le (by omega)] at h1
      have HF := Lib.hid hfin
      have hct := fun w0 h0 => cut_any (some ⟨w.heap.size, 0, none⟩) N N o w0 h0 (by omega)
      clear hfin
      go_wp2_with fail
      refine (hct _ ho.ints).mono ?_; rintro e w2 ⟨m, hm, rfl, hd, rfl⟩
      rw [HF.out] at hd
      have HD := Lib.hid hd
      clear hd hct
      go_wp2_with fail
      go_ret
      exact ⟨_, m, _, rfl, by omega, by rw [← HD.out]; exact ho.shrink hm, hb⟩
end Go.Proofs.YticjhlbmdjijnaaDoor

/- The contracts of heijunkaref01.div, Trim, Cmp, Add, Sub, Mul, Div, Gcd. No condition but the reach of a slice. -/
namespace Go.Proofs.YticjhlbmdjijnaaDoor
open Go.RowKit

theorem dg_cons_len {a R V : Nat} (ha : a < 256) (hR : R < V) : a + 256 * R < 256 * V := by omega
theorem dg_len_lt {R V n' : Nat} (hR : R < V) (hV : (dg V).length ≤ n') : (dg R).length ≤ n' := Nat.le_trans (Num.dig_len_mono (by decide) (by omega)) hV

set_option maxRecDepth 100000 in
set_option maxHeartbeats 3200000 in
theorem rdiv_any (A A' : Option Addr) (n c n' c' : Nat) (l l' : List Nat) (w : World) (hr : Dg w A n c l) (hr' : Dg w A' n' c' l') (hn : n ≤ 4398046511104) (hn' : n' ≤ 4398046511103) (hV : 0 < dv l') :
    Calls Tryd.prog 45 #[.slice A n c, .slice A' n' c'] w fun e w' => ∃ A2 m c2 A3 m3 c3, e = .returned (.tuple #[.slice A2 m c2, .slice A3 m3 c3]) ∧ m ≤ n ∧ m3 ≤ n' ∧ OwnD w' w.heap.size A2 m c2 (dg (dv l / dv l')) ∧ OwnD w' w.heap.size A3 m3 c3 (dg (dv l % dv l')) ∧ Below w.heap.size w w' := by
  have hlen := hr.len
  have hlen' := hr'.len
  have hVl : (dg (dv l')).length ≤ n' := by rw [← hlen']; exact dg_len l' hr'.lt
  obtain ⟨V, hVe⟩ : ∃ V, dv l' = V := ⟨_, rfl⟩
  rw [hVe] at hV hVl
  have HVE := Lib.hid hVe
  have HVL := Lib.hid hVl
  clear hVe hVl
  go_enter Tryd.func45, Tryd.ntmps45
  go_wp2_with fail
  go_loopw [6, 7, 8] (fun qv rv iv wr => ∃ (k R : Nat) (Cq : Option Addr) (yq : Nat) (ql : List Nat) (Cr : Option Addr) (mr yr : Nat), k ≤ n ∧ iv = .int .i64 ((k : Int) - 1) ∧ qv = .slice Cq (n - k) yq ∧ rv = .slice Cr mr yr ∧ mr ≤ n' ∧ R < V ∧ OwnD wr w.heap.size Cq (n - k) yq ql ∧ OwnD wr w.heap.size Cr mr yr (dg R) ∧
      Hid (dv (l.drop k) = V * dv ql + R) ∧ Below w.heap.size w wr) (fun _ _ iv _ => (intOf iv + 1).toNat)
  case atStart =>
    refine ⟨n, 0, none, 0, [], none, 0, 0, by omega, rfl, by rw [Nat.sub_self], rfl, by omega, hV, by rw [Nat.sub_self]; exact OwnI.nil_ .., by rw [dg_zero]; exact OwnI.nil_ .., ?_, Below.refl _ _⟩
    show _ = _
    rw [List.drop_eq_nil_of_le (by omega)]
    simp [dv, Num.val]
  case round =>
    obtain ⟨k, R, Cq, yq, ql, Cr, mr, yr, hk, rfl, rfl, rfl, hmr, hR, hoq, hor, HE, hb⟩ := hrel
    cases k with
    | zero =>
      have hfin : dv l = V * dv ql + R := by
        have := HE.out
        rwa [List.drop_zero] at this
      have hq : dv ql = dv l / V := by rw [hfin, Nat.mul_add_div hV, Nat.div_eq_of_lt hR, Nat.add_zero]
      have hrr : R = dv l % V := by rw [hfin, Nat.mul_add_mod, Nat.mod_eq_of_lt hR]
      have HQ := Lib.hid hq
      have HR := Lib.hid hrr
      have hct := fun w0 h0 => cut_any Cq (n - 0) yq ql w0 h0 (by omega)
      clear hq hrr hfin
      go_wp2_with fail
      refine (hct _ hoq.ints).mono ?_; rintro e w2 ⟨m, hm, rfl, hd, rfl⟩
      rw [HQ.out] at hd
      have HD := Lib.hid hd
      clear hd hct
      go_wp2_with fail
      go_ret2
      rw [HVE.out, ← HD.out, ← HR.out]
      exact ⟨Cq, m, yq, Cr, mr, yr, rfl, by omega, hmr, hoq.shrink hm, hor, hb⟩
    | succ k =>
      have ek : ((k + 1 : Nat) : Int) - 1 = (k : Int) := by omega
      obtain ⟨ba, off, x, rfl, hbs, hx, hxl, hc⟩ := (hr.below hb).get (k := k) (by omega)
      have HE2 : Hid (dv (l.drop k) = x + 256 * (V * dv ql + R)) := by
        show _ = _
        have := Num.val_drop_pred 256 hx
        unfold dv
        rw [this]
        have h2 := HE.out
        unfold dv at h2
        rw [h2]
      clear hx
      obtain ⟨nq, hnq⟩ : ∃ nq, n - (k + 1) = nq := ⟨_, rfl⟩
      rw [hnq] at hoq ⊢
      have HNQ := Lib.hid hnq
      have hnqn : nq ≤ n := by omega
      clear hnq
      have hs := hb.size
      go_wp2_with (at_builtin; refine wpList_appI _ rfl _ _ _ rfl 3 8 Tryd.underlying55 info_int (by omega) (base := wr.heap.size) (OwnI.lit .i64 256 3 (n := 1) [x] rfl rfl rfl (by intro z hz; rw [List.mem_singleton.1 hz]; exact hxl) (by omega) (Nat.le_refl _)) rfl (hor.alloc _).ints rfl (by omega) (by simp) ?_; intro A3 c3 w3 ho3 hg3 ha3)
      have hval : dv ([x] ++ dg R) = x + 256 * R := by
        have := dv_dg R
        unfold dv at this ⊢
        rw [List.singleton_append, Num.val_cons, this]
      have hct := fun w0 h0 => cut_any A3 (1 + mr) c3 ([x] ++ dg R) w0 h0 (by omega)
      rw [hval] at hct
      have hb3 : Below w.heap.size w w3 := below_own (hb.alloc hs _) hg3 (by simp; omega) (fun ad h => by cases h; exact hs)
      have hoq3 : OwnD w3 w.heap.size Cq nq yq ql := (hoq.alloc _).kept hg3 (fun ad he h => by have h1 := (hoq.lt_ ad he).2; simp at h; omega)
      clear hval
      refine (hct _ ho3.ints).mono ?_; rintro e w4 ⟨m4, hm4, rfl, hd4, rfl⟩
      have ho4 : OwnD w4 w.heap.size A3 m4 c3 (dg (x + 256 * R)) := by rw [← hd4]; exact (ho3.shrink hm4).mono hs
      have hax := dg_cons_len hxl hR
      clear hct hd4 ho3 hor
      go_wp2_with fail
      go_loopw [7, 9] (fun rv nv wk => ∃ (t R0 : Nat) (C : Option Addr) (m y : Nat), rv = .slice C m y ∧ nv = .int .i64 t ∧ t ≤ 255 ∧ m ≤ n' + 1 ∧ OwnD wk w.heap.size C m y (dg R0) ∧ Hid (x + 256 * R = V * t + R0) ∧ OwnD wk w.heap.size Cq nq yq ql ∧ Below w.heap.size w wk) (fun _ nv _ => 256 - (intOf nv).toNat)
      case atStart =>
        refine ⟨0, x + 256 * R, A3, m4, c3, rfl, rfl, by omega, by omega, ho4, ?_, hoq3, hb3⟩
        show _ = _
        rw [Nat.mul_zero, Nat.zero_add]
      case round =>
        obtain ⟨t, R0, C, m, y, rfl, rfl, ht, hm, hor, HS, hoq, hb⟩ := hrel
        have hwb : Dg wr A' n' c' l' := hr'.below hb
        rcases Nat.lt_or_ge R0 V with hlt | hge
        · have hcm := rcmp_any C A' m y n' c' (dg R0) l' wr hor.ints hwb (by omega) (by omega)
          rw [dv_dg, HVE.out, Num.cmp_lt hlt] at hcm
          have hml : m ≤ n' := by
            have h1 := hor.len
            rw [← h1]
            exact dg_len_lt hlt HVL.out
          have hs := hb.size
          go_wp2_with fail
          refine hcm.mono ?_; rintro e w' ⟨rfl, rfl⟩
          go_wp2_with (at_builtin; refine wpList_appI _ rfl _ _ _ rfl 3 8 Tryd.underlying55 info_int (by omega) (base := w.heap.size) (OwnI.lit .i64 256 3 (n := 1) [t] rfl rfl rfl (by intro z hz; rw [List.mem_singleton.1 hz]; omega) (by omega) hs) rfl (hoq.alloc _).ints rfl (by omega) (by simp; omega) ?_; intro A5 c5 w5 ho5 hg5 ha5)
          have hb5 : Below w.heap.size w w5 := below_own (hb.alloc hs _) hg5 (by simp; omega) (fun ad h => by cases h; exact hs)
          have hor5 : OwnD w5 w.heap.size C m y (dg R0) := (hor.alloc _).kept hg5 (fun ad he h => by have h1 := (hor.lt_ ad he).2; simp at h; omega)
          have hnk : 1 + nq = n - k := by have := HNQ.out; omega
          refine ⟨⟨k, R0, A5, c5, [t] ++ ql, C, m, y, by omega, rfl, by rw [hnk], rfl, hml, hlt, by rw [← hnk]; exact ho5, hor5, ?_, hb5⟩, by simp [intOf]⟩
          show _ = _
          rw [HE2.out]
          have := Num.div_step (b := 256) (H := V * dv ql + R) rfl HS.out
          rw [this]
          rfl
        · have hcm := rcmp_any C A' m y n' c' (dg R0) l' wr hor.ints hwb (by omega) (by omega)
          have hz : 0 ≤ Num.cmp (dv (dg R0)) (dv l') := by
            rw [dv_dg, HVE.out]
            rcases Nat.lt_or_eq_of_le hge with h | h
            · rw [Num.cmp_gt h]; decide
            · rw [h, Num.cmp_eq]; decide
          generalize Num.cmp (dv (dg R0)) (dv l') = z at hcm hz
          have hsb := rsub_any C A' m y n' c' (dg R0) l' wr hor.ints hwb (by omega) (by omega) (by rw [dv_dg, HVE.out]; exact hge)
          rw [dv_dg, HVE.out] at hsb
          have ht1 : t + 1 ≤ 255 := by
            have h1 := HS.out
            have h2 : V * (t + 1) ≤ x + 256 * R := by rw [h1, Nat.mul_add, Nat.mul_one]; omega
            have h3 : V * (t + 1) < V * 256 := by omega
            have := Nat.lt_of_mul_lt_mul_left h3
            omega
          have HS2 : Hid (x + 256 * R = V * (t + 1) + (R0 - V)) := by
            show _ = _
            rw [HS.out, Nat.mul_add, Nat.mul_one]; omega
          go_wp2_with fail
          refine hcm.mono ?_; rintro e w' ⟨rfl, rfl⟩
          go_wp2_with fail
          refine hsb.mono ?_; rintro e w5 ⟨A5, m5, c5, rfl, hm5, ho5, hb5⟩
          go_wp2_with fail
          exact ⟨⟨t + 1, R0 - V, A5, m5, c5, rfl, by go_num, ht1, by omega, ho5.mono hb.size, HS2, hoq.below hb5, below_step hb hb5 hb.size⟩, by simp [intOf]; omega⟩
end Go.Proofs.YticjhlbmdjijnaaDoor

/- The contracts of heijunkaref01.Trim, Cmp, Add, Sub, Mul, Div. No condition. -/
namespace Go.Proofs.YticjhlbmdjijnaaDoor
open Go.RowKit

set_option maxRecDepth 100000 in
set_option maxHeartbeats 800000 in
theorem rtrim_any (A0 : Option Addr) (n0 c0 : Nat) (l0 : List Nat) (w : World) (hr_0 : Lim w A0 n0 c0 l0) (hn0 : n0 ≤ 268435456) :
    Calls Tryd.prog 32 #[.slice A0 n0 c0] w fun e w' => ∃ A2 m c2, e = .returned (.slice A2 m c2) ∧ m ≤ 4 * n0 ∧ OwnL w' w.heap.size A2 m c2 (lmb (vl l0)) ∧ Below w.heap.size w w' := by
  go_enter Tryd.func32, Tryd.ntmps32
  have B0 := Below.refl w.heap.size w
  go_wp2_with fail
  refine (digits_any _ _ _ _ _ (hr_0.below B0) (by omega)).mono ?_
  rintro e w1 ⟨A_d, m_d, c_d, rfl, hm_d, o_d, b1⟩
  have B1 := below_step B0 b1 B0.size
  go_wp2_with fail
  refine (limbs_any _ _ _ _ _ o_d.ints (by omega)).mono ?_
  rintro e w2 ⟨A_x, m_x, c_x, rfl, hm_x, o_x, b2⟩
  replace o_d := o_d.below b2
  have B2 := below_step B1 b2 B1.size
  go_wp2_with fail
  go_ret
  rw [dv_dg] at o_x
  exact ⟨_, _, _, rfl, by omega, o_x.mono B1.size, B2⟩
set_option maxRecDepth 100000 in
set_option maxHeartbeats 800000 in
theorem rCmp_any (A0 : Option Addr) (n0 c0 : Nat) (l0 : List Nat) (A1 : Option Addr) (n1 c1 : Nat) (l1 : List Nat) (w : World) (hr_0 : Lim w A0 n0 c0 l0) (hr_1 : Lim w A1 n1 c1 l1) (hn0 : n0 ≤ 268435456) (hn1 : n1 ≤ 268435456) :
    Calls Tryd.prog 16 #[.slice A0 n0 c0, .slice A1 n1 c1] w fun e w' => e = .returned (.int .i64 (Num.cmp (vl l0) (vl l1))) ∧ Below w.heap.size w w' := by
  go_enter Tryd.func16, Tryd.ntmps16
  have B0 := Below.refl w.heap.size w
  go_wp2_with fail
  refine (digits_any _ _ _ _ _ (hr_0.below B0) (by omega)).mono ?_
  rintro e w1 ⟨A_d, m_d, c_d, rfl, hm_d, o_d, b1⟩
  have B1 := below_step B0 b1 B0.size
  go_wp2_with fail
  refine (digits_any _ _ _ _ _ (hr_1.below B1) (by omega)).mono ?_
  rintro e w2 ⟨A_f, m_f, c_f, rfl, hm_f, o_f, b2⟩
  replace o_d := o_d.below b2
  have B2 := below_step B1 b2 B1.size
  go_wp2_with fail
  refine (rcmp_any _ _ _ _ _ _ _ _ _ o_d.ints o_f.ints (by omega) (by omega)).mono ?_
  rintro e w3 ⟨rfl, rfl⟩
  go_wp2_with fail
  go_ret
  exact ⟨by rw [dv_dg, dv_dg]; rfl, B2⟩
set_option maxRecDepth 100000 in
set_option maxHeartbeats 800000 in
theorem rAdd_any (A0 : Option Addr) (n0 c0 : Nat) (l0 : List Nat) (A1 : Option Addr) (n1 c1 : Nat) (l1 : List Nat) (w : World) (hr_0 : Lim w A0 n0 c0 l0) (hr_1 : Lim w A1 n1 c1 l1) (hn0 : n0 ≤ 268435456) (hn1 : n1 ≤ 268435456) :
    Calls Tryd.prog 36 #[.slice A0 n0 c0, .slice A1 n1 c1] w fun e w' => ∃ A2 m c2, e = .returned (.slice A2 m c2) ∧ m ≤ 4 * n0 + 4 * n1 + 1 ∧ OwnL w' w.heap.size A2 m c2 (lmb (vl l0 + vl l1)) ∧ Below w.heap.size w w' := by
  go_enter Tryd.func36, Tryd.ntmps36
  have B0 := Below.refl w.heap.size w
  go_wp2_with fail
  refine (digits_any _ _ _ _ _ (hr_0.below B0) (by omega)).mono ?_
  rintro e w1 ⟨A_d, m_d, c_d, rfl, hm_d, o_d, b1⟩
  have B1 := below_step B0 b1 B0.size
  go_wp2_with fail
  refine (digits_any _ _ _ _ _ (hr_1.below B1) (by omega)).mono ?_
  rintro e w2 ⟨A_f, m_f, c_f, rfl, hm_f, o_f, b2⟩
  replace o_d := o_d.below b2
  have B2 := below_step B1 b2 B1.size
  go_wp2_with fail
  refine (radd_any _ _ _ _ _ _ _ _ _ o_d.ints o_f.ints (by omega) (by omega)).mono ?_
  rintro e w3 ⟨A_s, m_s, c_s, rfl, hm_s, o_s, b3⟩
  replace o_d := o_d.below b3
  replace o_f := o_f.below b3
  have B3 := below_step B2 b3 B2.size
  go_wp2_with fail
  refine (limbs_any _ _ _ _ _ o_s.ints (by omega)).mono ?_
  rintro e w4 ⟨A_x, m_x, c_x, rfl, hm_x, o_x, b4⟩
  replace o_d := o_d.below b4
  replace o_f := o_f.below b4
  replace o_s := o_s.below b4
  have B4 := below_step B3 b4 B3.size
  go_wp2_with fail
  go_ret
  rw [dv_dg, dv_dg, dv_dg] at o_x
  exact ⟨_, _, _, rfl, by omega, o_x.mono B3.size, B4⟩
set_option maxRecDepth 100000 in
set_option maxHeartbeats 800000 in
theorem rMul_any (A0 : Option Addr) (n0 c0 : Nat) (l0 : List Nat) (A1 : Option Addr) (n1 c1 : Nat) (l1 : List Nat) (w : World) (hr_0 : Lim w A0 n0 c0 l0) (hr_1 : Lim w A1 n1 c1 l1) (hn0 : n0 ≤ 268435456) (hn1 : n1 ≤ 268435456) :
    Calls Tryd.prog 37 #[.slice A0 n0 c0, .slice A1 n1 c1] w fun e w' => ∃ A2 m c2, e = .returned (.slice A2 m c2) ∧ m ≤ 4 * n0 + 4 * n1 + 1 ∧ OwnL w' w.heap.size A2 m c2 (lmb (vl l0 * vl l1)) ∧ Below w.heap.size w w' := by
  go_enter Tryd.func37, Tryd.ntmps37
  have B0 := Below.refl w.heap.size w
  go_wp2_with fail
  refine (digits_any _ _ _ _ _ (hr_0.below B0) (by omega)).mono ?_
  rintro e w1 ⟨A_d, m_d, c_d, rfl, hm_d, o_d, b1⟩
  have B1 := below_step B0 b1 B0.size
  go_wp2_with fail
  refine (digits_any _ _ _ _ _ (hr_1.below B1) (by omega)).mono ?_
  rintro e w2 ⟨A_f, m_f, c_f, rfl, hm_f, o_f, b2⟩
  replace o_d := o_d.below b2
  have B2 := below_step B1 b2 B1.size
  go_wp2_with fail
  refine (rmul_any _ _ _ _ _ _ _ _ _ o_d.ints o_f.ints (by omega) (by omega)).mono ?_
  rintro e w3 ⟨A_s, m_s, c_s, rfl, hm_s, o_s, b3⟩
  replace o_d := o_d.below b3
  replace o_f := o_f.below b3
  have B3 := below_step B2 b3 B2.size
  go_wp2_with fail
  refine (limbs_any _ _ _ _ _ o_s.ints (by omega)).mono ?_
  rintro e w4 ⟨A_x, m_x, c_x, rfl, hm_x, o_x, b4⟩
  replace o_d := o_d.below b4
  replace o_f := o_f.below b4
  replace o_s := o_s.below b4
  have B4 := below_step B3 b4 B3.size
  go_wp2_with fail
  go_ret
  rw [dv_dg, dv_dg, dv_dg] at o_x
  exact ⟨_, _, _, rfl, by omega, o_x.mono B3.size, B4⟩
end Go.Proofs.YticjhlbmdjijnaaDoor

/- The contract of nat.guess: a limb of a quotient from the highest limbs, at most one too great. No condition but the numbers' forms. -/
namespace Go.Proofs.YticjhlbmdjijnaaDoor
open Go.RowKit

namespace Num
/-- A dividend and a divisor seen from their highest limbs: P is the power below, high two limbs in one. -/
structure Tops (P U V high low top next : Nat) : Prop where
  p : 0 < P
  v : ∃ vl, vl < P ∧ V = vl + P * (next + 4294967296 * top)
  u : ∃ ul, ul < P ∧ U = ul + P * (low + 4294967296 * high)
  low : low < 4294967296
  next : next < 4294967296
  half : 2147483648 ≤ top
  topl : top < 4294967296
  fits : U < 4294967296 * V

section
variable {P U V high low top next : Nat}
theorem Tops.vpos (h : Tops P U V high low top next) : 0 < V := by
  have := h.fits
  rcases Nat.eq_zero_or_pos V with hv | hv
  · rw [hv] at this; omega
  · exact hv
theorem Tops.vge (h : Tops P U V high low top next) : P * (4294967296 * top) ≤ V := by
  obtain ⟨a, ha, e⟩ := h.v
  rw [e, Nat.mul_add]
  omega
theorem Tops.vlt (h : Tops P U V high low top next) : V < P * (4294967296 * (top + 1)) := by
  obtain ⟨a, ha, e⟩ := h.v
  have h1 : next + 1 + 4294967296 * top ≤ 4294967296 * (top + 1) := by have := h.next; omega
  have h2 := Nat.mul_le_mul_left P h1
  rw [show next + 1 + 4294967296 * top = (next + 4294967296 * top) + 1 by omega, Nat.mul_add P _ 1] at h2
  omega
theorem Tops.uge (h : Tops P U V high low top next) : P * (4294967296 * high) ≤ U := by
  obtain ⟨a, ha, e⟩ := h.u
  rw [e, Nat.mul_add]
  omega
theorem Tops.ult (h : Tops P U V high low top next) : U < P * (low + 4294967296 * high + 1) := by
  obtain ⟨a, ha, e⟩ := h.u
  rw [Nat.mul_add P _ 1, e]
  omega
theorem Tops.qlt (h : Tops P U V high low top next) : U / V < 4294967296 := (Nat.div_lt_iff_lt_mul h.vpos).2 h.fits
theorem Tops.start (h : Tops P U V high low top next) : U / V ≤ high / top ∧ high / top ≤ 4294967297 := by
  have ht : 0 < top := by have := h.half; omega
  constructor
  · rw [Nat.le_div_iff_mul_le ht]
    have h1 : U / V * V ≤ U := Nat.div_mul_le_self U V
    have h2 : U / V * (P * (4294967296 * top)) ≤ U := Nat.le_trans (Nat.mul_le_mul_left _ h.vge) h1
    have h3 : P * (4294967296 * (U / V * top)) < P * (4294967296 * (high + 1)) := by
      have e : U / V * (P * (4294967296 * top)) = P * (4294967296 * (U / V * top)) := by
        rw [Nat.mul_left_comm, Nat.mul_left_comm (U / V) 4294967296]
      rw [← e]
      refine Nat.lt_of_le_of_lt h2 (Nat.lt_of_lt_of_le h.ult (Nat.mul_le_mul_left _ ?_))
      have := h.low; omega
    have h4 := Nat.lt_of_mul_lt_mul_left h3
    omega
  · have h1 : P * (4294967296 * high) < P * (4294967296 * (4294967296 * (top + 1))) := by
      refine Nat.lt_of_le_of_lt h.uge (Nat.lt_trans h.fits ?_)
      have := Nat.mul_lt_mul_of_pos_left h.vlt (show 0 < 4294967296 by omega)
      rw [Nat.mul_left_comm] at this
      exact this
    have h2 := Nat.lt_of_mul_lt_mul_left h1
    have h3 : high < 4294967296 * (top + 1) := by omega
    have h5 : high / top < 4294967298 := by
      rw [Nat.div_lt_iff_lt_mul ht]
      have := h.half
      omega
    omega
theorem Tops.more (h : Tops P U V high low top next) {q r : Nat} (hq : q * top + r = high) (hc : 4294967296 ≤ q ∨ r * 4294967296 + low < q * next) : U / V < q := by
  rcases hc with hc | hc
  · exact Nat.lt_of_lt_of_le h.qlt hc
  · rw [Nat.div_lt_iff_lt_mul h.vpos]
    obtain ⟨a, ha, e⟩ := h.v
    refine Nat.lt_of_lt_of_le h.ult ?_
    have h1 : low + 4294967296 * high + 1 ≤ q * (next + 4294967296 * top) := by
      rw [Nat.mul_add, Nat.mul_left_comm q, ← hq]
      omega
    refine Nat.le_trans (Nat.mul_le_mul_left P h1) ?_
    rw [e, Nat.mul_left_comm P q]
    exact Nat.mul_le_mul_left q (Nat.le_add_left _ _)
theorem Tops.done (h : Tops P U V high low top next) {q r : Nat} (hq : q * top + r = high) (hq1 : q < 4294967296) (hc : q * next ≤ r * 4294967296 + low) : q ≤ U / V + 1 := by
  obtain ⟨a, ha, e⟩ := h.v
  obtain ⟨c, hc2, e2⟩ := h.u
  have h1 : q * (next + 4294967296 * top) ≤ low + 4294967296 * high := by
    rw [Nat.mul_add, Nat.mul_left_comm q, ← hq]
    omega
  have h2 : P * (q * (next + 4294967296 * top)) ≤ U := by
    have := Nat.mul_le_mul_left P h1
    omega
  have h3 : q * a < V := by
    have hv := h.vge
    have h4 : q * a ≤ q * P := Nat.mul_le_mul_left q (Nat.le_of_lt ha)
    have h5 : q * P < P * (4294967296 * top) := by
      rw [Nat.mul_comm q P]
      refine Nat.mul_lt_mul_of_pos_left ?_ h.p
      have := h.half; omega
    omega
  have h4 : q * V < U + V := by
    rw [show q * V = q * a + P * (q * (next + 4294967296 * top)) by rw [e, Nat.mul_add, Nat.mul_left_comm q P]]
    omega
  have h5 : q < U / V + 1 + 1 := by
    have h6 : q * V < (U / V + 1 + 1) * V := by
      have h7 : U < (U / V + 1) * V := by rw [Nat.mul_comm]; exact Nat.lt_mul_div_succ U h.vpos
      rw [Nat.add_mul (U / V + 1) 1 V]
      omega
    exact Nat.lt_of_mul_lt_mul_right h6
  omega
theorem Tops.brk (h : Tops P U V high low top next) {q r : Nat} (hq : q * top + r = high) (hq1 : q ≤ 4294967296) (hr : 4294967296 ≤ r) : q ≤ U / V := by
  rw [Nat.le_div_iff_mul_le h.vpos]
  refine Nat.le_trans (Nat.mul_le_mul_left q (Nat.le_of_lt h.vlt)) (Nat.le_trans ?_ h.uge)
  rw [Nat.mul_left_comm q P]
  refine Nat.mul_le_mul_left P ?_
  rw [Nat.mul_left_comm q]
  refine Nat.mul_le_mul_left _ ?_
  rw [Nat.mul_add, Nat.mul_one]
  omega
end
end Num

/-- A row of one limb more than the divisor, and the divisor, of two limbs at least, its highest bit set. -/
theorem tops_of (m v : List Nat) (n x0 x1 x2 t1 t2 : Nat) (hm : m.length = n + 1) (hv : v.length = n) (hn : 2 ≤ n) (hml : ∀ x ∈ m, x < 4294967296) (hvl : ∀ x ∈ v, x < 4294967296)
    (h0 : m[n]? = some x0) (h1 : m[n - 1]? = some x1) (h2 : m[n - 2]? = some x2) (k1 : v[n - 1]? = some t1) (k2 : v[n - 2]? = some t2) (hh : 2147483648 ≤ t1) (hf : vl m < 4294967296 * vl v) :
    Num.Tops (4294967296 ^ (n - 2)) (vl m) (vl v) (x0 * 4294967296 + x1) x2 t1 t2 where
  p := Nat.pow_pos (by omega)
  v := by
    refine ⟨vl (v.take (n - 2)), ?_, ?_⟩
    · have := Num.val_lt 4294967296 (v.take (n - 2)) (fun x hx => hvl x (List.mem_of_mem_take hx))
      rwa [List.length_take, Nat.min_eq_left (by omega)] at this
    · have e1 := vl_take_succ k2
      have e2 := vl_take_succ k1
      rw [show n - 2 + 1 = n - 1 by omega] at e1
      rw [show n - 1 + 1 = n by omega, List.take_of_length_le (by omega), e1, show n - 1 = n - 2 + 1 by omega, Nat.pow_succ] at e2
      rw [e2, Nat.mul_add, Nat.mul_assoc]
      omega
  u := by
    refine ⟨vl (m.take (n - 2)), ?_, ?_⟩
    · have := Num.val_lt 4294967296 (m.take (n - 2)) (fun x hx => hml x (List.mem_of_mem_take hx))
      rwa [List.length_take, Nat.min_eq_left (by omega)] at this
    · have e1 := vl_take_succ h2
      have e2 := vl_take_succ h1
      have e3 := vl_take_succ h0
      rw [show n - 2 + 1 = n - 1 by omega] at e1
      rw [show n - 1 + 1 = n by omega, e1, show n - 1 = n - 2 + 1 by omega, Nat.pow_succ] at e2
      rw [List.take_of_length_le (by omega), e2, show n = n - 2 + 1 + 1 by omega, Nat.pow_succ, Nat.pow_succ] at e3
      simp only [show n - 2 + 1 + 1 - 2 = n - 2 by omega] at e3
      rw [e3]
      simp only [Nat.mul_add, Nat.mul_assoc]
      rw [Nat.mul_comm x0 4294967296]
      omega
  low := hml _ (List.mem_of_getElem? h2)
  next := hvl _ (List.mem_of_getElem? k2)
  half := hh
  topl := hvl _ (List.mem_of_getElem? k1)
  fits := hf

set_option maxRecDepth 100000 in
set_option maxHeartbeats 1600000 in
theorem guess_any (A Av : Option Addr) (nu cu n cv : Nat) (h m t v : List Nat) (t1 : Nat) (w : World) (hr : Lim w A nu cu (h ++ (m ++ t))) (hv : Lim w Av n cv v)
    (hm : m.length = n + 1) (hn : 2 ≤ n) (hu : nu ≤ 1099511627776) (k1 : v[n - 1]? = some t1) (hh : 2147483648 ≤ t1) (hf : vl m < 4294967296 * vl v) :
    Calls Tryd.prog 60 #[.slice A nu cu, .slice Av n cv, .int .i64 (h.length : Nat)] w fun e w' => ∃ q, e = .returned (.int .u64 (q : Nat)) ∧ q < 4294967296 ∧ vl m / vl v ≤ q ∧ q ≤ vl m / vl v + 1 ∧ ∃ k, w' = w.drewN k := by
  have hvlen := hv.len
  have hlu := hr.len
  simp only [List.length_append] at hlu
  obtain ⟨j, hj⟩ : ∃ j, h.length = j := ⟨_, rfl⟩
  obtain ⟨b, off, x0, rfl, hb, hx0, hl0, hc0⟩ := hr.get (k := j + n) (by omega)
  obtain ⟨x1, hx1, hl1, hc1⟩ := hr.get' (k := j + (n - 1)) (by omega)
  obtain ⟨x2, hx2, hl2, hc2⟩ := hr.get' (k := j + (n - 2)) (by omega)
  obtain ⟨bv, ov, t1', rfl, hbv, ht1, htl1, hct1⟩ := hv.get (k := n - 1) (by omega)
  obtain ⟨t2, ht2, htl2, hct2⟩ := hv.get' (k := n - 2) (by omega)
  rw [ht1] at k1
  obtain rfl : t1' = t1 := Option.some.inj k1
  rw [← hj, mid_get h m t _ (by omega)] at hx0 hx1 hx2
  have hT := tops_of m v n x0 x1 x2 t1' t2 hm hvlen hn (fun x hx => hr.lt x (by simp [hx])) hv.lt hx0 hx1 hx2 ht1 ht2 hh hf
  generalize vl m = U at *
  generalize vl v = V at *
  have H0 := hT.start
  obtain ⟨H, hH⟩ : ∃ H, x0 * 4294967296 + x1 = H := ⟨_, rfl⟩
  rw [hH] at hT H0
  have hHl : H < 18446744073709551616 := by omega
  have hor := u64_or_nat (x0 * 4294967296) x1 (by omega) (by omega)
  rw [nat_join 32 _ _ (by omega) (by omega), hH] at hor
  replace hor : bits .or .u64 ((x0 : Int) * 4294967296) (x1 : Int) = (H : Int) := hor
  obtain ⟨q0, hq0⟩ : ∃ q0, H / t1' = q0 := ⟨_, rfl⟩
  obtain ⟨r0, hr0⟩ : ∃ r0, H % t1' = r0 := ⟨_, rfl⟩
  have hr0l : r0 < t1' := by rw [← hr0]; exact Nat.mod_lt _ (by omega)
  have hdm : q0 * t1' + r0 = H := by rw [← hq0, ← hr0, Nat.mul_comm]; exact Nat.div_add_mod H t1'
  have hq1 : (H : Int).tdiv (t1' : Int) = (q0 : Int) := by rw [Int.tdiv_eq_ediv_of_nonneg (by omega), ← Int.natCast_ediv, hq0]
  have hr1 : (H : Int).tmod (t1' : Int) = (r0 : Int) := by rw [Int.tmod_eq_emod_of_nonneg (by omega), ← Int.natCast_emod, hr0]
  rw [hq0] at H0
  obtain ⟨QT, hQT⟩ : ∃ QT, U / V = QT := ⟨_, rfl⟩
  rw [hQT] at H0 ⊢
  have HT : Hid (Num.Tops (4294967296 ^ (n - 2)) U V H x2 t1' t2) := hT
  have HM := Lib.hid hdm
  have HQ := Lib.hid hQT
  rw [hj]
  obtain ⟨a0, ha0⟩ : ∃ a0, j + n = a0 := ⟨_, rfl⟩
  obtain ⟨a1, ha1⟩ : ∃ a1, j + (n - 1) = a1 := ⟨_, rfl⟩
  obtain ⟨a2, ha2⟩ : ∃ a2, j + (n - 2) = a2 := ⟨_, rfl⟩
  obtain ⟨n1, hn1⟩ : ∃ n1, n - 1 = n1 := ⟨_, rfl⟩
  obtain ⟨n2, hn2⟩ : ∃ n2, n - 2 = n2 := ⟨_, rfl⟩
  rw [ha0] at hc0
  rw [ha1] at hc1
  rw [ha2] at hc2
  rw [hn1] at hct1
  rw [hn2] at hct2
  have s0 : IntKind.i64.wrap ((j : Int) + n) = (a0 : Int) := by rw [IntWalk.i64_in _ (by omega)]; omega
  have s1 : IntKind.i64.wrap ((a0 : Int) - 1) = (a1 : Int) := by rw [IntWalk.i64_in _ (by omega)]; omega
  have s2 : IntKind.i64.wrap ((a0 : Int) - 2) = (a2 : Int) := by rw [IntWalk.i64_in _ (by omega)]; omega
  have s3 : IntKind.i64.wrap ((n : Int) - 1) = (n1 : Int) := by rw [IntWalk.i64_in _ (by omega)]; omega
  have s4 : IntKind.i64.wrap ((n : Int) - 2) = (n2 : Int) := by rw [IntWalk.i64_in _ (by omega)]; omega
  have s5 : IntKind.u64.wrap (q0 : Int) = (q0 : Int) := IntWalk.u64_in _ (by omega)
  have b0 : (a0 : Int) < nu := by omega
  have b1 : (a1 : Int) < nu := by omega
  have b2 : (a2 : Int) < nu := by omega
  have b3 : (n1 : Int) < n := by omega
  have b4 : (n2 : Int) < n := by omega
  have ht0 : ((t1' : Int) == 0) = false := by simp; omega
  clear hT hdm hQT hH hq0 hr0 hx0 hx1 hx2 ht1 ht2 ha0 ha1 ha2 hn1 hn2 k1
  go_enter Tryd.func60, Tryd.ntmps60
  go_wp2_with (go_quiet (fail))
  go_loop [12, 13] (fun qv rv => ∃ q r : Nat, qv = .int .u64 q ∧ rv = .int .u64 r ∧ r < 4294967296 ∧ QT ≤ q ∧ q ≤ 4294967297 ∧ Hid (q * t1' + r = H)) (fun qv _ => (intOf qv).toNat)
  case atStart => exact ⟨q0, r0, rfl, rfl, by omega, H0.1, H0.2, HM⟩
  case round =>
    obtain ⟨q, r, rfl, rfl, hrl, hqt, hqu, HI⟩ := hrel
    clear s5 hq1 hr1 hor
    by_cases hA : 4294967296 ≤ q
    · have e0 : (q : Int) / 4294967296 = 1 := by omega
      have hmore : QT < q := by rw [← HQ.out]; exact HT.out.more HI.out (.inl hA)
      obtain ⟨q1, hq1⟩ : ∃ q1, q - 1 = q1 := ⟨_, rfl⟩
      obtain ⟨r1, hr1⟩ : ∃ r1, r + t1' = r1 := ⟨_, rfl⟩
      have e4 : (q : Int) - 1 = (q1 : Int) := by omega
      have e5 : (r : Int) + (t1' : Int) = (r1 : Int) := by omega
      have hr1l : r1 < 8589934592 := by omega
      have hI2 : q1 * t1' + r1 = H := by
        have h1 := HI.out
        rw [show q = q1 + 1 by omega, Nat.add_mul] at h1
        omega
      have HI2 := Lib.hid hI2
      have hq1u : q1 ≤ 4294967296 := by omega
      have hqt1 : QT ≤ q1 := by omega
      by_cases hbr : 4294967296 ≤ r1
      · have e6 : (r1 : Int) / 4294967296 = 1 := by omega
        have hfin : q1 ≤ U / V := HT.out.brk hI2 hq1u hbr
        have hlt1 : q1 < 4294967296 := Nat.lt_of_le_of_lt hfin HT.out.qlt
        rw [HQ.out] at hfin
        clear hI2 hq1 hr1 hm
        go_wp2_with fail
        go_ret
        exact ⟨q1, rfl, hlt1, hqt1, by omega, _, rfl⟩
      · have e6 : (r1 : Int) / 4294967296 = 0 := by omega
        have hlt1 : q1 < q := by omega
        clear hI2 hq1 hr1 hm
        go_wp2_with fail
        exact ⟨⟨q1, rfl, r1, rfl, by omega, hqt1, by omega, HI2⟩, by simp [intOf]; omega⟩
    · have e0 : (q : Int) / 4294967296 = 0 := by omega
      have hor := u64_or_nat (r * 4294967296) x2 (by omega) (by omega)
      obtain ⟨R, hR⟩ : ∃ R, r * 4294967296 + x2 = R := ⟨_, rfl⟩
      rw [nat_join 32 _ _ (by omega) (by omega), hR] at hor
      replace hor : bits .or .u64 ((r : Int) * 4294967296) (x2 : Int) = (R : Int) := hor
      obtain ⟨P, hP⟩ : ∃ P, q * t2 = P := ⟨_, rfl⟩
      have hPi : (q : Int) * (t2 : Int) = (P : Int) := by rw [← hP]; simp
      have hPl : P ≤ 18446744065119617025 := by
        rw [← hP]
        exact Nat.le_trans (Nat.mul_le_mul (show q ≤ 4294967295 by omega) (Nat.le_of_lt_succ htl2)) (by decide)
      by_cases hC : R < P
      · have hmore : QT < q := by rw [← HQ.out]; exact HT.out.more HI.out (.inr (by rw [hR, hP]; exact hC))
        have hd : decide ((R : Int) < P) = true := by simp; exact hC
        clear hR hP
        obtain ⟨q1, hq1⟩ : ∃ q1, q - 1 = q1 := ⟨_, rfl⟩
        obtain ⟨r1, hr1⟩ : ∃ r1, r + t1' = r1 := ⟨_, rfl⟩
        have e4 : (q : Int) - 1 = (q1 : Int) := by omega
        have e5 : (r : Int) + (t1' : Int) = (r1 : Int) := by omega
        have hr1l : r1 < 8589934592 := by omega
        have hI2 : q1 * t1' + r1 = H := by
          have h1 := HI.out
          rw [show q = q1 + 1 by omega, Nat.add_mul] at h1
          omega
        have HI2 := Lib.hid hI2
        have hq1u : q1 ≤ 4294967296 := by omega
        have hqt1 : QT ≤ q1 := by omega
        by_cases hbr : 4294967296 ≤ r1
        · have e6 : (r1 : Int) / 4294967296 = 1 := by omega
          have hfin : q1 ≤ U / V := HT.out.brk hI2 hq1u hbr
          have hlt1 : q1 < 4294967296 := Nat.lt_of_le_of_lt hfin HT.out.qlt
          rw [HQ.out] at hfin
          clear hI2 hq1 hr1 hm
          go_wp2_with fail
          go_ret
          exact ⟨q1, rfl, hlt1, hqt1, by omega, _, rfl⟩
        · have e6 : (r1 : Int) / 4294967296 = 0 := by omega
          have hlt1 : q1 < q := by omega
          clear hI2 hq1 hr1 hm
          go_wp2_with fail
          exact ⟨⟨q1, rfl, r1, rfl, by omega, hqt1, by omega, HI2⟩, by simp [intOf]; omega⟩
      · have hfin : q ≤ QT + 1 := by rw [← HQ.out]; exact HT.out.done HI.out (by omega) (by rw [hR, hP]; omega)
        have hd : decide ((R : Int) < P) = false := by simp; omega
        clear hR hP
        go_wp2_with fail
        go_ret
        exact ⟨q, rfl, by omega, hqt, hfin, _, rfl⟩
end Go.Proofs.YticjhlbmdjijnaaDoor
