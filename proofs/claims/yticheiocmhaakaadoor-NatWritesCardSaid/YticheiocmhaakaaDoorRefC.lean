/- The contracts of heijunkaref01.add, sub, mul. No condition but the reach of a slice. -/
import Derived.Test.YticheiocmhaakaaDoorRefB
import Derived.IntWalk
import Derived.Deep.RegionHeld3
namespace Go.Proofs.YticheiocmhaakaaDoor
open Go.RowKit

theorem dv_take_succ {l : List Nat} {k x : Nat} (h : l[k]? = some x) : dv (l.take (k + 1)) = dv (l.take k) + 256 ^ k * x := Num.val_take_succ _ h
theorem dv_snoc (l : List Nat) (x : Nat) : dv (l ++ [x]) = dv l + 256 ^ l.length * x := Num.val_snoc _ l x
theorem dv_set {l : List Nat} {k x : Nat} (y : Nat) (h : l[k]? = some x) : dv (l.set k y) + 256 ^ k * x = dv l + 256 ^ k * y := Num.val_set _ y h
theorem dv_lt (l : List Nat) (h : ∀ x ∈ l, x < 256) : dv l < 256 ^ l.length := Num.val_lt _ l h
theorem add_step' (P s t u C x y z C' : Nat) (hs : s + P * C = t + u) (h : x + y + C = z + 256 * C') : s + P * z + P * 256 * C' = (t + P * x) + (u + P * y) := by
  have h1 : P * (x + y + C) = P * (z + 256 * C') := by rw [h]
  simp only [Nat.mul_add, ← Nat.mul_assoc] at h1
  omega

set_option maxRecDepth 100000 in
set_option maxHeartbeats 1600000 in
theorem radd_any (A A' : Option Addr) (n c n' c' : Nat) (l l' : List Nat) (w : World) (hr : Dg w A n c l) (hr' : Dg w A' n' c' l') (hn : n ≤ 4398046511104) (hn' : n' ≤ 4398046511104) :
    Calls Tryd.prog 45 #[.slice A n c, .slice A' n' c'] w fun e w' => ∃ A2 m c2, e = .returned (.slice A2 m c2) ∧ m ≤ max n n' + 1 ∧ OwnD w' w.heap.size A2 m c2 (dg (dv l + dv l')) ∧ Below w.heap.size w w' := by
  have hlen := hr.len
  have hlen' := hr'.len
  obtain ⟨N, hN⟩ : ∃ N, max n n' = N := ⟨_, rfl⟩
  have hN1 : N ≤ 4398046511104 := by omega
  have hl1 : n ≤ N := by omega
  have hl2 : n' ≤ N := by omega
  have hl3 : N ≤ n ∨ N ≤ n' := by omega
  rw [hN]
  clear hN
  go_enter Tryd.func45, Tryd.ntmps45
  go_wp2_with fail
  go_loopw [5, 6, 7] (fun ov cv iv wr => ∃ (k cy : Nat) (C : Option Addr) (y : Nat) (o : List Nat), k ≤ N + 1 ∧ iv = .int .i64 k ∧ cv = .int .i64 cy ∧ cy ≤ 1 ∧ ov = .slice C k y ∧ OwnD wr w.heap.size C k y o ∧ Hid (dv o + 256 ^ k * cy = dv (l.take k) + dv (l'.take k)) ∧ Below w.heap.size w wr) (fun _ _ iv _ => N + 1 - (intOf iv).toNat)
  case atStart =>
    refine ⟨0, 0, none, 0, [], by omega, rfl, rfl, by omega, rfl, OwnI.nil_ .., ?_, Below.refl _ _⟩
    show _ = _
    simp [dv, Num.val]
  case round =>
    obtain ⟨k, cy, C, y, o, hk, rfl, rfl, hcy, rfl, hoo, HS, hb⟩ := hrel
    have hol := hoo.len
    by_cases hlt : k ≤ N
    · obtain ⟨x, hx⟩ : ∃ x, l[k]?.getD 0 = x := ⟨_, rfl⟩
      obtain ⟨y', hy⟩ : ∃ y, l'[k]?.getD 0 = y := ⟨_, rfl⟩
      have hxl := getD_lt (by omega) hr.lt k x hx
      have hyl := getD_lt (by omega) hr'.lt k y' hy
      have ha := fun w0 h0 => at_any A n c l w0 h0 k x hx
      have hb' := fun w0 h0 => at_any A' n' c' l' w0 h0 k y' hy
      obtain ⟨s, hs⟩ : ∃ s, x + y' + cy = s := ⟨_, rfl⟩
      obtain ⟨z, hz⟩ : ∃ z, s % 256 = z := ⟨_, rfl⟩
      obtain ⟨c1, hc1⟩ : ∃ c1, s / 256 = c1 := ⟨_, rfl⟩
      have hzl : z < 256 := by omega
      have hsl : s ≤ 511 := by omega
      have hc1l : c1 ≤ 1 := by omega
      have es : (x : Int) + (y' : Int) + (cy : Int) = (s : Int) := by omega
      have e1 : (s : Int) % 256 = (z : Int) := by omega
      have e1t : (s : Int).tmod 256 = (z : Int) := by rw [Int.tmod_eq_emod_of_nonneg (by omega)]; omega
      have e2 : (s : Int) / 256 = (c1 : Int) := by omega
      have e2t : (s : Int).tdiv 256 = (c1 : Int) := by rw [Int.tdiv_eq_ediv_of_nonneg (by omega)]; omega
      have HS2 : Hid (dv (o ++ [z]) + 256 ^ (k + 1) * c1 = dv (l.take (k + 1)) + dv (l'.take (k + 1))) := by
        show _ = _
        rw [dv_snoc, hol, dv_take_getD l k x hx, dv_take_getD l' k y' hy, Nat.pow_succ]
        exact add_step' _ _ _ _ cy x y' z c1 HS.out (by omega)
      clear hx hy hs hz hc1 hol
      have hwa : Dg wr A n c l := hr.below hb
      have hwb : Dg wr A' n' c' l' := hr'.below hb
      rcases (show k ≤ n ∨ (¬ k ≤ n ∧ k ≤ n') by omega) with hk1 | ⟨hk1, hk2⟩
      all_goals
        go_wp2_with fail
        refine (ha _ hwa).mono ?_; rintro e w' ⟨rfl, rfl⟩
        go_wp2_with fail
        refine (hb' _ hwb).mono ?_; rintro e w' ⟨rfl, rfl⟩
        go_wp2_with (at_builtin; refine wpList_appI _ rfl _ _ _ rfl 3 8 Tryd.underlying49 info_int (by omega) (hoo.alloc _) rfl (Ints.one .i64 256 3 z rfl hzl rfl) rfl (by omega) (by simp; have := hb.size; omega) ?_; intro A3 c3 w3 ho3 hg3 ha3)
        exact ⟨⟨k + 1, c1, A3, c3, _, by omega, by go_num, rfl, hc1l, rfl, ho3, HS2, below_own (hb.alloc hb.size _) hg3 (by simp; have := hb.size; omega) (fun ad h => (hoo.lt_ ad h).1)⟩, by simp [intOf]; omega⟩
    · obtain rfl : k = N + 1 := by omega
      have hfin : dv o = dv l + dv l' := by
        have h1 := HS.out
        rw [List.take_of_length_le (l := l) (by omega), List.take_of_length_le (l := l') (by omega)] at h1
        have h2 := dv_lt l hr.lt
        have h3 := dv_lt l' hr'.lt
        have h4 : 256 ^ l.length ≤ 256 ^ N := Nat.pow_le_pow_right (by decide) (by omega)
        have h5 : 256 ^ l'.length ≤ 256 ^ N := Nat.pow_le_pow_right (by decide) (by omega)
        rw [Nat.pow_succ] at h1
        rcases (show cy = 0 ∨ cy = 1 by omega) with rfl | rfl
        · omega
        · omega
      have HF := Lib.hid hfin
      have hct := fun w0 h0 => cut_any C (N + 1) y o w0 h0 (by omega)
      have hk1 : ¬ ((N : Int) + 1 ≤ (n : Int)) := by omega
      have hk2 : ¬ ((N : Int) + 1 ≤ (n' : Int)) := by omega
      clear hfin hol
      go_wp2_with fail
      refine (hct _ hoo.ints).mono ?_; rintro e w2 ⟨m, hm, rfl, hd, rfl⟩
      rw [HF.out] at hd
      have HD := Lib.hid hd
      clear hd hct
      go_wp2_with fail
      go_ret
      exact ⟨C, m, y, rfl, hm, by rw [← HD.out]; exact hoo.shrink hm, hb⟩

set_option maxRecDepth 100000 in
set_option maxHeartbeats 1600000 in
theorem rsub_any (A A' : Option Addr) (n c n' c' : Nat) (l l' : List Nat) (w : World) (hr : Dg w A n c l) (hr' : Dg w A' n' c' l') (hn : n ≤ 4398046511104) (_hn' : n' ≤ 4398046511104) (hle : dv l' ≤ dv l) :
    Calls Tryd.prog 40 #[.slice A n c, .slice A' n' c'] w fun e w' => ∃ A2 m c2, e = .returned (.slice A2 m c2) ∧ m ≤ n ∧ OwnD w' w.heap.size A2 m c2 (dg (dv l - dv l')) ∧ Below w.heap.size w w' := by
  have hlen := hr.len
  have hlen' := hr'.len
  go_enter Tryd.func40, Tryd.ntmps40
  go_wp2_with fail
  go_loopw [5, 6, 7] (fun ov cv iv wr => ∃ (k cy : Nat) (C : Option Addr) (y : Nat) (o : List Nat), k ≤ n ∧ iv = .int .i64 k ∧ cv = .int .i64 cy ∧ cy ≤ 1 ∧ ov = .slice C k y ∧ OwnD wr w.heap.size C k y o ∧ Hid (dv o + dv (l'.take k) = dv (l.take k) + 256 ^ k * cy) ∧ Below w.heap.size w wr) (fun _ _ iv _ => n - (intOf iv).toNat)
  case atStart =>
    refine ⟨0, 0, none, 0, [], by omega, rfl, rfl, by omega, rfl, OwnI.nil_ .., ?_, Below.refl _ _⟩
    show _ = _
    simp [dv, Num.val]
  case round =>
    obtain ⟨k, cy, C, y, o, hk, rfl, rfl, hcy, rfl, hoo, HS, hb⟩ := hrel
    have hol := hoo.len
    by_cases hlt : k < n
    · have hwb : Dg wr A' n' c' l' := hr'.below hb
      obtain ⟨ba, off, x, rfl, hbs, hx, hxl, hc⟩ := (hr.below hb).get hlt
      obtain ⟨y', hy⟩ : ∃ y, l'[k]?.getD 0 = y := ⟨_, rfl⟩
      have hyl := getD_lt (by omega) hr'.lt k y' hy
      have hat := fun w0 h0 => at_any A' n' c' l' w0 h0 k y' hy
      obtain ⟨u, hu⟩ : ∃ u : Int, (x : Int) - (y' : Int) = u := ⟨_, rfl⟩
      obtain ⟨t, ht⟩ : ∃ t : Int, u - (cy : Int) = t := ⟨_, rfl⟩
      have s1 : IntKind.i64.wrap ((x : Int) - (y' : Int)) = u := by rw [IntWalk.i64_in _ (by omega)]; omega
      have s2 : IntKind.i64.wrap (u - (cy : Int)) = t := by rw [IntWalk.i64_in _ (by omega)]; omega
      have kn : (k : Int) < (n : Int) := by omega
      have hstep : ∀ z b : Nat, z + y' + cy = x + 256 * b → dv (o ++ [z]) + dv (l'.take (k + 1)) = dv (l.take (k + 1)) + 256 ^ (k + 1) * b := by
        intro z b h
        rw [dv_snoc, hol, dv_take_succ hx, dv_take_getD l' k y' hy, Nat.pow_succ]
        have h1 : 256 ^ k * (z + y' + cy) = 256 ^ k * (x + 256 * b) := by rw [h]
        have h2 := HS.out
        simp only [Nat.mul_add, ← Nat.mul_assoc] at h1
        omega
      have HST := Lib.hid hstep
      by_cases hneg : t < 0
      · obtain ⟨z, hz⟩ : ∃ z : Nat, t + 256 = (z : Int) := ⟨(t + 256).toNat, by omega⟩
        have hzl : z < 256 := by omega
        have HS2 := Lib.hid (hstep z 1 (by omega))
        have hd : decide (t < 0) = true := by simp; exact hneg
        have htb : -300 ≤ t := by omega
        clear hx hy hu ht hol hstep
        go_wp2_with fail
        go_region_held3 (fun w' => w'.cell? ⟨ba, off + k, none⟩ = some (.int .i64 (x : Int))) (exact hc)
          ((go_at_call 55; refine (hat _ ?_).mono ?_; (first | exact hwb.drew | exact hwb); rintro e w' ⟨rfl, rfl⟩))
        go_wp2_with (at_builtin; refine wpList_appI _ rfl _ _ _ rfl 3 8 Tryd.underlying49 info_int (by omega) ((hoo.alloc _).drew) rfl ((Ints.one .i64 256 3 z rfl hzl rfl).drew) rfl (by omega) (by simp; have := hb.size; omega) ?_; intro A3 c3 w3 ho3 hg3 ha3)
        exact ⟨⟨k + 1, 1, A3, c3, _, by omega, by go_num, rfl, by omega, rfl, ho3, HS2, below_own (hb.alloc hb.size _).drew hg3 (by simp; have := hb.size; omega) (fun ad h => (hoo.lt_ ad h).1)⟩, by simp [intOf]; omega⟩
      · obtain ⟨z, hz⟩ : ∃ z : Nat, t = (z : Int) := ⟨t.toNat, by omega⟩
        subst hz
        have hzl : z < 256 := by omega
        have HS2 := Lib.hid (hstep z 0 (by omega))
        have hd : decide ((z : Int) < 0) = false := by simp
        clear hx hy hu ht hol hstep
        go_wp2_with fail
        go_region_held3 (fun w' => w'.cell? ⟨ba, off + k, none⟩ = some (.int .i64 (x : Int))) (exact hc)
          ((go_at_call 55; refine (hat _ ?_).mono ?_; (first | exact hwb.drew | exact hwb); rintro e w' ⟨rfl, rfl⟩))
        go_wp2_with (at_builtin; refine wpList_appI _ rfl _ _ _ rfl 3 8 Tryd.underlying49 info_int (by omega) ((hoo.alloc _).drew) rfl ((Ints.one .i64 256 3 z rfl hzl rfl).drew) rfl (by omega) (by simp; have := hb.size; omega) ?_; intro A3 c3 w3 ho3 hg3 ha3)
        exact ⟨⟨k + 1, 0, A3, c3, _, by omega, by go_num, rfl, by omega, rfl, ho3, HS2, below_own (hb.alloc hb.size _).drew hg3 (by simp; have := hb.size; omega) (fun ad h => (hoo.lt_ ad h).1)⟩, by simp [intOf]; omega⟩
    · obtain rfl : k = n := by omega
      have hfin : dv o = dv l - dv l' := Num.sub_fin l l' o k cy hlen hol hr.lt hoo.lt hle (by
        have h1 := HS.out
        rw [List.take_of_length_le (l := l) (by omega)] at h1
        exact h1)
      have HF := Lib.hid hfin
      have hct := fun w0 h0 => cut_any C k y o w0 h0 (by omega)
      clear hfin hol
      go_wp2_with fail
      refine (hct _ hoo.ints).mono ?_; rintro e w2 ⟨m, hm, rfl, hd, rfl⟩
      rw [HF.out] at hd
      have HD := Lib.hid hd
      clear hd hct
      go_wp2_with fail
      go_ret
      exact ⟨C, m, y, rfl, hm, by rw [← HD.out]; exact hoo.shrink hm, hb⟩

theorem mkI_int {w : World} {ops : Array Oper} {rest : List Oper} {o : Oper} {a : Act} {Q : Exit → Act → World → Prop} (hgd : o.guard = none) (l c : Operand) (ho : o.op = Op.makeSlice 49 l c) {kl kc : IntKind} {L C : Int} (n : Nat) (hl : a.eval l = .int kl L) (hc : a.eval c = .int kc C) (hL : L = (n : Int)) (hC : C = (n : Int)) (hn : n ≤ 17592186044416)
    (base : Nat) (hbase : base ≤ w.heap.size)
    (h : ∀ w', OwnD w' base (some ⟨w.heap.size, 0, none⟩) n n (List.replicate n 0) → w.grownBy w' none → wpList Tryd.prog ops Q rest (a.put o.dst (.slice (some ⟨w.heap.size, 0, none⟩) n n)) w') :
    wpList Tryd.prog ops Q (o :: rest) a w :=
  wpList_mkI w hgd l c 49 ho (lim := 256) (by omega) 3 8 Tryd.underlying49 info_int n hl hc hL hC (by omega) (by unfold maxLen; omega) base hbase h
theorem rmul_step (Pk Pj vo vo' t V C x y z d C1 : Nat) (hs : vo + Pk * Pj * C = t + Pk * x * V) (hv : vo' + Pk * Pj * z = vo + Pk * Pj * d) (h : z + x * y + C = d + 256 * C1) :
    vo' + Pk * (Pj * 256) * C1 = t + Pk * x * (V + Pj * y) := by
  have h1 : Pk * Pj * (z + x * y + C) = Pk * Pj * (d + 256 * C1) := by rw [h]
  have e : Pk * x * (V + Pj * y) = Pk * x * V + Pk * Pj * (x * y) := by
    rw [Nat.mul_add]
    congr 1
    rw [Nat.mul_assoc, Nat.mul_assoc, Nat.mul_left_comm x Pj y]
  rw [Nat.mul_add, Nat.mul_add, Nat.mul_add, ← Nat.mul_assoc (Pk * Pj) 256] at h1
  rw [e, ← Nat.mul_assoc Pk Pj 256]
  omega

set_option maxRecDepth 100000 in
set_option maxHeartbeats 3200000 in
theorem rmul_any (A A' : Option Addr) (n c n' c' : Nat) (l l' : List Nat) (w : World) (hr : Dg w A n c l) (hr' : Dg w A' n' c' l') (hn : n ≤ 4398046511104) (hn' : n' ≤ 4398046511104) :
    Calls Tryd.prog 46 #[.slice A n c, .slice A' n' c'] w fun e w' => ∃ A2 m c2, e = .returned (.slice A2 m c2) ∧ m ≤ n + n' + 1 ∧ OwnD w' w.heap.size A2 m c2 (dg (dv l * dv l')) ∧ Below w.heap.size w w' := by
  have hlen := hr.len
  have hlen' := hr'.len
  obtain ⟨N, hN⟩ : ∃ N, n + n' + 1 = N := ⟨_, rfl⟩
  have eN : (n : Int) + (n' : Int) + 1 = (N : Int) := by omega
  go_enter Tryd.func46, Tryd.ntmps46
  go_wp2_with (refine mkI_int rfl _ _ rfl N rfl rfl (by omega) (by omega) (by omega) w.heap.size (Nat.le_refl _) ?_; intro w2 hown hg2)
  have hb2 := below_none (Below.refl w.heap.size w) hg2 (Nat.le_refl _)
  go_loopw [6] (fun i wr => ∃ k : Nat, k ≤ n ∧ i = .int .i64 k ∧ ∃ o : List Nat, OwnD wr w.heap.size (some ⟨w.heap.size, 0, none⟩) N N o ∧
      Hid (dv o = dv (l.take k) * dv l') ∧ Hid (∀ j z : Nat, k + n' ≤ j → o[j]? = some z → z = 0) ∧ Below w.heap.size w wr) (fun i _ => n - (intOf i).toNat)
  case atStart =>
    refine ⟨0, by omega, rfl, _, hown, ?_, ?_, hb2⟩
    · show _ = _
      simp [dv, Num.val, Num.val_zeros]
    · show ∀ j z : Nat, _
      intro j z _ hz
      simp [List.getElem?_replicate] at hz
      omega
  case round =>
    obtain ⟨k, hk, rfl, o, ho, HV, HZ, hb⟩ := hrel
    by_cases hlt : k < n
    · obtain ⟨ba, off, x, rfl, hbs, hx, hxl, hc⟩ := hr.get hlt
      have HX := Lib.hid hx
      clear hx
      go_wp2_with fail
      go_loopw [7, 8] (fun cv jv wj => ∃ j C : Nat, j ≤ n' + 1 ∧ jv = .int .i64 j ∧ cv = .int .i64 C ∧ C < 256 ∧ (n' < j → C = 0) ∧ ∃ o : List Nat, OwnD wj w.heap.size (some ⟨w.heap.size, 0, none⟩) N N o ∧
          Hid (dv o + 256 ^ k * 256 ^ j * C = dv (l.take k) * dv l' + 256 ^ k * x * dv (l'.take j)) ∧ Hid (∀ t z : Nat, k + j ≤ t → k + n' ≤ t → o[t]? = some z → z = 0) ∧ Below w.heap.size w wj) (fun _ jv _ => n' + 1 - (intOf jv).toNat)
      case atStart =>
        refine ⟨0, 0, by omega, rfl, rfl, by omega, fun _ => rfl, o, ho, ?_, ?_, hb⟩
        · show _ = _
          rw [HV.out]; simp [dv, Num.val]
        · show ∀ t z : Nat, _
          intro t z _ h hz
          exact HZ.out t z h hz
      case round =>
        obtain ⟨j, C, hj, rfl, rfl, hC, hC0, o, ho, HS, HZ, hb⟩ := hrel
        by_cases hgo : j < n' ∨ 0 < C
        · have hjn : j ≤ n' := by
            rcases Nat.lt_or_ge n' j with h | h
            · have := hC0 h; omega
            · exact h
          obtain ⟨y, hy⟩ : ∃ y, l'[j]?.getD 0 = y := ⟨_, rfl⟩
          have hyl := getD_lt (by omega) hr'.lt j y hy
          have hat := fun w0 h0 => at_any A' n' c' l' w0 h0 j y hy
          obtain ⟨p, hp⟩ : ∃ p, k + j = p := ⟨_, rfl⟩
          obtain ⟨g, z, he, _, _, hz, hzl, hco, hf⟩ := ho.get (k := p) (by omega)
          cases he
          obtain ⟨P, hP⟩ : ∃ P, x * y = P := ⟨_, rfl⟩
          have hPl : P ≤ 65025 := by rw [← hP]; exact Nat.mul_le_mul (Nat.le_of_lt_succ hxl) (Nat.le_of_lt_succ hyl)
          have hPi : (x : Int) * (y : Int) = (P : Int) := by rw [← hP]; simp
          obtain ⟨u, hu⟩ : ∃ u, z + P = u := ⟨_, rfl⟩
          obtain ⟨s, hs⟩ : ∃ s, u + C = s := ⟨_, rfl⟩
          obtain ⟨d, hd⟩ : ∃ d, s % 256 = d := ⟨_, rfl⟩
          obtain ⟨C1, hC1⟩ : ∃ C1, s / 256 = C1 := ⟨_, rfl⟩
          have hdl : d < 256 := by omega
          have hC1l : C1 < 256 := by omega
          have hsl : s ≤ 65535 := by omega
          have hC10 : n' < j + 1 → C1 = 0 := by
            intro h
            have hz0 : z = 0 := HZ.out p z (by omega) (by omega) hz
            have hy0 : y = 0 := by rw [← hy, List.getElem?_eq_none (by omega)]; rfl
            have hP0 : P = 0 := by rw [← hP, hy0, Nat.mul_zero]
            omega
          have s1 : IntKind.i64.wrap ((k : Int) + (j : Int)) = (p : Int) := by rw [IntWalk.i64_in _ (by omega)]; omega
          have s2 : IntKind.i64.wrap (P : Int) = (P : Int) := IntWalk.i64_in _ (by omega)
          have s3 : IntKind.i64.wrap ((z : Int) + (P : Int)) = (u : Int) := by rw [IntWalk.i64_in _ (by omega)]; omega
          have s4 : IntKind.i64.wrap ((u : Int) + (C : Int)) = (s : Int) := by rw [IntWalk.i64_in _ (by omega)]; omega
          have ep : (k : Int) + (j : Int) = (p : Int) := by omega
          have s0 : IntKind.i64.wrap (p : Int) = (p : Int) := IntWalk.i64_in _ (by omega)
          have e1 : (s : Int) % 256 = (d : Int) := by omega
          have e1t : (s : Int).tmod 256 = (d : Int) := by rw [Int.tmod_eq_emod_of_nonneg (by omega)]; omega
          have e2 : (s : Int) / 256 = (C1 : Int) := by omega
          have e2t : (s : Int).tdiv 256 = (C1 : Int) := by rw [Int.tdiv_eq_ediv_of_nonneg (by omega)]; omega
          have hpN : (p : Int) < (N : Int) := by omega
          have hkn : (k : Int) < (n : Int) := by omega
          have hcx : wr.cell? ⟨ba, off + k, none⟩ = some (.int .i64 (x : Int)) := (hb.cell (p := ⟨ba, off + k, none⟩) hbs).trans hc
          have HS2 : Hid (dv (o.set p d) + 256 ^ k * 256 ^ (j + 1) * C1 = dv (l.take k) * dv l' + 256 ^ k * x * dv (l'.take (j + 1))) := by
            show _ = _
            rw [dv_take_getD l' j y hy, Nat.pow_succ]
            refine rmul_step (256 ^ k) (256 ^ j) (dv o) _ _ _ C x y z d C1 HS.out ?_ (by rw [hP]; omega)
            rw [← Nat.pow_add, hp]
            exact dv_set d hz
          have HZ2 : Hid (∀ t z' : Nat, k + (j + 1) ≤ t → k + n' ≤ t → (o.set p d)[t]? = some z' → z' = 0) := by
            show ∀ t z' : Nat, _
            intro t z' h1 h2 h3
            rw [List.getElem?_set_ne (by omega)] at h3
            exact HZ.out t z' (by omega) h2 h3
          have hwb : Dg wr A' n' c' l' := hr'.below hb
          have hgo' : (j : Int) < (n' : Int) ∨ (¬ (j : Int) < (n' : Int) ∧ (C : Int) > 0) := by omega
          clear hz hy hP hu hs hd hC1 hp hgo
          rcases hgo' with hg1 | ⟨hg1, hg3⟩
          all_goals
            go_wp2_with fail
            go_region_held3 (fun w' => w'.cell? ⟨ba, off + k, none⟩ = some (.int .i64 (x : Int)) ∧ w'.cell? ⟨w.heap.size, p, none⟩ = some (.int .i64 (z : Int))) (exact ⟨hcx, hco⟩)
              ((go_at_call 55; refine (hat _ ?_).mono ?_; (first | exact hwb.drew | exact hwb); rintro e w' ⟨rfl, rfl⟩))
            go_wp2_with fail
            exact ⟨⟨j + 1, C1, by omega, by go_num, rfl, hC1l, hC10, _, (ho.stored p d hdl).drew, HS2, HZ2, (hb.setCell (Nat.le_refl _) _).drew⟩, by simp [intOf]; omega⟩
        · obtain rfl : C = 0 := by omega
          have hjn : n' ≤ j := by omega
          have HF : Hid (dv o = dv (l.take (k + 1)) * dv l') := by
            show _ = _
            have h1 := HS.out
            rw [List.take_of_length_le (l := l') (by omega), Nat.mul_zero, Nat.add_zero] at h1
            rw [h1, dv_take_succ HX.out, Nat.add_mul]
          have HZ2 : Hid (∀ t z : Nat, k + 1 + n' ≤ t → o[t]? = some z → z = 0) := by
            show ∀ t z : Nat, _
            intro t z h1 h2
            exact HZ.out t z (by omega) (by omega) h2
          have hg1 : ¬ ((j : Int) < (n' : Int)) := by omega
          clear hgo
          go_wp2_with fail
          exact ⟨⟨k + 1, by omega, by go_num, o, ho, HF, HZ2, hb⟩, by simp [intOf]; omega⟩
    · obtain rfl : k = n := by omega
      have hfin : dv o = dv l * dv l' := by
        have h1 := HV.out
        rwa [List.take_of_length_le (by omega)] at h1
      have HF := Lib.hid hfin
      have hct := fun w0 h0 => cut_any (some ⟨w.heap.size, 0, none⟩) N N o w0 h0 (by omega)
      clear hfin
      go_wp2_with fail
      refine (hct _ ho.ints).mono ?_; rintro e w2 ⟨m, hm, rfl, hd, rfl⟩
      rw [HF.out] at hd
      have HD := Lib.hid hd
      clear hd hct
      go_wp2_with fail
      go_ret
      exact ⟨_, m, _, rfl, by omega, by rw [← HD.out]; exact ho.shrink hm, hb⟩
end Go.Proofs.YticheiocmhaakaaDoor
