/- The contracts of heijunkaref01.div, Trim, Cmp, Add, Sub, Mul, Div, Gcd. No condition but the reach of a slice. -/
import Derived.Test.YticheiocmhaakaaDoorRefC
import Derived.OwnWalk
namespace Go.Proofs.YticheiocmhaakaaDoor
open Go.RowKit

theorem dg_cons_len {a R V : Nat} (ha : a < 256) (hR : R < V) : a + 256 * R < 256 * V := by omega
theorem dg_len_lt {R V n' : Nat} (hR : R < V) (hV : (dg V).length ≤ n') : (dg R).length ≤ n' := Nat.le_trans (Num.dig_len_mono (by decide) (by omega)) hV

set_option maxRecDepth 100000 in
set_option maxHeartbeats 3200000 in
theorem rdiv_any (A A' : Option Addr) (n c n' c' : Nat) (l l' : List Nat) (w : World) (hr : Dg w A n c l) (hr' : Dg w A' n' c' l') (hn : n ≤ 4398046511104) (hn' : n' ≤ 4398046511103) (hV : 0 < dv l') :
    Calls Tryd.prog 52 #[.slice A n c, .slice A' n' c'] w fun e w' => ∃ A2 m c2 A3 m3 c3, e = .returned (.tuple #[.slice A2 m c2, .slice A3 m3 c3]) ∧ m ≤ n ∧ m3 ≤ n' ∧ OwnD w' w.heap.size A2 m c2 (dg (dv l / dv l')) ∧ OwnD w' w.heap.size A3 m3 c3 (dg (dv l % dv l')) ∧ Below w.heap.size w w' := by
  have hlen := hr.len
  have hlen' := hr'.len
  have hVl : (dg (dv l')).length ≤ n' := by rw [← hlen']; exact dg_len l' hr'.lt
  obtain ⟨V, hVe⟩ : ∃ V, dv l' = V := ⟨_, rfl⟩
  rw [hVe] at hV hVl
  have HVE := Lib.hid hVe
  have HVL := Lib.hid hVl
  clear hVe hVl
  go_enter Tryd.func52, Tryd.ntmps52
  go_wp2_with fail
  go_loopw [6, 7, 8] (fun qv rv iv wr => ∃ (k R : Nat) (Cq : Option Addr) (yq : Nat) (ql : List Nat) (Cr : Option Addr) (mr yr : Nat), k ≤ n ∧ iv = .int .i64 ((k : Int) - 1) ∧ qv = .slice Cq (n - k) yq ∧ rv = .slice Cr mr yr ∧ mr ≤ n' ∧ R < V ∧ OwnD wr w.heap.size Cq (n - k) yq ql ∧ OwnD wr w.heap.size Cr mr yr (dg R) ∧
      Hid (dv (l.drop k) = V * dv ql + R) ∧ Below w.heap.size w wr) (fun _ _ iv _ => (intOf iv + 1).toNat)
  case atStart =>
    refine ⟨n, 0, none, 0, [], none, 0, 0, by omega, rfl, by rw [Nat.sub_self], rfl, by omega, hV, by rw [Nat.sub_self]; exact OwnI.nil_ .., by rw [dg_zero]; exact OwnI.nil_ .., ?_, Below.refl _ _⟩
    show _ = _
    rw [List.drop_eq_nil_of_le (by omega)]
    simp [dv, Num.val]
  case round =>
    obtain ⟨k, R, Cq, yq, ql, Cr, mr, yr, hk, rfl, rfl, rfl, hmr, hR, hoq, hor, HE, hb⟩ := hrel
    cases k with
    | zero =>
      have hfin : dv l = V * dv ql + R := by
        have := HE.out
        rwa [List.drop_zero] at this
      have hq : dv ql = dv l / V := by rw [hfin, Nat.mul_add_div hV, Nat.div_eq_of_lt hR, Nat.add_zero]
      have hrr : R = dv l % V := by rw [hfin, Nat.mul_add_mod, Nat.mod_eq_of_lt hR]
      have HQ := Lib.hid hq
      have HR := Lib.hid hrr
      have hct := fun w0 h0 => cut_any Cq (n - 0) yq ql w0 h0 (by omega)
      clear hq hrr hfin
      go_wp2_with fail
      refine (hct _ hoq.ints).mono ?_; rintro e w2 ⟨m, hm, rfl, hd, rfl⟩
      rw [HQ.out] at hd
      have HD := Lib.hid hd
      clear hd hct
      go_wp2_with fail
      go_ret2
      rw [HVE.out, ← HD.out, ← HR.out]
      exact ⟨Cq, m, yq, Cr, mr, yr, rfl, by omega, hmr, hoq.shrink hm, hor, hb⟩
    | succ k =>
      have ek : ((k + 1 : Nat) : Int) - 1 = (k : Int) := by omega
      obtain ⟨ba, off, x, rfl, hbs, hx, hxl, hc⟩ := (hr.below hb).get (k := k) (by omega)
      have HE2 : Hid (dv (l.drop k) = x + 256 * (V * dv ql + R)) := by
        show _ = _
        have := Num.val_drop_pred 256 hx
        unfold dv
        rw [this]
        have h2 := HE.out
        unfold dv at h2
        rw [h2]
      clear hx
      obtain ⟨nq, hnq⟩ : ∃ nq, n - (k + 1) = nq := ⟨_, rfl⟩
      rw [hnq] at hoq ⊢
      have HNQ := Lib.hid hnq
      have hnqn : nq ≤ n := by omega
      clear hnq
      have hs := hb.size
      go_wp2_with (at_builtin; refine wpList_appI _ rfl _ _ _ rfl 3 8 Tryd.underlying49 info_int (by omega) (base := wr.heap.size) (OwnI.lit .i64 256 3 (n := 1) [x] rfl rfl rfl (by intro z hz; rw [List.mem_singleton.1 hz]; exact hxl) (by omega) (Nat.le_refl _)) rfl (hor.alloc _).ints rfl (by omega) (by simp) ?_; intro A3 c3 w3 ho3 hg3 ha3)
      have hval : dv ([x] ++ dg R) = x + 256 * R := by
        have := dv_dg R
        unfold dv at this ⊢
        rw [List.singleton_append, Num.val_cons, this]
      have hct := fun w0 h0 => cut_any A3 (1 + mr) c3 ([x] ++ dg R) w0 h0 (by omega)
      rw [hval] at hct
      have hb3 : Below w.heap.size w w3 := below_own (hb.alloc hs _) hg3 (by simp; omega) (fun ad h => by cases h; exact hs)
      have hoq3 : OwnD w3 w.heap.size Cq nq yq ql := (hoq.alloc _).kept hg3 (fun ad he h => by have h1 := (hoq.lt_ ad he).2; simp at h; omega)
      clear hval
      refine (hct _ ho3.ints).mono ?_; rintro e w4 ⟨m4, hm4, rfl, hd4, rfl⟩
      have ho4 : OwnD w4 w.heap.size A3 m4 c3 (dg (x + 256 * R)) := by rw [← hd4]; exact (ho3.shrink hm4).mono hs
      have hax := dg_cons_len hxl hR
      clear hct hd4 ho3 hor
      go_wp2_with fail
      go_loopw [7, 9] (fun rv nv wk => ∃ (t R0 : Nat) (C : Option Addr) (m y : Nat), rv = .slice C m y ∧ nv = .int .i64 t ∧ t ≤ 255 ∧ m ≤ n' + 1 ∧ OwnD wk w.heap.size C m y (dg R0) ∧ Hid (x + 256 * R = V * t + R0) ∧ OwnD wk w.heap.size Cq nq yq ql ∧ Below w.heap.size w wk) (fun _ nv _ => 256 - (intOf nv).toNat)
      case atStart =>
        refine ⟨0, x + 256 * R, A3, m4, c3, rfl, rfl, by omega, by omega, ho4, ?_, hoq3, hb3⟩
        show _ = _
        rw [Nat.mul_zero, Nat.zero_add]
      case round =>
        obtain ⟨t, R0, C, m, y, rfl, rfl, ht, hm, hor, HS, hoq, hb⟩ := hrel
        have hwb : Dg wr A' n' c' l' := hr'.below hb
        rcases Nat.lt_or_ge R0 V with hlt | hge
        · have hcm := rcmp_any C A' m y n' c' (dg R0) l' wr hor.ints hwb (by omega) (by omega)
          rw [dv_dg, HVE.out, Num.cmp_lt hlt] at hcm
          have hml : m ≤ n' := by
            have h1 := hor.len
            rw [← h1]
            exact dg_len_lt hlt HVL.out
          have hs := hb.size
          go_wp2_with fail
          refine hcm.mono ?_; rintro e w' ⟨rfl, rfl⟩
          go_wp2_with (at_builtin; refine wpList_appI _ rfl _ _ _ rfl 3 8 Tryd.underlying49 info_int (by omega) (base := w.heap.size) (OwnI.lit .i64 256 3 (n := 1) [t] rfl rfl rfl (by intro z hz; rw [List.mem_singleton.1 hz]; omega) (by omega) hs) rfl (hoq.alloc _).ints rfl (by omega) (by simp; omega) ?_; intro A5 c5 w5 ho5 hg5 ha5)
          have hb5 : Below w.heap.size w w5 := below_own (hb.alloc hs _) hg5 (by simp; omega) (fun ad h => by cases h; exact hs)
          have hor5 : OwnD w5 w.heap.size C m y (dg R0) := (hor.alloc _).kept hg5 (fun ad he h => by have h1 := (hor.lt_ ad he).2; simp at h; omega)
          have hnk : 1 + nq = n - k := by have := HNQ.out; omega
          refine ⟨⟨k, R0, A5, c5, [t] ++ ql, C, m, y, by omega, rfl, by rw [hnk], rfl, hml, hlt, by rw [← hnk]; exact ho5, hor5, ?_, hb5⟩, by simp [intOf]⟩
          show _ = _
          rw [HE2.out]
          have := Num.div_step (b := 256) (H := V * dv ql + R) rfl HS.out
          rw [this]
          rfl
        · have hcm := rcmp_any C A' m y n' c' (dg R0) l' wr hor.ints hwb (by omega) (by omega)
          have hz : 0 ≤ Num.cmp (dv (dg R0)) (dv l') := by
            rw [dv_dg, HVE.out]
            rcases Nat.lt_or_eq_of_le hge with h | h
            · rw [Num.cmp_gt h]; decide
            · rw [h, Num.cmp_eq]; decide
          generalize Num.cmp (dv (dg R0)) (dv l') = z at hcm hz
          have hsb := rsub_any C A' m y n' c' (dg R0) l' wr hor.ints hwb (by omega) (by omega) (by rw [dv_dg, HVE.out]; exact hge)
          rw [dv_dg, HVE.out] at hsb
          have ht1 : t + 1 ≤ 255 := by
            have h1 := HS.out
            have h2 : V * (t + 1) ≤ x + 256 * R := by rw [h1, Nat.mul_add, Nat.mul_one]; omega
            have h3 : V * (t + 1) < V * 256 := by omega
            have := Nat.lt_of_mul_lt_mul_left h3
            omega
          have HS2 : Hid (x + 256 * R = V * (t + 1) + (R0 - V)) := by
            show _ = _
            rw [HS.out, Nat.mul_add, Nat.mul_one]; omega
          go_wp2_with fail
          refine hcm.mono ?_; rintro e w' ⟨rfl, rfl⟩
          go_wp2_with fail
          refine hsb.mono ?_; rintro e w5 ⟨A5, m5, c5, rfl, hm5, ho5, hb5⟩
          go_wp2_with fail
          exact ⟨⟨t + 1, R0 - V, A5, m5, c5, rfl, by go_num, ht1, by omega, ho5.mono hb.size, HS2, hoq.below hb5, below_step hb hb5 hb.size⟩, by simp [intOf]; omega⟩
end Go.Proofs.YticheiocmhaakaaDoor
