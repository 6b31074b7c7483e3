/- The law CellNeeds, walked. No condition. -/
import Derived.Test.YtfoeapjlklfjgaaDoorCellN
namespace Go.Proofs.YtfoeapjlklfjgaaDoor
set_option linter.unusedSimpArgs false
set_option linter.unusedVariables false
open Go.RowKit

theorem split_cell {gs sq q i : Nat} {R : List Nat} {xs : List CEl} {e : CEl} (hs : xs.map (·.x) = Cl.split gs sq R) (hq : Cl.need R.length = q) (hi : i < q) (hx : xs[i]? = some e) : e.x = ⟨gs, sq, (i : Int), (q : Int), (R.drop (49 * i)).take 49⟩ ∧ e.x.may = true := by
  have h1 : (xs.map (·.x))[i]? = some e.x := by rw [List.getElem?_map, hx]; rfl
  rw [hs, Cl.split_get (by omega)] at h1
  injection h1 with h1
  refine ⟨?_, ?_⟩
  · rw [← h1]
    unfold Cl.cellAt
    rw [hq]
  · rw [← h1]
    exact Cl.cellAt_may (by omega)

set_option maxRecDepth 100000 in
set_option maxHeartbeats 6400000 in
theorem cellNeeds_any (nn y : Nat) (w : World) (hn : nn < 65536) (hy : y < 256) :
    Calls Tryd.prog 7 #[.int .u16 (nn : Int), .int .u8 (y : Int)] w fun e w' => e = .returned (.bool true) ∧ Below w.heap.size w w' := by
  obtain ⟨k, hk⟩ : ∃ k, nn % 500 = k := ⟨_, rfl⟩
  have hk500 : k < 500 := by omega
  have hki : (nn : Int) % 500 = (k : Int) := by omega
  have hki2 : (nn : Int).tmod 500 = (k : Int) := by rw [Int.tmod_eq_emod_of_nonneg (by omega)]; exact hki
  clear hk
  go_enter Tryd.func7, Tryd.ntmps7
  go_wp2_with fail
  refine (cawake_any _).mono ?_; rintro e w1 ⟨rfl, hb1⟩
  go_wp2_with fail
  go_loopw [6, 7] (fun v i wr => ∃ (j : Nat) (A : Option Addr) (cp : Nat), j ≤ k ∧ i = .int .i64 (j : Int) ∧ v = .slice A j cp ∧ OwnI wr w.heap.size .u8 256 5 A j cp (List.replicate j y) ∧ Below w.heap.size w wr) (fun _ i _ => k - (intOf i).toNat)
  case atStart => exact ⟨0, none, 0, Nat.zero_le _, rfl, rfl, OwnI.nil_ .., hb1⟩
  case round =>
    obtain ⟨j, A, cp, hj, rfl, rfl, ho, hb⟩ := hrel
    have hbs := hb.size
    by_cases hjk : j < k
    · have hlt : (j : Int) < (k : Int) := by omega
      go_wp2_with (at_builtin; refine wpList_appI _ rfl (.tmp 22) (.tmp 24) _ rfl 5 1 Tryd.underlying23 dinfo_u8 (by omega) (ho.alloc _) rfl (Ints.one .u8 256 5 y rfl hy rfl) rfl (by omega) (by simp; omega) ?_; intro A2 c2 w3 ho3 hg3 ha3)
      have ho4 : OwnI w3 w.heap.size .u8 256 5 A2 (j + 1) c2 (List.replicate (j + 1) y) := by rw [List.replicate_succ']; exact ho3
      exact ⟨⟨j + 1, A2, c2, by omega, by go_num, rfl, ho4, below_own (hb.alloc hbs _) hg3 (by simp; omega) (fun ad he => (ho.lt_ ad he).1)⟩, by simp [intOf]; omega⟩
    · obtain rfl : k = j := by omega
      have E1 := ((CE.nil_ w).below hb).addI ho.ints
      obtain ⟨R, hR⟩ : ∃ R, List.replicate k y = R := ⟨_, rfl⟩
      have hRl : R.length = k := by rw [← hR, List.length_replicate]
      rw [hR] at E1
      obtain ⟨q, hq⟩ : ∃ q, Cl.need k = q := ⟨_, rfl⟩
      obtain ⟨cd, hcd⟩ : ∃ q, Cl.splitCode R = q := ⟨_, rfl⟩
      have hqR : Cl.need R.length = q := by rw [hRl]; exact hq
      have HE := Lib.hid (And.intro hqR hcd)
      have HQ := Lib.hid hq
      clear ho hb hbs hb1 hR hq hqR hcd
      go_wp2_with fail
      refine (split_c (gs := 7) (sq := 8) (by decide) (by decide) (E1.i 0 rfl) (by omega) HE.out.1 HE.out.2).mono ?_; rintro e w2 ⟨A2, c2, xs, rfl, hx, hs, hb2⟩
      have E2 := (E1.below hb2).addR hx
      have HS := Lib.hid hs
      clear E1 hx hs hb2
      go_wp2_with fail
      refine (need_c (k : Int) _ (by omega) (by omega) (q := q) HQ.out).mono ?_; rintro e w3 ⟨rfl, rfl⟩
      by_cases h0 : q = 0
      · have hor := (Cl.need_iff (n := k)).1 (HQ.out.trans h0)
        obtain rfl : cd = 1 := by rw [← HE.out.2]; unfold Cl.splitCode; rw [HE.out.1, if_pos h0]
        subst h0
        by_cases hk0 : k = 0
        · have t0 : ((k : Int) == 0) = true := by simp [hk0]
          clear hor
          go_wp2_with fail
          go_ret
          exact ⟨rfl, E2.bel⟩
        · have t0 : ((k : Int) == 0) = false := by simp; omega
          have t1 : (392 : Int) < (k : Int) := by omega
          have t2 : decide ((392 : Int) < (k : Int)) = true := decide_eq_true t1
          clear hor hk0
          go_wp2_with fail
          go_ret
          exact ⟨rfl, E2.bel⟩
      · have hor : ¬ (k < 1 ∨ 392 < k) := fun h => h0 (HQ.out.symm.trans ((Cl.need_iff (n := k)).2 h))
        have hkr : 1 ≤ k ∧ k ≤ 392 := by omega
        obtain rfl : cd = 0 := by rw [← HE.out.2]; unfold Cl.splitCode; rw [HE.out.1, if_neg h0]
        have t0 : ((k : Int) == 0) = false := by simp; omega
        have t1 : ¬ (392 : Int) < (k : Int) := by omega
        have t2 : decide ((392 : Int) < (k : Int)) = false := decide_eq_false t1
        have hq8 : q ≤ 8 := by rw [← HQ.out]; exact Cl.need_le k
        clear hor
        go_wp2_with fail
        go_loopw [11] (fun v wr => ∃ i : Nat, i ≤ q ∧ v = .int .i64 (i : Int) ∧ CE w wr [] [⟨A, k, cp, R⟩] [⟨A2, q, c2, xs⟩]) (fun v _ => q - (intOf v).toNat)
        case atStart => exact ⟨0, Nat.zero_le _, rfl, E2⟩
        case round =>
          obtain ⟨i, hi, rfl, E3⟩ := hrel
          clear E2
          by_cases hlt : i < q
          · have hlti : (i : Int) < (q : Int) := by omega
            obtain ⟨b, o, e, hA, hbl, hx, he, k0, k1, k2, k3, k4⟩ := (E3.r 0 rfl).get hlt
            subst hA
            obtain ⟨hex, hem⟩ := split_cell HS.out HE.out.1 hlt hx
            have hfull : i + 1 < q → e.x.data.length = 49 := fun h => by
              have := Cl.cellAt_full (g := 7) (s := 8) (r := R) (i := i) (by rw [HE.out.1]; exact h)
              rw [hex]
              exact this
            obtain ⟨ex, eA, en, ec⟩ := e
            have hel := he.len
            dsimp only at hex hem hfull hel k0 k1 k2 k3 k4
            rw [hel] at hfull
            subst hex
            rw [may_eq] at hem
            dsimp only at hel k0 k1 k2 k3 k4
            rw [hel] at hem
            have HM := Lib.hid hem
            have hqi : (1 : Int) ≤ (q : Int) := by omega
            have hw : wrap64 ((q : Int) - 1) = (q : Int) - 1 := IntWalk.wrap64_in _ (by omega)
            have hii : ((i : Int) != (i : Int)) = false := by simp
            have hqq : ((q : Int) != (q : Int)) = false := by simp
            by_cases h49 : en = 49
            · have t4 : ((en : Int) != 49) = false := by simp [h49]
              clear hx he hel hem h49 hfull
              go_wp2_with fail
              refine (may_c 7 8 (i : Int) (q : Int) eA en ec _ (by omega) HM.out).mono ?_; rintro e w5 ⟨rfl, hb5⟩
              have E5 := E3.below hb5
              clear k0 k1 k2 k3 k4 hb5
              go_wp2_with fail
              exact ⟨⟨i + 1, by omega, by go_num, E5⟩, by simp [intOf]; omega⟩
            · have t4 : ((en : Int) != 49) = true := by simp; omega
              have t5 : ¬ (i : Int) < (q : Int) - 1 := by omega
              have t6 : decide ((i : Int) < (q : Int) - 1) = false := decide_eq_false t5
              clear hx he hel hem h49 hfull
              go_wp2_with fail
              refine (may_c 7 8 (i : Int) (q : Int) eA en ec _ (by omega) HM.out).mono ?_; rintro e w5 ⟨rfl, hb5⟩
              have E5 := E3.below hb5
              clear k0 k1 k2 k3 k4 hb5
              go_wp2_with fail
              exact ⟨⟨i + 1, by omega, by go_num, E5⟩, by simp [intOf]; omega⟩
          · obtain rfl : i = q := by omega
            have hw : wrap64 ((k : Int) - 1) = (k : Int) - 1 := IntWalk.wrap64_in _ (by omega)
            have hmono := Cl.need_mono (m := k - 1) (n := k) (by omega) hkr.2
            rw [HQ.out] at hmono
            obtain ⟨r, hr⟩ : ∃ r, Cl.need (k - 1) = r := ⟨_, rfl⟩
            rw [hr] at hmono
            have hr2 : Cl.need ((k : Int) - 1).toNat = r := by rw [show ((k : Int) - 1).toNat = k - 1 by omega]; exact hr
            have hge : (r : Int) ≤ (i : Int) := by omega
            have h8 : (i : Int) ≤ 8 := by omega
            have HR := Lib.hid hr2
            clear hr hr2 hmono
            go_wp2_with fail
            refine (need_c ((k : Int) - 1) _ (by omega) (by omega) HR.out).mono ?_; rintro e w6 ⟨rfl, rfl⟩
            go_wp2_with fail
            go_ret
            exact ⟨rfl, E3.bel⟩
end Go.Proofs.YtfoeapjlklfjgaaDoor
