/- The law CellSplits, walked; a cell's bytes among the arguments are at most what the form's reach says. No other condition but the reach of a slice. -/
import Derived.Test.YtfoeapjlklfjgaaDoorCNeeds
import Derived.Test.YtfoeapjlklfjgaaDoorCellM
namespace Go.Proofs.YtfoeapjlklfjgaaDoor
set_option linter.unusedSimpArgs false
set_option linter.unusedVariables false
open Go.RowKit

def sumN (xs : List CEl) : Nat := (xs.map (·.n)).sum
theorem sumN_take {xs : List CEl} {i : Nat} {e : CEl} (h : xs[i]? = some e) : sumN (xs.take (i + 1)) = sumN (xs.take i) + e.n := by
  unfold sumN
  rw [List.take_add_one, h, List.map_append, List.sum_append]
  simp
theorem sumN_mem {xs : List CEl} {e : CEl} (h : e ∈ xs) : e.n ≤ sumN xs := by
  unfold sumN
  induction xs with
  | nil => cases h
  | cons x xs ih =>
    rw [List.map_cons, List.sum_cons]
    rcases List.mem_cons.1 h with rfl | h
    · omega
    · have := ih h; omega

def SmallPost (w : World) (n : Nat) (xs : List CEl) (e : Ending) (w' : World) : Prop := ∃ b : Bool, e = .returned (.bool b) ∧ w = w' ∧ (b = true → n < 30 ∧ ∀ e ∈ xs, e.n < 3000)
set_option maxRecDepth 100000 in
set_option maxHeartbeats 3200000 in
theorem small_any {A : Option Addr} {n c : Nat} {xs : List CEl} {w : World} (hr : CArg w A n c xs) (hn : n ≤ 9223372036854775807) (h47 : ∀ e ∈ xs, e.n ≤ 140737488351232) :
    Calls Tryd.prog 24 #[.slice A n c] w (SmallPost w n xs) := by
  have hL := hr.len
  have H4 := Lib.hid h47
  clear h47
  go_enter Tryd.func24, Tryd.ntmps24
  go_wp2_with fail
  go_loopw [3, 4] (fun sv iv wr => ∃ (i s : Nat), i ≤ n ∧ i ≤ 30 ∧ iv = .int .i64 (i : Int) ∧ sv = .int .i64 (s : Int) ∧ Hid (sumN (xs.take i) = s) ∧ s ≤ 140737488351232 * i ∧ wr = w) (fun _ iv _ => n - (intOf iv).toNat)
  case atStart => exact ⟨0, 0, Nat.zero_le _, by omega, rfl, rfl, (show sumN (xs.take 0) = 0 from rfl), by omega, rfl⟩
  case round =>
    obtain ⟨i, s, hi, hi30, rfl, rfl, hs, hsl, rfl⟩ := hrel
    by_cases hgo : i < n ∧ i < 30
    · obtain ⟨hlt, hlt30⟩ := hgo
      have hlt1 : (i : Int) < (n : Int) := by omega
      have hlt2 : (i : Int) < 30 := by omega
      have hlt3 : decide ((i : Int) < 30) = true := by simp; omega
      obtain ⟨b, o, e, rfl, hbl, hx, he, k4⟩ := hr.get hlt
      have hen := H4.out e (List.mem_of_getElem? hx)
      obtain ⟨ex, eA, en, ec⟩ := e
      dsimp only at hen k4
      have HS := Lib.hid (show sumN (xs.take (i + 1)) = s + en by rw [sumN_take hx, hs.out])
      clear hx he hs
      obtain ⟨t, ht⟩ : ∃ t, s + en = t := ⟨_, rfl⟩
      have htl : t ≤ 140737488351232 * (i + 1) := by omega
      have hti : (s : Int) + (en : Int) = (t : Int) := by omega
      have htb : -9223372036854775808 ≤ (t : Int) ∧ (t : Int) ≤ 9223372036854775807 := by omega
      have hw : wrap64 ((s : Int) + (en : Int)) = (t : Int) := by rw [hti]; exact IntWalk.wrap64_in _ htb
      rw [ht] at HS
      go_wp2_with fail
      clear hw
      exact ⟨⟨i + 1, t, by omega, by omega, by go_num, rfl, HS, by omega, trivial⟩, by simp [intOf]; omega⟩
    · have hs2 := Lib.hid (And.intro hs.out (show i = min n 30 by omega))
      go_upto_region 3 with (fail)
      go_cut [12] (fun s12 wx => s12 = .bool false ∧ wx = wr)
      case first =>
        by_cases hk1 : i < n
        · have hlt1 : (i : Int) < (n : Int) := by omega
          have hlt2 : ¬ (i : Int) < 30 := by omega
          have hlt3 : decide ((i : Int) < 30) = false := by simp; omega
          clear hgo hk1
          go_wp2_with fail
          go_meet
          exact ⟨rfl, rfl⟩
        · have hlt1 : ¬ (i : Int) < (n : Int) := by omega
          clear hgo hk1
          go_wp2_with fail
          go_meet
          exact ⟨rfl, rfl⟩
      case rest =>
        obtain ⟨rfl, rfl⟩ := hcut
        clear hgo
        by_cases h30 : n < 30
        · have h30i : (n : Int) < 30 := by omega
          have h30d : decide ((n : Int) < 30) = true := decide_eq_true h30i
          by_cases h3 : s < 3000
          · have h3i : (s : Int) < 3000 := by omega
            have h3d : decide ((s : Int) < 3000) = true := decide_eq_true h3i
            go_wp2_with fail
            go_ret
            refine ⟨true, rfl, rfl, fun _ => ⟨h30, fun e he => ?_⟩⟩
            have h1 := sumN_mem he
            have h2 := hs2.out.1
            rw [List.take_of_length_le (by have := hs2.out.2; omega)] at h2
            omega
          · have h3i : ¬ (s : Int) < 3000 := by omega
            have h3d : decide ((s : Int) < 3000) = false := decide_eq_false h3i
            go_wp2_with fail
            go_ret
            exact ⟨false, rfl, rfl, fun h => by cases h⟩
        · have h30i : ¬ (n : Int) < 30 := by omega
          have h30d : decide ((n : Int) < 30) = false := decide_eq_false h30i
          go_wp2_with fail
          go_ret
          exact ⟨false, rfl, rfl, fun h => by cases h⟩
theorem rjoin_c {A : Option Addr} {n c : Nat} {w : World} {xs : List CEl} (hr : CRd w A n c xs) (hn : n ≤ 140737488355328) (h3 : ∀ e ∈ xs, e.n ≤ 3000) {X : List Cl} {L : List Nat} {m : Nat} {cd : Int} (hx : xs.map (·.x) = X) (hL : Cl.join X = L) (hc : Cl.joinCode X = cd) (hm : L.length = m) :
    Calls Tryd.prog 28 #[.slice A n c] w fun e w' => ∃ A' c', e = .returned (.tuple #[.slice A' m c', .int .i64 cd]) ∧ Ints w' .u8 256 A' m c' L ∧ Below w.heap.size w w' :=
  (rjoin_any hr hn h3).mono fun e w' ⟨A', m', c', he, ho, hb⟩ => by
    rw [hx] at he ho
    have h1 := ho.ints
    rw [hL] at h1
    have h2 := h1.len
    rw [hm] at h2
    subst h2
    exact ⟨A', c', by rw [he, hc], h1, hb⟩
theorem join_len (X : List Cl) (h : ∀ x ∈ X, x.data.length ≤ 3000) (hX : X.length ≤ 30) : (Cl.join X).length ≤ 90000 := by
  unfold Cl.join
  split
  · have : ∀ l : List Cl, (∀ x ∈ l, x.data.length ≤ 3000) → (Cl.flat l).length ≤ 3000 * l.length := by
      intro l
      induction l with
      | nil => intro _; simp [Cl.flat]
      | cons y ys ih =>
        intro h
        rw [Cl.flat_cons, List.length_append, List.length_cons]
        have h1 := h y (List.mem_cons_self ..)
        have h2 := ih (fun x hx => h x (List.mem_cons_of_mem _ hx))
        omega
    have := this X h
    omega
  · exact Nat.zero_le _

set_option maxRecDepth 100000 in
set_option maxHeartbeats 6400000 in
theorem cellSplits_any (gs sq : Nat) (A : Option Addr) (n c : Nat) (R : List Nat) (B : Option Addr) (m d : Nat) (xs : List CEl) (w : World) (hgs : gs < 4294967296) (hsq : sq < 4294967296) (hr : Ints w .u8 256 A n c R) (hn : n ≤ maxLen) (hX : CArg w B m d xs) (hm : m ≤ maxLen) (h47 : ∀ e ∈ xs, e.n ≤ 140737488351232) :
    Calls Tryd.prog 4 #[.agg #[.int .u32 (gs : Int), .int .u32 (sq : Int)], .slice A n c, .slice B m d] w fun e w' => e = .returned (.bool true) ∧ Below w.heap.size w w' := by
  unfold maxLen at hn hm
  have hb0 := (Below.refl w.heap.size w).alloc (Nat.le_refl _) (.cells #[.int .u32 (gs : Int), .int .u32 (sq : Int)] 37)
  by_cases h1 : 3000 < n
  · have h1i : (3000 : Int) < (n : Int) := by omega
    have h1d : decide ((3000 : Int) < (n : Int)) = true := decide_eq_true h1i
    go_enter Tryd.func4, Tryd.ntmps4
    go_wp2_with fail
    refine (cawake_any _).mono ?_; rintro e w1 ⟨rfl, hb1⟩
    go_wp2_with fail
    go_ret
    exact ⟨rfl, below_step hb0 hb1 (by simp)⟩
  have h1i : ¬ (3000 : Int) < (n : Int) := by omega
  have h1d : decide ((3000 : Int) < (n : Int)) = false := decide_eq_false h1i
  have hRl := hr.len
  obtain ⟨q, hq⟩ : ∃ q, Cl.need R.length = q := ⟨_, rfl⟩
  obtain ⟨cd, hcd⟩ : ∃ q, Cl.splitCode R = q := ⟨_, rfl⟩
  have hq8 : q ≤ 8 := by rw [← hq]; exact Cl.need_le _
  have hnq : Cl.need ((n : Int).toNat) = q := by rw [Int.toNat_natCast, ← hRl]; exact hq
  have HE := Lib.hid (And.intro hq (And.intro hcd (And.intro hnq hRl)))
  have E0 := ((CE.nil_ w).addI hr).alloc 37 #[.int .u32 (gs : Int), .int .u32 (sq : Int)] rfl
  have hX0 := hX.below ((Below.refl _ w).alloc (Nat.le_refl _) (.cells #[.int .u32 (gs : Int), .int .u32 (sq : Int)] 37))
  have HX47 := Lib.hid h47
  clear hq hcd hRl hr hX h47 hnq
  go_enter Tryd.func4, Tryd.ntmps4
  go_wp2_with fail
  refine (cawake_any _).mono ?_; rintro e w1 ⟨rfl, hb1⟩
  have E1 := E0.below hb1
  have hX1 := hX0.below hb1
  clear E0 hb1 hX0 hb0
  go_wp2_with fail
  refine (small_any hX1 (by omega) HX47.out).mono ?_; rintro e w2 ⟨sm, rfl, rfl, hsm⟩
  cases sm with
  | false =>
    clear hsm hX1
    go_wp2_with fail
    go_ret
    exact ⟨rfl, E1.bel⟩
  | true =>
    obtain ⟨hm30, h3000⟩ := hsm rfl
    have hXl := hX1.len
    have hXi : ∀ e ∈ xs, e.x.data.length ≤ 3000 := fun e he => by
      have := (hX1.ok e he).ints.len
      have := h3000 e he
      omega
    have E2 := E1.addR (hX1.rd (fun e he => by have := h3000 e he; omega))
    obtain ⟨X, hXX⟩ : ∃ X, xs.map (·.x) = X := ⟨_, rfl⟩
    obtain ⟨J, hJ⟩ : ∃ J, Cl.join X = J := ⟨_, rfl⟩
    obtain ⟨jc, hjc⟩ : ∃ J, Cl.joinCode X = J := ⟨_, rfl⟩
    obtain ⟨jm, hjm⟩ : ∃ z, J.length = z := ⟨_, rfl⟩
    have hjl : jm ≤ 90000 := by
      rw [← hjm, ← hJ]
      refine join_len X (fun x hx => ?_) (by rw [← hXX, List.length_map]; omega)
      rw [← hXX] at hx
      obtain ⟨e, he, rfl⟩ := List.mem_map.1 hx
      exact hXi e he
    have HJ := Lib.hid (And.intro hXX (And.intro hJ (And.intro hjc (And.intro hjm (show ∀ e ∈ xs, e.n ≤ 3000 from fun e he => Nat.le_of_lt (h3000 e he))))))
    clear hXX hJ hjc hjm hXi h3000 hX1 E1 hsm HX47
    have g0 := E2.cell 0 0 rfl rfl
    have g1 := E2.cell 0 1 rfl rfl
    go_wp2_with fail
    refine (split_c hgs hsq (E2.i 0 rfl) (by omega) HE.out.1 HE.out.2.1).mono ?_; rintro e w3 ⟨A3, c3, ys, rfl, hy, hs, hb3⟩
    have E3 := (E2.below hb3).addR hy
    have HS := Lib.hid hs
    clear E2 hb3 hy hs g0 g1
    have g0 := E3.cell 0 0 rfl rfl
    have g1 := E3.cell 0 1 rfl rfl
    go_wp2_with fail
    refine (rsplit_c hgs hsq (E3.i 0 rfl) (by omega) HE.out.1 HE.out.2.1).mono ?_; rintro e w4 ⟨A4, c4, zs, rfl, hz, hs, hb4⟩
    have E4 := (E3.below hb4).addR hz
    have HZ := Lib.hid hs
    clear E3 hb4 hz hs g0 g1
    go_wp2_with fail
    refine (join_c (E4.r 2 rfl) (by omega) HJ.out.1 HJ.out.2.1 HJ.out.2.2.1 HJ.out.2.2.2.1).mono ?_; rintro e w5 ⟨A5, c5, rfl, hi5, hb5⟩
    have E5 := (E4.below hb5).addI hi5
    clear E4 hb5 hi5
    go_wp2_with fail
    refine (rjoin_c (E5.r 2 rfl) (by omega) HJ.out.2.2.2.2 HJ.out.1 HJ.out.2.1 HJ.out.2.2.1 HJ.out.2.2.2.1).mono ?_; rintro e w6 ⟨A6, c6, rfl, hi6, hb6⟩
    have E6 := (E5.below hb6).addI hi6
    clear E5 hb6 hi6
    have hcc : (cd != cd) = false := by simp
    have hjj : (jc != jc) = false := by simp
    have hqq : ((q : Int) != (q : Int)) = false := by simp
    go_wp2_with fail
    refine (alike_c (E6.r 1 rfl) (E6.r 0 rfl) (by omega) (by omega) (r := true) (decide_eq_true (HS.out.trans HZ.out.symm))).mono ?_; rintro e w7 ⟨rfl, hb7⟩
    have E7 := E6.below hb7
    clear E6 hb7
    go_wp2_with fail
    refine (rows_c (E7.i 1 rfl) (E7.i 0 rfl) (by omega) (by omega) (r := true) (decide_eq_true rfl)).mono ?_; rintro e w8 ⟨rfl, hb8⟩
    have E8 := E7.below hb8
    clear E7 hb8
    go_wp2_with fail
    refine (need_c (n : Int) _ (by omega) (by omega) HE.out.2.2.1).mono ?_; rintro e w9 ⟨rfl, rfl⟩
    go_wp2_with fail
    refine (rneed_any (n : Int) _ (by omega) (by omega)).mono ?_; rintro e w9 ⟨rfl, rfl⟩
    rw [HE.out.2.2.1]
    go_wp2_with fail
    by_cases h0 : q = 0
    · subst h0
      obtain rfl : cd = 1 := by rw [← HE.out.2.1]; unfold Cl.splitCode; rw [HE.out.1]; rfl
      have hsn : Cl.split gs sq R = [] := split_nil HE.out.1
      have HN := Lib.hid (HS.out.trans hsn)
      clear hsn
      refine (join_c (E8.r 1 rfl) (by omega) HN.out (L := []) (cd := 2) rfl rfl (m := 0) rfl).mono ?_; rintro e w10 ⟨A10, c10, rfl, hi10, hb10⟩
      have E10 := E8.below hb10
      clear E8 hi10 hb10
      go_wp2_with fail
      go_ret
      exact ⟨rfl, E10.bel⟩
    · obtain rfl : cd = 0 := by rw [← HE.out.2.1]; unfold Cl.splitCode; rw [HE.out.1, if_neg h0]
      have hj := Cl.join_split (gen := gs) (seq := sq) (r := R) (by rw [HE.out.1]; exact h0)
      have HK := Lib.hid hj
      clear hj
      refine (join_c (E8.r 1 rfl) (by omega) HS.out HK.out.1 HK.out.2 HE.out.2.2.2).mono ?_; rintro e w10 ⟨A10, c10, rfl, hi10, hb10⟩
      have E10 := (E8.below hb10).addI hi10
      clear E8 hi10 hb10
      have hqe : ((q : Int) == (q : Int)) = true := by simp
      go_wp2_with fail
      refine (rows_c (E10.i 0 rfl) (E10.i 3 rfl) (by omega) (by omega) (r := true) (decide_eq_true rfl)).mono ?_; rintro e w11 ⟨rfl, hb11⟩
      have E11 := E10.below hb11
      clear E10 hb11
      go_wp2_with fail
      refine (need_c (n : Int) _ (by omega) (by omega) HE.out.2.2.1).mono ?_; rintro e w12 ⟨rfl, rfl⟩
      go_wp2_with fail
      go_ret
      exact ⟨rfl, E11.bel⟩
end Go.Proofs.YtfoeapjlklfjgaaDoor
