/- The law CellApart, walked. No condition but the reach of a slice. -/
import Derived.Test.YtfoeapjlklfjgaaDoorCOrder
namespace Go.Proofs.YtfoeapjlklfjgaaDoor
set_option linter.unusedSimpArgs false
set_option linter.unusedVariables false
open Go.RowKit

theorem cflat_parts (xs : List CEl) (k : Nat) : cflat xs = cflat (xs.take k) ++ cflat (xs.drop k) := by rw [← cflat_append, List.take_append_drop]
theorem CRd.drew_ {w : World} {A : Option Addr} {n c : Nat} {xs : List CEl} (h : CRd w A n c xs) : CRd w.drew A n c xs := h.below (Below.refl _ _).drew
theorem cells_take {w : World} {b o n c : Nat} {xs : List CEl} (h : CRd w (some ⟨b, o, none⟩) n c xs) (k : Nat) : ∀ j u, (cflat (xs.take k))[j]? = some u → w.cell? (Addr.add ⟨b, o, none⟩ j) = some u := by
  intro j u hu
  rcases Nat.eq_zero_or_pos n with h0 | h0
  · have : xs = [] := List.eq_nil_of_length_eq_zero (h.len.trans h0)
    subst this
    simp [cflat] at hu
  · obtain ⟨b', o', e', _, hc⟩ := h.at_ h0
    cases e'
    rw [add_plain]
    refine hc j u ?_
    rw [cflat_parts xs k, List.getElem?_append_left (List.getElem?_eq_some_iff.1 hu).1]
    exact hu
theorem cells_drop {w : World} {b o n c : Nat} {xs : List CEl} (h : CRd w (some ⟨b, o, none⟩) n c xs) (k : Nat) : ∀ j u, (cflat (xs.drop k))[j]? = some u → w.cell? (Addr.add ⟨b, o + k * 5, none⟩ j) = some u := by
  intro j u hu
  have hl := (List.getElem?_eq_some_iff.1 hu).1
  rw [cflat_len, List.length_drop] at hl
  have hn := h.len
  obtain ⟨b', o', e', _, hc⟩ := h.at_ (by omega)
  cases e'
  rw [add_plain, Nat.add_assoc]
  refine hc (k * 5 + j) u ?_
  rw [cflat_parts xs k, List.getElem?_append_right (by rw [cflat_len, List.length_take]; omega), cflat_len, List.length_take, show k * 5 + j - min k xs.length * 5 = j by omega]
  exact hu
theorem cells_drop' {w : World} {b o n c : Nat} {xs : List CEl} (h : CRd w (some ⟨b, o, none⟩) n c xs) (k : Nat) (hk : k ≤ n) {ad : Addr} (ha : (if c = k then (⟨b, o, none⟩ : Addr) else ⟨b, o + k * 5, none⟩) = ad) : ∀ j u, (cflat (xs.drop k))[j]? = some u → w.cell? (Addr.add ad j) = some u := by
  intro j u hu
  have hl := (List.getElem?_eq_some_iff.1 hu).1
  rw [cflat_len, List.length_drop] at hl
  have hn := h.len
  have hc := h.cap
  rw [if_neg (by omega)] at ha
  subst ha
  exact cells_drop h k j u hu

theorem join_false {X : List Cl} (h : Cl.joins X = false) : Cl.join X = [] ∧ Cl.joinCode X = 2 := by unfold Cl.join Cl.joinCode; rw [h]; exact ⟨rfl, rfl⟩
theorem cells_all {w : World} {b o n c : Nat} {xs : List CEl} (h : CRd w (some ⟨b, o, none⟩) n c xs) : ∀ j u, (cflat xs)[j]? = some u → w.cell? (Addr.add ⟨b, o, none⟩ j) = some u := by
  have := cells_take h xs.length
  rwa [List.take_length] at this
theorem set_own {w : World} {base g n c k : Nat} {xs : List CEl} (h : OwnR w base 25 5 (some ⟨g, 0, none⟩) n c (cflat xs)) (hk : k < xs.length) (e : CEl) : OwnR (w.setCells g (k * 5) e.vs) base 25 5 (some ⟨g, 0, none⟩) n c (cflat (xs.set k e)) := by
  rw [cflat_set hk]
  exact ((((h.stored _ _).stored _ _).stored _ _).stored _ _).stored _ _

set_option maxRecDepth 100000 in
set_option maxHeartbeats 12800000 in
theorem cellApart_any (A : Option Addr) (n c : Nat) (R : List Nat) (B : Option Addr) (m d : Nat) (T : List Nat) (av : Nat) (w : World) (hr : Ints w .u8 256 A n c R) (hn : n ≤ maxLen) (hr2 : Ints w .u8 256 B m d T) (hm : m ≤ maxLen) (hav : av < 256) :
    Calls Tryd.prog 5 #[.slice A n c, .slice B m d, .int .u8 (av : Int)] w fun e w' => e = .returned (.bool true) ∧ Below w.heap.size w w' := by
  unfold maxLen at hn hm
  have hRl := hr.len
  have hTl := hr2.len
  obtain ⟨q, hq⟩ : ∃ q, Cl.need R.length = q := ⟨_, rfl⟩
  obtain ⟨cd, hcd⟩ : ∃ q, Cl.splitCode R = q := ⟨_, rfl⟩
  obtain ⟨q3, hq3⟩ : ∃ q, Cl.need T.length = q := ⟨_, rfl⟩
  obtain ⟨cd3, hcd3⟩ : ∃ q, Cl.splitCode T = q := ⟨_, rfl⟩
  have hq8 : q ≤ 8 := by rw [← hq]; exact Cl.need_le _
  have hq38 : q3 ≤ 8 := by rw [← hq3]; exact Cl.need_le _
  have hnq : Cl.need ((n : Int).toNat) = q := by rw [Int.toNat_natCast, ← hRl]; exact hq
  have hnq3 : Cl.need ((m : Int).toNat) = q3 := by rw [Int.toNat_natCast, ← hTl]; exact hq3
  have HE := Lib.hid (And.intro hq (And.intro hcd hnq))
  have HE3 := Lib.hid (And.intro hq3 (And.intro hcd3 hnq3))
  have E0 := ((CE.nil_ w).addI hr).addI hr2
  clear hq hcd hRl hr hq3 hcd3 hTl hr2 hnq hnq3
  go_enter Tryd.func5, Tryd.ntmps5
  go_wp2_with fail
  refine (cawake_any _).mono ?_; rintro e w1 ⟨rfl, hb1⟩
  have E1 := E0.below hb1
  clear E0 hb1
  go_wp2_with fail
  refine (split_c (gs := 1) (sq := 5) (by decide) (by decide) (E1.i 1 rfl) (by omega) HE.out.1 HE.out.2.1).mono ?_; rintro e w2 ⟨A2, c2, xs, rfl, hx, hs, hb2⟩
  have hxl := hx.len
  have hxc := hx.cap
  have E2 := (E1.below hb2).addR hx
  have HS := Lib.hid hs
  clear E1 hx hs hb2
  go_wp2_with fail
  refine (split_c (gs := 1) (sq := 6) (by decide) (by decide) (E2.i 0 rfl) (by omega) HE3.out.1 HE3.out.2.1).mono ?_; rintro e w3 ⟨A3, c3, ys, rfl, hy, hs3, hb3⟩
  have hyl := hy.len
  have E3 := (E2.below hb3).addR hy
  have HS3 := Lib.hid hs3
  clear E2 hy hs3 hb3
  by_cases h0 : q = 0
  · obtain rfl : cd = 1 := by rw [← HE.out.2.1]; unfold Cl.splitCode; rw [HE.out.1, if_pos h0]
    subst h0
    clear hxl hxc hyl
    go_wp2_with fail
    refine (rneed_any _ _ (by omega) (by omega)).mono ?_; rintro e w4 ⟨rfl, rfl⟩
    rw [HE.out.2.2]
    have E4 := E3
    clear E3
    go_wp2_with fail
    go_ret
    exact ⟨rfl, E4.bel⟩
  obtain rfl : cd = 0 := by rw [← HE.out.2.1]; unfold Cl.splitCode; rw [HE.out.1, if_neg h0]
  by_cases h03 : q3 = 0
  · obtain rfl : cd3 = 1 := by rw [← HE3.out.2.1]; unfold Cl.splitCode; rw [HE3.out.1, if_pos h03]
    subst h03
    clear hxl hxc hyl
    go_wp2_with fail
    refine (rneed_any _ _ (by omega) (by omega)).mono ?_; rintro e w4 ⟨rfl, rfl⟩
    rw [HE3.out.2.2]
    have E4 := E3
    clear E3
    go_wp2_with fail
    go_ret
    exact ⟨rfl, E4.bel⟩
  obtain rfl : cd3 = 0 := by rw [← HE3.out.2.1]; unfold Cl.splitCode; rw [HE3.out.1, if_neg h03]
  have q0 : ((q : Int) == 0) = false := by simp; omega
  have q1 : ¬ (q : Int) < 1 := by omega
  have q2 : decide ((q : Int) < 1) = false := decide_eq_false q1
  have q30 : ((q3 : Int) == 0) = false := by simp; omega
  have q31 : ¬ (q3 : Int) < 1 := by omega
  have q32 : decide ((q3 : Int) < 1) = false := decide_eq_false q31
  obtain ⟨k, hk⟩ : ∃ k, av % q = k := ⟨_, rfl⟩
  have hkq : k < q := by rw [← hk]; exact Nat.mod_lt _ (by omega)
  have hki : (av : Int) % (q : Int) = (k : Int) := by rw [← hk, Int.natCast_emod]
  have hki2 : (av : Int).tmod (q : Int) = (k : Int) := by rw [Int.tmod_eq_emod_of_nonneg (by omega)]; exact hki
  obtain ⟨r, hrr⟩ : ∃ r, k % q3 = r := ⟨_, rfl⟩
  have hrq : r < q3 := by rw [← hrr]; exact Nat.mod_lt _ (by omega)
  have hri : (k : Int) % (q3 : Int) = (r : Int) := by rw [← hrr, Int.natCast_emod]
  have hri2 : (k : Int).tmod (q3 : Int) = (r : Int) := by rw [Int.tmod_eq_emod_of_nonneg (by omega)]; exact hri
  have HMD := Lib.hid (And.intro hki (And.intro hki2 (And.intro hri hri2)))
  clear hki hki2 hri hri2 hk hrr
  obtain ⟨p, hp⟩ : ∃ p, k + 1 = p := ⟨_, rfl⟩
  have hk8 : (k : Int) < 9 := by omega
  have hk0 : (0 : Int) ≤ (k : Int) := Int.natCast_nonneg k
  obtain ⟨b, o, _, hA2, _, _, _⟩ := (E3.r 1 rfl).get (k := 0) (by omega)
  subst hA2
  have s1 : (k : Int) ≤ (c2 : Int) := by omega
  have s2 : (p : Int) ≤ (q : Int) := by omega
  have s3 : (p : Int) ≤ (c2 : Int) := by omega
  have s4 : ¬ c2 = k := by omega
  have s5 : (k : Int) ≤ (q : Int) := by omega
  obtain ⟨ad, had⟩ : ∃ ad, (if c2 = p then (⟨b, o, none⟩ : Addr) else ⟨b, o + p * 5, none⟩) = ad := ⟨_, rfl⟩
  have hads : (if c2 = p then some (⟨b, o, none⟩ : Addr) else some ⟨b, o + p * 5, none⟩) = some ad := by rw [← had]; split <;> rfl
  have HPI2 := Lib.hid (show IntKind.i64.wrap ((k : Int) + 1) = (p : Int) from (IntWalk.i64_in ((k : Int) + 1) ⟨by omega, by omega⟩).trans (by rw [← hp]; rfl))
  obtain ⟨hki, hki2, hri, hri2⟩ := HMD.out
  have HPI := Lib.hid (show wrap64 ((k : Int) + 1) = (p : Int) from (IntWalk.wrap64_in ((k : Int) + 1) ⟨by omega, by omega⟩).trans (by rw [← hp]; rfl))
  go_upto_region 8 with (fail)
  clear hki hki2 hri hri2
  -- the missing one
  have HT := Lib.hid (cells_take (E3.r 1 rfl).drew_ k)
  have HD := Lib.hid (cells_drop' (E3.r 1 rfl).drew_ p (by omega) had)
  have E3 := E3.drew
  have hpi := HPI2.out
  refine wp_region_late [] (fun _ => True) (by kernel_rfl) ?_
  generalize World.drew _ = wd at *
  refine wpAnyL_take (i := 1) (v := ?_) rfl (by kernel_rfl) (by kernel_rfl) (by kernel_rfl) (by kernel_rfl) (by kernel_rfl) (fun _ _ _ h => h) (Or.inl ⟨by kernel_rfl, ?_⟩) trivial ?_
  rotate_left
  · rintro w0 _; go_simp; (try with_reducible rfl)
  try simp only [Act.put, List.getElem_toArray, List.getElem_cons_succ, List.getElem_cons_zero, List.setIfInBounds_toArray, List.set_cons_zero, List.set_cons_succ]
  refine wpAnyL_take (i := 2) (v := ?_) rfl (by kernel_rfl) (by kernel_rfl) (by kernel_rfl) (by kernel_rfl) (by kernel_rfl) (fun _ _ _ h => h) (Or.inl ⟨by kernel_rfl, ?_⟩) trivial ?_
  rotate_left
  · rintro w0 _; go_simp; (try with_reducible rfl)
  try simp only [Act.put, List.getElem_toArray, List.getElem_cons_succ, List.getElem_cons_zero, List.setIfInBounds_toArray, List.set_cons_zero, List.set_cons_succ]
  refine wpAnyL_take (i := 3) (v := ?_) rfl (by kernel_rfl) (by kernel_rfl) (by kernel_rfl) (by kernel_rfl) (by kernel_rfl) (fun _ _ _ h => h) (Or.inl ⟨by kernel_rfl, ?_⟩) trivial ?_
  rotate_left
  · rintro w0 _; go_simp; (try with_reducible rfl)
  try simp only [Act.put, List.getElem_toArray, List.getElem_cons_succ, List.getElem_cons_zero, List.setIfInBounds_toArray, List.set_cons_zero, List.set_cons_succ]
  refine wpAnyL_take (i := 5) (v := ?_) rfl (by kernel_rfl) (by kernel_rfl) (by kernel_rfl) (by kernel_rfl) (by kernel_rfl) (fun _ _ _ h => h) (Or.inl ⟨by kernel_rfl, ?_⟩) trivial ?_
  rotate_left
  · rintro w0 _; go_simp; (try with_reducible rfl)
  try simp only [Act.put, List.getElem_toArray, List.getElem_cons_succ, List.getElem_cons_zero, List.setIfInBounds_toArray, List.set_cons_zero, List.set_cons_succ]
  refine wpAnyL_take (i := 6) (v := ?_) rfl (by kernel_rfl) (by kernel_rfl) (by kernel_rfl) (by kernel_rfl) (by kernel_rfl) (fun _ _ _ h => h) (Or.inl ⟨by kernel_rfl, ?_⟩) trivial ?_
  rotate_left
  · rintro w0 _; go_simp; (try with_reducible rfl)
  try simp only [Act.put, List.getElem_toArray, List.getElem_cons_succ, List.getElem_cons_zero, List.setIfInBounds_toArray, List.set_cons_zero, List.set_cons_succ]
  refine wpAnyL_take (i := 7) (v := ?_) rfl (by kernel_rfl) (by kernel_rfl) (by kernel_rfl) (by kernel_rfl) (by kernel_rfl) (fun _ _ _ h => h) (Or.inl ⟨by kernel_rfl, ?_⟩) trivial ?_
  rotate_left
  · rintro w0 _; go_simp; (try with_reducible rfl)
  try simp only [Act.put, List.getElem_toArray, List.getElem_cons_succ, List.getElem_cons_zero, List.setIfInBounds_toArray, List.set_cons_zero, List.set_cons_succ]
  refine wpAnyL_take (i := 8) (v := ?_) rfl (by kernel_rfl) (by kernel_rfl) (by kernel_rfl) (by kernel_rfl) (by kernel_rfl) (fun _ _ _ h => h) (Or.inl ⟨by kernel_rfl, ?_⟩) trivial ?_
  rotate_left
  · rintro w0 _; go_simp; (try with_reducible rfl)
  try simp only [Act.put, List.getElem_toArray, List.getElem_cons_succ, List.getElem_cons_zero, List.setIfInBounds_toArray, List.set_cons_zero, List.set_cons_succ]
  clear hpi
  refine wpAnyL_one (i := 0) (by kernel_rfl) rfl (fun K hK => ?_)
  go_simp
  refine hK.out _ _ (fun _ => trivial) ?_
  clear hK K
  try simp only [Act.put, List.getElem_toArray, List.getElem_cons_succ, List.getElem_cons_zero, List.setIfInBounds_toArray, List.set_cons_zero, List.set_cons_succ]
  refine wpAnyL_one (i := 4) (by kernel_rfl) rfl (fun K hK => ?_)
  refine step_appR rfl (.tmp 72) (.tmp 75) 34 rfl 25 _ 5 48 Tryd.underlying34 clinfo rfl (by omega) (by omega) rfl (OwnR.empty (base := wd.heap.size) 25 5 rfl (Nat.le_refl _)) (ad := ⟨b, o, none⟩) (m := k) (c' := c2) (cflat (xs.take k)) rfl (by rw [cflat_len]; simp; omega) (fun j u hu => (World.cell?_alloc_lt wd _ _ (by have := cell_lt_ (HT.out j u hu); exact this)).trans (HT.out j u hu)) (cflat_one default _) (by omega) (by simp) ?_
  intro A8 c8 w8 o8 g8 a8
  rw [List.nil_append] at o8
  have b8 : Below wd.heap.size wd w8 := below_own ((Below.refl wd.heap.size wd).alloc (Nat.le_refl _) _) g8 (by simp) (by simp)
  have HB := Lib.hid b8.size
  have HK := Lib.hid (show ∀ j u, (cflat (xs.drop p))[j]? = some u → w8.cell? (Addr.add ad j) = some u from fun j u hu => below_cell b8 (HD.out j u hu))
  refine hK.out _ _ (fun _ => trivial) ?_
  clear hK K
  try simp only [Act.put, List.getElem_toArray, List.getElem_cons_succ, List.getElem_cons_zero, List.setIfInBounds_toArray, List.set_cons_zero, List.set_cons_succ]
  refine wpAnyL_one (i := 9) (by kernel_rfl) rfl (fun K hK => ?_)
  refine step_appR rfl (.tmp 76) (.tmp 80) 34 rfl 25 _ 5 48 Tryd.underlying34 clinfo rfl (by omega) (by omega) rfl o8 (ad := ad) (m := (q - p)) (c' := (c2 - p)) (cflat (xs.drop p)) rfl (by rw [cflat_len]; simp; omega) HK.out (cflat_one default _) (by omega) HB.out ?_
  intro A9 c9 w9 o9 g9 a9
  have b9 := below_own b8 g9 b8.size (fun ad h => (o8.lt ad h).1)
  rw [← cflat_append] at o9
  refine hK.out _ _ (fun _ => trivial) ?_
  clear hK K
  try simp only [Act.put, List.getElem_toArray, List.getElem_cons_succ, List.getElem_cons_zero, List.setIfInBounds_toArray, List.set_cons_zero, List.set_cons_succ]
  refine wpAnyL_take (i := 10) (v := ?_) rfl (by kernel_rfl) (by kernel_rfl) (by kernel_rfl) (by kernel_rfl) (by kernel_rfl) (fun _ _ _ h => h) (Or.inl ⟨by kernel_rfl, ?_⟩) trivial ?_
  rotate_left
  · rintro w0 _; go_simp; (try with_reducible rfl)
  try simp only [Act.put, List.getElem_toArray, List.getElem_cons_succ, List.getElem_cons_zero, List.setIfInBounds_toArray, List.set_cons_zero, List.set_cons_succ]
  refine wpAnyL_done (by kernel_rfl) ?_ _
  rw [Nat.zero_add] at o9
  obtain ⟨m8, hm8⟩ : ∃ z, k + (q - p) = z := ⟨_, rfl⟩
  rw [hm8] at o9
  have E4 := (E3.below b9).addR (CRd.of_own o9 (fun e he => ((E3.r 1 rfl).ok e (by rcases List.mem_append.1 he with he | he; exact List.mem_of_mem_take he; exact List.mem_of_mem_drop he)).below b9))
  clear E3 HT HD HK HB o8 o9 g8 g9 a8 a9 b8 b9
  have hm8b : m8 ≤ 16 := by omega
  go_wp2_with fail
  -- the one that is there twice
  have HT := Lib.hid (cells_take (E4.r 2 rfl).drew_ p)
  have HD := Lib.hid (cells_drop' (E4.r 2 rfl).drew_ k (by omega) (if_neg s4))
  have E4 := E4.drew
  have hpi := HPI2.out
  refine wp_region_late [] (fun _ => True) (by kernel_rfl) ?_
  generalize World.drew _ = wd at *
  refine wpAnyL_take (i := 1) (v := ?_) rfl (by kernel_rfl) (by kernel_rfl) (by kernel_rfl) (by kernel_rfl) (by kernel_rfl) (fun _ _ _ h => h) (Or.inl ⟨by kernel_rfl, ?_⟩) trivial ?_
  rotate_left
  · rintro w0 _; go_simp; (try with_reducible rfl)
  try simp only [Act.put, List.getElem_toArray, List.getElem_cons_succ, List.getElem_cons_zero, List.setIfInBounds_toArray, List.set_cons_zero, List.set_cons_succ]
  refine wpAnyL_take (i := 2) (v := ?_) rfl (by kernel_rfl) (by kernel_rfl) (by kernel_rfl) (by kernel_rfl) (by kernel_rfl) (fun _ _ _ h => h) (Or.inl ⟨by kernel_rfl, ?_⟩) trivial ?_
  rotate_left
  · rintro w0 _; go_simp; (try with_reducible rfl)
  try simp only [Act.put, List.getElem_toArray, List.getElem_cons_succ, List.getElem_cons_zero, List.setIfInBounds_toArray, List.set_cons_zero, List.set_cons_succ]
  refine wpAnyL_take (i := 3) (v := ?_) rfl (by kernel_rfl) (by kernel_rfl) (by kernel_rfl) (by kernel_rfl) (by kernel_rfl) (fun _ _ _ h => h) (Or.inl ⟨by kernel_rfl, ?_⟩) trivial ?_
  rotate_left
  · rintro w0 _; go_simp; (try with_reducible rfl)
  try simp only [Act.put, List.getElem_toArray, List.getElem_cons_succ, List.getElem_cons_zero, List.setIfInBounds_toArray, List.set_cons_zero, List.set_cons_succ]
  refine wpAnyL_take (i := 4) (v := ?_) rfl (by kernel_rfl) (by kernel_rfl) (by kernel_rfl) (by kernel_rfl) (by kernel_rfl) (fun _ _ _ h => h) (Or.inl ⟨by kernel_rfl, ?_⟩) trivial ?_
  rotate_left
  · rintro w0 _; go_simp; (try with_reducible rfl)
  try simp only [Act.put, List.getElem_toArray, List.getElem_cons_succ, List.getElem_cons_zero, List.setIfInBounds_toArray, List.set_cons_zero, List.set_cons_succ]
  refine wpAnyL_take (i := 6) (v := ?_) rfl (by kernel_rfl) (by kernel_rfl) (by kernel_rfl) (by kernel_rfl) (by kernel_rfl) (fun _ _ _ h => h) (Or.inl ⟨by kernel_rfl, ?_⟩) trivial ?_
  rotate_left
  · rintro w0 _; go_simp; (try with_reducible rfl)
  try simp only [Act.put, List.getElem_toArray, List.getElem_cons_succ, List.getElem_cons_zero, List.setIfInBounds_toArray, List.set_cons_zero, List.set_cons_succ]
  refine wpAnyL_take (i := 7) (v := ?_) rfl (by kernel_rfl) (by kernel_rfl) (by kernel_rfl) (by kernel_rfl) (by kernel_rfl) (fun _ _ _ h => h) (Or.inl ⟨by kernel_rfl, ?_⟩) trivial ?_
  rotate_left
  · rintro w0 _; go_simp; (try with_reducible rfl)
  try simp only [Act.put, List.getElem_toArray, List.getElem_cons_succ, List.getElem_cons_zero, List.setIfInBounds_toArray, List.set_cons_zero, List.set_cons_succ]
  refine wpAnyL_take (i := 8) (v := ?_) rfl (by kernel_rfl) (by kernel_rfl) (by kernel_rfl) (by kernel_rfl) (by kernel_rfl) (fun _ _ _ h => h) (Or.inl ⟨by kernel_rfl, ?_⟩) trivial ?_
  rotate_left
  · rintro w0 _; go_simp; (try with_reducible rfl)
  try simp only [Act.put, List.getElem_toArray, List.getElem_cons_succ, List.getElem_cons_zero, List.setIfInBounds_toArray, List.set_cons_zero, List.set_cons_succ]
  clear hpi
  refine wpAnyL_one (i := 0) (by kernel_rfl) rfl (fun K hK => ?_)
  go_simp
  refine hK.out _ _ (fun _ => trivial) ?_
  clear hK K
  try simp only [Act.put, List.getElem_toArray, List.getElem_cons_succ, List.getElem_cons_zero, List.setIfInBounds_toArray, List.set_cons_zero, List.set_cons_succ]
  refine wpAnyL_one (i := 5) (by kernel_rfl) rfl (fun K hK => ?_)
  refine step_appR rfl (.tmp 82) (.tmp 86) 34 rfl 25 _ 5 48 Tryd.underlying34 clinfo rfl (by omega) (by omega) rfl (OwnR.empty (base := wd.heap.size) 25 5 rfl (Nat.le_refl _)) (ad := ⟨b, o, none⟩) (m := p) (c' := c2) (cflat (xs.take p)) rfl (by rw [cflat_len]; simp; omega) (fun j u hu => (World.cell?_alloc_lt wd _ _ (by have := cell_lt_ (HT.out j u hu); exact this)).trans (HT.out j u hu)) (cflat_one default _) (by omega) (by simp) ?_
  intro A8 c8 w8 o8 g8 a8
  rw [List.nil_append] at o8
  have b8 : Below wd.heap.size wd w8 := below_own ((Below.refl wd.heap.size wd).alloc (Nat.le_refl _) _) g8 (by simp) (by simp)
  have HB := Lib.hid b8.size
  have HK := Lib.hid (show ∀ j u, (cflat (xs.drop k))[j]? = some u → w8.cell? (Addr.add (⟨b, o + k * 5, none⟩ : Addr) j) = some u from fun j u hu => below_cell b8 (HD.out j u hu))
  refine hK.out _ _ (fun _ => trivial) ?_
  clear hK K
  try simp only [Act.put, List.getElem_toArray, List.getElem_cons_succ, List.getElem_cons_zero, List.setIfInBounds_toArray, List.set_cons_zero, List.set_cons_succ]
  refine wpAnyL_one (i := 9) (by kernel_rfl) rfl (fun K hK => ?_)
  refine step_appR rfl (.tmp 87) (.tmp 90) 34 rfl 25 _ 5 48 Tryd.underlying34 clinfo rfl (by omega) (by omega) rfl o8 (ad := (⟨b, o + k * 5, none⟩ : Addr)) (m := (q - k)) (c' := (c2 - k)) (cflat (xs.drop k)) rfl (by rw [cflat_len]; simp; omega) HK.out (cflat_one default _) (by omega) HB.out ?_
  intro A9 c9 w9 o9 g9 a9
  have b9 := below_own b8 g9 b8.size (fun ad h => (o8.lt ad h).1)
  rw [← cflat_append] at o9
  refine hK.out _ _ (fun _ => trivial) ?_
  clear hK K
  try simp only [Act.put, List.getElem_toArray, List.getElem_cons_succ, List.getElem_cons_zero, List.setIfInBounds_toArray, List.set_cons_zero, List.set_cons_succ]
  refine wpAnyL_take (i := 10) (v := ?_) rfl (by kernel_rfl) (by kernel_rfl) (by kernel_rfl) (by kernel_rfl) (by kernel_rfl) (fun _ _ _ h => h) (Or.inl ⟨by kernel_rfl, ?_⟩) trivial ?_
  rotate_left
  · rintro w0 _; go_simp; (try with_reducible rfl)
  try simp only [Act.put, List.getElem_toArray, List.getElem_cons_succ, List.getElem_cons_zero, List.setIfInBounds_toArray, List.set_cons_zero, List.set_cons_succ]
  refine wpAnyL_done (by kernel_rfl) ?_ _
  rw [Nat.zero_add] at o9
  obtain ⟨m9, hm9⟩ : ∃ z, p + (q - k) = z := ⟨_, rfl⟩
  rw [hm9] at o9
  have E5 := (E4.below b9).addR (CRd.of_own o9 (fun e he => ((E4.r 2 rfl).ok e (by rcases List.mem_append.1 he with he | he; exact List.mem_of_mem_take he; exact List.mem_of_mem_drop he)).below b9))
  clear E4 HT HD HK HB o8 o9 g8 g9 a8 a9 b8 b9
  have hm9b : m9 ≤ 16 := by omega
  -- the mixed one
  have HT := Lib.hid (cells_all (E5.r 3 rfl))
  go_upto_region 11 with (at_builtin; refine wpList_appR _ rfl (.tmp 92) (.tmp 93) 34 rfl 25 _ 5 48 Tryd.underlying34 clinfo rfl (by omega) (by omega) rfl (OwnR.empty (base := w9.heap.size) 25 5 rfl (Nat.le_refl _)) (ad := ⟨b, o, none⟩) (m := q) (c' := c2) (cflat xs) rfl (by rw [cflat_len, hxl]) (fun j u hu => (World.cell?_alloc_lt w9 _ _ (by have := cell_lt_ (HT.out j u hu); exact this)).trans (HT.out j u hu)) (cflat_one default xs) (by omega) (by simp) ?_; intro A11 c11 w11 o11 g11 a11)
  simp only [List.nil_append, Nat.zero_add] at o11
  have b11 : Below w9.heap.size w9 w11 := below_own ((Below.refl w9.heap.size w9).alloc (Nat.le_refl _) _) g11 (by simp) (by simp)
  have E6 := E5.below b11
  have hxk : xs[k]? = some (xs[k]'(by omega)) := List.getElem?_eq_getElem (by omega)
  rcases o11.form with ⟨_, h5, _⟩ | ⟨g, cur, rfl, hg1, hcur, _⟩
  · omega
  obtain ⟨b', o', ey, hA3, hbl', hyx, _, y0, y1, y2, y3, y4⟩ := (E6.r 2 rfl).get hrq
  subst hA3
  have hey := split_cell HS3.out HE3.out.1 hrq hyx
  have hyin := (E5.r 2 rfl).ok _ (List.mem_of_getElem? hyx)
  have HTh := Lib.hid (own_there o11 hxk)
  have ow := set_own o11 (by omega : k < xs.length) ey
  have bw := below_set5 b11 hg1 (k * 5) ey
  have HY := Lib.hid (And.intro hey (And.intro hyin (And.intro ow bw)))
  clear hey hyin ow bw hyx o11 g11 a11 hcur hxk
  obtain ⟨⟨yg, ys_, yp, yq, yd⟩, yA, yn, yc⟩ := ey
  dsimp only at y0 y1 y2 y3 y4 HY
  have hri := HMD.out.2.2.1
  have hri2 := HMD.out.2.2.2
  go_upto_region 12 with (refine wpList_store_mid rfl 25 (.tmp 104) (.tmp 103) rfl g (k * 5) #[.int .u32 (yg : Int), .int .u32 (ys_ : Int), .int .i64 yp, .int .i64 yq, .slice yA yn yc] rfl rfl HTh.out (by kernel_rfl) (by simp [Value.oneCell']) ?_)
  clear y0 y1 y2 y3 y4 hri hri2 E6
  have rm := CRd.of_own HY.out.2.2.1 (fun e he => by
    rcases List.mem_or_eq_of_mem_set he with he | rfl
    · exact ((E5.r 3 rfl).ok e he).below HY.out.2.2.2
    · exact HY.out.2.1.below HY.out.2.2.2)
  have E7 := E5.below HY.out.2.2.2
  have hj8 := join_false (Cl.joins_missing (g := 1) (s := 5) (r := R) (k := k) (by rw [HE.out.1]; exact hkq))
  have hj9 := join_false (Cl.joins_twice (g := 1) (s := 5) (r := R) (k := k) (by rw [HE.out.1]; exact hkq))
  have hx8 : (xs.take k ++ xs.drop p).map (·.x) = (Cl.split 1 5 R).take k ++ (Cl.split 1 5 R).drop (k + 1) := by rw [List.map_append, List.map_take, List.map_drop, HS.out, ← hp]
  have hx9 : (xs.take p ++ xs.drop k).map (·.x) = (Cl.split 1 5 R).take (k + 1) ++ (Cl.split 1 5 R).drop k := by rw [List.map_append, List.map_take, List.map_drop, HS.out, ← hp]
  have hxm : (xs.set k ⟨⟨yg, ys_, yp, yq, yd⟩, yA, yn, yc⟩).map (·.x) = (Cl.split 1 5 R).set k ⟨yg, ys_, yp, yq, yd⟩ := by rw [List.map_set, HS.out]
  obtain ⟨cd4, hcd4⟩ : ∃ z, Cl.joinCode ((Cl.split 1 5 R).set k ⟨yg, ys_, yp, yq, yd⟩) = z := ⟨_, rfl⟩
  obtain ⟨J, hJ⟩ : ∃ z, Cl.join ((Cl.split 1 5 R).set k ⟨yg, ys_, yp, yq, yd⟩) = z := ⟨_, rfl⟩
  obtain ⟨mj, hmj⟩ : ∃ z, J.length = z := ⟨_, rfl⟩
  have HJ2 := Lib.hid (And.intro hJ hmj)
  clear hJ hmj
  have hseq : ys_ = 6 := congrArg Cl.seq HY.out.1.1
  have hmix : 2 ≤ q → cd4 = 2 := fun h2 => by
    have := (join_false (Cl.joins_mixed (g := 1) (s := 5) (s' := 6) (r := R) (k := k) (y := ⟨yg, ys_, yp, yq, yd⟩) (by decide) hseq (by rw [HE.out.1]; exact h2) (by rw [HE.out.1]; exact hkq))).2
    rw [← hcd4]; exact this
  have HJ := Lib.hid (And.intro hx8 (And.intro hj8 (And.intro hx9 (And.intro hj9 (And.intro hxm hcd4)))))
  have HM := Lib.hid hmix
  have E8 := E7.addR rm
  clear hx8 hj8 hx9 hj9 hxm hcd4 hseq hmix HY E5 E7 rm b11 HTh HT hp hk8 hk0
  go_wp2_with fail
  refine (join_c (E8.r 2 rfl) (by omega) HJ.out.1 HJ.out.2.1.1 HJ.out.2.1.2 (m := 0) rfl).mono ?_; rintro e w21 ⟨A21, c21, rfl, hi21, hb21⟩
  have E21 := E8.below hb21
  clear E8 hi21 hb21
  go_wp2_with fail
  refine (join_c (E21.r 1 rfl) (by omega) HJ.out.2.2.1 HJ.out.2.2.2.1.1 HJ.out.2.2.2.1.2 (m := 0) rfl).mono ?_; rintro e w22 ⟨A22, c22, rfl, hi22, hb22⟩
  have E22 := E21.below hb22
  clear E21 hi22 hb22
  go_wp2_with fail
  refine (join_c (E22.r 0 rfl) (by omega) HJ.out.2.2.2.2.1 HJ2.out.1 HJ.out.2.2.2.2.2 HJ2.out.2).mono ?_; rintro e w23 ⟨A23, c23, rfl, hi23, hb23⟩
  have E23 := E22.below hb23
  clear E22 hi23 hb23
  by_cases hc4 : cd4 = 2
  · subst hc4
    go_wp2_with fail
    go_ret
    exact ⟨rfl, E23.bel⟩
  · have hq1 : q = 1 := by
      rcases Nat.lt_or_ge q 2 with h | h
      · omega
      · exact absurd (HM.out h) hc4
    have hc5 : (cd4 == 2) = false := by simpa using hc4
    have tq : ((q : Int) == 1) = true := by simp [hq1]
    clear hc4 hq1
    go_wp2_with fail
    go_ret
    exact ⟨rfl, E23.bel⟩
end Go.Proofs.YtfoeapjlklfjgaaDoor
