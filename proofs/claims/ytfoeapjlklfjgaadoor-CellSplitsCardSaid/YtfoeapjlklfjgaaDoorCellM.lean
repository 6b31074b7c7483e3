/- The contract of heijunkaref06.Join. No condition but that each cell has at most 3000 bytes. -/
import Derived.Test.YtfoeapjlklfjgaaDoorCellL
import Derived.Deep.DeepCutAuto
namespace Go.Proofs.YtfoeapjlklfjgaaDoor
set_option linter.unusedSimpArgs false
set_option linter.unusedVariables false
open Go.RowKit

theorem rj_eq {L : List Cl} {i : Nat} (h0 : L ≠ []) (hi : i = min L.length 9) : Cl.joins L = decide (Cl.split (L.headD Cl.zero).gen (L.headD Cl.zero).seq (Cl.flat (L.take i)) = L) := by
  by_cases h9 : 9 < L.length
  · have := Cl.joins_nine h9 (Cl.flat (L.take i)) (L.headD Cl.zero).gen (L.headD Cl.zero).seq
    rw [this.2, decide_eq_false this.1]
  · rw [List.take_of_length_le (by omega)]
    unfold Cl.joins
    rw [decide_eq_true h0]
    rfl
theorem rj_len {L : List Cl} (h : Cl.joins L = true) : L.length ≤ 9 := by
  rcases Nat.lt_or_ge 9 L.length with h9 | h9
  · have := (Cl.joins_nine h9 [] 0 0).2
    rw [this] at h
    cases h
  · exact h9

set_option maxRecDepth 100000 in
set_option maxHeartbeats 6400000 in
theorem rjoin_any {A : Option Addr} {n c : Nat} {xs : List CEl} {w : World} (hr : CRd w A n c xs) (hn : n ≤ 140737488355328) (h3 : ∀ e ∈ xs, e.n ≤ 3000) :
    Calls Tryd.prog 28 #[.slice A n c] w (JoinPost w (xs.map (·.x))) := by
  have hL := hr.len
  obtain ⟨L, hLL⟩ : ∃ L, xs.map (·.x) = L := ⟨_, rfl⟩
  have hLn : L.length = n := by rw [← hLL, List.length_map, hL]
  rw [hLL]
  by_cases h0 : n = 0
  · subst h0
    have hl0 : L = [] := List.eq_nil_of_length_eq_zero hLn
    subst hl0
    clear hLL hLn hL hr
    go_enter Tryd.func28, Tryd.ntmps28
    go_wp2_with fail
    go_ret2
    exact join_no rfl (Below.refl _ _)
  have hn0 : ((n : Int) == 0) = false := by simp; omega
  have H3 := Lib.hid h3
  clear h3
  go_enter Tryd.func28, Tryd.ntmps28
  go_wp2_with fail
  go_loopw [4, 5] (fun bv iv wr => ∃ (i : Nat) (A2 : Option Addr) (m c2 : Nat), i ≤ n ∧ i ≤ 9 ∧ iv = .int .i64 (i : Int) ∧ bv = .slice A2 m c2 ∧ m ≤ 3000 * i ∧ OwnI wr w.heap.size .u8 256 5 A2 m c2 (Cl.flat (L.take i)) ∧ Below w.heap.size w wr) (fun _ iv _ => n - (intOf iv).toNat)
  case atStart => exact ⟨0, none, 0, 0, Nat.zero_le _, by omega, rfl, rfl, by omega, OwnI.nil_ .., Below.refl _ _⟩
  case round =>
    obtain ⟨i, A2, m, c2, hi, hi9, rfl, rfl, hm, ho, hb⟩ := hrel
    by_cases hgo : i < n ∧ i < 9
    · obtain ⟨hlt, hlt9⟩ := hgo
      have hlt1 : (i : Int) < (n : Int) := by omega
      have hlt2 : (i : Int) < 9 := by omega
      have hlt3 : decide ((i : Int) < 9) = true := by simp; omega
      obtain ⟨b, o, e, rfl, hbl, hx, he, _, _, _, _, k4⟩ := (hr.below hb).get hlt
      have hLx : L[i]? = some e.x := by rw [← hLL, List.getElem?_map, hx]; rfl
      have h3000 := H3.out e (List.mem_of_getElem? hx)
      have hie := he.ints
      obtain ⟨⟨gs, sq, pt, ps, dt⟩, eA, en, ec⟩ := e
      dsimp only at k4 hie h3000
      have HX := Lib.hid hLx
      clear hx he hLx
      go_wp2_with (at_builtin; refine wpList_appI _ rfl (.tmp 21) (.tmp 26) _ rfl 5 1 Tryd.underlying23 dinfo_u8 (by omega) ho rfl hie rfl (by omega) (by have := hb.size; omega) ?_; intro A6 c6 w6 ho6 hg6 ha6)
      go_roundw
      case rel =>
        refine ⟨i + 1, A6, m + en, c6, by omega, by omega, by go_num, rfl, by omega, ?_, below_own hb hg6 hb.size (fun ad h => (ho.lt_ ad h).1)⟩
        rw [flat_take HX.out]
        exact ho6
      case measure => simp [intOf]; omega
    · have hii := Lib.hid (show i = min L.length 9 by omega)
      go_upto_region 5 with (fail)
      go_cut [18] (fun s18 wx => s18 = .bool false ∧ wx = wr)
      case first =>
        by_cases hk1 : i < n
        · have hlt1 : (i : Int) < (n : Int) := by omega
          have hlt2 : ¬ (i : Int) < 9 := by omega
          have hlt3 : decide ((i : Int) < 9) = false := by simp; omega
          clear hgo hk1
          go_wp2_with fail
          go_meet
          exact ⟨rfl, rfl⟩
        · have hlt1 : ¬ (i : Int) < (n : Int) := by omega
          clear hgo hk1
          go_wp2_with fail
          go_meet
          exact ⟨rfl, rfl⟩
      case rest =>
          obtain ⟨rfl, rfl⟩ := hcut
          clear hgo
          obtain ⟨b, o, e0, rfl, hbl, hx0, he0, t0, t1, _, _, _⟩ := (hr.below hb).get (k := 0) (by omega)
          rw [Nat.zero_mul, Nat.add_zero] at t0 t1
          have hL0 : L.headD Cl.zero = e0.x := by
            have h1 : L[0]? = some e0.x := by rw [← hLL, List.getElem?_map, hx0]; rfl
            cases L with
            | nil => simp at h1
            | cons y ys => simpa using h1
          have hg0 := he0.gen
          have hs0 := he0.seq
          have hrj := rj_eq (L := L) (fun e => h0 (by rw [← hLn, e]; rfl)) hii.out
          rw [hL0] at hrj
          obtain ⟨⟨g0, s0, p0, r0, d0⟩, fA, fn, fc⟩ := e0
          dsimp only at t0 t1 hg0 hs0 hrj
          have t0 : (fun w' : World => w'.cell? ⟨b, o, none⟩ = some (.int .u32 (g0 : Int)) ∧ w'.cell? ⟨b, o + 1, none⟩ = some (.int .u32 (s0 : Int))) _ := ⟨t0, t1⟩
          obtain ⟨q, hq⟩ : ∃ q, Cl.need (Cl.flat (L.take i)).length = q := ⟨_, rfl⟩
          have HQ := Lib.hid hq
          have HJ := Lib.hid hrj
          have hii9 := Lib.hid hii.out
          clear hx0 he0 hL0 t1 hq hrj hii
          have hb0i : 0 < n := by omega
          go_wp2_with fail
          refine wp_region_late [] (fun w' => w'.cell? ⟨b, o, none⟩ = some (.int .u32 (g0 : Int)) ∧ w'.cell? ⟨b, o + 1, none⟩ = some (.int .u32 (s0 : Int))) (by kernel_rfl) ?_
          refine wpAnyL_take (i := 0) (v := ?_) rfl (by kernel_rfl) (by kernel_rfl) (by kernel_rfl) (by kernel_rfl) (by kernel_rfl) (fun _ _ _ h => h) (Or.inl ⟨by kernel_rfl, ?_⟩) t0 ?_
          rotate_left
          · rintro w0 ⟨h1_, h2_⟩; go_simp; (try with_reducible rfl)
          try simp only [Act.put, List.getElem_toArray, List.getElem_cons_succ, List.getElem_cons_zero, List.setIfInBounds_toArray, List.set_cons_zero, List.set_cons_succ]
          refine wpAnyL_take (i := 1) (v := ?_) rfl (by kernel_rfl) (by kernel_rfl) (by kernel_rfl) (by kernel_rfl) (by kernel_rfl) (fun _ _ _ h => h) (Or.inl ⟨by kernel_rfl, ?_⟩) t0 ?_
          rotate_left
          · rintro w0 ⟨h1_, h2_⟩; go_simp; (try with_reducible rfl)
          try simp only [Act.put, List.getElem_toArray, List.getElem_cons_succ, List.getElem_cons_zero, List.setIfInBounds_toArray, List.set_cons_zero, List.set_cons_succ]
          refine wpAnyL_take (i := 2) (v := ?_) rfl (by kernel_rfl) (by kernel_rfl) (by kernel_rfl) (by kernel_rfl) (by kernel_rfl) (fun _ _ _ h => h) (Or.inl ⟨by kernel_rfl, ?_⟩) t0 ?_
          rotate_left
          · rintro w0 ⟨h1_, h2_⟩; go_simp; (try with_reducible rfl)
          try simp only [Act.put, List.getElem_toArray, List.getElem_cons_succ, List.getElem_cons_zero, List.setIfInBounds_toArray, List.set_cons_zero, List.set_cons_succ]
          refine wpAnyL_take (i := 3) (v := ?_) rfl (by kernel_rfl) (by kernel_rfl) (by kernel_rfl) (by kernel_rfl) (by kernel_rfl) (fun _ _ _ h => h) (Or.inl ⟨by kernel_rfl, ?_⟩) t0 ?_
          rotate_left
          · rintro w0 ⟨h1_, h2_⟩; go_simp; (try with_reducible rfl)
          try simp only [Act.put, List.getElem_toArray, List.getElem_cons_succ, List.getElem_cons_zero, List.setIfInBounds_toArray, List.set_cons_zero, List.set_cons_succ]
          refine wpAnyL_take (i := 4) (v := ?_) rfl (by kernel_rfl) (by kernel_rfl) (by kernel_rfl) (by kernel_rfl) (by kernel_rfl) (fun _ _ _ h => h) (Or.inl ⟨by kernel_rfl, ?_⟩) t0 ?_
          rotate_left
          · rintro w0 ⟨h1_, h2_⟩; go_simp; (try with_reducible rfl)
          try simp only [Act.put, List.getElem_toArray, List.getElem_cons_succ, List.getElem_cons_zero, List.setIfInBounds_toArray, List.set_cons_zero, List.set_cons_succ]
          refine wpAnyL_take (i := 5) (v := ?_) rfl (by kernel_rfl) (by kernel_rfl) (by kernel_rfl) (by kernel_rfl) (by kernel_rfl) (fun _ _ _ h => h) (Or.inl ⟨by kernel_rfl, ?_⟩) t0 ?_
          rotate_left
          · rintro w0 ⟨h1_, h2_⟩; go_simp; (try with_reducible rfl)
          try simp only [Act.put, List.getElem_toArray, List.getElem_cons_succ, List.getElem_cons_zero, List.setIfInBounds_toArray, List.set_cons_zero, List.set_cons_succ]
          refine wpAnyL_take (i := 6) (v := ?_) rfl (by kernel_rfl) (by kernel_rfl) (by kernel_rfl) (by kernel_rfl) (by kernel_rfl) (fun _ _ _ h => h) (Or.inl ⟨by kernel_rfl, ?_⟩) t0 ?_
          rotate_left
          · rintro w0 ⟨h1_, h2_⟩; go_simp; (try with_reducible rfl)
          try simp only [Act.put, List.getElem_toArray, List.getElem_cons_succ, List.getElem_cons_zero, List.setIfInBounds_toArray, List.set_cons_zero, List.set_cons_succ]
          refine wpAnyL_take (i := 7) (v := ?_) rfl (by kernel_rfl) (by kernel_rfl) (by kernel_rfl) (by kernel_rfl) (by kernel_rfl) (fun _ _ _ h => h) (Or.inl ⟨by kernel_rfl, ?_⟩) t0 ?_
          rotate_left
          · rintro w0 ⟨h1_, h2_⟩; go_simp; (try with_reducible rfl)
          try simp only [Act.put, List.getElem_toArray, List.getElem_cons_succ, List.getElem_cons_zero, List.setIfInBounds_toArray, List.set_cons_zero, List.set_cons_succ]
          refine wpAnyL_take (i := 8) (v := ?_) rfl (by kernel_rfl) (by kernel_rfl) (by kernel_rfl) (by kernel_rfl) (by kernel_rfl) (fun _ _ _ h => h) (Or.inl ⟨by kernel_rfl, ?_⟩) t0 ?_
          rotate_left
          · rintro w0 ⟨h1_, h2_⟩; go_simp; (try with_reducible rfl)
          try simp only [Act.put, List.getElem_toArray, List.getElem_cons_succ, List.getElem_cons_zero, List.setIfInBounds_toArray, List.set_cons_zero, List.set_cons_succ]
          refine wpAnyL_one (i := 9) (by kernel_rfl) rfl (fun K hK => ?_)
          go_simp
          refine (rsplit_c hg0 hs0 ho.ints.drew (by omega) HQ.out rfl).mono ?_; rintro e w3 ⟨A5, c5, ys, rfl, hys, hxs, hb3⟩
          have t3 : (fun w' => w'.cell? ⟨b, o, none⟩ = some (.int .u32 (g0 : Int)) ∧ w'.cell? ⟨b, o + 1, none⟩ = some (.int .u32 (s0 : Int))) w3 := ⟨below_cell hb3 t0.1, below_cell hb3 t0.2⟩
          generalize hcd : Cl.splitCode (Cl.flat (L.take i)) = cd
          go_wp2_with fail
          refine hK.out _ _ (fun _ => t3) ?_
          clear hK K
          try simp only [Act.put, List.getElem_toArray, List.getElem_cons_succ, List.getElem_cons_zero, List.setIfInBounds_toArray, List.set_cons_zero, List.set_cons_succ]
          refine wpAnyL_take (i := 10) (v := ?_) rfl (by kernel_rfl) (by kernel_rfl) (by kernel_rfl) (by kernel_rfl) (by kernel_rfl) (fun _ _ _ h => h) (Or.inl ⟨by kernel_rfl, ?_⟩) t3 ?_
          rotate_left
          · rintro w0 ⟨h1_, h2_⟩; go_simp; (try with_reducible rfl)
          try simp only [Act.put, List.getElem_toArray, List.getElem_cons_succ, List.getElem_cons_zero, List.setIfInBounds_toArray, List.set_cons_zero, List.set_cons_succ]
          refine wpAnyL_take (i := 11) (v := ?_) rfl (by kernel_rfl) (by kernel_rfl) (by kernel_rfl) (by kernel_rfl) (by kernel_rfl) (fun _ _ _ h => h) (Or.inl ⟨by kernel_rfl, ?_⟩) t3 ?_
          rotate_left
          · rintro w0 ⟨h1_, h2_⟩; go_simp; (try with_reducible rfl)
          try simp only [Act.put, List.getElem_toArray, List.getElem_cons_succ, List.getElem_cons_zero, List.setIfInBounds_toArray, List.set_cons_zero, List.set_cons_succ]
          refine wpAnyL_take (i := 12) (v := ?_) rfl (by kernel_rfl) (by kernel_rfl) (by kernel_rfl) (by kernel_rfl) (by kernel_rfl) (fun _ _ _ h => h) (Or.inl ⟨by kernel_rfl, ?_⟩) t3 ?_
          rotate_left
          · rintro w0 ⟨h1_, h2_⟩; go_simp; (try with_reducible rfl)
          try simp only [Act.put, List.getElem_toArray, List.getElem_cons_succ, List.getElem_cons_zero, List.setIfInBounds_toArray, List.set_cons_zero, List.set_cons_succ]
          refine wpAnyL_take (i := 13) (v := ?_) rfl (by kernel_rfl) (by kernel_rfl) (by kernel_rfl) (by kernel_rfl) (by kernel_rfl) (fun _ _ _ h => h) (Or.inl ⟨by kernel_rfl, ?_⟩) t3 ?_
          rotate_left
          · rintro w0 ⟨h1_, h2_⟩; go_simp; (try with_reducible rfl)
          try simp only [Act.put, List.getElem_toArray, List.getElem_cons_succ, List.getElem_cons_zero, List.setIfInBounds_toArray, List.set_cons_zero, List.set_cons_succ]
          refine wpAnyL_take (i := 14) (v := ?_) rfl (by kernel_rfl) (by kernel_rfl) (by kernel_rfl) (by kernel_rfl) (by kernel_rfl) (fun _ _ _ h => h) (Or.inl ⟨by kernel_rfl, ?_⟩) t3 ?_
          rotate_left
          · rintro w0 ⟨h1_, h2_⟩; go_simp; (try with_reducible rfl)
          try simp only [Act.put, List.getElem_toArray, List.getElem_cons_succ, List.getElem_cons_zero, List.setIfInBounds_toArray, List.set_cons_zero, List.set_cons_succ]
          refine wpAnyL_done (by kernel_rfl) ?_ _
          have hb4 := below_step hb.drew hb3 hb.size
          have hlo := below_step (Below.refl _ _).drew hb3 (Nat.le_refl _)
          have HC := Lib.hid hcd
          have HF := Lib.hid (And.intro (ho.below hlo) (And.intro hxs hb4))
          have hrd := (hr.below hb4)
          clear ho hcd hxs t0 t3 hb hb4 hlo
          by_cases hq0 : q = 0
          · obtain rfl : cd = 1 := by rw [← HC.out]; unfold Cl.splitCode; rw [HQ.out, if_pos hq0]
            clear hb3
            go_wp2_with fail
            go_ret2
            refine join_no ?_ HF.out.2.2
            rw [HJ.out, decide_eq_false]
            intro e
            have e1 := congrArg List.length e
            rw [Cl.split_len, HQ.out] at e1
            omega
          · obtain rfl : cd = 0 := by rw [← HC.out]; unfold Cl.splitCode; rw [HQ.out, if_neg hq0]
            have hq8 := Cl.need_le (Cl.flat (L.take i)).length
            rw [HQ.out] at hq8
            have hal := fun w1 h1 h2 => alike_c (w := w1) h1 h2 (by omega) hn (r := Cl.joins L) (xs := ys) (ys := xs) (A := A5) (n := q) (c := c5) (B := some ⟨b, o, none⟩) (m := n) (d := c) (by rw [HF.out.2.1, hLL]; exact HJ.out.symm)
            clear hb3
            generalize hjl : Cl.joins L = jl at hal
            have HJL := Lib.hid hjl
            clear hjl
            go_wp2_with fail
            refine (hal _ hys hrd).mono ?_; rintro e w5 ⟨rfl, hb5⟩
            have HB5 := Lib.hid (below_step HF.out.2.2 hb5 HF.out.2.2.size)
            cases jl with
            | false =>
              clear hal
              go_wp2_with fail
              go_ret2
              exact join_no HJL.out HB5.out
            | true =>
              clear hal
              have hfin := HF.out.1.below hb5
              rw [List.take_of_length_le (by have := rj_len HJL.out; have := hii9.out; omega)] at hfin
              have HO := Lib.hid hfin
              clear hfin hb5
              go_wp2_with fail
              go_ret2
              exact join_yes HJL.out HO.out HB5.out
end Go.Proofs.YtfoeapjlklfjgaaDoor
