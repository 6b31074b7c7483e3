/- The law LedgerGens, walked. No condition but the reach of its slices. -/
import Derived.Test.YtdlcngmcjidomaaDoorLLMost
import Derived.Test.YtdlcngmcjidomaaDoorLawBss
namespace Go.Proofs.YtdlcngmcjidomaaDoor
set_option linter.unusedSimpArgs false
set_option linter.unusedVariables false
open Go.RowKit Go.Shelf

theorem fewB_lt9 {xs : List BEl} (h : fewB xs = true) : xs.length < 40 := by
  unfold fewB at h
  simp only [Bool.and_eq_true, decide_eq_true_iff] at h
  exact h.1
theorem total_take_le : ∀ (rs : List (List Nat)) (k : Nat), SegSt.total (rs.take k) ≤ 8 * k
  | rs, k => by
    have h := total_le (rs.take k)
    have h2 : (rs.take k).length ≤ k := by rw [List.length_take]; omega
    omega
theorem good_snoc (rs : List (List Nat)) (r : List Nat) : SegSt.good (rs ++ [r]) = (SegSt.good rs && decide (Cl.need r.length ≠ 0)) := by
  unfold SegSt.good
  rw [List.all_append]
  simp
theorem LE.size_ {w0 w : World} {g hl half gen : Nat} {s : DSt} {all : List (List Nat)} {B : Nat} {bl : List WBk} {ys : List WRow} {rd : List BEl} (E : LE w0 w g hl s half gen all B bl ys rd) : 2 + 2 * half ≤ s.sure.length ∧ s.sure.length ≤ 3 + 2 * half := by
  obtain ⟨hs, t, A, c, xs, E0, L, hxs⟩ := E.ex
  exact L.len
set_option maxRecDepth 100000 in
set_option maxHeartbeats 25600000 in
theorem ledgerGens_any (A : Option Addr) (m c : Nat) (ls : List Bss) (w : World) (hr : Lists w A m c ls) (hm : m ≤ maxLen) (hx : ∀ x ∈ ls, x.n ≤ 140737488355328 ∧ ∀ e ∈ x.xs, e.n ≤ 140737488355328) :
    Calls Tryd.prog 8 #[.slice A m c] w fun e w' => e = .returned (.bool true) ∧ Below w.heap.size w w' := by
  have hmi : (m : Int) ≤ 9223372036854775807 := by unfold maxLen at hm; omega
  have HR := Lib.hid (And.intro hr hx)
  clear hr hx hm
  have hL := Led.LUp.new (half := 99) (D := 200) (by omega) (by omega)
  have HL := Lib.hid hL
  clear hL
  by_cases h12 : 12 < m
  · have q1 : (12 : Int) < (m : Int) := by omega
    have q1d : decide ((12 : Int) < (m : Int)) = true := decide_eq_true q1
    clear h12
    go_enter Tryd.func8, Tryd.ntmps8
    go_wp2_with fail
    refine (awake9_any _).mono ?_; rintro e w1 ⟨rfl, hb1⟩
    have HB1 := Lib.hid hb1
    clear hb1
    go_wp2_with fail
    refine (we_new (w0 := w) 200 (by omega) (by omega) _ HB1.out).mono ?_; rintro e w2 ⟨g, rfl, E⟩
    have HF := Lib.hid E.bel
    clear E HB1
    go_wp2_with fail
    go_ret
    exact ⟨rfl, HF.out⟩
  have q1 : ¬ (12 : Int) < (m : Int) := by omega
  have q1d : decide ((12 : Int) < (m : Int)) = false := decide_eq_false q1
  have hm12 : m ≤ 12 := by omega
  clear h12
  go_enter Tryd.func8, Tryd.ntmps8
  go_wp2_with fail
  refine (awake9_any _).mono ?_; rintro e w1 ⟨rfl, hb1⟩
  have HB1 := Lib.hid hb1
  clear hb1
  go_wp2_with fail
  refine (we_new (w0 := w) 200 (by omega) (by omega) _ HB1.out).mono ?_; rintro e w2 ⟨g, rfl, E⟩
  clear q1 q1d
  go_wp2_with fail
  refine (open_we E HL.out (by rw [new_length]) (by rw [new_length]; omega) (by decide)).mono ?_; rintro e w3 ⟨hl0, rfl, E3⟩
  have HE3 := Lib.hid E3
  clear E E3 HB1
  go_wp2_with fail
  go_loopw [5, 7, 8] (fun lv gv iv wr => ∃ (i hl : Nat) (s : DSt) (gen : Nat) (all : List (List Nat)) (B : Nat), i ≤ m ∧ iv = .int .i64 (i : Int) ∧ lv = .pointer (some ⟨hl, 0, none⟩) ∧ gv = .int .u32 (gen : Int) ∧ gen ≤ i ∧ B ≤ 40 * i ∧ s.begun ≤ 200 * i ∧ LE w wr g hl s 99 gen all B [] [] []) (fun _ _ iv _ => m - (intOf iv).toNat)
  case atStart => exact ⟨0, hl0, DSt.new 200, 0, [], 0, Nat.zero_le _, rfl, rfl, rfl, Nat.le_refl _, Nat.zero_le _, Nat.le_refl _, HE3.out⟩
  case round =>
    obtain ⟨i, hl, s, gen, all, B, hi, rfl, rfl, rfl, hgi, hBi, hbg, E⟩ := hrel
    clear HE3
    have hi13 : i ≤ 12 := by omega
    have HI := Lib.hid (And.intro hgi (And.intro hBi (And.intro hbg E)))
    clear hgi hBi hbg E
    by_cases hlt : i < m
    · obtain ⟨ba, oo, x, rfl, hxi, hci, hbx⟩ := HR.out.1.get hlt
      have hxw := HR.out.2 x (List.mem_of_getElem? hxi)
      have hblt : ba < w.heap.size := by obtain ⟨b', o', e', hb', _⟩ := HR.out.1.at_ (by omega); cases e'; exact hb'
      have HC := Lib.hid (show ∀ w', Below w.heap.size w w' → w'.cell? ⟨ba, oo + i, none⟩ = some (.slice x.A x.n x.c) from fun w' hb => (hb.cell (p := ⟨ba, _, none⟩) hblt).trans hci)
      have HX := Lib.hid (And.intro hbx hxw)
      clear hci hbx hxw hxi
      have hlt1 : (i : Int) < (m : Int) := by omega
      have hi0 : (0 : Int) ≤ (i : Int) := by omega
      have hcw := HC.out wr HI.out.2.2.2.bel
      have hfew := few_any (HX.out.1.below HI.out.2.2.2.bel) HX.out.2.1 HX.out.2.2
      cases hfb : fewB x.xs with
      | false =>
        rw [hfb] at hfew
        have HF := Lib.hid hfew
        have HB := Lib.hid HI.out.2.2.2.bel
        clear hfew hfb
        go_wp2_with fail
        refine HF.out.mono ?_; rintro e w4 ⟨rfl, rfl⟩
        go_wp2_with fail
        go_ret
        exact ⟨rfl, HB.out⟩
      | true =>
        rw [hfb] at hfew
        have hx40 : x.n < 40 := by have := fewB_lt9 hfb; have := HX.out.1.len; omega
        have HF := Lib.hid hfew
        clear hfew hfb
        go_wp2_with fail
        refine HF.out.mono ?_; rintro e w4 ⟨rfl, rfl⟩
        clear hcw HF
        go_wp2_with fail
        go_loopw [9, 10, 11] (fun nv rv kv wr2 => ∃ (j nd : Nat) (gb : Bool), j ≤ x.n ∧ kv = .int .i64 (j : Int) ∧ nv = .int .i64 (nd : Int) ∧ rv = .bool gb ∧ SegSt.good ((x.xs.map (·.l)).take j) = gb ∧ nd = SegSt.total ((x.xs.map (·.l)).take j) ∧ wr2 = w4) (fun _ _ kv _ => x.n - (intOf kv).toNat)
        case atStart => exact ⟨0, 0, true, Nat.zero_le _, rfl, rfl, rfl, rfl, rfl, rfl⟩
        case round =>
          obtain ⟨j, nd, gb, hj, rfl, rfl, rfl, hgb, hnd, rfl⟩ := hrel
          have hcw := HC.out _ HI.out.2.2.2.bel
          have hnd9 : nd ≤ 8 * j := by rw [hnd]; exact total_take_le _ _
          have HND := Lib.hid (And.intro hnd hgb)
          clear hnd hgb
          by_cases hjx : j < x.n
          · obtain ⟨b2, o2, y, hxA, hy, hcy, hiy⟩ := (HX.out.1.below HI.out.2.2.2.bel).get hjx
            have hym := HX.out.2.2 y (List.mem_of_getElem? hy)
            have hyl := hiy.len
            have hrj : (x.xs.map (·.l))[j]? = some y.l := by rw [List.getElem?_map, hy]; rfl
            obtain ⟨k, hk⟩ : ∃ k, Cl.need y.n = k := ⟨_, rfl⟩
            have hk8 : k ≤ 8 := by rw [← hk]; exact Cl.need_le _
            obtain ⟨nd2, hnd2⟩ : ∃ z, nd + k = z := ⟨_, rfl⟩
            have hndi : (nd : Int) + (k : Int) = (nd2 : Int) := by omega
            have hnd2b : nd2 ≤ 400 := by omega
            have htk : (x.xs.map (·.l)).take (j + 1) = (x.xs.map (·.l)).take j ++ [y.l] := by rw [List.take_add_one, hrj]; rfl
            have htot : nd2 = SegSt.total ((x.xs.map (·.l)).take (j + 1)) := by rw [htk, led_total_snoc, ← HND.out.1, hyl, hk, hnd2]
            have hgd : SegSt.good ((x.xs.map (·.l)).take (j + 1)) = (gb && decide (k ≠ 0)) := by rw [htk, good_snoc, HND.out.2, hyl, hk]
            have HK := Lib.hid (And.intro hk (And.intro htot hgd))
            have hjx1 : (j : Int) < (x.n : Int) := by omega
            have hj0 : (0 : Int) ≤ (j : Int) := by omega
            rw [hxA] at hcw
            clear hk hnd2 htk htot hgd hrj hy hiy hyl hxA hnd9
            go_wp2_with fail
            refine (rneed_any (y.n : Int) _ (by omega) (by omega)).mono ?_; rintro e w5 ⟨rfl, rfl⟩
            rw [Int.toNat_natCast, HK.out.1]
            cases gb with
            | false =>
              go_wp2_with fail
              go_roundw
              case rel => exact ⟨j + 1, nd2, false, by omega, by go_num, rfl, rfl, HK.out.2.2, HK.out.2.1, trivial⟩
              case measure => simp [intOf]; omega
            | true =>
              by_cases hk0 : k = 0
              · have q0 : ¬ (0 : Int) < (k : Int) := by omega
                have q0d : decide ((0 : Int) < (k : Int)) = false := decide_eq_false q0
                have q0n : ¬ 0 < k := by omega
                have hgf : SegSt.good ((x.xs.map (·.l)).take (j + 1)) = false := by rw [HK.out.2.2, hk0]; rfl
                have HG := Lib.hid hgf
                clear hgf hk0
                go_wp2_with fail
                go_roundw
                case rel => exact ⟨j + 1, nd2, false, by omega, by go_num, rfl, rfl, HG.out, HK.out.2.1, trivial⟩
                case measure => simp [intOf]; omega
              · have q0n : 0 < k := by omega
                have q0 : (0 : Int) < (k : Int) := by omega
                have q0d : decide ((0 : Int) < (k : Int)) = true := decide_eq_true q0
                have hgf : SegSt.good ((x.xs.map (·.l)).take (j + 1)) = true := by rw [HK.out.2.2]; simp [hk0]
                have HG := Lib.hid hgf
                clear hgf hk0
                go_wp2_with fail
                go_roundw
                case rel => exact ⟨j + 1, nd2, true, by omega, by go_num, rfl, rfl, HG.out, HK.out.2.1, trivial⟩
                case measure => simp [intOf]; omega
          · obtain rfl : j = x.n := by omega
            have hjx1 : ¬ (x.n : Int) < (x.n : Int) := by omega
            have hlen : (x.xs.map (·.l)).length = x.n := by rw [List.length_map]; exact HX.out.1.len
            have htk : (x.xs.map (·.l)).take x.n = x.xs.map (·.l) := List.take_of_length_le (by omega)
            have hT : SegSt.total (x.xs.map (·.l)) = nd := by rw [HND.out.1, htk]
            have hG : SegSt.good (x.xs.map (·.l)) = gb := by rw [← HND.out.2, htk]
            have hR : RecIn w g [] [] x.A x.n x.c x.xs := RecIn.low HX.out.1 HX.out.2.2
            have HTG := Lib.hid (And.intro hT (And.intro hG (And.intro hR hlen)))
            have hx1000 : x.n ≤ 1000 := by omega
            clear htk hT hG hR hlen hjx HND hj
            cases gb with
            | false =>
              go_wp2_with fail
              refine (compact_arg HI.out.2.2.2 HTG.out.2.2.1 hx1000 HTG.out.2.1).mono ?_; rintro e w5 ⟨rfl, E5⟩
              have HE5 := Lib.hid E5
              clear E5
              go_wp2_with fail
              go_roundw
              case rel => exact ⟨i + 1, hl, s, gen, all, B, by omega, by go_num, rfl, rfl, by have := HI.out.1; omega, by have := HI.out.2.1; omega, by have := HI.out.2.2.1; omega, HE5.out⟩
              case measure => simp [intOf]; omega
            | true =>
              by_cases h99 : 99 < nd
              · have q9 : (99 : Int) < (nd : Int) := by omega
                have q9d : decide ((99 : Int) < (nd : Int)) = true := decide_eq_true q9
                go_wp2_with fail
                refine (compact_full HI.out.2.2.2 HTG.out.2.2.1 (by omega) HTG.out.2.1 (by rw [HTG.out.1]; exact h99)).mono ?_; rintro e w5 ⟨rfl, E5⟩
                have HE5 := Lib.hid E5
                clear E5 h99
                go_wp2_with fail
                go_roundw
                case rel => exact ⟨i + 1, hl, s, gen, all, B, by omega, by go_num, rfl, rfl, by have := HI.out.1; omega, by have := HI.out.2.1; omega, by have := HI.out.2.2.1; omega, HE5.out⟩
                case measure => simp [intOf]; omega
              · have q9 : ¬ (99 : Int) < (nd : Int) := by omega
                have q9d : decide ((99 : Int) < (nd : Int)) = false := decide_eq_false q9
                obtain ⟨gn, hgn⟩ : ∃ gn, gen + 1 = gn := ⟨_, rfl⟩
                obtain ⟨fr, hfr⟩ : ∃ fr, 99 - nd = fr := ⟨_, rfl⟩
                have hwg : (gen : Int) + 1 = (gn : Int) := by omega
                have hgnb : gn ≤ 13 := by have := HI.out.1; omega
                have hcp := compact_ok HI.out.2.2.2 HTG.out.2.2.1 (by omega) HTG.out.2.1 (by rw [HTG.out.1]; omega) (by have := HI.out.2.1; omega) (by omega) (by have := HI.out.2.2.1; omega)
                rw [hgn] at hcp
                have HT := Lib.hid (And.intro HTG.out.1 (And.intro hfr (And.intro (show IntKind.i64.wrap ((99 : Int) - (nd : Int)) = (fr : Int) from (IntWalk.i64_in _ ⟨by omega, by omega⟩).trans (by omega)) HTG.out.2.2.2)))
                have HCP := Lib.hid (And.intro hcp (And.intro hgn hwg))
                clear hcp hgn hfr h99 hwg
                go_wp2_with fail
                refine HCP.out.1.mono ?_; rintro e w5 ⟨rfl, s5, E5, hb5⟩
                have HE := Lib.hid E5
                clear E5 hb5
                have hwg := HCP.out.2.2
                go_wp2_with fail
                clear hwg
                have E1 := HE.out.to (w' := _) (fun _ _ _ E => E.drew)
                generalize hwd : World.drew _ = wd at *
                have s0 : (fun w' : World => w'.cell? ⟨ba, oo + i, none⟩ = some (.slice x.A x.n x.c)) wd := HC.out wd E1.bel
                refine wp_region_late [] (fun w' : World => w'.cell? ⟨ba, oo + i, none⟩ = some (.slice x.A x.n x.c)) (by kernel_rfl) ?_
                rw [hwd]
                clear hwd
                refine wpAnyL_take (i := 0) (v := ?_) rfl (by kernel_rfl) (by kernel_rfl) (by kernel_rfl) (by kernel_rfl) (by kernel_rfl) (fun _ _ _ h => h) (Or.inl ⟨by kernel_rfl, ?_⟩) s0 ?_
                rotate_left
                · rintro w0 h1_; go_simp; (try with_reducible rfl)
                try simp only [Act.put, List.getElem_toArray, List.getElem_cons_succ, List.getElem_cons_zero, List.setIfInBounds_toArray, List.set_cons_zero, List.set_cons_succ]
                refine wpAnyL_take (i := 1) (v := ?_) rfl (by kernel_rfl) (by kernel_rfl) (by kernel_rfl) (by kernel_rfl) (by kernel_rfl) (fun _ _ _ h => h) (Or.inl ⟨by kernel_rfl, ?_⟩) s0 ?_
                rotate_left
                · rintro w0 h1_; go_simp; (try with_reducible rfl)
                try simp only [Act.put, List.getElem_toArray, List.getElem_cons_succ, List.getElem_cons_zero, List.setIfInBounds_toArray, List.set_cons_zero, List.set_cons_succ]
                refine wpAnyL_take (i := 2) (v := ?_) rfl (by kernel_rfl) (by kernel_rfl) (by kernel_rfl) (by kernel_rfl) (by kernel_rfl) (fun _ _ _ h => h) (Or.inl ⟨by kernel_rfl, ?_⟩) s0 ?_
                rotate_left
                · rintro w0 h1_; go_simp; (try with_reducible rfl)
                try simp only [Act.put, List.getElem_toArray, List.getElem_cons_succ, List.getElem_cons_zero, List.setIfInBounds_toArray, List.set_cons_zero, List.set_cons_succ]
                refine wpAnyL_take (i := 3) (v := ?_) rfl (by kernel_rfl) (by kernel_rfl) (by kernel_rfl) (by kernel_rfl) (by kernel_rfl) (fun _ _ _ h => h) (Or.inl ⟨by kernel_rfl, ?_⟩) s0 ?_
                rotate_left
                · rintro w0 h1_; go_simp; (try with_reducible rfl)
                try simp only [Act.put, List.getElem_toArray, List.getElem_cons_succ, List.getElem_cons_zero, List.setIfInBounds_toArray, List.set_cons_zero, List.set_cons_succ]
                refine wpAnyL_take (i := 5) (v := ?_) rfl (by kernel_rfl) (by kernel_rfl) (by kernel_rfl) (by kernel_rfl) (by kernel_rfl) (fun _ _ _ h => h) (Or.inl ⟨by kernel_rfl, ?_⟩) s0 ?_
                rotate_left
                · rintro w0 h1_; go_simp; (try with_reducible rfl)
                try simp only [Act.put, List.getElem_toArray, List.getElem_cons_succ, List.getElem_cons_zero, List.setIfInBounds_toArray, List.set_cons_zero, List.set_cons_succ]
                refine wpAnyL_one (i := 4) (by kernel_rfl) rfl (fun K hK => ?_)
                go_simp
                refine (lgen_le E1).mono ?_; rintro e w4 ⟨rfl, rfl⟩
                go_wp2_with fail
                refine hK.out _ _ (fun _ => s0) ?_
                clear hK K
                try simp only [Act.put, List.getElem_toArray, List.getElem_cons_succ, List.getElem_cons_zero, List.setIfInBounds_toArray, List.set_cons_zero, List.set_cons_succ]
                refine wpAnyL_take (i := 6) (v := ?_) rfl (by kernel_rfl) (by kernel_rfl) (by kernel_rfl) (by kernel_rfl) (by kernel_rfl) (fun _ _ _ h => h) (Or.inl ⟨by kernel_rfl, ?_⟩) s0 ?_
                rotate_left
                · rintro w0 h1_; go_simp; (try with_reducible rfl)
                try simp only [Act.put, List.getElem_toArray, List.getElem_cons_succ, List.getElem_cons_zero, List.setIfInBounds_toArray, List.set_cons_zero, List.set_cons_succ]
                refine wpAnyL_take (i := 7) (v := ?_) rfl (by kernel_rfl) (by kernel_rfl) (by kernel_rfl) (by kernel_rfl) (by kernel_rfl) (fun _ _ _ h => h) (Or.inl ⟨by kernel_rfl, ?_⟩) s0 ?_
                rotate_left
                · rintro w0 h1_; go_simp; (try with_reducible rfl)
                try simp only [Act.put, List.getElem_toArray, List.getElem_cons_succ, List.getElem_cons_zero, List.setIfInBounds_toArray, List.set_cons_zero, List.set_cons_succ]
                refine wpAnyL_take (i := 8) (v := ?_) rfl (by kernel_rfl) (by kernel_rfl) (by kernel_rfl) (by kernel_rfl) (by kernel_rfl) (fun _ _ _ h => h) (Or.inl ⟨by kernel_rfl, ?_⟩) s0 ?_
                rotate_left
                · rintro w0 h1_; go_simp; (try with_reducible rfl)
                try simp only [Act.put, List.getElem_toArray, List.getElem_cons_succ, List.getElem_cons_zero, List.setIfInBounds_toArray, List.set_cons_zero, List.set_cons_succ]
                refine wpAnyL_take (i := 9) (v := ?_) rfl (by kernel_rfl) (by kernel_rfl) (by kernel_rfl) (by kernel_rfl) (by kernel_rfl) (fun _ _ _ h => h) (Or.inl ⟨by kernel_rfl, ?_⟩) s0 ?_
                rotate_left
                · rintro w0 h1_; go_simp; (try with_reducible rfl)
                try simp only [Act.put, List.getElem_toArray, List.getElem_cons_succ, List.getElem_cons_zero, List.setIfInBounds_toArray, List.set_cons_zero, List.set_cons_succ]
                refine wpAnyL_take (i := 11) (v := ?_) rfl (by kernel_rfl) (by kernel_rfl) (by kernel_rfl) (by kernel_rfl) (by kernel_rfl) (fun _ _ _ h => h) (Or.inl ⟨by kernel_rfl, ?_⟩) s0 ?_
                rotate_left
                · rintro w0 h1_; go_simp; (try with_reducible rfl)
                try simp only [Act.put, List.getElem_toArray, List.getElem_cons_succ, List.getElem_cons_zero, List.setIfInBounds_toArray, List.set_cons_zero, List.set_cons_succ]
                refine wpAnyL_one (i := 10) (by kernel_rfl) rfl (fun K hK => ?_)
                go_simp
                refine (lused_le E1).mono ?_; rintro e w5 ⟨rfl, E2⟩
                rw [HT.out.1]
                have s1 : (fun w' : World => w'.cell? ⟨ba, oo + i, none⟩ = some (.slice x.A x.n x.c)) w5 := HC.out _ E2.bel
                clear E1
                go_wp2_with fail
                refine hK.out _ _ (fun _ => s1) ?_
                clear hK K
                try simp only [Act.put, List.getElem_toArray, List.getElem_cons_succ, List.getElem_cons_zero, List.setIfInBounds_toArray, List.set_cons_zero, List.set_cons_succ]
                refine wpAnyL_take (i := 12) (v := ?_) rfl (by kernel_rfl) (by kernel_rfl) (by kernel_rfl) (by kernel_rfl) (by kernel_rfl) (fun _ _ _ h => h) (Or.inl ⟨by kernel_rfl, ?_⟩) s1 ?_
                rotate_left
                · rintro w0 h1_; go_simp; (try with_reducible rfl)
                try simp only [Act.put, List.getElem_toArray, List.getElem_cons_succ, List.getElem_cons_zero, List.setIfInBounds_toArray, List.set_cons_zero, List.set_cons_succ]
                refine wpAnyL_take (i := 13) (v := ?_) rfl (by kernel_rfl) (by kernel_rfl) (by kernel_rfl) (by kernel_rfl) (by kernel_rfl) (fun _ _ _ h => h) (Or.inl ⟨by kernel_rfl, ?_⟩) s1 ?_
                rotate_left
                · rintro w0 h1_; go_simp; (try with_reducible rfl)
                try simp only [Act.put, List.getElem_toArray, List.getElem_cons_succ, List.getElem_cons_zero, List.setIfInBounds_toArray, List.set_cons_zero, List.set_cons_succ]
                refine wpAnyL_take (i := 14) (v := ?_) rfl (by kernel_rfl) (by kernel_rfl) (by kernel_rfl) (by kernel_rfl) (by kernel_rfl) (fun _ _ _ h => h) (Or.inl ⟨by kernel_rfl, ?_⟩) s1 ?_
                rotate_left
                · rintro w0 h1_; go_simp; (try with_reducible rfl)
                try simp only [Act.put, List.getElem_toArray, List.getElem_cons_succ, List.getElem_cons_zero, List.setIfInBounds_toArray, List.set_cons_zero, List.set_cons_succ]
                refine wpAnyL_take (i := 15) (v := ?_) rfl (by kernel_rfl) (by kernel_rfl) (by kernel_rfl) (by kernel_rfl) (by kernel_rfl) (fun _ _ _ h => h) (Or.inl ⟨by kernel_rfl, ?_⟩) s1 ?_
                rotate_left
                · rintro w0 h1_; go_simp; (try with_reducible rfl)
                try simp only [Act.put, List.getElem_toArray, List.getElem_cons_succ, List.getElem_cons_zero, List.setIfInBounds_toArray, List.set_cons_zero, List.set_cons_succ]
                have hsub := HT.out.2.2.1
                refine wpAnyL_take (i := 17) (v := ?_) rfl (by kernel_rfl) (by kernel_rfl) (by kernel_rfl) (by kernel_rfl) (by kernel_rfl) (fun _ _ _ h => h) (Or.inl ⟨by kernel_rfl, ?_⟩) s1 ?_
                rotate_left
                · rintro w0 h1_; go_simp; (try with_reducible rfl)
                try simp only [Act.put, List.getElem_toArray, List.getElem_cons_succ, List.getElem_cons_zero, List.setIfInBounds_toArray, List.set_cons_zero, List.set_cons_succ]
                refine wpAnyL_take (i := 18) (v := ?_) rfl (by kernel_rfl) (by kernel_rfl) (by kernel_rfl) (by kernel_rfl) (by kernel_rfl) (fun _ _ _ h => h) (Or.inl ⟨by kernel_rfl, ?_⟩) s1 ?_
                rotate_left
                · rintro w0 h1_; go_simp; (try with_reducible rfl)
                try simp only [Act.put, List.getElem_toArray, List.getElem_cons_succ, List.getElem_cons_zero, List.setIfInBounds_toArray, List.set_cons_zero, List.set_cons_succ]
                clear hsub
                refine wpAnyL_one (i := 16) (by kernel_rfl) rfl (fun K hK => ?_)
                go_simp
                refine (lfree_le E2).mono ?_; rintro e w6 ⟨rfl, E3⟩
                rw [HT.out.1]
                rw [HT.out.2.1]
                have s2 : (fun w' : World => w'.cell? ⟨ba, oo + i, none⟩ = some (.slice x.A x.n x.c)) w6 := HC.out _ E3.bel
                clear E2
                go_wp2_with fail
                refine hK.out _ _ (fun _ => s2) ?_
                clear hK K
                try simp only [Act.put, List.getElem_toArray, List.getElem_cons_succ, List.getElem_cons_zero, List.setIfInBounds_toArray, List.set_cons_zero, List.set_cons_succ]
                refine wpAnyL_take (i := 19) (v := ?_) rfl (by kernel_rfl) (by kernel_rfl) (by kernel_rfl) (by kernel_rfl) (by kernel_rfl) (fun _ _ _ h => h) (Or.inl ⟨by kernel_rfl, ?_⟩) s2 ?_
                rotate_left
                · rintro w0 h1_; go_simp; (try with_reducible rfl)
                try simp only [Act.put, List.getElem_toArray, List.getElem_cons_succ, List.getElem_cons_zero, List.setIfInBounds_toArray, List.set_cons_zero, List.set_cons_succ]
                refine wpAnyL_take (i := 20) (v := ?_) rfl (by kernel_rfl) (by kernel_rfl) (by kernel_rfl) (by kernel_rfl) (by kernel_rfl) (fun _ _ _ h => h) (Or.inl ⟨by kernel_rfl, ?_⟩) s2 ?_
                rotate_left
                · rintro w0 h1_; go_simp; (try with_reducible rfl)
                try simp only [Act.put, List.getElem_toArray, List.getElem_cons_succ, List.getElem_cons_zero, List.setIfInBounds_toArray, List.set_cons_zero, List.set_cons_succ]
                refine wpAnyL_take (i := 21) (v := ?_) rfl (by kernel_rfl) (by kernel_rfl) (by kernel_rfl) (by kernel_rfl) (by kernel_rfl) (fun _ _ _ h => h) (Or.inl ⟨by kernel_rfl, ?_⟩) s2 ?_
                rotate_left
                · rintro w0 h1_; go_simp; (try with_reducible rfl)
                try simp only [Act.put, List.getElem_toArray, List.getElem_cons_succ, List.getElem_cons_zero, List.setIfInBounds_toArray, List.set_cons_zero, List.set_cons_succ]
                refine wpAnyL_take (i := 22) (v := ?_) rfl (by kernel_rfl) (by kernel_rfl) (by kernel_rfl) (by kernel_rfl) (by kernel_rfl) (fun _ _ _ h => h) (Or.inl ⟨by kernel_rfl, ?_⟩) s2 ?_
                rotate_left
                · rintro w0 h1_; go_simp; (try with_reducible rfl)
                try simp only [Act.put, List.getElem_toArray, List.getElem_cons_succ, List.getElem_cons_zero, List.setIfInBounds_toArray, List.set_cons_zero, List.set_cons_succ]
                refine wpAnyL_take (i := 24) (v := ?_) rfl (by kernel_rfl) (by kernel_rfl) (by kernel_rfl) (by kernel_rfl) (by kernel_rfl) (fun _ _ _ h => h) (Or.inl ⟨by kernel_rfl, ?_⟩) s2 ?_
                rotate_left
                · rintro w0 h1_; go_simp; (try with_reducible rfl)
                try simp only [Act.put, List.getElem_toArray, List.getElem_cons_succ, List.getElem_cons_zero, List.setIfInBounds_toArray, List.set_cons_zero, List.set_cons_succ]
                refine wpAnyL_take (i := 25) (v := ?_) rfl (by kernel_rfl) (by kernel_rfl) (by kernel_rfl) (by kernel_rfl) (by kernel_rfl) (fun _ _ _ h => h) (Or.inl ⟨by kernel_rfl, ?_⟩) s2 ?_
                rotate_left
                · rintro w0 h1_; go_simp; (try with_reducible rfl)
                try simp only [Act.put, List.getElem_toArray, List.getElem_cons_succ, List.getElem_cons_zero, List.setIfInBounds_toArray, List.set_cons_zero, List.set_cons_succ]
                refine wpAnyL_take (i := 26) (v := ?_) rfl (by kernel_rfl) (by kernel_rfl) (by kernel_rfl) (by kernel_rfl) (by kernel_rfl) (fun _ _ _ h => h) (Or.inl ⟨by kernel_rfl, ?_⟩) s2 ?_
                rotate_left
                · rintro w0 h1_; go_simp; (try with_reducible rfl)
                try simp only [Act.put, List.getElem_toArray, List.getElem_cons_succ, List.getElem_cons_zero, List.setIfInBounds_toArray, List.set_cons_zero, List.set_cons_succ]
                refine wpAnyL_take (i := 27) (v := ?_) rfl (by kernel_rfl) (by kernel_rfl) (by kernel_rfl) (by kernel_rfl) (by kernel_rfl) (fun _ _ _ h => h) (Or.inl ⟨by kernel_rfl, ?_⟩) s2 ?_
                rotate_left
                · rintro w0 h1_; go_simp; (try with_reducible rfl)
                try simp only [Act.put, List.getElem_toArray, List.getElem_cons_succ, List.getElem_cons_zero, List.setIfInBounds_toArray, List.set_cons_zero, List.set_cons_succ]
                refine wpAnyL_one (i := 23) (by kernel_rfl) rfl (fun K hK => ?_)
                go_simp
                refine (lrecords_le E3 (by rw [HT.out.2.2.2]; omega)).mono ?_; rintro e w7 ⟨A2, c2, us, rfl, E4, hus, hun⟩
                rw [HT.out.2.2.2] at E4 ⊢
                have s3 : (fun w' : World => w'.cell? ⟨ba, oo + i, none⟩ = some (.slice x.A x.n x.c)) w7 := HC.out _ E4.bel
                have hI7 : BImg w7 A2 x.n c2 (x.xs.map (·.l)) := by
                  have h := (barg_of (E4.row 0 rfl) (fun y hy => E4.rdm (List.mem_append_left _ hy))).img (by show x.n ≤ 140737488355328; omega) (fun y hy => by have := hun y hy; omega)
                  rwa [hus] at h
                have hJ7 : BImg w7 x.A x.n x.c (x.xs.map (·.l)) := ((HX.out.1.below E4.bel).img (by omega) HX.out.2.2)
                have HI7 := Lib.hid (And.intro hI7 hJ7)
                have HE4 := Lib.hid E4
                clear E3 E4 hus hun hI7 hJ7
                go_wp2_with fail
                refine hK.out _ _ (fun _ => s3) ?_
                clear hK K
                try simp only [Act.put, List.getElem_toArray, List.getElem_cons_succ, List.getElem_cons_zero, List.setIfInBounds_toArray, List.set_cons_zero, List.set_cons_succ]
                refine wpAnyL_one (i := 28) (by kernel_rfl) rfl (fun K hK => ?_)
                go_simp
                refine (alike_same HI7.out.1 HI7.out.2).mono ?_; rintro e w8 ⟨⟨q8, rfl⟩, rfl⟩
                have E5 := HE4.out.below (((Moved.refl _ []).drewN q8).below0)
                have s4 : (fun w' : World => w'.cell? ⟨ba, oo + i, none⟩ = some (.slice x.A x.n x.c)) _ := HC.out _ E5.bel
                go_wp2_with fail
                refine hK.out _ _ (fun _ => s4) ?_
                clear hK K
                try simp only [Act.put, List.getElem_toArray, List.getElem_cons_succ, List.getElem_cons_zero, List.setIfInBounds_toArray, List.set_cons_zero, List.set_cons_succ]
                refine wpAnyL_take (i := 29) (v := ?_) rfl (by kernel_rfl) (by kernel_rfl) (by kernel_rfl) (by kernel_rfl) (by kernel_rfl) (fun _ _ _ h => h) (Or.inl ⟨by kernel_rfl, ?_⟩) s4 ?_
                rotate_left
                · rintro w0 h1_; go_simp; (try with_reducible rfl)
                try simp only [Act.put, List.getElem_toArray, List.getElem_cons_succ, List.getElem_cons_zero, List.setIfInBounds_toArray, List.set_cons_zero, List.set_cons_succ]
                refine wpAnyL_take (i := 30) (v := ?_) rfl (by kernel_rfl) (by kernel_rfl) (by kernel_rfl) (by kernel_rfl) (by kernel_rfl) (fun _ _ _ h => h) (Or.inl ⟨by kernel_rfl, ?_⟩) s4 ?_
                rotate_left
                · rintro w0 h1_; go_simp; (try with_reducible rfl)
                try simp only [Act.put, List.getElem_toArray, List.getElem_cons_succ, List.getElem_cons_zero, List.setIfInBounds_toArray, List.set_cons_zero, List.set_cons_succ]
                refine wpAnyL_done (by kernel_rfl) ?_ _
                clear s0 s1 s2 s3 s4
                have HE5 := Lib.hid E5
                clear E5 HE4 HI7 HE
                go_wp2_with fail
                refine (lup_le HE5.out (Ints.nil_ ..) (by omega)).mono ?_; rintro e w9 ⟨⟨v9, rfl⟩, E6⟩
                have HE6 := Lib.hid E6
                have hb6 : (s5.up []).begun = 0 := rfl
                have HB6 := Lib.hid hb6
                clear E6 HE5 hb6
                generalize s5.up [] = s6 at *
                have hsz := HE6.out.size_
                obtain ⟨hs6, t6, A6, c6, xs6, E7, L7, _⟩ := HE6.out.ex
                have E8 := E7.pick (bl' := []) (ys' := []) (rd' := []) (.cons _ (.cons _ (.refl _))) (.cons _ (.cons _ (.refl _))) (fun _ h => by cases h)
                have HO := Lib.hid (open_we E8 L7 (by omega) (by omega) (by rw [HT.out.2.2.2]; omega))
                clear E7 E8 L7 hsz HE6
                go_wp2_with fail
                refine HO.out.mono ?_; rintro e w10 ⟨hl2, rfl, E9⟩
                have HE := Lib.hid E9
                clear E9 HO
                go_wp2_with fail
                have E1 := HE.out.to (w' := _) (fun _ _ _ E => E.drew)
                generalize hwd : World.drew _ = wd at *
                have s0 : (fun w' : World => w'.cell? ⟨ba, oo + i, none⟩ = some (.slice x.A x.n x.c)) wd := HC.out wd E1.bel
                refine wp_region_late [] (fun w' : World => w'.cell? ⟨ba, oo + i, none⟩ = some (.slice x.A x.n x.c)) (by kernel_rfl) ?_
                rw [hwd]
                clear hwd
                refine wpAnyL_take (i := 0) (v := ?_) rfl (by kernel_rfl) (by kernel_rfl) (by kernel_rfl) (by kernel_rfl) (by kernel_rfl) (fun _ _ _ h => h) (Or.inl ⟨by kernel_rfl, ?_⟩) s0 ?_
                rotate_left
                · rintro w0 h1_; go_simp; (try with_reducible rfl)
                try simp only [Act.put, List.getElem_toArray, List.getElem_cons_succ, List.getElem_cons_zero, List.setIfInBounds_toArray, List.set_cons_zero, List.set_cons_succ]
                refine wpAnyL_take (i := 1) (v := ?_) rfl (by kernel_rfl) (by kernel_rfl) (by kernel_rfl) (by kernel_rfl) (by kernel_rfl) (fun _ _ _ h => h) (Or.inl ⟨by kernel_rfl, ?_⟩) s0 ?_
                rotate_left
                · rintro w0 h1_; go_simp; (try with_reducible rfl)
                try simp only [Act.put, List.getElem_toArray, List.getElem_cons_succ, List.getElem_cons_zero, List.setIfInBounds_toArray, List.set_cons_zero, List.set_cons_succ]
                refine wpAnyL_take (i := 2) (v := ?_) rfl (by kernel_rfl) (by kernel_rfl) (by kernel_rfl) (by kernel_rfl) (by kernel_rfl) (fun _ _ _ h => h) (Or.inl ⟨by kernel_rfl, ?_⟩) s0 ?_
                rotate_left
                · rintro w0 h1_; go_simp; (try with_reducible rfl)
                try simp only [Act.put, List.getElem_toArray, List.getElem_cons_succ, List.getElem_cons_zero, List.setIfInBounds_toArray, List.set_cons_zero, List.set_cons_succ]
                refine wpAnyL_take (i := 3) (v := ?_) rfl (by kernel_rfl) (by kernel_rfl) (by kernel_rfl) (by kernel_rfl) (by kernel_rfl) (fun _ _ _ h => h) (Or.inl ⟨by kernel_rfl, ?_⟩) s0 ?_
                rotate_left
                · rintro w0 h1_; go_simp; (try with_reducible rfl)
                try simp only [Act.put, List.getElem_toArray, List.getElem_cons_succ, List.getElem_cons_zero, List.setIfInBounds_toArray, List.set_cons_zero, List.set_cons_succ]
                refine wpAnyL_take (i := 5) (v := ?_) rfl (by kernel_rfl) (by kernel_rfl) (by kernel_rfl) (by kernel_rfl) (by kernel_rfl) (fun _ _ _ h => h) (Or.inl ⟨by kernel_rfl, ?_⟩) s0 ?_
                rotate_left
                · rintro w0 h1_; go_simp; (try with_reducible rfl)
                try simp only [Act.put, List.getElem_toArray, List.getElem_cons_succ, List.getElem_cons_zero, List.setIfInBounds_toArray, List.set_cons_zero, List.set_cons_succ]
                refine wpAnyL_one (i := 4) (by kernel_rfl) rfl (fun K hK => ?_)
                go_simp
                refine (lgen_le E1).mono ?_; rintro e w4 ⟨rfl, rfl⟩
                go_wp2_with fail
                refine hK.out _ _ (fun _ => s0) ?_
                clear hK K
                try simp only [Act.put, List.getElem_toArray, List.getElem_cons_succ, List.getElem_cons_zero, List.setIfInBounds_toArray, List.set_cons_zero, List.set_cons_succ]
                refine wpAnyL_take (i := 6) (v := ?_) rfl (by kernel_rfl) (by kernel_rfl) (by kernel_rfl) (by kernel_rfl) (by kernel_rfl) (fun _ _ _ h => h) (Or.inl ⟨by kernel_rfl, ?_⟩) s0 ?_
                rotate_left
                · rintro w0 h1_; go_simp; (try with_reducible rfl)
                try simp only [Act.put, List.getElem_toArray, List.getElem_cons_succ, List.getElem_cons_zero, List.setIfInBounds_toArray, List.set_cons_zero, List.set_cons_succ]
                refine wpAnyL_take (i := 7) (v := ?_) rfl (by kernel_rfl) (by kernel_rfl) (by kernel_rfl) (by kernel_rfl) (by kernel_rfl) (fun _ _ _ h => h) (Or.inl ⟨by kernel_rfl, ?_⟩) s0 ?_
                rotate_left
                · rintro w0 h1_; go_simp; (try with_reducible rfl)
                try simp only [Act.put, List.getElem_toArray, List.getElem_cons_succ, List.getElem_cons_zero, List.setIfInBounds_toArray, List.set_cons_zero, List.set_cons_succ]
                refine wpAnyL_take (i := 8) (v := ?_) rfl (by kernel_rfl) (by kernel_rfl) (by kernel_rfl) (by kernel_rfl) (by kernel_rfl) (fun _ _ _ h => h) (Or.inl ⟨by kernel_rfl, ?_⟩) s0 ?_
                rotate_left
                · rintro w0 h1_; go_simp; (try with_reducible rfl)
                try simp only [Act.put, List.getElem_toArray, List.getElem_cons_succ, List.getElem_cons_zero, List.setIfInBounds_toArray, List.set_cons_zero, List.set_cons_succ]
                refine wpAnyL_take (i := 9) (v := ?_) rfl (by kernel_rfl) (by kernel_rfl) (by kernel_rfl) (by kernel_rfl) (by kernel_rfl) (fun _ _ _ h => h) (Or.inl ⟨by kernel_rfl, ?_⟩) s0 ?_
                rotate_left
                · rintro w0 h1_; go_simp; (try with_reducible rfl)
                try simp only [Act.put, List.getElem_toArray, List.getElem_cons_succ, List.getElem_cons_zero, List.setIfInBounds_toArray, List.set_cons_zero, List.set_cons_succ]
                refine wpAnyL_take (i := 11) (v := ?_) rfl (by kernel_rfl) (by kernel_rfl) (by kernel_rfl) (by kernel_rfl) (by kernel_rfl) (fun _ _ _ h => h) (Or.inl ⟨by kernel_rfl, ?_⟩) s0 ?_
                rotate_left
                · rintro w0 h1_; go_simp; (try with_reducible rfl)
                try simp only [Act.put, List.getElem_toArray, List.getElem_cons_succ, List.getElem_cons_zero, List.setIfInBounds_toArray, List.set_cons_zero, List.set_cons_succ]
                refine wpAnyL_take (i := 12) (v := ?_) rfl (by kernel_rfl) (by kernel_rfl) (by kernel_rfl) (by kernel_rfl) (by kernel_rfl) (fun _ _ _ h => h) (Or.inl ⟨by kernel_rfl, ?_⟩) s0 ?_
                rotate_left
                · rintro w0 h1_; go_simp; (try with_reducible rfl)
                try simp only [Act.put, List.getElem_toArray, List.getElem_cons_succ, List.getElem_cons_zero, List.setIfInBounds_toArray, List.set_cons_zero, List.set_cons_succ]
                refine wpAnyL_take (i := 13) (v := ?_) rfl (by kernel_rfl) (by kernel_rfl) (by kernel_rfl) (by kernel_rfl) (by kernel_rfl) (fun _ _ _ h => h) (Or.inl ⟨by kernel_rfl, ?_⟩) s0 ?_
                rotate_left
                · rintro w0 h1_; go_simp; (try with_reducible rfl)
                try simp only [Act.put, List.getElem_toArray, List.getElem_cons_succ, List.getElem_cons_zero, List.setIfInBounds_toArray, List.set_cons_zero, List.set_cons_succ]
                refine wpAnyL_take (i := 14) (v := ?_) rfl (by kernel_rfl) (by kernel_rfl) (by kernel_rfl) (by kernel_rfl) (by kernel_rfl) (fun _ _ _ h => h) (Or.inl ⟨by kernel_rfl, ?_⟩) s0 ?_
                rotate_left
                · rintro w0 h1_; go_simp; (try with_reducible rfl)
                try simp only [Act.put, List.getElem_toArray, List.getElem_cons_succ, List.getElem_cons_zero, List.setIfInBounds_toArray, List.set_cons_zero, List.set_cons_succ]
                refine wpAnyL_one (i := 10) (by kernel_rfl) rfl (fun K hK => ?_)
                go_simp
                refine (lrecords_le E1 (by rw [HT.out.2.2.2]; omega)).mono ?_; rintro e w7 ⟨A2, c2, us, rfl, E4, hus, hun⟩
                rw [HT.out.2.2.2] at E4 ⊢
                have s3 : (fun w' : World => w'.cell? ⟨ba, oo + i, none⟩ = some (.slice x.A x.n x.c)) w7 := HC.out _ E4.bel
                have hI7 : BImg w7 A2 x.n c2 (x.xs.map (·.l)) := by
                  have h := (barg_of (E4.row 0 rfl) (fun y hy => E4.rdm (List.mem_append_left _ hy))).img (by show x.n ≤ 140737488355328; omega) (fun y hy => by have := hun y hy; omega)
                  rwa [hus] at h
                have hJ7 : BImg w7 x.A x.n x.c (x.xs.map (·.l)) := ((HX.out.1.below E4.bel).img (by omega) HX.out.2.2)
                have HI7 := Lib.hid (And.intro hI7 hJ7)
                have HE4 := Lib.hid E4
                clear E1 E4 hus hun hI7 hJ7
                go_wp2_with fail
                refine hK.out _ _ (fun _ => s3) ?_
                clear hK K
                try simp only [Act.put, List.getElem_toArray, List.getElem_cons_succ, List.getElem_cons_zero, List.setIfInBounds_toArray, List.set_cons_zero, List.set_cons_succ]
                refine wpAnyL_one (i := 15) (by kernel_rfl) rfl (fun K hK => ?_)
                go_simp
                refine (alike_same HI7.out.1 HI7.out.2).mono ?_; rintro e w8 ⟨⟨q8, rfl⟩, rfl⟩
                have E5 := HE4.out.below (((Moved.refl _ []).drewN q8).below0)
                have s4 : (fun w' : World => w'.cell? ⟨ba, oo + i, none⟩ = some (.slice x.A x.n x.c)) _ := HC.out _ E5.bel
                go_wp2_with fail
                refine hK.out _ _ (fun _ => s4) ?_
                clear hK K
                try simp only [Act.put, List.getElem_toArray, List.getElem_cons_succ, List.getElem_cons_zero, List.setIfInBounds_toArray, List.set_cons_zero, List.set_cons_succ]
                refine wpAnyL_take (i := 16) (v := ?_) rfl (by kernel_rfl) (by kernel_rfl) (by kernel_rfl) (by kernel_rfl) (by kernel_rfl) (fun _ _ _ h => h) (Or.inl ⟨by kernel_rfl, ?_⟩) s4 ?_
                rotate_left
                · rintro w0 h1_; go_simp; (try with_reducible rfl)
                try simp only [Act.put, List.getElem_toArray, List.getElem_cons_succ, List.getElem_cons_zero, List.setIfInBounds_toArray, List.set_cons_zero, List.set_cons_succ]
                refine wpAnyL_take (i := 17) (v := ?_) rfl (by kernel_rfl) (by kernel_rfl) (by kernel_rfl) (by kernel_rfl) (by kernel_rfl) (fun _ _ _ h => h) (Or.inl ⟨by kernel_rfl, ?_⟩) s4 ?_
                rotate_left
                · rintro w0 h1_; go_simp; (try with_reducible rfl)
                try simp only [Act.put, List.getElem_toArray, List.getElem_cons_succ, List.getElem_cons_zero, List.setIfInBounds_toArray, List.set_cons_zero, List.set_cons_succ]
                refine wpAnyL_done (by kernel_rfl) ?_ _
                clear s0 s3 s4
                have HE5 := Lib.hid (E5.pick (bl' := []) (ys' := []) (rd' := []) (.refl _) (.cons _ (.refl _)) (fun _ h => by cases h))
                clear E5 HE4 HI7 HE
                go_wp2_with fail
                go_roundw
                case rel => exact ⟨i + 1, hl2, s6, gn, x.xs.map (·.l), B + x.n, by omega, by go_num, rfl, rfl, by have := HI.out.1; have := HCP.out.2.1; omega, by have := HI.out.2.1; omega, by have := HB6.out; omega, HE5.out⟩
                case measure => simp [intOf]; omega
    · have hlt1 : ¬ (i : Int) < (m : Int) := by omega
      have HB := Lib.hid HI.out.2.2.2.bel
      go_wp2_with fail
      go_ret
      exact ⟨rfl, HB.out⟩
end Go.Proofs.YtdlcngmcjidomaaDoor
