/- The law LedgerLost, walked. No condition but the reach of its slices. -/
import Derived.Test.YtdlcngmcjidomaaDoorGLE
import Derived.Test.YtdlcngmcjidomaaDoorLLedMath2
namespace Go.Proofs.YtdlcngmcjidomaaDoor
set_option linter.unusedSimpArgs false
set_option linter.unusedVariables false
open Go.RowKit Go.Shelf

theorem one_blk (w : World) {a : Nat} (ha : a < 256) (base : Nat) : FarB (w.alloc (.cells #[.int .u8 (a : Int)] 5)) base ⟨some ⟨w.heap.size, 0, none⟩, [a].length, 1, [a]⟩ := FarB.blk (l := [a]) (Blk.new w 5 #[.int .u8 (a : Int)]) rfl (fun x hx => by rw [List.mem_singleton] at hx; omega) (Nat.le_refl _)
theorem fewB_lt_ {xs : List BEl} (h : fewB xs = true) : xs.length < 40 := by
  unfold fewB at h
  simp only [Bool.and_eq_true, decide_eq_true_iff] at h
  exact h.1
set_option maxRecDepth 100000 in
set_option maxHeartbeats 12800000 in
theorem ledgerLost_any (A : Option Addr) (m c : Nat) (zs : List BEl) (st : Nat) (w : World) (hr : BArg w A m c zs) (hm : m ≤ 140737488355328) (hz : ∀ z ∈ zs, z.n ≤ 140737488355328) (hst : st < 256) :
    Calls Tryd.prog 9 #[.slice A m c, .int .u8 (st : Int)] w fun e w' => e = .returned (.bool true) ∧ Below w.heap.size w w' := by
  obtain ⟨r, hr0⟩ : ∃ z, st % 2 = z := ⟨_, rfl⟩
  obtain ⟨k, hk⟩ : ∃ z, 1 + r = z := ⟨_, rfl⟩
  have hri : (st : Int) % 2 = (r : Int) := by omega
  have hki : 1 + (r : Int) = (k : Int) := by omega
  have hkb : k ≤ 2 := by omega
  have HA := Lib.hid (And.intro hr (And.intro hm (And.intro hz (And.intro (show (k : Int) = 1 ∨ (k : Int) = 2 by omega) (And.intro hri hki)))))
  clear hr0 hk hr hm hz hri hki
  go_enter Tryd.func9, Tryd.ntmps9
  go_wp2_with fail
  refine (awake9_any _).mono ?_; rintro e w1 ⟨rfl, hb1⟩
  have HB1 := Lib.hid hb1
  clear hb1
  go_wp2_with fail
  refine (we_new (w0 := w) 100 (by omega) (by omega) _ HB1.out).mono ?_; rintro e w2 ⟨g, rfl, E⟩
  have HE := Lib.hid E
  clear E HB1
  have hfew := few_any (HA.out.1.below HE.out.bel) HA.out.2.1 HA.out.2.2.1
  cases hfb : fewB zs with
  | false =>
    rw [hfb] at hfew
    have HF := Lib.hid hfew
    clear hfew hfb
    go_wp2_with fail
    refine HF.out.mono ?_; rintro e w3 ⟨rfl, rfl⟩
    have HB := Lib.hid HE.out.bel
    clear HE HF
    go_wp2_with fail
    go_ret
    exact ⟨rfl, HB.out⟩
  | true =>
    rw [hfb] at hfew
    have HF := Lib.hid (And.intro hfew hfb)
    clear hfew hfb
    go_wp2_with fail
    refine HF.out.1.mono ?_; rintro e w3 ⟨rfl, rfl⟩
    have hL := Led.LUp.new (half := 49) (D := 100) (by omega) (by omega)
    have HL := Lib.hid hL
    clear hL
    go_wp2_with fail
    refine (open_we HE.out HL.out (by rw [new_length]) (by rw [new_length]; omega) (by decide)).mono ?_; rintro e w4 ⟨hl, rfl, E4⟩
    obtain ⟨hs, t, LA, lc, xs, E5, L, hxs⟩ := E4.ex
    obtain rfl : xs = [] := List.map_eq_nil_iff.1 hxs
    have hgn := L.gn
    rw [← hgn] at E5
    have HE5 := Lib.hid (And.intro E5 L)
    clear E4 E5 L hxs HE hgn HL
    have hri := HA.out.2.2.2.2.1
    have hki := HA.out.2.2.2.2.2
    go_wp2_with fail
    refine (dplan_we HE5.out.1 (k : Int) (by omega)).mono ?_; rintro e w5 ⟨⟨v5, rfl⟩, E6⟩
    have HE6 := Lib.hid E6
    clear E6 hri hki
    go_wp2_with fail
    have E7 := (HE6.out.alloc (.cells #[.int .u8 ((1 : Nat) : Int)] 5)).see (one_blk w5 (a := 1) (by omega) _)
    have hok := HE5.out.2.ok
    have hn := HE5.out.2.n
    have htp := HE5.out.2.top
    obtain ⟨hc4, hsu⟩ := SegSt.add_one_down (r := [1]) HE5.out.2.up (by decide) (by rw [hn, hok.1]; decide) (by omega) (fun x hx => by rw [List.mem_singleton] at hx; omega) HA.out.2.2.2.1
    have hadd : SegSt.add ((DSt.new 100).plan (k : Int)) t [[1]] = ((SegSt.add ((DSt.new 100).plan (k : Int)) t [[1]]).1, (SegSt.add ((DSt.new 100).plan (k : Int)) t [[1]]).2.1, 4) := lk2_ hc4
    have ok0 : t.Ok (DSt.new 100) := segOk_up HE5.out.2.up hok.2.2.1
    have ok5 : t.Ok ((DSt.new 100).plan (k : Int)) := ⟨ok0.n1, ok0.fits, ok0.fin, ok0.top, ok0.gen⟩
    have hbg0 : ((DSt.new 100).plan (k : Int)).begun = 0 := rfl
    have hpe0 : ((DSt.new 100).plan (k : Int)).pend = [] := rfl
    have hAD := append_down (rd := [(⟨some ⟨w5.heap.size, 0, none⟩, [1].length, 1, [1]⟩ : BEl)]) E7 ok5 (List.mem_cons_self ..) (by decide) (by decide) hadd (by rw [hn, hok.1]; decide) (by rw [hn]; exact hok.2.1) (by rw [hn]; omega) (by decide) (by rw [hbg0]; omega) (by rw [hpe0]; exact Nat.zero_le _)
    generalize (SegSt.add ((DSt.new 100).plan (k : Int)) t [[1]]).1 = s7 at *
    generalize (SegSt.add ((DSt.new 100).plan (k : Int)) t [[1]]).2.1 = t7 at *
    have hup7 : s7.up [] = (DSt.new 100).up [] := DSt.up_same hsu rfl
    have HAD := Lib.hid (And.intro hAD hup7)
    clear hAD hup7 hadd ok0 ok5 hbg0 hpe0 hc4 hsu E7 hok hn htp HE6
    refine HAD.out.1.mono ?_; rintro e w6 ⟨rfl, E8⟩
    have HE8 := Lib.hid E8
    clear E8
    go_wp2_with fail
    refine (dup_we HE8.out (Ints.nil_ ..) (by omega)).mono ?_; rintro e w7 ⟨⟨v7, rfl⟩, E9⟩
    rw [HAD.out.2] at E9
    have E10 := E9.pick (bl' := [ledB hl g hs 0 49 true none 0 0]) (ys' := []) (rd' := []) (.cons_cons _ (.cons _ (.refl _))) (.cons _ (.refl _)) (fun _ h => by cases h)
    have HL := Lib.hid (HE5.out.2.loss [])
    have HE10 := Lib.hid E10
    clear E9 E10 HE8 HAD HE5
    go_wp2_with fail
    have E11 := (HE10.out.alloc (.cells #[.int .u8 ((2 : Nat) : Int)] 5)).see (one_blk w7 (a := 2) (by omega) _)
    refine (append_lost (xs := []) E11 (List.mem_cons_self ..) (by decide) (by decide)).mono ?_; rintro e w8 ⟨rfl, E12⟩
    have HE12 := Lib.hid (E12.pick (bl' := [ledB hl g hs 0 49 true none 0 0]) (ys' := []) (rd' := []) (.refl _) (.refl _) (fun _ h => by cases h))
    clear E11 E12 HE10
    go_wp2_with fail
    refine (compact_lost (ys0 := []) (rd0 := []) (ys := []) (rd := []) HE12.out (RecIn.low HA.out.1 HA.out.2.2.1) (by have := fewB_lt_ HF.out.2; have := HA.out.1.len; omega)).mono ?_; rintro e w9 ⟨rfl, E13⟩
    have HE13 := Lib.hid (E13.nil (ty := 22) 1 (by decide))
    clear E13 HE12
    go_wp2_with fail
    refine (lrecords_we (xs := []) HE13.out 0 rfl rfl 0 rfl (fun _ h => by cases h) (by omega)).mono ?_; rintro e w10 ⟨A2, c2, us, rfl, E14, _, _⟩
    have HE14 := Lib.hid (E14.pick (bl' := [ledB hl g hs 0 49 true none 0 0]) (ys' := []) (rd' := []) (.refl _) (.cons _ (.cons _ (.refl _))) (fun _ h => by cases h))
    clear E14 HE13
    go_wp2_with fail
    refine (lfree_lost (HE14.out.b 0 rfl) rfl).mono ?_; rintro e w11 ⟨rfl, rfl⟩
    go_wp2_with fail
    refine (lused_lost (HE14.out.b 0 rfl) rfl).mono ?_; rintro e w12 ⟨rfl, rfl⟩
    go_wp2_with fail
    refine (lgen_any (gn := 0) (HE14.out.b 0 rfl) rfl).mono ?_; rintro e w13 ⟨rfl, rfl⟩
    have hlen : ((DSt.new 100).up []).sure.length = 100 := by
      show (DSt.layBy (DSt.new 100).sure (DSt.new 100).pend []).length = 100
      rw [DSt.layBy_nil, new_length]
    have hb15 : ((DSt.new 100).up []).begun = 0 := rfl
    have HLN := Lib.hid (And.intro hlen hb15)
    clear hlen hb15
    generalize (DSt.new 100).up [] = s9 at *
    go_wp2_with fail
    refine (open_we HE14.out HL.out (by rw [HLN.out.1]) (by rw [HLN.out.1]; omega) (by decide)).mono ?_; rintro e w14 ⟨ho, rfl, E15⟩
    have HE15 := Lib.hid E15
    clear E15 HE14
    go_wp2_with fail
    have E16 := (HE15.out.alloc (.cells #[.int .u8 ((3 : Nat) : Int)] 5)).see (one_blk w14 (a := 3) (by omega) _)
    refine (append_ok E16 (List.mem_cons_self ..) (by decide) (by decide) (by decide) (by decide) (by omega) (by rw [HLN.out.2]; omega) (by omega)).mono ?_; rintro e w15 ⟨rfl, s16, E17, _⟩
    have HE17 := Lib.hid E17
    clear E16 E17 HE15
    go_wp2_with fail
    refine (lrecords_le HE17.out (by decide)).mono ?_; rintro e w16 ⟨A3, c3, us3, rfl, E18, _, _⟩
    have HB := Lib.hid E18.bel
    clear E18 HE17
    go_wp2_with fail
    go_ret
    exact ⟨rfl, HB.out⟩
end Go.Proofs.YtdlcngmcjidomaaDoor
