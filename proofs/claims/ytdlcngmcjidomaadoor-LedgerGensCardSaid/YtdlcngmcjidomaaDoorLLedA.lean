/- The ledger's environment: blocks and rows in any order; root.Load, root.Save, Seg.Begin over it. No condition but the reach. -/
import Derived.Test.YtdlcngmcjidomaaDoorGSE
import Derived.Test.YtdlcngmcjidomaaDoorGRO
namespace Go.Proofs.YtdlcngmcjidomaaDoor
set_option linter.unusedSimpArgs false
set_option linter.unusedVariables false
open Go.RowKit Go.Shelf

section
variable {w0 w w' : World} {g : Nat} {s : DSt} {bl bl' : List WBk} {ys ys' : List WRow} {rd : List BEl}
theorem WE.perm (E : WE w0 w g s bl ys rd) (hb : bl'.Perm bl) (hy : ys'.Perm ys) : WE w0 w g s bl' ys' rd := by
  obtain ⟨T, D, hT, hb0, hB, hN, hY, hP, hR⟩ := E.ex
  exact ⟨T, D, hT, hb0, fun b h => hB b (hb.subset h), (hb.map _).nodup_iff.2 hN, fun y h => ⟨(hY y (hy.subset h)).1, (hY y (hy.subset h)).2.1, fun ad e => ⟨((hY y (hy.subset h)).2.2 ad e).1, fun b h2 => ((hY y (hy.subset h)).2.2 ad e).2 b (hb.subset h2)⟩⟩, (hy.pairwise_iff (fun {x y} h => h.symm)).2 hP, hR⟩
theorem WE.de (E : WE w0 w g s bl ys rd) : DE w0 w g s [] [] := by
  obtain ⟨T, D, hT, hb0, _⟩ := E.ex
  exact ⟨T, D, hT, hb0, (fun _ h => by cases h), (fun _ h => by cases h)⟩
theorem load_we (E : WE w0 w g s bl ys rd) :
    Calls Tryd.prog 46 #[.pointer (some ⟨g, 0, none⟩)] w fun e w' => e = .returned (.tuple #[.int .u32 (s.load.1 : Nat), .int .i64 s.load.2]) ∧ WE w0 w' g s bl ys rd :=
  (load_any E.de).mono fun _ _ ⟨he, hb⟩ => ⟨he, E.below hb⟩
theorem dsectors_we (E : WE w0 w g s bl ys rd) :
    Calls Tryd.prog 31 #[.pointer (some ⟨g, 0, none⟩)] w fun e w' => e = .returned (.int .i64 (s.sure.length : Nat)) ∧ w = w' := by
  obtain ⟨T, D, _⟩ := E.at_
  exact sectors_any D
set_option maxRecDepth 100000 in
set_option maxHeartbeats 6400000 in
theorem save_we (E : WE w0 w g s bl ys rd) (gen : Nat) (hg : gen < 4294967296) (hb : s.begun < 576460752303423488) (hp : s.pend.length < 1099511627776) :
    Calls Tryd.prog 54 #[.pointer (some ⟨g, 0, none⟩), .int .u32 (gen : Int)] w fun e w' => e = .returned (.int .i64 (s.save gen).2) ∧ WE w0 w' g (s.save gen).1 bl ys rd := by
  by_cases h2 : s.sure.length < 2
  · have h2i : ((s.sure.length : Nat) : Int) < 2 := by omega
    have h2d : decide (((s.sure.length : Nat) : Int) < 2) = true := decide_eq_true h2i
    have HS := Lib.hid (save_arg (s := s) (gen := gen) (.inl h2))
    go_enter Tryd.func54, Tryd.ntmps54
    go_wp2_with fail
    refine (dsectors_we E).mono ?_; rintro e w1 ⟨rfl, rfl⟩
    go_wp2_with fail
    go_ret
    exact ⟨by rw [HS.out]; rfl, by rw [HS.out]; exact E⟩
  have h2i : ¬ ((s.sure.length : Nat) : Int) < 2 := by omega
  have h2d : decide (((s.sure.length : Nat) : Int) < 2) = false := decide_eq_false h2i
  by_cases h0 : gen = 0
  · have h0i : ((gen : Int) == 0) = true := by simp [h0]
    have HS := Lib.hid (save_arg (s := s) (gen := gen) (.inr h0))
    clear h0
    go_enter Tryd.func54, Tryd.ntmps54
    go_wp2_with fail
    refine (dsectors_we E).mono ?_; rintro e w1 ⟨rfl, rfl⟩
    go_wp2_with fail
    go_ret
    exact ⟨by rw [HS.out]; rfl, by rw [HS.out]; exact E⟩
  have h0i : ((gen : Int) == 0) = false := by simp; omega
  obtain ⟨r, hr⟩ : ∃ r, gen % 2 = r := ⟨_, rfl⟩
  have hri : (gen : Int) % 2 = (r : Int) := by omega
  have HS := Lib.hid (save_more (s := s) (gen := gen) (fun h => h.elim h2 h0) hr)
  clear hr h2 h0
  go_enter Tryd.func54, Tryd.ntmps54
  go_wp2_with fail
  refine (dsectors_we E).mono ?_; rintro e w1 ⟨rfl, rfl⟩
  go_wp2_with fail
  refine (root_any gen hg _).mono ?_; rintro e w2 ⟨A2, rfl, hi2, hb2⟩
  have E2 := E.below hb2
  clear E hb2
  go_wp2_with fail
  have hen := encL_yes (rootC_may gen)
  have HEN := Lib.hid hen
  clear hen
  refine (encode_any gen 0 hg (by decide) 0 1 (by decide) A2 4 4 [114, 111, 111, 116] _ hi2).mono ?_; rintro e w3 ⟨A3, m3, c3, rfl, ho3, hb3⟩
  have hen1 : Cl.encL ⟨gen, 0, 0, 1, [114, 111, 111, 116]⟩ = rootS gen := HEN.out.1
  have hen2 : Cl.encCode ⟨gen, 0, 0, 1, [114, 111, 111, 116]⟩ = 0 := HEN.out.2
  rw [hen1] at ho3
  rw [hen2]
  have hm3 := ho3.len
  rw [rootS_len] at hm3
  subst hm3
  have E3 := E2.below hb3
  clear E2 hb3 hi2 hen1 hen2
  go_wp2_with fail
  refine (dwrite_we E3 (r : Int) ho3 (by decide) (by omega) hp).mono ?_; rintro e w4 ⟨rfl, E4⟩
  have hbw := write_begun s (r : Int) (rootS gen)
  obtain ⟨cd, hcd⟩ : ∃ z, (s.write (r : Int) (rootS gen)).2 = z := ⟨_, rfl⟩
  rw [hcd]
  have HCD := Lib.hid hcd
  clear hcd ho3 E3
  by_cases hc : cd = 0
  · have HF := Lib.hid (show s.save gen = (s.write (r : Int) (rootS gen)).1.flush by rw [HS.out, if_pos (by rw [HCD.out]; exact hc)])
    subst hc
    generalize (s.write (r : Int) (rootS gen)).1 = s4 at *
    go_wp2_with fail
    refine (dflush_we E4 (by omega)).mono ?_; rintro e w5 ⟨rfl, E5⟩
    clear E4
    rw [← HF.out] at E5 ⊢
    go_wp2_with fail
    go_ret
    exact ⟨rfl, E5⟩
  · have HF := Lib.hid (show s.save gen = s.write (r : Int) (rootS gen) by rw [HS.out, if_neg (by rw [HCD.out]; exact hc)])
    have hcn : (cd != 0) = true := by simpa using hc
    clear hc hbw
    go_wp2_with fail
    go_ret
    exact ⟨by rw [HF.out, HCD.out]; rfl, by rw [HF.out]; exact E4⟩
set_option maxRecDepth 100000 in
set_option maxHeartbeats 3200000 in
theorem begin_we {h : Nat} {t : SegSt} (E : WE w0 w g s bl ys rd) (i : Nat) (hi : bl[i]? = some (segB h g t)) (ok : t.Ok s) (hc : (SegSt.scan s t).2.2 = 0) :
    Calls Tryd.prog 53 #[.pointer (some ⟨h, 0, none⟩)] w fun e w' => e = .returned (.int .i64 0) ∧ WE w0 w' g s (bl.set i (segB h g { (SegSt.scan s t).1 with fin := 0 })) ys rd := by
  have hil := (List.getElem?_eq_some_iff.1 hi).1
  have hsc := scan_we E i hi ok
  unfold ScanPost at hsc
  rw [hc] at hsc
  generalize (SegSt.scan s t).1 = t2 at *
  have HS := Lib.hid hsc
  clear hsc ok hc
  go_enter Tryd.func53, Tryd.ntmps53
  go_wp2_with fail
  refine HS.out.mono ?_; rintro e w1 ⟨A, c, xs, rfl, E1, _⟩
  have hi1 : (bl.set i (segB h g t2))[i]? = some (segB h g t2) := List.getElem?_set_self hil
  have f4 : w1.frozen? ⟨h, 4, none⟩ = false := E1.frozen i 4 hi1
  have c4 : w1.cell? ⟨h, 4, none⟩ = some (.int .i64 (t2.fin : Int)) := E1.cell i 4 hi1 rfl
  have E2 := (E1.set i 4 hi1 (.int .i64 ((0 : Nat) : Int))).pick (bl' := bl.set i (segB h g { t2 with fin := 0 })) (ys' := ys) (rd' := rd) (by rw [List.set_set, segV4]; exact .refl _) (.cons _ (.refl _)) (fun x hx => List.mem_append_right _ hx)
  have HE := Lib.hid E2
  clear E E1 E2 hi hi1
  go_wp2_with fail
  go_ret
  exact ⟨rfl, HE.out⟩
end
end Go.Proofs.YtdlcngmcjidomaaDoor
