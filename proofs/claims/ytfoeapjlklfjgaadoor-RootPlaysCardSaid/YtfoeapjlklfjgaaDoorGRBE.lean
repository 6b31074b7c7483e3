/- Texts of several parts in one: RootB, RootC, RootD, RootE. Each says what it proves; no condition but those named there. -/
import Derived.Test.YtfoeapjlklfjgaaDoorMRootA
import Derived.Test.YtfoeapjlklfjgaaDoorGRDK
import Derived.Test.YtfoeapjlklfjgaaDoorAlike
/- The contracts of root.Load and root.Save, over a law's disk. No condition but those of the disk's own functions. -/
namespace Go.Proofs.YtfoeapjlklfjgaaDoor
set_option linter.unusedSimpArgs false
set_option linter.unusedVariables false
open Go.RowKit

section
variable {w0 w w' : World} {g : Nat} {s : DSt} {rs : List BEl} {ims : List ImgT}
theorem dread_db (E : DE w0 w g s rs ims) (i : Int) :
    Calls Tryd.prog 64 #[.pointer (some ⟨g, 0, none⟩), .int .i64 i] w fun e w' => ∃ A n c, e = .returned (.tuple #[.slice A n c, .int .i64 (s.read i).2]) ∧ Ints w' .u8 256 A n c (s.read i).1 ∧ Below w.heap.size w w' := by
  obtain ⟨T, D, hT, hb0, hr, hi⟩ := E.ex
  exact (dread_any D i).mono fun _ _ ⟨A, n, c, he, hx, hb⟩ => ⟨A, n, c, he, hx.ints, hb⟩
theorem read_len (h : s.Wf) (i : Int) : (s.read i).1.length ≤ 64 := by
  have hc : ∀ k, (s.cur k).length ≤ 64 := fun k => by
    unfold DSt.cur
    have h1 : ∀ (p : List (Nat × List Nat)) (d : List Nat), (∀ x ∈ p, x.2.length = 64) → d.length ≤ 64 → (DSt.lastOf p k d).length ≤ 64 := by
      intro p
      induction p with
      | nil => intro d _ hd; exact hd
      | cons x xs ih =>
        intro d hx hd
        rw [DSt.lastOf_cons]
        refine ih _ (fun y hy => hx y (List.mem_cons_of_mem _ hy)) ?_
        split
        · rw [hx x (List.mem_cons_self ..)]; exact Nat.le_refl _
        · exact hd
    refine h1 _ _ (fun x hx => (h.pend x hx).2) ?_
    rw [List.getD_eq_getElem?_getD]
    cases hk : s.sure[k]? with
    | none => exact Nat.zero_le _
    | some l => rcases h.sure l (List.mem_of_getElem? hk) with e | e <;> simp [e]
  unfold DSt.read
  split
  · exact Nat.zero_le _
  · split
    · split
      · exact Nat.zero_le _
      · exact hc _
    · exact Nat.zero_le _
theorem read_bad {i : Int} (h : (s.read i).2 ≠ 0) : (s.read i).1 = [] := by
  unfold DSt.read at h ⊢
  split
  · rfl
  · rename_i h1
    rw [if_neg h1] at h
    split
    · rename_i h2
      rw [if_pos h2] at h
      split
      · rfl
      · rename_i h3
        rw [if_neg h3] at h
        exact absurd rfl h
    · rfl
theorem isRootL_isC {l : List Nat} {gs sq : Nat} {pt ps : Int} {d : List Nat} (hd : Cl.dec l = ⟨gs, sq, pt, ps, d⟩) (i : Nat) : isRootL l i = (decide (Cl.code l = 0) && isC gs sq pt ps d (i : Int)) := by
  cases he : Cl.isEnc l with
  | false =>
    have hc : Cl.code l = 2 := by unfold Cl.code; rw [he]; rfl
    unfold isRootL
    rw [he, hc, Bool.false_and]
    rfl
  | true =>
    have hc : Cl.code l = 0 := by unfold Cl.code; rw [he]; rfl
    have hr : Cl.raw l = ⟨gs, sq, pt, ps, d⟩ := by rw [← hd]; unfold Cl.dec; rw [he]; rfl
    have hroot : (Cl.mk gs sq pt ps d = rootC gs) ↔ (sq = 0 ∧ pt = 0 ∧ ps = 1 ∧ d = [114, 111, 111, 116]) := by unfold rootC; simp
    unfold isRootL isC
    rw [he, hr, hc, Bool.true_and]
    apply Bool.eq_iff_iff.2
    simp only [Bool.and_eq_true, decide_eq_true_eq]
    rw [hroot]
    constructor
    · rintro ⟨⟨h1, h2⟩, h3⟩
      exact ⟨trivial, h1, by omega, h3⟩
    · rintro ⟨_, h1, h2, h3⟩
      exact ⟨⟨h1, by omega⟩, h3⟩
theorem genOf_yes {l : List Nat} {gs sq : Nat} {pt ps : Int} {d : List Nat} (hd : Cl.dec l = ⟨gs, sq, pt, ps, d⟩) {i : Nat} (hc : Cl.code l = 0) (h : isC gs sq pt ps d (i : Int) = true) : genOf l i = gs := by
  have h1 := isRootL_isC hd i
  rw [hc, h] at h1
  unfold genOf
  rw [if_pos (by rw [h1]; rfl)]
  have he : Cl.isEnc l = true := by
    cases he : Cl.isEnc l with
    | true => rfl
    | false => unfold Cl.code at hc; rw [he] at hc; cases hc
  have hr : Cl.raw l = ⟨gs, sq, pt, ps, d⟩ := by rw [← hd]; unfold Cl.dec; rw [he]; rfl
  rw [hr]
theorem genOf_no {l : List Nat} {gs sq : Nat} {pt ps : Int} {d : List Nat} (hd : Cl.dec l = ⟨gs, sq, pt, ps, d⟩) {i : Nat} (h : Cl.code l ≠ 0 ∨ isC gs sq pt ps d (i : Int) = false) : genOf l i = 0 := by
  have h1 := isRootL_isC hd i
  unfold genOf
  rw [if_neg]
  intro h2
  rw [h1, Bool.and_eq_true, decide_eq_true_eq] at h2
  rcases h with h | h
  · exact h h2.1
  · rw [h] at h2; cases h2.2
/-- What Load has found, so far. -/
def fnd (s : DSt) (k j : Nat) : Nat := if j < k then s.found j else 0
theorem fnd_skip {s : DSt} {k : Nat} (h : s.found k = 0) (j : Nat) : fnd s (k + 1) j = fnd s k j := by
  unfold fnd
  by_cases hj : j < k
  · rw [if_pos hj, if_pos (by omega)]
  · rw [if_neg hj]
    by_cases hk : j = k
    · subst hk; rw [if_pos (by omega)]; exact h
    · rw [if_neg (by omega)]
theorem Cl.dec_in_ {l : List Nat} (hl : ∀ x ∈ l, x < 256) : (Cl.dec l).gen < 4294967296 ∧ (Cl.dec l).seq < 4294967296 := ⟨(Cl.dec_ok hl).gen, (Cl.dec_ok hl).seq⟩

set_option maxRecDepth 100000 in
set_option maxHeartbeats 6400000 in
theorem load_any (E : DE w0 w g s rs ims) :
    Calls Tryd.prog 36 #[.pointer (some ⟨g, 0, none⟩)] w fun e w' => e = .returned (.tuple #[.int .u32 (s.load.1 : Nat), .int .i64 s.load.2]) ∧ Below w.heap.size w w' := by
  cases hd : s.down with
  | true =>
    have hl : s.load = (0, 4) := by unfold DSt.load; rw [hd]; rfl
    have HL := Lib.hid hl
    clear hl
    go_enter Tryd.func36, Tryd.ntmps36
    go_wp2_with fail
    refine (ddown_de E).mono ?_; rintro e w1 ⟨rfl, rfl⟩
    rw [hd]
    go_wp2_with fail
    go_ret2
    exact ⟨by rw [HL.out]; rfl, Below.refl _ _⟩
  | false =>
  by_cases h2 : s.sure.length < 2
  · have h2i : ((s.sure.length : Nat) : Int) < 2 := by omega
    have hl : s.load = (0, 1) := by unfold DSt.load; rw [hd, if_neg (by decide), if_pos h2]
    have HL := Lib.hid hl
    clear hl
    go_enter Tryd.func36, Tryd.ntmps36
    go_wp2_with fail
    refine (ddown_de E).mono ?_; rintro e w1 ⟨rfl, rfl⟩
    rw [hd]
    go_wp2_with fail
    refine (dsectors_de E).mono ?_; rintro e w2 ⟨rfl, rfl⟩
    go_wp2_with fail
    go_ret2
    exact ⟨by rw [HL.out]; rfl, Below.refl _ _⟩
  have h2i : ¬ ((s.sure.length : Nat) : Int) < 2 := by omega
  have hl : s.load = (max (s.found 0) (s.found 1), 0) := by unfold DSt.load; rw [hd, if_neg (by decide), if_neg h2]
  have HL := Lib.hid hl
  have HW := Lib.hid E.wf
  clear hl h2
  go_enter Tryd.func36, Tryd.ntmps36
  go_wp2_with fail
  refine (ddown_de E).mono ?_; rintro e w1 ⟨rfl, rfl⟩
  rw [hd]
  go_wp2_with fail
  refine (dsectors_de E).mono ?_; rintro e w2 ⟨rfl, rfl⟩
  go_wp2_with fail
  go_loopw [17] (fun v wr => ∃ k : Nat, k ≤ 2 ∧ v = .int .i64 (k : Int) ∧ Blk wr w.heap.size 37 #[.int .u32 (fnd s k 0 : Nat), .int .u32 (fnd s k 1 : Nat)] ∧ Below w.heap.size w wr) (fun v _ => 2 - (intOf v).toNat)
  case atStart => exact ⟨0, by omega, rfl, Blk.new w _ _, (Below.refl _ w).alloc (Nat.le_refl _) _⟩
  case round =>
    obtain ⟨k, hk, rfl, hF, hb⟩ := hrel
    by_cases hk0 : k = 0
    · subst hk0
      have E2 := E.below hb
      go_wp2_with fail
      refine (dread_db E2 0).mono ?_; rintro e w3 ⟨A3, n3, c3, rfl, hi3, hb3⟩
      have hb03 := below_step hb hb3 hb.size
      have hF3 := hF.below hb3 hF.lt
      have hrl := read_len HW.out 0
      have hn3 := hi3.len
      obtain ⟨l, hl⟩ : ∃ z, (s.read 0).1 = z := ⟨_, rfl⟩
      obtain ⟨cd, hcd⟩ : ∃ z, (s.read 0).2 = z := ⟨_, rfl⟩
      rw [hl] at hi3 hrl hn3
      rw [hcd]
      have hn64 : n3 ≤ 64 := by omega
      have hfd : s.found 0 = genOf l 0 := by unfold DSt.found; rw [show ((0 : Nat) : Int) = 0 from rfl, hl]
      have HFD := Lib.hid hfd
      have HCD := Lib.hid (And.intro hl hcd)
      clear hfd hl hcd hrl hn3 hb3 hF E2
      by_cases hc : cd = 0
      case neg =>
        have hz : s.found 0 = 0 := by rw [HFD.out, ← HCD.out.1, read_bad (by rw [HCD.out.2]; exact hc)]; exact genOf_nil _
        have HZ := Lib.hid hz
        have hcn : (cd != 0) = true := by simpa using hc
        clear hz hc hi3
        go_wp2_with fail
        exact ⟨⟨1, by omega, by go_num, (by rw [fnd_skip HZ.out 0, fnd_skip HZ.out 1]; exact hF3), hb03⟩, by simp [intOf]⟩
      subst hc
      have hdin := Cl.dec_in_ (l := l) hi3.lt
      obtain ⟨dcl, hdec⟩ : ∃ z, Cl.dec l = z := ⟨_, rfl⟩
      rw [hdec] at hdin
      obtain ⟨dg, dsq, dp, dq, dd⟩ := dcl
      obtain ⟨dcd, hdcd⟩ : ∃ z, Cl.code l = z := ⟨_, rfl⟩
      obtain ⟨dm, hdm⟩ : ∃ z, dd.length = z := ⟨_, rfl⟩
      dsimp only at hdin
      have HD := Lib.hid (And.intro hdec (And.intro hdcd hdm))
      clear hdec hdcd hdm
      go_wp2_with fail
      refine (dec_c hi3 (by omega) HD.out.1 HD.out.2.1 HD.out.2.2).mono ?_; rintro e w4 ⟨A4, c4, rfl, hi4, hb4⟩
      have hb04 := (below_step hb03 hb4 hb03.size)
      have hb05 := hb04.alloc hb04.size (.cells #[.int .u32 (dg : Int), .int .u32 (dsq : Int), .int .i64 dp, .int .i64 dq, .slice A4 dm c4] 25)
      have hB5 := Blk.new w4 25 #[.int .u32 (dg : Int), .int .u32 (dsq : Int), .int .i64 dp, .int .i64 dq, .slice A4 dm c4]
      have hF5 := (hF3.below hb4 hF3.lt).alloc (.cells #[.int .u32 (dg : Int), .int .u32 (dsq : Int), .int .i64 dp, .int .i64 dq, .slice A4 dm c4] 25)
      have hi5 := hi4.alloc (.cells #[.int .u32 (dg : Int), .int .u32 (dsq : Int), .int .i64 dp, .int .i64 dq, .slice A4 dm c4] 25)
      clear hb4 hF3 hi4 hi3 hb04 hb03
      by_cases hc : dcd = 0
      case neg =>
        have HZ := Lib.hid (show s.found 0 = 0 from by rw [HFD.out]; exact genOf_no HD.out.1 (.inl (by rw [HD.out.2.1]; exact hc)))
        have hcn : (dcd == 0) = false := by simpa using hc
        clear hc
        go_wp2_with fail
        exact ⟨⟨1, by omega, by go_num, (by rw [fnd_skip HZ.out 0, fnd_skip HZ.out 1]; exact hF5), hb05⟩, by simp [intOf]⟩
      subst hc
      have k0 := hB5.cell 0
      have k1 := hB5.cell 1
      have k2 := hB5.cell 2
      have k3 := hB5.cell 3
      have k4 := hB5.cell 4
      simp only [List.getElem?_toArray, List.getElem?_cons_zero, List.getElem?_cons_succ] at k0 k1 k2 k3 k4
      go_wp2_with fail
      refine (is_any_ dg dsq dp dq A4 dm c4 dd 0 _ hdin.1 hi5).mono ?_; rintro e w6 ⟨rfl, hb6⟩
      have hb06 := below_step hb05 hb6 hb05.size
      have hF6 := hF5.below hb6 hF5.lt
      have hB6 := hB5.below hb6 hB5.lt
      clear hb05 hb6 hF5 hB5 hi5 k0 k1 k2 k3 k4
      cases his : isC dg dsq dp dq dd 0 with
      | false =>
        have HZ := Lib.hid (show s.found 0 = 0 from by rw [HFD.out]; exact genOf_no HD.out.1 (.inr his))
        go_wp2_with fail
        exact ⟨⟨1, by omega, by go_num, (by rw [fnd_skip HZ.out 0, fnd_skip HZ.out 1]; exact hF6), hb06⟩, by simp [intOf]⟩
      | true =>
        have HZ := Lib.hid (show s.found 0 = dg from by rw [HFD.out]; exact genOf_yes HD.out.1 HD.out.2.1 his)
        have k0 := hB6.cell 0
        simp only [List.getElem?_toArray, List.getElem?_cons_zero] at k0
        have f0 := hF6.cell 0
        simp only [List.getElem?_toArray, List.getElem?_cons_zero, List.getElem?_cons_succ] at f0
        have fr := hF6.frozen 0
        have hF7 := hF6.set_ 0 (.int .u32 (dg : Int))
        have hb07 := hb06.setCell (p := ⟨w.heap.size, 0, none⟩) (Nat.le_refl _) (.int .u32 (dg : Int))
        go_wp2_with fail
        refine ⟨⟨1, by omega, by go_num, ?_, hb07⟩, by simp [intOf]⟩
        have e0 : fnd s 1 0 = dg := by unfold fnd; rw [if_pos (by decide)]; exact HZ.out
        have e1 : fnd s 1 1 = fnd s 0 1 := by unfold fnd; rfl
        rw [e0, e1]
        exact hF7
    by_cases hk1 : k = 1
    · subst hk1
      have E2 := E.below hb
      go_wp2_with fail
      refine (dread_db E2 1).mono ?_; rintro e w3 ⟨A3, n3, c3, rfl, hi3, hb3⟩
      have hb03 := below_step hb hb3 hb.size
      have hF3 := hF.below hb3 hF.lt
      have hrl := read_len HW.out 1
      have hn3 := hi3.len
      obtain ⟨l, hl⟩ : ∃ z, (s.read 1).1 = z := ⟨_, rfl⟩
      obtain ⟨cd, hcd⟩ : ∃ z, (s.read 1).2 = z := ⟨_, rfl⟩
      rw [hl] at hi3 hrl hn3
      rw [hcd]
      have hn64 : n3 ≤ 64 := by omega
      have hfd : s.found 1 = genOf l 1 := by unfold DSt.found; rw [show ((1 : Nat) : Int) = 1 from rfl, hl]
      have HFD := Lib.hid hfd
      have HCD := Lib.hid (And.intro hl hcd)
      clear hfd hl hcd hrl hn3 hb3 hF E2
      by_cases hc : cd = 0
      case neg =>
        have hz : s.found 1 = 0 := by rw [HFD.out, ← HCD.out.1, read_bad (by rw [HCD.out.2]; exact hc)]; exact genOf_nil _
        have HZ := Lib.hid hz
        have hcn : (cd != 0) = true := by simpa using hc
        clear hz hc hi3
        go_wp2_with fail
        exact ⟨⟨2, by omega, by go_num, (by rw [fnd_skip HZ.out 0, fnd_skip HZ.out 1]; exact hF3), hb03⟩, by simp [intOf]⟩
      subst hc
      have hdin := Cl.dec_in_ (l := l) hi3.lt
      obtain ⟨dcl, hdec⟩ : ∃ z, Cl.dec l = z := ⟨_, rfl⟩
      rw [hdec] at hdin
      obtain ⟨dg, dsq, dp, dq, dd⟩ := dcl
      obtain ⟨dcd, hdcd⟩ : ∃ z, Cl.code l = z := ⟨_, rfl⟩
      obtain ⟨dm, hdm⟩ : ∃ z, dd.length = z := ⟨_, rfl⟩
      dsimp only at hdin
      have HD := Lib.hid (And.intro hdec (And.intro hdcd hdm))
      clear hdec hdcd hdm
      go_wp2_with fail
      refine (dec_c hi3 (by omega) HD.out.1 HD.out.2.1 HD.out.2.2).mono ?_; rintro e w4 ⟨A4, c4, rfl, hi4, hb4⟩
      have hb04 := (below_step hb03 hb4 hb03.size)
      have hb05 := hb04.alloc hb04.size (.cells #[.int .u32 (dg : Int), .int .u32 (dsq : Int), .int .i64 dp, .int .i64 dq, .slice A4 dm c4] 25)
      have hB5 := Blk.new w4 25 #[.int .u32 (dg : Int), .int .u32 (dsq : Int), .int .i64 dp, .int .i64 dq, .slice A4 dm c4]
      have hF5 := (hF3.below hb4 hF3.lt).alloc (.cells #[.int .u32 (dg : Int), .int .u32 (dsq : Int), .int .i64 dp, .int .i64 dq, .slice A4 dm c4] 25)
      have hi5 := hi4.alloc (.cells #[.int .u32 (dg : Int), .int .u32 (dsq : Int), .int .i64 dp, .int .i64 dq, .slice A4 dm c4] 25)
      clear hb4 hF3 hi4 hi3 hb04 hb03
      by_cases hc : dcd = 0
      case neg =>
        have HZ := Lib.hid (show s.found 1 = 0 from by rw [HFD.out]; exact genOf_no HD.out.1 (.inl (by rw [HD.out.2.1]; exact hc)))
        have hcn : (dcd == 0) = false := by simpa using hc
        clear hc
        go_wp2_with fail
        exact ⟨⟨2, by omega, by go_num, (by rw [fnd_skip HZ.out 0, fnd_skip HZ.out 1]; exact hF5), hb05⟩, by simp [intOf]⟩
      subst hc
      have k0 := hB5.cell 0
      have k1 := hB5.cell 1
      have k2 := hB5.cell 2
      have k3 := hB5.cell 3
      have k4 := hB5.cell 4
      simp only [List.getElem?_toArray, List.getElem?_cons_zero, List.getElem?_cons_succ] at k0 k1 k2 k3 k4
      go_wp2_with fail
      refine (is_any_ dg dsq dp dq A4 dm c4 dd 1 _ hdin.1 hi5).mono ?_; rintro e w6 ⟨rfl, hb6⟩
      have hb06 := below_step hb05 hb6 hb05.size
      have hF6 := hF5.below hb6 hF5.lt
      have hB6 := hB5.below hb6 hB5.lt
      clear hb05 hb6 hF5 hB5 hi5 k0 k1 k2 k3 k4
      cases his : isC dg dsq dp dq dd 1 with
      | false =>
        have HZ := Lib.hid (show s.found 1 = 0 from by rw [HFD.out]; exact genOf_no HD.out.1 (.inr his))
        go_wp2_with fail
        exact ⟨⟨2, by omega, by go_num, (by rw [fnd_skip HZ.out 0, fnd_skip HZ.out 1]; exact hF6), hb06⟩, by simp [intOf]⟩
      | true =>
        have HZ := Lib.hid (show s.found 1 = dg from by rw [HFD.out]; exact genOf_yes HD.out.1 HD.out.2.1 his)
        have k0 := hB6.cell 0
        simp only [List.getElem?_toArray, List.getElem?_cons_zero] at k0
        have f0 := hF6.cell 1
        simp only [List.getElem?_toArray, List.getElem?_cons_zero, List.getElem?_cons_succ] at f0
        have fr := hF6.frozen 1
        have hF7 := hF6.set_ 1 (.int .u32 (dg : Int))
        have hb07 := hb06.setCell (p := ⟨w.heap.size, 1, none⟩) (Nat.le_refl _) (.int .u32 (dg : Int))
        go_wp2_with fail
        refine ⟨⟨2, by omega, by go_num, ?_, hb07⟩, by simp [intOf]⟩
        have e0 : fnd s 2 1 = dg := by unfold fnd; rw [if_pos (by decide)]; exact HZ.out
        have e1 : fnd s 2 0 = fnd s 1 0 := by unfold fnd; rfl
        rw [e0, e1]
        exact hF7
    · obtain rfl : k = 2 := by omega
      have f0 := hF.cell 0
      have f1 := hF.cell 1
      simp only [List.getElem?_toArray, List.getElem?_cons_zero, List.getElem?_cons_succ] at f0 f1
      have HB := Lib.hid hb
      clear hF hb
      have e0 : fnd s 2 0 = s.found 0 := rfl
      have e1 : fnd s 2 1 = s.found 1 := rfl
      rw [e0] at f0
      rw [e1] at f1
      by_cases hmx : s.found 0 < s.found 1
      · have HX := Lib.hid (show max (s.found 0) (s.found 1) = s.found 1 by omega)
        go_wp2_with fail
        go_ret2
        exact ⟨by rw [HL.out, HX.out]; rfl, HB.out⟩
      · have HX := Lib.hid (show max (s.found 0) (s.found 1) = s.found 0 by omega)
        go_wp2_with fail
        go_ret2
        exact ⟨by rw [HL.out, HX.out]; rfl, HB.out⟩
end
end Go.Proofs.YtfoeapjlklfjgaaDoor

/- The contract of root.Save, over a law's disk, and what laws of layer 8 ask first. No condition but those of the disk's own functions. -/
namespace Go.Proofs.YtfoeapjlklfjgaaDoor
set_option linter.unusedSimpArgs false
set_option linter.unusedVariables false
open Go.RowKit

section
variable {w0 w w' : World} {g : Nat} {s : DSt} {rs : List BEl} {ims : List ImgT}
theorem write_begun (s : DSt) (i : Int) (l : List Nat) : (s.write i l).1.begun ≤ s.begun + 1 := by
  unfold DSt.write
  split
  · show s.begun ≤ _; omega
  · split
    · split
      · show s.begun + 1 ≤ _; omega
      · show s.begun + 1 ≤ _; omega
    · show s.begun ≤ _; omega
theorem save_arg {gen : Nat} (h : s.sure.length < 2 ∨ gen = 0) : s.save gen = (s, 1) := by unfold DSt.save; rw [if_pos h]
theorem save_more {gen r : Nat} (h : ¬ (s.sure.length < 2 ∨ gen = 0)) (hr : gen % 2 = r) : s.save gen = if (s.write (r : Int) (rootS gen)).2 = 0 then (s.write (r : Int) (rootS gen)).1.flush else s.write (r : Int) (rootS gen) := by subst hr; unfold DSt.save; rw [if_neg h]

set_option maxRecDepth 100000 in
set_option maxHeartbeats 6400000 in
theorem save_any (E : DE w0 w g s rs ims) (gen : Nat) (hg : gen < 4294967296) (hb : s.begun < 576460752303423488) (hp : s.pend.length < 1099511627776) :
    Calls Tryd.prog 33 #[.pointer (some ⟨g, 0, none⟩), .int .u32 (gen : Int)] w fun e w' => e = .returned (.int .i64 (s.save gen).2) ∧ DE w0 w' g (s.save gen).1 rs ims := by
  by_cases h2 : s.sure.length < 2
  · have h2i : ((s.sure.length : Nat) : Int) < 2 := by omega
    have h2d : decide (((s.sure.length : Nat) : Int) < 2) = true := decide_eq_true h2i
    have HS := Lib.hid (save_arg (s := s) (gen := gen) (.inl h2))
    go_enter Tryd.func33, Tryd.ntmps33
    go_wp2_with fail
    refine (dsectors_de E).mono ?_; rintro e w1 ⟨rfl, rfl⟩
    go_wp2_with fail
    go_ret
    exact ⟨by rw [HS.out]; rfl, by rw [HS.out]; exact E⟩
  have h2i : ¬ ((s.sure.length : Nat) : Int) < 2 := by omega
  have h2d : decide (((s.sure.length : Nat) : Int) < 2) = false := decide_eq_false h2i
  by_cases h0 : gen = 0
  · have h0i : ((gen : Int) == 0) = true := by simp [h0]
    have HS := Lib.hid (save_arg (s := s) (gen := gen) (.inr h0))
    clear h0
    go_enter Tryd.func33, Tryd.ntmps33
    go_wp2_with fail
    refine (dsectors_de E).mono ?_; rintro e w1 ⟨rfl, rfl⟩
    go_wp2_with fail
    go_ret
    exact ⟨by rw [HS.out]; rfl, by rw [HS.out]; exact E⟩
  have h0i : ((gen : Int) == 0) = false := by simp; omega
  obtain ⟨r, hr⟩ : ∃ r, gen % 2 = r := ⟨_, rfl⟩
  have hri : (gen : Int) % 2 = (r : Int) := by omega
  have HS := Lib.hid (save_more (s := s) (gen := gen) (fun h => h.elim h2 h0) hr)
  clear hr h2 h0
  go_enter Tryd.func33, Tryd.ntmps33
  go_wp2_with fail
  refine (dsectors_de E).mono ?_; rintro e w1 ⟨rfl, rfl⟩
  go_wp2_with fail
  refine (root_any gen hg _).mono ?_; rintro e w2 ⟨A2, rfl, hi2, hb2⟩
  have E2 := E.below hb2
  clear E hb2
  go_wp2_with fail
  have hen := encL_yes (rootC_may gen)
  have HEN := Lib.hid hen
  clear hen
  refine (encode_any gen 0 hg (by decide) 0 1 (by decide) A2 4 4 [114, 111, 111, 116] _ hi2).mono ?_; rintro e w3 ⟨A3, m3, c3, rfl, ho3, hb3⟩
  have hen1 : Cl.encL ⟨gen, 0, 0, 1, [114, 111, 111, 116]⟩ = rootS gen := HEN.out.1
  have hen2 : Cl.encCode ⟨gen, 0, 0, 1, [114, 111, 111, 116]⟩ = 0 := HEN.out.2
  rw [hen1] at ho3
  rw [hen2]
  have hm3 := ho3.len
  rw [rootS_len] at hm3
  subst hm3
  have E3 := E2.below hb3
  clear E2 hb3 hi2 hen1 hen2
  go_wp2_with fail
  refine (dwrite_de E3 (r : Int) ho3 (by decide) (by omega) hp).mono ?_; rintro e w4 ⟨rfl, E4⟩
  have hbw := write_begun s (r : Int) (rootS gen)
  obtain ⟨cd, hcd⟩ : ∃ z, (s.write (r : Int) (rootS gen)).2 = z := ⟨_, rfl⟩
  rw [hcd]
  have HCD := Lib.hid hcd
  clear hcd ho3 E3
  by_cases hc : cd = 0
  · have HF := Lib.hid (show s.save gen = (s.write (r : Int) (rootS gen)).1.flush by rw [HS.out, if_pos (by rw [HCD.out]; exact hc)])
    subst hc
    generalize (s.write (r : Int) (rootS gen)).1 = s4 at *
    go_wp2_with fail
    refine (dflush_de E4 (by omega)).mono ?_; rintro e w5 ⟨rfl, E5⟩
    clear E4
    rw [← HF.out] at E5 ⊢
    go_wp2_with fail
    go_ret
    exact ⟨rfl, E5⟩
  · have HF := Lib.hid (show s.save gen = s.write (r : Int) (rootS gen) by rw [HS.out, if_neg (by rw [HCD.out]; exact hc)])
    have hcn : (cd != 0) = true := by simpa using hc
    clear hc hbw
    go_wp2_with fail
    go_ret
    exact ⟨by rw [HF.out, HCD.out]; rfl, by rw [HF.out]; exact E4⟩
end
theorem Flip_up {gen : Nat} {s : DSt} (h : DSt.Flip s gen) (l : List Nat) : DSt.Flip (s.up l) gen := by
  have e : (s.up l).sure = s.sure := by unfold DSt.up; rw [h.pend]; rfl
  exact ⟨⟨rfl, rfl⟩, by rw [e]; exact h.len, rfl, Nat.zero_le _, by rw [e]; exact h.is, by rw [e]; exact h.other⟩
set_option maxRecDepth 100000 in
set_option maxHeartbeats 3200000 in
theorem rawake_any (w : World) : Calls Tryd.prog 31 #[] w fun e w' => e = .returned (.bool true) ∧ Below w.heap.size w w' := by
  have h1 := DSt.Flip.first (gen := 1) (by decide)
  have hz := DSt.load_plain (s := DSt.new 2) rfl rfl (by decide)
  rw [DSt.new_zero, DSt.new_zero] at hz
  have hz2 : (DSt.new 2).load = (0, 0) := hz.trans rfl
  obtain ⟨s1, hs1⟩ : ∃ s1, ((DSt.new 2).save 1).1 = s1 := ⟨_, rfl⟩
  rw [hs1] at h1
  obtain ⟨s2, hs2⟩ : ∃ s2, s1.up [] = s2 := ⟨_, rfl⟩
  have h2 := Flip_up h1.2 []
  rw [hs2] at h2
  have hl2 := h2.load (by decide) (by decide)
  have HH := Lib.hid (And.intro hz2 (And.intro h1.1 (And.intro hs1 (And.intro hs2 (And.intro hl2 (save_arg (s := s2) (gen := 0) (.inr rfl)))))))
  have hbeg := h2.beg
  have hpnd : s2.pend.length = 0 := by rw [h2.pend]; rfl
  clear hz hz2 h1 hs1 hs2 hl2 h2
  go_enter Tryd.func31, Tryd.ntmps31
  go_wp2_with fail
  refine (dnew_de 2 (by omega) (by omega) _ (Below.refl _ _)).mono ?_; rintro e w1 ⟨g, rfl, E⟩
  go_wp2_with fail
  refine (load_any E).mono ?_; rintro e w2 ⟨rfl, hb2⟩
  rw [HH.out.1]
  have E := E.below hb2
  clear hb2
  go_wp2_with fail
  refine (save_any E 1 (by decide) (by decide) (by decide)).mono ?_; rintro e w3 ⟨rfl, E⟩
  rw [HH.out.2.1]
  rw [HH.out.2.2.1] at E
  go_wp2_with fail
  refine (dup_de E (Ints.nil_ _ .u8 256 none 0) (by omega)).mono ?_; rintro e w4 ⟨⟨_, rfl⟩, E⟩
  rw [HH.out.2.2.2.1] at E
  go_wp2_with fail
  refine (load_any E).mono ?_; rintro e w5 ⟨rfl, hb5⟩
  rw [HH.out.2.2.2.2.1]
  have E := E.below hb5
  clear hb5
  go_wp2_with fail
  refine (save_any E 0 (by decide) (by omega) (by omega)).mono ?_; rintro e w6 ⟨rfl, E⟩
  rw [HH.out.2.2.2.2.2]
  go_wp2_with fail
  go_ret
  exact ⟨rfl, E.bel⟩
end Go.Proofs.YtfoeapjlklfjgaaDoor

/- The contracts of heijunkaref08's Sector, Save and Load, over the document's disk. No condition but those of the disk's own functions. -/
namespace Go.Proofs.YtfoeapjlklfjgaaDoor
set_option linter.unusedSimpArgs false
set_option linter.unusedVariables false
open Go.RowKit

set_option maxRecDepth 100000 in
set_option maxHeartbeats 3200000 in
theorem rsector_any (gen : Nat) (hg : gen < 4294967296) (w : World) :
    Calls Tryd.prog 43 #[.int .u32 (gen : Int)] w fun e w' => ∃ A c, e = .returned (.slice A 64 c) ∧ OwnI w' w.heap.size .u8 256 5 A 64 c (rootS gen) ∧ Below w.heap.size w w' := by
  have HEN := Lib.hid (encL_yes (rootC_may gen))
  go_enter Tryd.func43, Tryd.ntmps43
  go_wp2_with fail
  have hi : Ints (w.alloc (.cells #[.int .u8 114, .int .u8 111, .int .u8 111, .int .u8 116] 5)) .u8 256 (some ⟨w.heap.size, 0, none⟩) 4 4 [114, 111, 111, 116] := Ints.lit .u8 256 5 [114, 111, 111, 116] rfl rfl rfl (by decide)
  have hb := (Below.refl w.heap.size w).alloc (Nat.le_refl _) (.cells #[.int .u8 114, .int .u8 111, .int .u8 111, .int .u8 116] 5)
  refine (rencode_any gen 0 hg (by decide) 0 1 (by decide) _ 4 4 [114, 111, 111, 116] _ hi).mono ?_; rintro e w3 ⟨A3, m3, c3, rfl, ho3, hb3⟩
  have hen1 : Cl.encL ⟨gen, 0, 0, 1, [114, 111, 111, 116]⟩ = rootS gen := HEN.out.1
  rw [hen1] at ho3
  have hm3 := ho3.len
  rw [rootS_len] at hm3
  subst hm3
  have hb4 := below_step hb hb3 hb.size
  have H := Lib.hid (And.intro (ho3.mono hb.size) hb4)
  clear hen1 ho3 hb3 hb4 hi hb
  go_wp2_with fail
  go_ret
  exact ⟨A3, c3, rfl, H.out.1, H.out.2⟩

section
variable {w w' : World} {T : List Nat} {g : Nat} {s : DSt}
theorem rsave_arg {gen : Nat} (h : s.sure.length < 2 ∨ gen = 0) : s.save gen = (s, 1) := by unfold DSt.save; rw [if_pos h]
theorem rsave_more {gen r : Nat} (h : ¬ (s.sure.length < 2 ∨ gen = 0)) (hr : gen % 2 = r) : s.save gen = if (s.write (r : Int) (rootS gen)).2 = 0 then (s.write (r : Int) (rootS gen)).1.flush else s.write (r : Int) (rootS gen) := by subst hr; unfold DSt.save; rw [if_neg h]
theorem wr_begun (s : DSt) (i : Int) (l : List Nat) : (s.write i l).1.begun ≤ s.begun + 1 ∧ (s.write i l).1.pend.length ≤ s.pend.length + 1 := by
  unfold DSt.write
  split
  · exact ⟨by show s.begun ≤ _; omega, by show s.pend.length ≤ _; omega⟩
  · split
    · split
      · exact ⟨by show s.begun + 1 ≤ _; omega, by show s.pend.length ≤ _; omega⟩
      · exact ⟨by show s.begun + 1 ≤ _; omega, by show (s.pend ++ [_]).length ≤ _; rw [List.length_append]; simp⟩
    · exact ⟨by show s.begun ≤ _; omega, by show s.pend.length ≤ _; omega⟩
theorem RefAt.len0 (R : RefAt w T g s) : ∃ BA bc, w.cell? ⟨g, 0, none⟩ = some (.slice BA s.sure.length bc) ∧ w.cell? ⟨g, 4, none⟩ = some (.bool s.down) := by
  obtain ⟨BA, n, bc, GA, gc, AA, m, ac, NA, nc, st, xs, bs, ks, ys, h⟩ := R.ex
  exact ⟨BA, bc, by rw [h.n_eq]; exact h.c0, h.c4⟩

set_option maxRecDepth 100000 in
set_option maxHeartbeats 6400000 in
theorem rsave_any (R : RefAt w T g s) (gen : Nat) (hg : gen < 4294967296) (hb : s.begun < 576460752303423488) (hp : s.pend.length < 549755813888) :
    Calls Tryd.prog 42 #[.pointer (some ⟨g, 0, none⟩), .int .u32 (gen : Int)] w fun e w' => e = .returned (.int .i64 (s.save gen).2) ∧ ∃ T', RefAt w' T' g (s.save gen).1 ∧ Moved w w' T T' := by
  obtain ⟨BA, bc, c0, c4⟩ := R.len0
  by_cases h2 : s.sure.length < 2
  · have h2i : ((s.sure.length : Nat) : Int) < 2 := by omega
    have h2d : decide (((s.sure.length : Nat) : Int) < 2) = true := decide_eq_true h2i
    have HS := Lib.hid (rsave_arg (s := s) (gen := gen) (.inl h2))
    have H := Lib.hid R
    clear R h2 c4
    go_enter Tryd.func42, Tryd.ntmps42
    go_wp2_with fail
    go_ret
    rw [HS.out]
    exact ⟨rfl, T, H.out, Moved.refl _ _⟩
  have h2i : ¬ ((s.sure.length : Nat) : Int) < 2 := by omega
  have h2d : decide (((s.sure.length : Nat) : Int) < 2) = false := decide_eq_false h2i
  by_cases h0 : gen = 0
  · have h0i : ((gen : Int) == 0) = true := by simp [h0]
    have HS := Lib.hid (rsave_arg (s := s) (gen := gen) (.inr h0))
    have H := Lib.hid R
    clear R h2 c4 h0
    go_enter Tryd.func42, Tryd.ntmps42
    go_wp2_with fail
    go_ret
    rw [HS.out]
    exact ⟨rfl, T, H.out, Moved.refl _ _⟩
  have h0i : ((gen : Int) == 0) = false := by simp; omega
  obtain ⟨r, hr⟩ : ∃ r, gen % 2 = r := ⟨_, rfl⟩
  have hri : (gen : Int) % 2 = (r : Int) := by omega
  have HS := Lib.hid (rsave_more (s := s) (gen := gen) (fun h => h.elim h2 h0) hr)
  have H := Lib.hid R
  clear hr h2 h0 c4 R
  go_enter Tryd.func42, Tryd.ntmps42
  go_wp2_with fail
  refine (rsector_any gen hg _).mono ?_; rintro e w2 ⟨A2, c2, rfl, ho2, hb2⟩
  have R2 := H.out.below hb2
  have M2 := Moved.of_below hb2 T
  have hoff := R2.no.off ho2
  clear hb2 c0
  go_wp2_with fail
  refine (rwrite_disk R2 (r : Int) ho2.ints hoff (by decide) (by omega) (by omega)).mono ?_; rintro e w4 ⟨rfl, T4, R4, M4⟩
  have M := Lib.hid (M2.trans M4)
  have hbw := wr_begun s (r : Int) (rootS gen)
  obtain ⟨cd, hcd⟩ : ∃ z, (s.write (r : Int) (rootS gen)).2 = z := ⟨_, rfl⟩
  rw [hcd]
  have HCD := Lib.hid hcd
  clear hcd ho2 R2 hoff M2 M4
  by_cases hc : cd = 0
  · have HF := Lib.hid (show s.save gen = (s.write (r : Int) (rootS gen)).1.flush by rw [HS.out, if_pos (by rw [HCD.out]; exact hc)])
    subst hc
    generalize (s.write (r : Int) (rootS gen)).1 = s4 at *
    go_wp2_with fail
    refine (rflush_any R4 (by omega) (by omega)).mono ?_; rintro e w5 ⟨rfl, T5, R5, M5⟩
    have H5 := Lib.hid (And.intro R5 (M.out.trans M5))
    clear R4 R5 M5
    rw [← HF.out] at H5 ⊢
    go_wp2_with fail
    go_ret
    exact ⟨rfl, T5, H5.out.1, H5.out.2⟩
  · have HF := Lib.hid (show s.save gen = s.write (r : Int) (rootS gen) by rw [HS.out, if_neg (by rw [HCD.out]; exact hc)])
    have hcn : (cd != 0) = true := by simpa using hc
    have H4 := Lib.hid R4
    clear hc hbw R4
    go_wp2_with fail
    go_ret
    rw [HF.out]
    exact ⟨by rw [HCD.out]; rfl, T4, H4.out, M.out⟩

/-- What heijunkaref08's Load has, a sector more. -/
theorem max_no {l : List Nat} (hl : ∀ x ∈ l, x < 256) {gs sq : Nat} {pt ps : Int} {d : List Nat} (hd : Cl.dec l = ⟨gs, sq, pt, ps, d⟩) {i g0 : Nat} (h : Cl.code l ≠ 0 ∨ ¬ g0 < gs ∨ gs % 2 ≠ i ∨ l ≠ rootS gs) : max g0 (genOf l i) = g0 := by
  unfold genOf
  cases hr : isRootL l i with
  | false => rw [if_neg (by decide)]; omega
  | true =>
    rw [if_pos rfl]
    unfold isRootL at hr
    simp only [Bool.and_eq_true, decide_eq_true_eq] at hr
    obtain ⟨he, ⟨h1, h2⟩, h3⟩ := hr
    have hraw : Cl.raw l = ⟨gs, sq, pt, ps, d⟩ := by rw [← hd]; unfold Cl.dec; rw [he]; rfl
    have hg : (Cl.raw l).gen = gs := by rw [hraw]
    rw [hg] at h1 h2 h3 ⊢
    rcases h with h | h | h | h
    · exact absurd (show Cl.code l = 0 by unfold Cl.code; rw [he]; rfl) h
    · omega
    · exact absurd h2 h
    · refine absurd ?_ h
      rw [rootS, ← h3]
      exact (Cl.isEnc_iff.1 he).2.2.symm
theorem max_yes {l : List Nat} {gs sq : Nat} {pt ps : Int} {d : List Nat} (hd : Cl.dec l = ⟨gs, sq, pt, ps, d⟩) (hg : gs < 4294967296) {i g0 : Nat} (h1 : g0 < gs) (h2 : gs % 2 = i) (h3 : l = rootS gs) : max g0 (genOf l i) = gs := by
  subst h2
  rw [h3, genOf_root (by omega) hg]
  omega
theorem fm_step (s : DSt) (k : Nat) (hk : k < 2) : max (max (fnd s k 0) (fnd s k 1)) (s.found k) = max (fnd s (k + 1) 0) (fnd s (k + 1) 1) := by
  rcases Nat.lt_or_ge k 1 with h | h
  · obtain rfl : k = 0 := by omega
    unfold fnd
    simp
  · obtain rfl : k = 1 := by omega
    unfold fnd
    simp
set_option maxRecDepth 100000 in
set_option maxHeartbeats 6400000 in
theorem rload_any (R : RefAt w T g s) (hp : s.pend.length < 1099511627776) :
    Calls Tryd.prog 47 #[.pointer (some ⟨g, 0, none⟩)] w fun e w' => e = .returned (.tuple #[.int .u32 (s.load.1 : Nat), .int .i64 s.load.2]) ∧ Below w.heap.size w w' := by
  obtain ⟨BA, bc, c0, c4⟩ := R.len0
  cases hd : s.down with
  | true =>
    have HL := Lib.hid (show s.load = (0, 4) by unfold DSt.load; rw [hd]; rfl)
    rw [hd] at c4
    clear R
    go_enter Tryd.func47, Tryd.ntmps47
    go_wp2_with fail
    go_ret2
    exact ⟨by rw [HL.out]; rfl, Below.refl _ _⟩
  | false =>
    rw [hd] at c4
    by_cases h2 : s.sure.length < 2
    · have h2i : ((s.sure.length : Nat) : Int) < 2 := by omega
      have h2d : decide (((s.sure.length : Nat) : Int) < 2) = true := decide_eq_true h2i
      have HL := Lib.hid (show s.load = (0, 1) by unfold DSt.load; rw [hd, if_neg (by decide), if_pos h2])
      clear R h2
      go_enter Tryd.func47, Tryd.ntmps47
      go_wp2_with fail
      go_ret2
      exact ⟨by rw [HL.out]; rfl, Below.refl _ _⟩
    have h2i : ¬ ((s.sure.length : Nat) : Int) < 2 := by omega
    have h2d : decide (((s.sure.length : Nat) : Int) < 2) = false := decide_eq_false h2i
    have HL := Lib.hid (show s.load = (max (s.found 0) (s.found 1), 0) by unfold DSt.load; rw [hd, if_neg (by decide), if_neg h2])
    have HW := Lib.hid R.wf
    have HR := Lib.hid R
    clear R h2 hd
    go_enter Tryd.func47, Tryd.ntmps47
    go_wp2_with fail
    clear c0 c4 h2i h2d
    go_loopw [4, 5] (fun gv iv wr => ∃ (k : Nat) (g0 : Nat), k ≤ 2 ∧ iv = .int .i64 (k : Int) ∧ gv = .int .u32 (g0 : Int) ∧ g0 = max (fnd s k 0) (fnd s k 1) ∧ Below w.heap.size w wr) (fun _ iv _ => 2 - (intOf iv).toNat)
    case atStart => exact ⟨0, 0, by omega, rfl, rfl, rfl, Below.refl _ _⟩
    case round =>
      obtain ⟨k, g0, hk, rfl, rfl, hg0, hb⟩ := hrel
      have HG0 := Lib.hid hg0
      clear hg0
      by_cases hk2 : k < 2
      · have hlt : (k : Int) < 2 := by omega
        have hstep := fm_step s k hk2
        rw [← HG0.out] at hstep
        have HST := Lib.hid hstep
        clear hstep
        go_wp2_with fail
        refine (rread_any (HR.out.below hb) (k : Int) hp).mono ?_; rintro e w3 ⟨A3, n3, c3, rfl, hi3, rfl⟩
        have hrl := read_len HW.out (k : Int)
        have hn3 := hi3.len
        obtain ⟨l, hl⟩ : ∃ z, (s.read (k : Int)).1 = z := ⟨_, rfl⟩
        obtain ⟨cd, hcd⟩ : ∃ z, (s.read (k : Int)).2 = z := ⟨_, rfl⟩
        rw [hl] at hi3 hrl hn3
        rw [hcd]
        have hn64 : n3 ≤ 64 := by omega
        have hfd : s.found k = genOf l k := by unfold DSt.found; rw [hl]
        have HFD := Lib.hid hfd
        have HCD := Lib.hid (And.intro hl hcd)
        clear hfd hl hcd hrl hn3
        have hllt := hi3.lt
        have HLT := Lib.hid hllt
        have hdin := Cl.dec_in_ (l := l) hi3.lt
        obtain ⟨dcl, hdec⟩ : ∃ z, Cl.dec l = z := ⟨_, rfl⟩
        rw [hdec] at hdin
        obtain ⟨dg, dsq, dp, dq, dd⟩ := dcl
        obtain ⟨dcd, hdcd⟩ : ∃ z, Cl.code l = z := ⟨_, rfl⟩
        obtain ⟨dm, hdm⟩ : ∃ z, dd.length = z := ⟨_, rfl⟩
        dsimp only at hdin
        have HD := Lib.hid (And.intro hdec (And.intro hdcd hdm))
        clear hdec hdcd hdm hllt
        go_wp2_with fail
        refine (rdec_c hi3 (by omega) HD.out.1 HD.out.2.1 HD.out.2.2).mono ?_; rintro e w4 ⟨A4, c4, rfl, hi4, hb4⟩
        have hb04 := below_step hb hb4 hb.size
        have hb05 := hb04.alloc hb04.size (.cells #[.int .u32 (dg : Int), .int .u32 (dsq : Int), .int .i64 dp, .int .i64 dq, .slice A4 dm c4] 25)
        have hB5 := Blk.new w4 25 #[.int .u32 (dg : Int), .int .u32 (dsq : Int), .int .i64 dp, .int .i64 dq, .slice A4 dm c4]
        have hi5 := (hi3.below hb4).alloc (.cells #[.int .u32 (dg : Int), .int .u32 (dsq : Int), .int .i64 dp, .int .i64 dq, .slice A4 dm c4] 25)
        have k0 := hB5.cell 0
        simp only [List.getElem?_toArray, List.getElem?_cons_zero] at k0
        clear hb4 hi4 hi3 hb04 hb
        have HB := Lib.hid (And.intro hb05 (And.intro hB5 hi5))
        clear hb05 hB5 hi5
        by_cases hc : cd = 0
        case neg =>
          have HZ := Lib.hid (show max g0 (genOf l k) = g0 from by
            have : l = [] := by rw [← HCD.out.1]; exact read_bad (by rw [HCD.out.2]; exact hc)
            rw [this, genOf_nil]; omega)
          have hcn : (cd == 0) = false := by simpa using hc
          clear hc
          go_wp2_with fail
          go_roundw
          case rel => exact ⟨k + 1, g0, by omega, by go_num, rfl, by rw [← HST.out, HFD.out]; exact HZ.out.symm, HB.out.1⟩
          case measure => simp [intOf]; omega
        subst hc
        by_cases hc : dcd = 0
        case neg =>
          have HZ := Lib.hid (max_no HLT.out HD.out.1 (i := k) (g0 := g0) (.inl (by rw [HD.out.2.1]; exact hc)))
          have hcn : (dcd == 0) = false := by simpa using hc
          clear hc
          go_wp2_with fail
          go_roundw
          case rel => exact ⟨k + 1, g0, by omega, by go_num, rfl, by rw [← HST.out, HFD.out]; exact HZ.out.symm, HB.out.1⟩
          case measure => simp [intOf]; omega
        subst hc
        by_cases hlt0 : g0 < dg
        case neg =>
          have HZ := Lib.hid (max_no HLT.out HD.out.1 (i := k) (g0 := g0) (.inr (.inl hlt0)))
          have t1 : decide ((g0 : Int) < (dg : Int)) = false := decide_eq_false (by omega)
          have t2 : ¬ (g0 : Int) < (dg : Int) := by omega
          clear hlt0
          go_wp2_with fail
          go_roundw
          case rel => exact ⟨k + 1, g0, by omega, by go_num, rfl, by rw [← HST.out, HFD.out]; exact HZ.out.symm, HB.out.1⟩
          case measure => simp [intOf]; omega
        have t1 : decide ((g0 : Int) < (dg : Int)) = true := decide_eq_true (by omega)
        have t2 : (g0 : Int) < (dg : Int) := by omega
        obtain ⟨r, hr⟩ : ∃ z, dg % 2 = z := ⟨_, rfl⟩
        have hri : (dg : Int) % 2 = (r : Int) := by omega
        have HRR := Lib.hid hr
        clear hr
        by_cases hrk : r = k
        case neg =>
          have HZ := Lib.hid (max_no HLT.out HD.out.1 (i := k) (g0 := g0) (.inr (.inr (.inl (by rw [HRR.out]; exact hrk)))))
          have t3 : ((r : Int) == (k : Int)) = false := by simp; omega
          clear hrk hlt0
          go_wp2_with fail
          go_roundw
          case rel => exact ⟨k + 1, g0, by omega, by go_num, rfl, by rw [← HST.out, HFD.out]; exact HZ.out.symm, HB.out.1⟩
          case measure => simp [intOf]; omega
        have t3 : ((r : Int) == (k : Int)) = true := by simp; omega
        have HRK := Lib.hid (HRR.out.trans hrk)
        have HLT0 := Lib.hid hlt0
        clear hrk hlt0
        obtain ⟨q, hq⟩ : ∃ q, decide (l = rootS dg) = q := ⟨_, rfl⟩
        have HQ := Lib.hid hq
        clear hq
        go_wp2_with fail
        refine (rsector_any dg hdin.1 _).mono ?_; rintro e w6 ⟨A6, c6, rfl, ho6, hb6⟩
        have hi6 := HB.out.2.2.below hb6
        have hB6 := HB.out.2.1.below hb6 HB.out.2.1.lt
        have hb06 := below_step HB.out.1 hb6 HB.out.1.size
        clear HB hb6 k0
        have k0 := hB6.cell 0
        simp only [List.getElem?_toArray, List.getElem?_cons_zero] at k0
        go_wp2_with fail
        refine (rows_any _ _ _ _ _ _ _ _ _ hi6 ho6.ints (by omega) (by omega)).mono ?_; rintro e w7 ⟨⟨q7, rfl⟩, rfl⟩
        rw [HQ.out]
        have k0 : (w6.drewN q7).cell? _ = _ := k0
        have HB7 := Lib.hid (show Below w.heap.size w (w6.drewN q7) from ((Moved.refl w6 []).drewN q7).below hb06 hb06.size (fun _ h => by cases h))
        clear hB6 hi6 ho6 hb06
        cases q with
        | false =>
          have HZ := Lib.hid (max_no HLT.out HD.out.1 (i := k) (g0 := g0) (.inr (.inr (.inr (of_decide_eq_false HQ.out)))))
          go_wp2_with fail
          go_roundw
          case rel => exact ⟨k + 1, g0, by omega, by go_num, rfl, by rw [← HST.out, HFD.out]; exact HZ.out.symm, HB7.out⟩
          case measure => simp [intOf]; omega
        | true =>
          have HZ := Lib.hid (max_yes HD.out.1 hdin.1 (i := k) (g0 := g0) HLT0.out HRK.out (of_decide_eq_true HQ.out))
          go_wp2_with fail
          go_roundw
          case rel => exact ⟨k + 1, dg, by omega, by go_num, rfl, by rw [← HST.out, HFD.out]; exact HZ.out.symm, HB7.out⟩
          case measure => simp [intOf]; omega
      · obtain rfl : k = 2 := by omega
        have HB := Lib.hid hb
        clear hb
        go_wp2_with fail
        go_ret2
        refine ⟨?_, HB.out⟩
        rw [HL.out, HG0.out]
        rfl
end
end Go.Proofs.YtfoeapjlklfjgaaDoor

/- A law's two disks, the program's and the document's: what a walk keeps of them, one fact. No condition but those of the disks' own functions. -/
namespace Go.Proofs.YtfoeapjlklfjgaaDoor
set_option linter.unusedSimpArgs false
set_option linter.unusedVariables false
open Go.RowKit

/-- The program's disk at g, the document's at h; blocks that lie beside both. -/
structure TE (w0 w : World) (g h : Nat) (s t : DSt) (bl : List Bk) : Prop where
  ex : ∃ T R, DiskAt w T g s ∧ RefAt w R h t ∧ (∀ k ∈ T, k ∉ R) ∧ (∀ k ∈ T, w0.heap.size ≤ k) ∧ (∀ k ∈ R, w0.heap.size ≤ k) ∧ Below w0.heap.size w0 w ∧ ∀ b ∈ bl, Blk w b.1 b.2.1 b.2.2 ∧ b.1 ∉ T ∧ b.1 ∉ R

section
variable {w0 w w' : World} {T T' R R' : List Nat} {g h : Nat} {s s' t t' : DSt} {bl : List Bk}
theorem TE.bel (E : TE w0 w g h s t bl) : Below w0.heap.size w0 w := by
  obtain ⟨_, _, _, _, _, _, _, h, _⟩ := E.ex
  exact h
theorem TE.size (E : TE w0 w g h s t bl) : w0.heap.size ≤ w.heap.size := E.bel.size
theorem TE.de (E : TE w0 w g h s t bl) : DE w0 w g s [] [] := by
  obtain ⟨T, R, D, Q, hd, hT, hR, hb, _⟩ := E.ex
  exact ⟨T, D, hT, hb, (fun _ h => by cases h), (fun _ h => by cases h)⟩
theorem TE.wf (E : TE w0 w g h s t bl) : s.Wf := E.de.wf
theorem TE.below (E : TE w0 w g h s t bl) (hb : Below w.heap.size w w') : TE w0 w' g h s t bl := by
  obtain ⟨T, R, D, Q, hd, hT, hR, hb0, hB⟩ := E.ex
  exact ⟨T, R, D.below hb, Q.below hb, hd, hT, hR, below_step hb0 hb hb0.size, fun b h => ⟨(hB b h).1.below hb (hB b h).1.lt, (hB b h).2⟩⟩
theorem TE.drewN (E : TE w0 w g h s t bl) (n : Nat) : TE w0 (w.drewN n) g h s t bl := E.below (((Moved.refl w []).drewN n).below0)
theorem TE.drew (E : TE w0 w g h s t bl) : TE w0 w.drew g h s t bl := E.below ((Below.refl _ _).drew)
theorem TE.alloc (E : TE w0 w g h s t bl) (o : Obj) : TE w0 (w.alloc o) g h s t bl := E.below ((Below.refl _ _).alloc (Nat.le_refl _) o)
theorem TE.forget (E : TE w0 w g h s t bl) : TE w0 w g h s t [] := by
  obtain ⟨T, R, D, Q, hd, hT, hR, hb0, hB⟩ := E.ex
  exact ⟨T, R, D, Q, hd, hT, hR, hb0, (fun _ h => by cases h)⟩
theorem TE.add (E : TE w0 w g h s t bl) (ty : TypeId) (cs : Array Value) : TE w0 (w.alloc (.cells cs ty)) g h s t ((w.heap.size, ty, cs) :: bl) := by
  obtain ⟨T, R, D, Q, hd, hT, hR, hb0, hB⟩ := E.ex
  have hb : Below w.heap.size w (w.alloc (.cells cs ty)) := (Below.refl _ _).alloc (Nat.le_refl _) _
  refine ⟨T, R, D.below hb, Q.below hb, hd, hT, hR, below_step hb0 hb hb0.size, fun b h => ?_⟩
  rcases List.mem_cons.1 h with rfl | h
  · exact ⟨Blk.new .., fun hk => by have := D.lt _ hk; dsimp only at this; omega, fun hk => by have := Q.lt _ hk; dsimp only at this; omega⟩
  · exact ⟨(hB b h).1.below hb (hB b h).1.lt, (hB b h).2⟩
theorem TE.cell (E : TE w0 w g h s t bl) (i j : Nat) {b : Bk} {u : Value} (hb : bl[i]? = some b) (hu : b.2.2[j]? = some u) : w.cell? ⟨b.1, j, none⟩ = some u := by
  obtain ⟨T, R, D, Q, hd, hT, hR, hb0, hB⟩ := E.ex
  exact ((hB b (List.mem_of_getElem? hb)).1.cell j).trans hu
theorem TE.goD (D : DiskAt w T g s) (Q : RefAt w R h t) (hd : ∀ k ∈ T, k ∉ R) (hT : ∀ k ∈ T, w0.heap.size ≤ k) (hR : ∀ k ∈ R, w0.heap.size ≤ k) (hb : Below w0.heap.size w0 w) (hB : ∀ b ∈ bl, Blk w b.1 b.2.1 b.2.2 ∧ b.1 ∉ T ∧ b.1 ∉ R)
    (D' : DiskAt w' T' g s') (hm : Moved w w' T T') : TE w0 w' g h s' t bl :=
  ⟨T', R, D', Q.other D.no hm (fun k hk hT => hd k hT hk), fun k hk hk2 => (hm.new k hk).elim (fun h => hd k h hk2) (fun h => by have := Q.lt k hk2; omega),
    fun k hk => (hm.new k hk).elim (hT k) (fun h => by have := hb.size; omega), hR, hm.below hb hb.size hT, fun b h => ⟨(hB b h).1.moved hm (hB b h).2.1, hm.apart (hB b h).1.lt (hB b h).2.1, (hB b h).2.2⟩⟩
theorem TE.goR (D : DiskAt w T g s) (Q : RefAt w R h t) (hd : ∀ k ∈ T, k ∉ R) (hT : ∀ k ∈ T, w0.heap.size ≤ k) (hR : ∀ k ∈ R, w0.heap.size ≤ k) (hb : Below w0.heap.size w0 w) (hB : ∀ b ∈ bl, Blk w b.1 b.2.1 b.2.2 ∧ b.1 ∉ T ∧ b.1 ∉ R)
    (Q' : RefAt w' R' h t') (hm : Moved w w' R R') : TE w0 w' g h s t' bl :=
  ⟨T, R', D.other Q.no hm hd, Q', fun k hk hk2 => (hm.new k hk2).elim (hd k hk) (fun h => by have := D.lt k hk; omega),
    hT, fun k hk => (hm.new k hk).elim (hR k) (fun h => by have := hb.size; omega), hm.below hb hb.size hR, fun b h => ⟨(hB b h).1.moved hm (hB b h).2.2, (hB b h).2.1, hm.apart (hB b h).1.lt (hB b h).2.2⟩⟩

theorem make_te (E : DE w0 w g s [] []) (n : Nat) (hn1 : 1 ≤ n) (hn2 : n ≤ 512) :
    Calls Tryd.prog 41 #[.int .i64 (n : Int)] w fun e w' => ∃ h, e = .returned (.pointer (some ⟨h, 0, none⟩)) ∧ TE w0 w' g h s (DSt.new n) [] := by
  obtain ⟨T, D, hT, hb0, _, _⟩ := E.ex
  exact (rmake_any n hn1 hn2 w).mono fun _ _ ⟨h, R, he, Q, hR, hb⟩ => ⟨h, he, T, R, D.below hb, Q, fun k hk hk2 => by have := D.lt k hk; have := hR k hk2; omega, hT, fun k hk => by have := hR k hk; have := hb0.size; omega, below_step hb0 hb hb0.size, (fun _ h => by cases h)⟩
theorem dwrite_te (E : TE w0 w g h s t bl) (i : Int) {base : Nat} {bA : Option Addr} {bn bc : Nat} {l : List Nat} (hB : OwnI w base .u8 256 5 bA bn bc l) (hbn : (bn : Int) ≤ 9223372036854775807) (hb : s.begun < 1152921504606846976) (hp : s.pend.length < 1099511627776) :
    Calls Tryd.prog 34 #[.pointer (some ⟨g, 0, none⟩), .int .i64 i, .slice bA bn bc] w fun e w' => e = .returned (.int .i64 (s.write i l).2) ∧ TE w0 w' g h (s.write i l).1 t bl ∧ OwnI w' base .u8 256 5 bA bn bc l := by
  obtain ⟨T, R, D, Q, hd, hT, hR, hb0, hB0⟩ := E.ex
  exact (dwrite_any D i hB.ints (D.no.off hB) hbn hb hp).mono fun _ _ ⟨he, T', D', hm⟩ => ⟨he, TE.goD D Q hd hT hR hb0 hB0 D' hm, hB.moved hm (D.no.off hB)⟩
theorem rwrite_te (E : TE w0 w g h s t bl) (i : Int) {base : Nat} {bA : Option Addr} {bn bc : Nat} {l : List Nat} (hB : OwnI w base .u8 256 5 bA bn bc l) (hbn : (bn : Int) ≤ 9223372036854775807) (hb : t.begun < 1152921504606846976) (hp : t.pend.length < 1099511627776) :
    Calls Tryd.prog 44 #[.pointer (some ⟨h, 0, none⟩), .int .i64 i, .slice bA bn bc] w fun e w' => e = .returned (.int .i64 (t.write i l).2) ∧ TE w0 w' g h s (t.write i l).1 bl := by
  obtain ⟨T, R, D, Q, hd, hT, hR, hb0, hB0⟩ := E.ex
  exact (rwrite_disk Q i hB.ints (Q.no.off hB) hbn hb hp).mono fun _ _ ⟨he, T', D', hm⟩ => ⟨he, TE.goR D Q hd hT hR hb0 hB0 D' hm⟩
theorem dflush_te (E : TE w0 w g h s t bl) (hb : s.begun < 1152921504606846976) :
    Calls Tryd.prog 37 #[.pointer (some ⟨g, 0, none⟩)] w fun e w' => e = .returned (.int .i64 s.flush.2) ∧ TE w0 w' g h s.flush.1 t bl := by
  obtain ⟨T, R, D, Q, hd, hT, hR, hb0, hB0⟩ := E.ex
  exact (dflush_any D hb).mono fun _ _ ⟨he, T', D', hm⟩ => ⟨he, TE.goD D Q hd hT hR hb0 hB0 D' hm⟩
theorem rflush_te (E : TE w0 w g h s t bl) (hb : t.begun < 1152921504606846976) (hp : t.pend.length < 1099511627776) :
    Calls Tryd.prog 66 #[.pointer (some ⟨h, 0, none⟩)] w fun e w' => e = .returned (.int .i64 t.flush.2) ∧ TE w0 w' g h s t.flush.1 bl := by
  obtain ⟨T, R, D, Q, hd, hT, hR, hb0, hB0⟩ := E.ex
  exact (rflush_any Q hb hp).mono fun _ _ ⟨he, T', D', hm⟩ => ⟨he, TE.goR D Q hd hT hR hb0 hB0 D' hm⟩
theorem dplan_te (E : TE w0 w g h s t bl) (k : Int) (hk : k < 9223372036854775808) :
    Calls Tryd.prog 38 #[.pointer (some ⟨g, 0, none⟩), .int .i64 k] w fun e w' => (∃ v, e = .returned v) ∧ TE w0 w' g h (s.plan k) t bl := by
  obtain ⟨T, R, D, Q, hd, hT, hR, hb0, hB0⟩ := E.ex
  exact (plan_any D k hk).mono fun _ _ ⟨he, D', hm⟩ => ⟨he, TE.goD D Q hd hT hR hb0 hB0 D' hm⟩
theorem rplan_te (E : TE w0 w g h s t bl) (k : Int) (hk : k < 9223372036854775808) (hk0 : -9223372036854775808 ≤ k) :
    Calls Tryd.prog 45 #[.pointer (some ⟨h, 0, none⟩), .int .i64 k] w fun e w' => (∃ v, e = .returned v) ∧ TE w0 w' g h s (t.plan k) bl := by
  obtain ⟨T, R, D, Q, hd, hT, hR, hb0, hB0⟩ := E.ex
  exact (rplan_any Q k hk hk0).mono fun _ _ ⟨he, D', hm⟩ => ⟨he, TE.goR D Q hd hT hR hb0 hB0 D' hm⟩
theorem dup_te (E : TE w0 w g h s t bl) {bA : Option Addr} {bn bc : Nat} {l : List Nat} (hB : Ints w0 .u8 256 bA bn bc l) (hbn : bn ≤ 1099511627776) :
    Calls Tryd.prog 35 #[.pointer (some ⟨g, 0, none⟩), .slice bA bn bc] w fun e w' => (∃ v, e = .returned v) ∧ TE w0 w' g h (s.up l) t bl := by
  obtain ⟨T, R, D, Q, hd, hT, hR, hb0, hB0⟩ := E.ex
  exact (dup_any D (hB.below hb0) hbn).mono fun _ _ ⟨he, T', D', hm⟩ => ⟨he, TE.goD D Q hd hT hR hb0 hB0 D' hm⟩
theorem rup_te (E : TE w0 w g h s t bl) {bA : Option Addr} {bn bc : Nat} {l : List Nat} (hB : Ints w0 .u8 256 bA bn bc l) (hbn : bn ≤ 1099511627776) (hp : t.pend.length < 1099511627776) :
    Calls Tryd.prog 46 #[.pointer (some ⟨h, 0, none⟩), .slice bA bn bc] w fun e w' => (∃ v, e = .returned v) ∧ TE w0 w' g h s (t.up l) bl := by
  obtain ⟨T, R, D, Q, hd, hT, hR, hb0, hB0⟩ := E.ex
  refine (rup_any Q (hB.below hb0) (fun hn ad e hk => ?_) hbn hp).mono fun _ _ ⟨he, T', D', hm⟩ => ⟨he, TE.goR D Q hd hT hR hb0 hB0 D' hm⟩
  obtain ⟨b, o, e2, hb, _⟩ := hB.rd.at_ hn
  rw [e2] at e
  cases e
  have := hR _ hk
  dsimp only at this
  omega
theorem dimage_te (E : TE w0 w g h s t bl) :
    Calls Tryd.prog 39 #[.pointer (some ⟨g, 0, none⟩)] w fun e w' => ∃ A n c, e = .returned (.slice A n c) ∧ Img w' w.heap.size A n c s.sure ∧ TE w0 w' g h s t bl := by
  obtain ⟨T, R, D, Q, hd, hT, hR, hb0, hB0⟩ := E.ex
  exact (dimage_any D).mono fun _ _ ⟨A, n, c, he, hI, hb⟩ => ⟨A, n, c, he, hI, E.below hb⟩
theorem rimage_te (E : TE w0 w g h s t bl) {base : Nat} {A : Option Addr} {n c : Nat} {ls : List (List Nat)} (hI : Img w base A n c ls) :
    Calls Tryd.prog 48 #[.pointer (some ⟨h, 0, none⟩)] w fun e w' => ∃ A' n' c', e = .returned (.slice A' n' c') ∧ Img w' w.heap.size A' n' c' t.sure ∧ Img w' base A n c ls ∧ TE w0 w' g h s t bl := by
  obtain ⟨T, R, D, Q, hd, hT, hR, hb0, hB0⟩ := E.ex
  exact (rimage_any Q).mono fun _ _ ⟨A', n', c', he, hI', hb⟩ => ⟨A', n', c', he, hI', hI.below hb, E.below hb⟩
set_option maxRecDepth 100000 in
set_option maxHeartbeats 6400000 in
theorem save_te (E : TE w0 w g h s t bl) (gen : Nat) (hg : gen < 4294967296) (hb : s.begun < 576460752303423488) (hp : s.pend.length < 1099511627776) :
    Calls Tryd.prog 33 #[.pointer (some ⟨g, 0, none⟩), .int .u32 (gen : Int)] w fun e w' => e = .returned (.int .i64 (s.save gen).2) ∧ TE w0 w' g h (s.save gen).1 t bl := by
  by_cases h2 : s.sure.length < 2
  · have h2i : ((s.sure.length : Nat) : Int) < 2 := by omega
    have h2d : decide (((s.sure.length : Nat) : Int) < 2) = true := decide_eq_true h2i
    have HS := Lib.hid (save_arg (s := s) (gen := gen) (.inl h2))
    go_enter Tryd.func33, Tryd.ntmps33
    go_wp2_with fail
    refine (dsectors_de E.de).mono ?_; rintro e w1 ⟨rfl, rfl⟩
    go_wp2_with fail
    go_ret
    exact ⟨by rw [HS.out]; rfl, by rw [HS.out]; exact E⟩
  have h2i : ¬ ((s.sure.length : Nat) : Int) < 2 := by omega
  have h2d : decide (((s.sure.length : Nat) : Int) < 2) = false := decide_eq_false h2i
  by_cases h0 : gen = 0
  · have h0i : ((gen : Int) == 0) = true := by simp [h0]
    have HS := Lib.hid (save_arg (s := s) (gen := gen) (.inr h0))
    clear h0
    go_enter Tryd.func33, Tryd.ntmps33
    go_wp2_with fail
    refine (dsectors_de E.de).mono ?_; rintro e w1 ⟨rfl, rfl⟩
    go_wp2_with fail
    go_ret
    exact ⟨by rw [HS.out]; rfl, by rw [HS.out]; exact E⟩
  have h0i : ((gen : Int) == 0) = false := by simp; omega
  obtain ⟨r, hr⟩ : ∃ r, gen % 2 = r := ⟨_, rfl⟩
  have hri : (gen : Int) % 2 = (r : Int) := by omega
  have HS := Lib.hid (save_more (s := s) (gen := gen) (fun h => h.elim h2 h0) hr)
  clear hr h2 h0
  go_enter Tryd.func33, Tryd.ntmps33
  go_wp2_with fail
  refine (dsectors_de E.de).mono ?_; rintro e w1 ⟨rfl, rfl⟩
  go_wp2_with fail
  refine (root_any gen hg _).mono ?_; rintro e w2 ⟨A2, rfl, hi2, hb2⟩
  have E2 := E.below hb2
  clear E hb2
  go_wp2_with fail
  have hen := encL_yes (rootC_may gen)
  have HEN := Lib.hid hen
  clear hen
  refine (encode_any gen 0 hg (by decide) 0 1 (by decide) A2 4 4 [114, 111, 111, 116] _ hi2).mono ?_; rintro e w3 ⟨A3, m3, c3, rfl, ho3, hb3⟩
  have hen1 : Cl.encL ⟨gen, 0, 0, 1, [114, 111, 111, 116]⟩ = rootS gen := HEN.out.1
  have hen2 : Cl.encCode ⟨gen, 0, 0, 1, [114, 111, 111, 116]⟩ = 0 := HEN.out.2
  rw [hen1] at ho3
  rw [hen2]
  have hm3 := ho3.len
  rw [rootS_len] at hm3
  subst hm3
  have E3 := E2.below hb3
  clear E2 hb3 hi2 hen1 hen2
  go_wp2_with fail
  refine (dwrite_te E3 (r : Int) ho3 (by decide) (by omega) hp).mono ?_; rintro e w4 ⟨rfl, E4, _⟩
  have hbw := write_begun s (r : Int) (rootS gen)
  obtain ⟨cd, hcd⟩ : ∃ z, (s.write (r : Int) (rootS gen)).2 = z := ⟨_, rfl⟩
  rw [hcd]
  have HCD := Lib.hid hcd
  clear hcd ho3 E3
  by_cases hc : cd = 0
  · have HF := Lib.hid (show s.save gen = (s.write (r : Int) (rootS gen)).1.flush by rw [HS.out, if_pos (by rw [HCD.out]; exact hc)])
    subst hc
    generalize (s.write (r : Int) (rootS gen)).1 = s4 at *
    go_wp2_with fail
    refine (dflush_te E4 (by omega)).mono ?_; rintro e w5 ⟨rfl, E5⟩
    clear E4
    rw [← HF.out] at E5 ⊢
    go_wp2_with fail
    go_ret
    exact ⟨rfl, E5⟩
  · have HF := Lib.hid (show s.save gen = s.write (r : Int) (rootS gen) by rw [HS.out, if_neg (by rw [HCD.out]; exact hc)])
    have hcn : (cd != 0) = true := by simpa using hc
    clear hc hbw
    go_wp2_with fail
    go_ret
    exact ⟨by rw [HF.out, HCD.out]; rfl, by rw [HF.out]; exact E4⟩
theorem rsave_te (E : TE w0 w g h s t bl) (gen : Nat) (hg : gen < 4294967296) (hb : t.begun < 576460752303423488) (hp : t.pend.length < 549755813888) :
    Calls Tryd.prog 42 #[.pointer (some ⟨h, 0, none⟩), .int .u32 (gen : Int)] w fun e w' => e = .returned (.int .i64 (t.save gen).2) ∧ TE w0 w' g h s (t.save gen).1 bl := by
  obtain ⟨T, R, D, Q, hd, hT, hR, hb0, hB0⟩ := E.ex
  exact (rsave_any Q gen hg hb hp).mono fun _ _ ⟨he, T', D', hm⟩ => ⟨he, TE.goR D Q hd hT hR hb0 hB0 D' hm⟩
theorem rload_te (E : TE w0 w g h s t bl) (hp : t.pend.length < 1099511627776) :
    Calls Tryd.prog 47 #[.pointer (some ⟨h, 0, none⟩)] w fun e w' => e = .returned (.tuple #[.int .u32 (t.load.1 : Nat), .int .i64 t.load.2]) ∧ TE w0 w' g h s t bl := by
  obtain ⟨T, R, D, Q, hd, hT, hR, hb0, hB0⟩ := E.ex
  exact (rload_any Q hp).mono fun _ _ ⟨he, hb⟩ => ⟨he, E.below hb⟩
theorem load_te (E : TE w0 w g h s t bl) :
    Calls Tryd.prog 36 #[.pointer (some ⟨g, 0, none⟩)] w fun e w' => e = .returned (.tuple #[.int .u32 (s.load.1 : Nat), .int .i64 s.load.2]) ∧ TE w0 w' g h s t bl :=
  (load_any E.de).mono fun _ _ ⟨he, hb⟩ => ⟨he, E.below hb⟩
end
end Go.Proofs.YtfoeapjlklfjgaaDoor
