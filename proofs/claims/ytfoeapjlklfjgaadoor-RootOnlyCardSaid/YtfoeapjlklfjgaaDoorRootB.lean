/- The contracts of root.Load and root.Save, over a law's disk. No condition but those of the disk's own functions. -/
import Derived.Test.YtfoeapjlklfjgaaDoorRootA
namespace Go.Proofs.YtfoeapjlklfjgaaDoor
set_option linter.unusedSimpArgs false
set_option linter.unusedVariables false
open Go.RowKit

section
variable {w0 w w' : World} {g : Nat} {s : DSt} {rs : List BEl} {ims : List ImgT}
theorem dread_db (E : DE w0 w g s rs ims) (i : Int) :
    Calls Tryd.prog 64 #[.pointer (some ⟨g, 0, none⟩), .int .i64 i] w fun e w' => ∃ A n c, e = .returned (.tuple #[.slice A n c, .int .i64 (s.read i).2]) ∧ Ints w' .u8 256 A n c (s.read i).1 ∧ Below w.heap.size w w' := by
  obtain ⟨T, D, hT, hb0, hr, hi⟩ := E.ex
  exact (dread_any D i).mono fun _ _ ⟨A, n, c, he, hx, hb⟩ => ⟨A, n, c, he, hx.ints, hb⟩
theorem read_len (h : s.Wf) (i : Int) : (s.read i).1.length ≤ 64 := by
  have hc : ∀ k, (s.cur k).length ≤ 64 := fun k => by
    unfold DSt.cur
    have h1 : ∀ (p : List (Nat × List Nat)) (d : List Nat), (∀ x ∈ p, x.2.length = 64) → d.length ≤ 64 → (DSt.lastOf p k d).length ≤ 64 := by
      intro p
      induction p with
      | nil => intro d _ hd; exact hd
      | cons x xs ih =>
        intro d hx hd
        rw [DSt.lastOf_cons]
        refine ih _ (fun y hy => hx y (List.mem_cons_of_mem _ hy)) ?_
        split
        · rw [hx x (List.mem_cons_self ..)]; exact Nat.le_refl _
        · exact hd
    refine h1 _ _ (fun x hx => (h.pend x hx).2) ?_
    rw [List.getD_eq_getElem?_getD]
    cases hk : s.sure[k]? with
    | none => exact Nat.zero_le _
    | some l => rcases h.sure l (List.mem_of_getElem? hk) with e | e <;> simp [e]
  unfold DSt.read
  split
  · exact Nat.zero_le _
  · split
    · split
      · exact Nat.zero_le _
      · exact hc _
    · exact Nat.zero_le _
theorem read_bad {i : Int} (h : (s.read i).2 ≠ 0) : (s.read i).1 = [] := by
  unfold DSt.read at h ⊢
  split
  · rfl
  · rename_i h1
    rw [if_neg h1] at h
    split
    · rename_i h2
      rw [if_pos h2] at h
      split
      · rfl
      · rename_i h3
        rw [if_neg h3] at h
        exact absurd rfl h
    · rfl
theorem isRootL_isC {l : List Nat} {gs sq : Nat} {pt ps : Int} {d : List Nat} (hd : Cl.dec l = ⟨gs, sq, pt, ps, d⟩) (i : Nat) : isRootL l i = (decide (Cl.code l = 0) && isC gs sq pt ps d (i : Int)) := by
  cases he : Cl.isEnc l with
  | false =>
    have hc : Cl.code l = 2 := by unfold Cl.code; rw [he]; rfl
    unfold isRootL
    rw [he, hc, Bool.false_and]
    rfl
  | true =>
    have hc : Cl.code l = 0 := by unfold Cl.code; rw [he]; rfl
    have hr : Cl.raw l = ⟨gs, sq, pt, ps, d⟩ := by rw [← hd]; unfold Cl.dec; rw [he]; rfl
    have hroot : (Cl.mk gs sq pt ps d = rootC gs) ↔ (sq = 0 ∧ pt = 0 ∧ ps = 1 ∧ d = [114, 111, 111, 116]) := by unfold rootC; simp
    unfold isRootL isC
    rw [he, hr, hc, Bool.true_and]
    apply Bool.eq_iff_iff.2
    simp only [Bool.and_eq_true, decide_eq_true_eq]
    rw [hroot]
    constructor
    · rintro ⟨⟨h1, h2⟩, h3⟩
      exact ⟨trivial, h1, by omega, h3⟩
    · rintro ⟨_, h1, h2, h3⟩
      exact ⟨⟨h1, by omega⟩, h3⟩
theorem genOf_yes {l : List Nat} {gs sq : Nat} {pt ps : Int} {d : List Nat} (hd : Cl.dec l = ⟨gs, sq, pt, ps, d⟩) {i : Nat} (hc : Cl.code l = 0) (h : isC gs sq pt ps d (i : Int) = true) : genOf l i = gs := by
  have h1 := isRootL_isC hd i
  rw [hc, h] at h1
  unfold genOf
  rw [if_pos (by rw [h1]; rfl)]
  have he : Cl.isEnc l = true := by
    cases he : Cl.isEnc l with
    | true => rfl
    | false => unfold Cl.code at hc; rw [he] at hc; cases hc
  have hr : Cl.raw l = ⟨gs, sq, pt, ps, d⟩ := by rw [← hd]; unfold Cl.dec; rw [he]; rfl
  rw [hr]
theorem genOf_no {l : List Nat} {gs sq : Nat} {pt ps : Int} {d : List Nat} (hd : Cl.dec l = ⟨gs, sq, pt, ps, d⟩) {i : Nat} (h : Cl.code l ≠ 0 ∨ isC gs sq pt ps d (i : Int) = false) : genOf l i = 0 := by
  have h1 := isRootL_isC hd i
  unfold genOf
  rw [if_neg]
  intro h2
  rw [h1, Bool.and_eq_true, decide_eq_true_eq] at h2
  rcases h with h | h
  · exact h h2.1
  · rw [h] at h2; cases h2.2
/-- What Load has found, so far. -/
def fnd (s : DSt) (k j : Nat) : Nat := if j < k then s.found j else 0
theorem fnd_skip {s : DSt} {k : Nat} (h : s.found k = 0) (j : Nat) : fnd s (k + 1) j = fnd s k j := by
  unfold fnd
  by_cases hj : j < k
  · rw [if_pos hj, if_pos (by omega)]
  · rw [if_neg hj]
    by_cases hk : j = k
    · subst hk; rw [if_pos (by omega)]; exact h
    · rw [if_neg (by omega)]
theorem Cl.dec_in_ {l : List Nat} (hl : ∀ x ∈ l, x < 256) : (Cl.dec l).gen < 4294967296 ∧ (Cl.dec l).seq < 4294967296 := ⟨(Cl.dec_ok hl).gen, (Cl.dec_ok hl).seq⟩

set_option maxRecDepth 100000 in
set_option maxHeartbeats 6400000 in
theorem load_any (E : DE w0 w g s rs ims) :
    Calls Tryd.prog 36 #[.pointer (some ⟨g, 0, none⟩)] w fun e w' => e = .returned (.tuple #[.int .u32 (s.load.1 : Nat), .int .i64 s.load.2]) ∧ Below w.heap.size w w' := by
  cases hd : s.down with
  | true =>
    have hl : s.load = (0, 4) := by unfold DSt.load; rw [hd]; rfl
    have HL := Lib.hid hl
    clear hl
    go_enter Tryd.func36, Tryd.ntmps36
    go_wp2_with fail
    refine (ddown_de E).mono ?_; rintro e w1 ⟨rfl, rfl⟩
    rw [hd]
    go_wp2_with fail
    go_ret2
    exact ⟨by rw [HL.out]; rfl, Below.refl _ _⟩
  | false =>
  by_cases h2 : s.sure.length < 2
  · have h2i : ((s.sure.length : Nat) : Int) < 2 := by omega
    have hl : s.load = (0, 1) := by unfold DSt.load; rw [hd, if_neg (by decide), if_pos h2]
    have HL := Lib.hid hl
    clear hl
    go_enter Tryd.func36, Tryd.ntmps36
    go_wp2_with fail
    refine (ddown_de E).mono ?_; rintro e w1 ⟨rfl, rfl⟩
    rw [hd]
    go_wp2_with fail
    refine (dsectors_de E).mono ?_; rintro e w2 ⟨rfl, rfl⟩
    go_wp2_with fail
    go_ret2
    exact ⟨by rw [HL.out]; rfl, Below.refl _ _⟩
  have h2i : ¬ ((s.sure.length : Nat) : Int) < 2 := by omega
  have hl : s.load = (max (s.found 0) (s.found 1), 0) := by unfold DSt.load; rw [hd, if_neg (by decide), if_neg h2]
  have HL := Lib.hid hl
  have HW := Lib.hid E.wf
  clear hl h2
  go_enter Tryd.func36, Tryd.ntmps36
  go_wp2_with fail
  refine (ddown_de E).mono ?_; rintro e w1 ⟨rfl, rfl⟩
  rw [hd]
  go_wp2_with fail
  refine (dsectors_de E).mono ?_; rintro e w2 ⟨rfl, rfl⟩
  go_wp2_with fail
  go_loopw [17] (fun v wr => ∃ k : Nat, k ≤ 2 ∧ v = .int .i64 (k : Int) ∧ Blk wr w.heap.size 37 #[.int .u32 (fnd s k 0 : Nat), .int .u32 (fnd s k 1 : Nat)] ∧ Below w.heap.size w wr) (fun v _ => 2 - (intOf v).toNat)
  case atStart => exact ⟨0, by omega, rfl, Blk.new w _ _, (Below.refl _ w).alloc (Nat.le_refl _) _⟩
  case round =>
    obtain ⟨k, hk, rfl, hF, hb⟩ := hrel
    by_cases hk0 : k = 0
    · subst hk0
      have E2 := E.below hb
      go_wp2_with fail
      refine (dread_db E2 0).mono ?_; rintro e w3 ⟨A3, n3, c3, rfl, hi3, hb3⟩
      have hb03 := below_step hb hb3 hb.size
      have hF3 := hF.below hb3 hF.lt
      have hrl := read_len HW.out 0
      have hn3 := hi3.len
      obtain ⟨l, hl⟩ : ∃ z, (s.read 0).1 = z := ⟨_, rfl⟩
      obtain ⟨cd, hcd⟩ : ∃ z, (s.read 0).2 = z := ⟨_, rfl⟩
      rw [hl] at hi3 hrl hn3
      rw [hcd]
      have hn64 : n3 ≤ 64 := by omega
      have hfd : s.found 0 = genOf l 0 := by unfold DSt.found; rw [show ((0 : Nat) : Int) = 0 from rfl, hl]
      have HFD := Lib.hid hfd
      have HCD := Lib.hid (And.intro hl hcd)
      clear hfd hl hcd hrl hn3 hb3 hF E2
      by_cases hc : cd = 0
      case neg =>
        have hz : s.found 0 = 0 := by rw [HFD.out, ← HCD.out.1, read_bad (by rw [HCD.out.2]; exact hc)]; exact genOf_nil _
        have HZ := Lib.hid hz
        have hcn : (cd != 0) = true := by simpa using hc
        clear hz hc hi3
        go_wp2_with fail
        exact ⟨⟨1, by omega, by go_num, (by rw [fnd_skip HZ.out 0, fnd_skip HZ.out 1]; exact hF3), hb03⟩, by simp [intOf]⟩
      subst hc
      have hdin := Cl.dec_in_ (l := l) hi3.lt
      obtain ⟨dcl, hdec⟩ : ∃ z, Cl.dec l = z := ⟨_, rfl⟩
      rw [hdec] at hdin
      obtain ⟨dg, dsq, dp, dq, dd⟩ := dcl
      obtain ⟨dcd, hdcd⟩ : ∃ z, Cl.code l = z := ⟨_, rfl⟩
      obtain ⟨dm, hdm⟩ : ∃ z, dd.length = z := ⟨_, rfl⟩
      dsimp only at hdin
      have HD := Lib.hid (And.intro hdec (And.intro hdcd hdm))
      clear hdec hdcd hdm
      go_wp2_with fail
      refine (dec_c hi3 (by omega) HD.out.1 HD.out.2.1 HD.out.2.2).mono ?_; rintro e w4 ⟨A4, c4, rfl, hi4, hb4⟩
      have hb04 := (below_step hb03 hb4 hb03.size)
      have hb05 := hb04.alloc hb04.size (.cells #[.int .u32 (dg : Int), .int .u32 (dsq : Int), .int .i64 dp, .int .i64 dq, .slice A4 dm c4] 25)
      have hB5 := Blk.new w4 25 #[.int .u32 (dg : Int), .int .u32 (dsq : Int), .int .i64 dp, .int .i64 dq, .slice A4 dm c4]
      have hF5 := (hF3.below hb4 hF3.lt).alloc (.cells #[.int .u32 (dg : Int), .int .u32 (dsq : Int), .int .i64 dp, .int .i64 dq, .slice A4 dm c4] 25)
      have hi5 := hi4.alloc (.cells #[.int .u32 (dg : Int), .int .u32 (dsq : Int), .int .i64 dp, .int .i64 dq, .slice A4 dm c4] 25)
      clear hb4 hF3 hi4 hi3 hb04 hb03
      by_cases hc : dcd = 0
      case neg =>
        have HZ := Lib.hid (show s.found 0 = 0 from by rw [HFD.out]; exact genOf_no HD.out.1 (.inl (by rw [HD.out.2.1]; exact hc)))
        have hcn : (dcd == 0) = false := by simpa using hc
        clear hc
        go_wp2_with fail
        exact ⟨⟨1, by omega, by go_num, (by rw [fnd_skip HZ.out 0, fnd_skip HZ.out 1]; exact hF5), hb05⟩, by simp [intOf]⟩
      subst hc
      have k0 := hB5.cell 0
      have k1 := hB5.cell 1
      have k2 := hB5.cell 2
      have k3 := hB5.cell 3
      have k4 := hB5.cell 4
      simp only [List.getElem?_toArray, List.getElem?_cons_zero, List.getElem?_cons_succ] at k0 k1 k2 k3 k4
      go_wp2_with fail
      refine (is_any_ dg dsq dp dq A4 dm c4 dd 0 _ hdin.1 hi5).mono ?_; rintro e w6 ⟨rfl, hb6⟩
      have hb06 := below_step hb05 hb6 hb05.size
      have hF6 := hF5.below hb6 hF5.lt
      have hB6 := hB5.below hb6 hB5.lt
      clear hb05 hb6 hF5 hB5 hi5 k0 k1 k2 k3 k4
      cases his : isC dg dsq dp dq dd 0 with
      | false =>
        have HZ := Lib.hid (show s.found 0 = 0 from by rw [HFD.out]; exact genOf_no HD.out.1 (.inr his))
        go_wp2_with fail
        exact ⟨⟨1, by omega, by go_num, (by rw [fnd_skip HZ.out 0, fnd_skip HZ.out 1]; exact hF6), hb06⟩, by simp [intOf]⟩
      | true =>
        have HZ := Lib.hid (show s.found 0 = dg from by rw [HFD.out]; exact genOf_yes HD.out.1 HD.out.2.1 his)
        have k0 := hB6.cell 0
        simp only [List.getElem?_toArray, List.getElem?_cons_zero] at k0
        have f0 := hF6.cell 0
        simp only [List.getElem?_toArray, List.getElem?_cons_zero, List.getElem?_cons_succ] at f0
        have fr := hF6.frozen 0
        have hF7 := hF6.set_ 0 (.int .u32 (dg : Int))
        have hb07 := hb06.setCell (p := ⟨w.heap.size, 0, none⟩) (Nat.le_refl _) (.int .u32 (dg : Int))
        go_wp2_with fail
        refine ⟨⟨1, by omega, by go_num, ?_, hb07⟩, by simp [intOf]⟩
        have e0 : fnd s 1 0 = dg := by unfold fnd; rw [if_pos (by decide)]; exact HZ.out
        have e1 : fnd s 1 1 = fnd s 0 1 := by unfold fnd; rfl
        rw [e0, e1]
        exact hF7
    by_cases hk1 : k = 1
    · subst hk1
      have E2 := E.below hb
      go_wp2_with fail
      refine (dread_db E2 1).mono ?_; rintro e w3 ⟨A3, n3, c3, rfl, hi3, hb3⟩
      have hb03 := below_step hb hb3 hb.size
      have hF3 := hF.below hb3 hF.lt
      have hrl := read_len HW.out 1
      have hn3 := hi3.len
      obtain ⟨l, hl⟩ : ∃ z, (s.read 1).1 = z := ⟨_, rfl⟩
      obtain ⟨cd, hcd⟩ : ∃ z, (s.read 1).2 = z := ⟨_, rfl⟩
      rw [hl] at hi3 hrl hn3
      rw [hcd]
      have hn64 : n3 ≤ 64 := by omega
      have hfd : s.found 1 = genOf l 1 := by unfold DSt.found; rw [show ((1 : Nat) : Int) = 1 from rfl, hl]
      have HFD := Lib.hid hfd
      have HCD := Lib.hid (And.intro hl hcd)
      clear hfd hl hcd hrl hn3 hb3 hF E2
      by_cases hc : cd = 0
      case neg =>
        have hz : s.found 1 = 0 := by rw [HFD.out, ← HCD.out.1, read_bad (by rw [HCD.out.2]; exact hc)]; exact genOf_nil _
        have HZ := Lib.hid hz
        have hcn : (cd != 0) = true := by simpa using hc
        clear hz hc hi3
        go_wp2_with fail
        exact ⟨⟨2, by omega, by go_num, (by rw [fnd_skip HZ.out 0, fnd_skip HZ.out 1]; exact hF3), hb03⟩, by simp [intOf]⟩
      subst hc
      have hdin := Cl.dec_in_ (l := l) hi3.lt
      obtain ⟨dcl, hdec⟩ : ∃ z, Cl.dec l = z := ⟨_, rfl⟩
      rw [hdec] at hdin
      obtain ⟨dg, dsq, dp, dq, dd⟩ := dcl
      obtain ⟨dcd, hdcd⟩ : ∃ z, Cl.code l = z := ⟨_, rfl⟩
      obtain ⟨dm, hdm⟩ : ∃ z, dd.length = z := ⟨_, rfl⟩
      dsimp only at hdin
      have HD := Lib.hid (And.intro hdec (And.intro hdcd hdm))
      clear hdec hdcd hdm
      go_wp2_with fail
      refine (dec_c hi3 (by omega) HD.out.1 HD.out.2.1 HD.out.2.2).mono ?_; rintro e w4 ⟨A4, c4, rfl, hi4, hb4⟩
      have hb04 := (below_step hb03 hb4 hb03.size)
      have hb05 := hb04.alloc hb04.size (.cells #[.int .u32 (dg : Int), .int .u32 (dsq : Int), .int .i64 dp, .int .i64 dq, .slice A4 dm c4] 25)
      have hB5 := Blk.new w4 25 #[.int .u32 (dg : Int), .int .u32 (dsq : Int), .int .i64 dp, .int .i64 dq, .slice A4 dm c4]
      have hF5 := (hF3.below hb4 hF3.lt).alloc (.cells #[.int .u32 (dg : Int), .int .u32 (dsq : Int), .int .i64 dp, .int .i64 dq, .slice A4 dm c4] 25)
      have hi5 := hi4.alloc (.cells #[.int .u32 (dg : Int), .int .u32 (dsq : Int), .int .i64 dp, .int .i64 dq, .slice A4 dm c4] 25)
      clear hb4 hF3 hi4 hi3 hb04 hb03
      by_cases hc : dcd = 0
      case neg =>
        have HZ := Lib.hid (show s.found 1 = 0 from by rw [HFD.out]; exact genOf_no HD.out.1 (.inl (by rw [HD.out.2.1]; exact hc)))
        have hcn : (dcd == 0) = false := by simpa using hc
        clear hc
        go_wp2_with fail
        exact ⟨⟨2, by omega, by go_num, (by rw [fnd_skip HZ.out 0, fnd_skip HZ.out 1]; exact hF5), hb05⟩, by simp [intOf]⟩
      subst hc
      have k0 := hB5.cell 0
      have k1 := hB5.cell 1
      have k2 := hB5.cell 2
      have k3 := hB5.cell 3
      have k4 := hB5.cell 4
      simp only [List.getElem?_toArray, List.getElem?_cons_zero, List.getElem?_cons_succ] at k0 k1 k2 k3 k4
      go_wp2_with fail
      refine (is_any_ dg dsq dp dq A4 dm c4 dd 1 _ hdin.1 hi5).mono ?_; rintro e w6 ⟨rfl, hb6⟩
      have hb06 := below_step hb05 hb6 hb05.size
      have hF6 := hF5.below hb6 hF5.lt
      have hB6 := hB5.below hb6 hB5.lt
      clear hb05 hb6 hF5 hB5 hi5 k0 k1 k2 k3 k4
      cases his : isC dg dsq dp dq dd 1 with
      | false =>
        have HZ := Lib.hid (show s.found 1 = 0 from by rw [HFD.out]; exact genOf_no HD.out.1 (.inr his))
        go_wp2_with fail
        exact ⟨⟨2, by omega, by go_num, (by rw [fnd_skip HZ.out 0, fnd_skip HZ.out 1]; exact hF6), hb06⟩, by simp [intOf]⟩
      | true =>
        have HZ := Lib.hid (show s.found 1 = dg from by rw [HFD.out]; exact genOf_yes HD.out.1 HD.out.2.1 his)
        have k0 := hB6.cell 0
        simp only [List.getElem?_toArray, List.getElem?_cons_zero] at k0
        have f0 := hF6.cell 1
        simp only [List.getElem?_toArray, List.getElem?_cons_zero, List.getElem?_cons_succ] at f0
        have fr := hF6.frozen 1
        have hF7 := hF6.set_ 1 (.int .u32 (dg : Int))
        have hb07 := hb06.setCell (p := ⟨w.heap.size, 1, none⟩) (Nat.le_refl _) (.int .u32 (dg : Int))
        go_wp2_with fail
        refine ⟨⟨2, by omega, by go_num, ?_, hb07⟩, by simp [intOf]⟩
        have e0 : fnd s 2 1 = dg := by unfold fnd; rw [if_pos (by decide)]; exact HZ.out
        have e1 : fnd s 2 0 = fnd s 1 0 := by unfold fnd; rfl
        rw [e0, e1]
        exact hF7
    · obtain rfl : k = 2 := by omega
      have f0 := hF.cell 0
      have f1 := hF.cell 1
      simp only [List.getElem?_toArray, List.getElem?_cons_zero, List.getElem?_cons_succ] at f0 f1
      have HB := Lib.hid hb
      clear hF hb
      have e0 : fnd s 2 0 = s.found 0 := rfl
      have e1 : fnd s 2 1 = s.found 1 := rfl
      rw [e0] at f0
      rw [e1] at f1
      by_cases hmx : s.found 0 < s.found 1
      · have HX := Lib.hid (show max (s.found 0) (s.found 1) = s.found 1 by omega)
        go_wp2_with fail
        go_ret2
        exact ⟨by rw [HL.out, HX.out]; rfl, HB.out⟩
      · have HX := Lib.hid (show max (s.found 0) (s.found 1) = s.found 0 by omega)
        go_wp2_with fail
        go_ret2
        exact ⟨by rw [HL.out, HX.out]; rfl, HB.out⟩
end
end Go.Proofs.YtfoeapjlklfjgaaDoor
