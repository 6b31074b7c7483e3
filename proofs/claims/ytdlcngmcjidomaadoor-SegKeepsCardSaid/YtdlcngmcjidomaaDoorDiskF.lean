/- disk.Flush. No condition but that fewer than 2^60 have begun. -/
import Derived.Test.YtdlcngmcjidomaaDoorDiskE
namespace Go.Proofs.YtdlcngmcjidomaaDoor
set_option linter.unusedSimpArgs false
set_option linter.unusedVariables false
open Go.RowKit

section
variable {w w' : World} {T T1 : List Nat} {g : Nat} {s : DSt} {A A2 : Option Addr} {n c : Nat} {pA : Option Addr} {pn pc c2 : Nat} {xs : List BEl} {ys : List (Nat × BEl)}
theorem DiskIn.drew (h : DiskIn w T g s A n c pA pn pc xs ys) : DiskIn w.drew T g s A n c pA pn pc xs ys := h.below ((Below.refl _ _).drew)
theorem DiskIn.alloc (h : DiskIn w T g s A n c pA pn pc xs ys) (o : Obj) : DiskIn (w.alloc o) T g s A n c pA pn pc xs ys := h.below ((Below.refl _ _).alloc (Nat.le_refl _) o)
/-- A sector is laid. -/
theorem DiskIn.laid {b : Nat} (h : DiskIn w T g s (some ⟨b, 0, none⟩) n c pA pn pc xs ys) {i : Nat} {y : BEl} (hy : y.In w) (hl : y.l = [] ∨ y.l.length = 64) :
    DiskIn (w.setCell ⟨b, i, none⟩ y.v) T g { s with sure := s.sure.set i y.l } (some ⟨b, 0, none⟩) n c pA pn pc (xs.set i y) ys ∧ Moved w (w.setCell ⟨b, i, none⟩ y.v) T T := by
  have hbT : b ∈ T := h.AT rfl
  have hm := moved_set (w := w) (p := ⟨b, i, none⟩) hbT y.v
  have hbg : b ≠ g := h.A_ne _ rfl
  have hst := h.sure.stored i y.v
  refine ⟨⟨h.blk.far (p := ⟨b, i, none⟩) (Ne.symm hbg) y.v, ?_, h.pend.setCell (fun ad he e => ?_) _, fun x hx => ?_, fun z hz => (h.yin z hz).stay h.no hm, ?_, h.ep, h.hT, h.no.set_ b i _, fun l hl2 => ?_, fun p hp => ?_, ?_, h.wf.stop0, h.wf.stop1⟩, hm⟩
  · rw [List.map_set]; exact hst
  · have := h.sure.dis h.pend (show 22 ≠ 83 by decide) _ rfl
    rw [he] at this
    exact this (by simp only [Option.map_some]; rw [e])
  · rcases List.mem_or_eq_of_mem_set hx with hx | rfl
    · exact (h.xin x hx).stay h.no hm
    · exact hy.stay h.no hm
  · show s.sure.set i y.l = _
    rw [List.map_set, h.es]
  · rcases List.mem_or_eq_of_mem_set hl2 with hx | rfl
    · exact h.wf.sure l hx
    · exact hl
  · have := h.wf.pend p hp
    show p.1 < (s.sure.set i y.l).length ∧ _
    rw [List.length_set]
    exact this
  · show (s.sure.set i y.l).length ≤ 512
    rw [List.length_set]
    exact h.wf.most
/-- A pending write's copy is laid beside it, and a sector. -/
theorem DiskIn.round {b : Nat} (h : DiskIn w T g s (some ⟨b, 0, none⟩) n c pA pn pc xs ys) (o : Obj) {i : Nat} {y : BEl} (hy : y.In w) (hl : y.l = [] ∨ y.l.length = 64) :
    DiskIn ((w.alloc o).drew.setCell ⟨b, i, none⟩ (.slice y.A y.n y.c)) T g { s with sure := s.sure.set i y.l } (some ⟨b, 0, none⟩) n c pA pn pc (xs.set i y) ys ∧ Moved w ((w.alloc o).drew.setCell ⟨b, i, none⟩ (.slice y.A y.n y.c)) T T := by
  obtain ⟨h1, h2⟩ := ((h.alloc o).drew).laid (i := i) (hy.alloc o).drew hl
  exact ⟨h1, (((Moved.refl w T).alloc o).drew).trans h2⟩
theorem DiskIn.cells {b : Nat} (h : DiskIn w T g s (some ⟨b, 0, none⟩) n c pA pn pc xs ys) (o : Obj) {i : Nat} (hi : i < n) : (w.alloc o).drew.cell? ⟨g, 0, none⟩ = some (.slice (some ⟨b, 0, none⟩) n c) ∧ (∃ v, (w.alloc o).drew.cell? ⟨b, i, none⟩ = some v) ∧ (w.alloc o).drew.frozen? ⟨b, i, none⟩ = false := by
  have h3 := (h.alloc o).drew
  obtain ⟨x, b0, _, _, he, _, ch, fh, _⟩ := h3.sx hi
  cases he
  exact ⟨h3.c0, ⟨_, ch⟩, fh⟩
/-- No write is pending any more. -/
theorem DiskIn.cleared (h : DiskIn w T g s A n c pA pn pc xs ys) :
    ∃ T', DiskIn (w.setCell ⟨g, 1, none⟩ (.slice none 0 0)) T' g { s with pend := [] } A n c none 0 0 xs [] ∧ Moved w (w.setCell ⟨g, 1, none⟩ (.slice none 0 0)) T T' := by
  have hm := moved_set (w := w) (p := ⟨g, 1, none⟩) h.gT (.slice none 0 0)
  have hsub : ∀ k ∈ g :: (Ab A ++ Ab none), k ∈ T := fun k hk => by
    rw [h.hT]
    rcases List.mem_cons.1 hk with rfl | hk
    · simp
    · rcases List.mem_append.1 hk with hk | hk
      · exact List.mem_cons_of_mem _ (List.mem_append_left _ hk)
      · cases hk
  refine ⟨g :: (Ab A ++ Ab none), ⟨h.blk.set_ 1 _, h.sure.setCell h.A_ne _, OwnR.nil_ .., fun x hx => (h.xin x hx).stay h.no hm, (fun _ h => by cases h), h.es, rfl, rfl, ⟨fun k hk => (h.no.set_ g 1 (.slice none 0 0)).no k (hsub k hk)⟩, h.wf.sure, (fun _ h => by cases h), h.wf.most, h.wf.stop0, h.wf.stop1⟩, hm.to' fun k hk => .inl (hsub k hk)⟩
theorem lay_drop {su : List (List Nat)} {p : List (Nat × List Nat)} {k i : Nat} {l : List Nat} (h : p[k]? = some (i, l)) : DSt.lay su (p.drop k) = DSt.lay (su.set i l) (p.drop (k + 1)) := by
  obtain ⟨hk, he⟩ := List.getElem?_eq_some_iff.1 h
  rw [List.drop_eq_getElem_cons hk, he]
  rfl
end

set_option maxRecDepth 100000 in
set_option maxHeartbeats 1600000 in
theorem dflush_any {w : World} {T : List Nat} {g : Nat} {s : DSt} (D : DiskAt w T g s) (hb : s.begun < 1152921504606846976) :
    Calls Tryd.prog 38 #[.pointer (some ⟨g, 0, none⟩)] w fun e w' => e = .returned (.int .i64 s.flush.2) ∧ ∃ T', DiskAt w' T' g s.flush.1 ∧ Moved w w' T T' := by
  have bg := begin_any D hb
  have D0 := D
  obtain ⟨A, n, c, pA, pn, pc, xs, ys, D⟩ := D.ex
  have c2 := D.c2
  by_cases hd : s.down = true
  · rw [DSt.flush_down hd]
    rw [hd] at c2
    have H := Lib.hid D0
    clear D D0 bg hd hb
    go_enter Tryd.func38, Tryd.ntmps38
    go_wp2_with fail
    go_ret
    exact ⟨rfl, T, H.out, Moved.refl _ _⟩
  have hd : s.down = false := by simpa using hd
  rw [hd] at c2
  obtain ⟨gs, hgs⟩ : ∃ b, s.goes = b := ⟨_, rfl⟩
  cases gs with
  | true =>
    rw [DSt.flush_goes hd hgs]
    rw [hgs] at bg
    clear D D0 hd hgs hb
    go_enter Tryd.func38, Tryd.ntmps38
    go_wp2_with fail
    refine bg.mono ?_; rintro e w1 ⟨rfl, D1, hm⟩
    have H := Lib.hid (And.intro D1 hm)
    clear bg D1 hm
    go_wp2_with fail
    go_ret
    exact ⟨rfl, T, H.out⟩
  | false =>
    rw [DSt.flush_ok hd hgs]
    rw [hgs] at bg
    clear D D0 hd hgs hb
    go_enter Tryd.func38, Tryd.ntmps38
    go_wp2_with fail
    refine bg.mono ?_; rintro e w1 ⟨rfl, D1, hm⟩
    clear bg c2
    obtain ⟨A, n, c, pA, pn, pc, xs, ys, D1⟩ := D1.ex
    have hpm := D1.pn_le
    have hpn := Lib.hid D1.pn_eq
    have c1 := D1.c1
    have H := Lib.hid (And.intro D1 hm)
    clear D1 hm
    go_wp2_with fail
    go_loopw [19] (fun i wr => ∃ (k : Nat) (su : List (List Nat)) (xs : List BEl), k ≤ pn ∧ i = .int .i64 k ∧ DiskIn wr T g { s.beg with sure := su } A n c pA pn pc xs ys ∧ Moved w wr T T ∧ DSt.lay su (s.pend.drop k) = DSt.lay s.sure s.pend) (fun i _ => pn - (intOf i).toNat)
    case atStart => exact ⟨0, s.sure, xs, Nat.zero_le _, rfl, H.out.1, H.out.2, rfl⟩
    case round =>
      obtain ⟨k, su, xs, hk, rfl, D2, hm2, hlay⟩ := hrel
      clear H c1
      by_cases hkp : k < pn
      · obtain ⟨i, y, b', hyk, hyin, rfl, hbl, hc0, hc1, hsp⟩ := D2.py hkp
        have hl := D2.wf.pend _ (List.mem_of_getElem? hsp)
        dsimp only at hl
        have hn2 := D2.n_eq
        dsimp only at hn2
        have hin : i < n := by rw [← hn2]; exact hl.1
        obtain ⟨x, b, _, _, rfl, _, _, hfz, _⟩ := D2.sx hin
        -- round
        have HL := Lib.hid (hlay.symm.trans (lay_drop hsp))
        have q0 := ((Blk.new wr 83 #[.int .i64 (i : Int), .slice y.A y.n y.c]).drew).cell 0
        have q1 := ((Blk.new wr 83 #[.int .i64 (i : Int), .slice y.A y.n y.c]).drew).cell 1
        obtain ⟨c0, ⟨v0, ch⟩, fh⟩ := D2.cells (.cells #[.int .i64 (i : Int), .slice y.A y.n y.c] 83) hin
        have hlt : (k : Int) < (pn : Int) := by omega
        have hi0 : (0 : Int) ≤ (i : Int) := by omega
        have hi1 : (i : Int) < (n : Int) := by omega
        have HF := Lib.hid (And.intro (D2.round (.cells #[.int .i64 (i : Int), .slice y.A y.n y.c] 83) (i := i) hyin (.inr hl.2)) hm2)
        clear D2 hm2 hyin hlay hsp hyk hl hn2
        go_wp2_with fail
        refine wp_region_late [9] (fun w' => w'.cell? ⟨g, 0, none⟩ = some (.slice (some ⟨b, 0, none⟩) n c) ∧ w'.cell? ⟨wr.heap.size, 0, none⟩ = some (.int .i64 (i : Int)) ∧ w'.cell? ⟨wr.heap.size, 1, none⟩ = some (.slice y.A y.n y.c)) (by kernel_rfl) ?_
        generalize World.drew _ = w4 at *
        refine wpAnyL_take (i := 0) (v := ?_) rfl (by kernel_rfl) (by kernel_rfl) (by kernel_rfl) (by kernel_rfl) (by kernel_rfl) (fun _ _ _ h => h) (Or.inl ⟨by kernel_rfl, ?_⟩) ⟨c0, q0, q1⟩ ?_
        rotate_left
        · rintro w0 ⟨h1_, h2_, h3_⟩; go_simp; (try with_reducible rfl)
        try simp only [Act.put, List.setIfInBounds_toArray, List.set_cons_zero, List.set_cons_succ]
        refine wpAnyL_take (i := 1) (v := ?_) rfl (by kernel_rfl) (by kernel_rfl) (by kernel_rfl) (by kernel_rfl) (by kernel_rfl) (fun _ _ _ h => h) (Or.inl ⟨by kernel_rfl, ?_⟩) ⟨c0, q0, q1⟩ ?_
        rotate_left
        · rintro w0 ⟨h1_, h2_, h3_⟩; go_simp; (try with_reducible rfl)
        try simp only [Act.put, List.setIfInBounds_toArray, List.set_cons_zero, List.set_cons_succ]
        refine wpAnyL_take (i := 2) (v := ?_) rfl (by kernel_rfl) (by kernel_rfl) (by kernel_rfl) (by kernel_rfl) (by kernel_rfl) (fun _ _ _ h => h) (Or.inl ⟨by kernel_rfl, ?_⟩) ⟨c0, q0, q1⟩ ?_
        rotate_left
        · rintro w0 ⟨h1_, h2_, h3_⟩; go_simp; (try with_reducible rfl)
        try simp only [Act.put, List.setIfInBounds_toArray, List.set_cons_zero, List.set_cons_succ]
        refine wpAnyL_take (i := 3) (v := ?_) rfl (by kernel_rfl) (by kernel_rfl) (by kernel_rfl) (by kernel_rfl) (by kernel_rfl) (fun _ _ _ h => h) (Or.inl ⟨by kernel_rfl, ?_⟩) ⟨c0, q0, q1⟩ ?_
        rotate_left
        · rintro w0 ⟨h1_, h2_, h3_⟩; go_simp; (try with_reducible rfl)
        try simp only [Act.put, List.setIfInBounds_toArray, List.set_cons_zero, List.set_cons_succ]
        refine wpAnyL_take (i := 4) (v := ?_) rfl (by kernel_rfl) (by kernel_rfl) (by kernel_rfl) (by kernel_rfl) (by kernel_rfl) (fun _ _ _ h => h) (Or.inl ⟨by kernel_rfl, ?_⟩) ⟨c0, q0, q1⟩ ?_
        rotate_left
        · rintro w0 ⟨h1_, h2_, h3_⟩; go_simp; (try with_reducible rfl)
        try simp only [Act.put, List.setIfInBounds_toArray, List.set_cons_zero, List.set_cons_succ]
        refine wpAnyL_take (i := 5) (v := ?_) rfl (by kernel_rfl) (by kernel_rfl) (by kernel_rfl) (by kernel_rfl) (by kernel_rfl) (fun _ _ _ h => h) (Or.inl ⟨by kernel_rfl, ?_⟩) ⟨c0, q0, q1⟩ ?_
        rotate_left
        · rintro w0 ⟨h1_, h2_, h3_⟩; go_simp; (try with_reducible rfl)
        try simp only [Act.put, List.setIfInBounds_toArray, List.set_cons_zero, List.set_cons_succ]
        refine wpAnyL_take (i := 6) (v := ?_) rfl (by kernel_rfl) (by kernel_rfl) (by kernel_rfl) (by kernel_rfl) (by kernel_rfl) (fun _ _ _ h => h) (Or.inl ⟨by kernel_rfl, ?_⟩) ⟨c0, q0, q1⟩ ?_
        rotate_left
        · rintro w0 ⟨h1_, h2_, h3_⟩; go_simp; (try with_reducible rfl)
        try simp only [Act.put, List.setIfInBounds_toArray, List.set_cons_zero, List.set_cons_succ]
        refine wpAnyL_take (i := 7) (v := ?_) rfl (by kernel_rfl) (by kernel_rfl) (by kernel_rfl) (by kernel_rfl) (by kernel_rfl) (fun _ _ _ h => h) (Or.inl ⟨by kernel_rfl, ?_⟩) ⟨c0, q0, q1⟩ ?_
        rotate_left
        · rintro w0 ⟨h1_, h2_, h3_⟩; go_simp; (try with_reducible rfl)
        try simp only [Act.put, List.setIfInBounds_toArray, List.set_cons_zero, List.set_cons_succ]
        refine wpAnyL_take (i := 8) (v := ?_) rfl (by kernel_rfl) (by kernel_rfl) (by kernel_rfl) (by kernel_rfl) (by kernel_rfl) (fun _ _ _ h => h) (Or.inl ⟨by kernel_rfl, ?_⟩) ⟨c0, q0, q1⟩ ?_
        rotate_left
        · rintro w0 ⟨h1_, h2_, h3_⟩; go_simp; (try with_reducible rfl)
        try simp only [Act.put, List.setIfInBounds_toArray, List.set_cons_zero, List.set_cons_succ]
        refine wpAnyL_one (i := 9) (by kernel_rfl) rfl (fun K hK => ?_)
        go_simp
        refine hK.out _ _ (fun h => absurd (by simp) h) ?_
        clear hK K
        try simp only [Act.put, List.setIfInBounds_toArray, List.set_cons_zero, List.set_cons_succ]
        refine wpAnyL_done (by kernel_rfl) ?_ _
        go_wp2_with fail
        exact ⟨⟨k + 1, su.set i y.l, xs.set i y, by omega, by go_num, HF.out.1.1, HF.out.2.trans HF.out.1.2, HL.out.symm⟩, by simp [intOf]; omega⟩
      · obtain rfl : k = pn := by omega
        have hp0 : s.pend.drop k = [] := List.drop_eq_nil_of_le (Nat.le_of_eq hpn.out)
        rw [hp0] at hlay
        have hsu : su = DSt.lay s.sure s.pend := hlay
        obtain ⟨T', D3, hm3⟩ := D2.cleared
        have hm4 := hm2.trans hm3
        have c1 := D2.c1
        have f1 := D2.blk.frozen 1
        rw [hsu] at D3
        have HF := Lib.hid (And.intro D3 hm4)
        clear hsu hlay hp0 D2 hm2 D3 hm3 hm4
        go_wp2_with fail
        go_ret
        exact ⟨rfl, _, HF.out.1.at_, HF.out.2⟩
end Go.Proofs.YtdlcngmcjidomaaDoor
