/- disk.Up. No condition but that there are at most 2^40 choices. -/
import Derived.Test.YtdlcngmcjidomaaDoorGDB
import Derived.Test.YtdlcngmcjidomaaDoorLDiskC
namespace Go.Proofs.YtdlcngmcjidomaaDoor
set_option linter.unusedSimpArgs false
set_option linter.unusedVariables false
open Go.RowKit

section
variable {w w' w2 : World} {T T1 S S1 : List Nat} {g gl cap : Nat} {s : DSt} {A A2 : Option Addr} {n c : Nat} {pA : Option Addr} {pn pc c2 : Nat} {xs : List BEl} {ys : List (Nat × BEl)} {cl : Bool} {cs : List Nat}
/-- What turns beside it lies beyond. -/
theorem Moved.beyond (h : Moved w w' T T1) (h' : Moved w' w2 S S1) (hS : ∀ k ∈ S, w.heap.size ≤ k ∨ k ∈ T1) : Moved w w2 T T1 :=
  ⟨h'.os.trans h.os, h'.tape.trans h.tape, h'.output.trans h.output, Nat.le_trans h.size h'.size, fun k hk hT => by
    have hkS : k ∉ S := fun hm => by
      rcases hS k hm with h1 | h1
      · omega
      · rcases h.new k h1 with h2 | h2
        · exact hT h2
        · omega
    exact (h'.block k (by have := h.size; omega) hkS).trans (h.block k hk hT), h.new⟩
theorem OwnI.chan {base : Nat} {l : List Nat} (h : OwnI w base .u8 256 5 A n c l) (hc : ChAt w gl cl cap cs) (hm : Moved w w' [gl] [gl]) : OwnI w' base .u8 256 5 A n c l := by
  refine h.moved hm fun ad he hg => ?_
  rw [List.mem_singleton] at hg
  obtain ⟨_, _, _, hch⟩ := hc.ex
  rcases h.own.form with ⟨rfl, _⟩ | ⟨g', cur, rfl, _, hb, _⟩
  · cases he
  · cases he
    have e := hb.is
    dsimp only at hg
    rw [hg, hch] at e
    cases e
theorem ChAt.set_ {p : Addr} (h : ChAt w gl cl cap cs) (hp : gl ≠ p.block) (u : Value) : ChAt (w.setCell p u) gl cl cap cs := by
  obtain ⟨s, r, tm, h⟩ := h.ex
  exact ⟨s, r, tm, (Below.heap_setCell w p u gl hp).trans h⟩
theorem BEl.In.chan {x : BEl} (h : x.In w) (hc : ChAt w gl cl cap cs) (hm : Moved w w' [gl] [gl]) : x.In w' := ⟨h.own.chan hc hm, h.nil⟩
theorem DiskIn.chan (h : DiskIn w T g s A n c pA pn pc xs ys) (hc : ChAt w gl cl cap cs) (hm : Moved w w' [gl] [gl]) (hT : gl ∉ T) : DiskIn w' T g s A n c pA pn pc xs ys :=
  h.moved hm (fun k hk hk2 => hT (by rw [List.mem_singleton] at hk2; exact hk2 ▸ hk)) (fun x hx => (h.xin x hx).chan hc hm) (fun y hy => (h.yin y hy).chan hc hm)
/-- All is set back. -/
theorem DiskIn.reset (h : DiskIn w T g s A n c pA pn pc xs ys) :
    ∃ T', DiskIn ((((w.setCell ⟨g, 1, none⟩ (.slice none 0 0)).setCell ⟨g, 2, none⟩ (.bool false)).setCell ⟨g, 3, none⟩ (.int .i64 0)).setCell ⟨g, 4, none⟩ (.int .i64 0)) T' g { sure := s.sure, pend := [], down := false, stop := 0, begun := 0 } A n c none 0 0 xs [] ∧
      Moved w ((((w.setCell ⟨g, 1, none⟩ (.slice none 0 0)).setCell ⟨g, 2, none⟩ (.bool false)).setCell ⟨g, 3, none⟩ (.int .i64 0)).setCell ⟨g, 4, none⟩ (.int .i64 0)) T T' := by
  obtain ⟨T', h1, hm⟩ := h.cleared
  have h2 := h1.put { s with pend := [], down := false } 2 (.bool false) rfl rfl rfl h.wf.stop0 h.wf.stop1
  have h3 := h2.put { s with pend := [], down := false, stop := 0 } 3 (.int .i64 0) rfl rfl rfl (Int.le_refl _) (by show (0 : Int) < _; decide)
  have h4 := h3.put { sure := s.sure, pend := [], down := false, stop := 0, begun := 0 } 4 (.int .i64 0) rfl rfl rfl (Int.le_refl _) (by show (0 : Int) < _; decide)
  exact ⟨T', h4, ((hm.set_ (p := ⟨g, 2, none⟩) h1.gT _).set_ (p := ⟨g, 3, none⟩) h1.gT _).set_ (p := ⟨g, 4, none⟩) h1.gT _⟩
theorem lay1_head {su : List (List Nat)} {x : Nat × List Nat} {cs : List Nat} (h : ∀ c ∈ cs, c < 3) : DSt.lay1 su x cs = if cs.headD 0 = 1 then su.set x.1 x.2 else if cs.headD 0 = 2 then su.set x.1 [] else su := by
  cases cs with
  | nil => rfl
  | cons c cs =>
    unfold DSt.lay1
    have := h c (by simp)
    simp only [List.headD_cons, Nat.mod_eq_of_lt this]
    rfl
theorem layBy_drop {su : List (List Nat)} {p : List (Nat × List Nat)} {k i : Nat} {l cs : List Nat} (h : p[k]? = some (i, l)) : DSt.layBy su (p.drop k) cs = DSt.layBy (DSt.lay1 su (i, l) cs) (p.drop (k + 1)) cs.tail := by
  obtain ⟨hk, he⟩ := List.getElem?_eq_some_iff.1 h
  rw [List.drop_eq_getElem_cons hk, he]
  rfl
theorem layBy_mod {su : List (List Nat)} {p : List (Nat × List Nat)} {cs : List Nat} : DSt.layBy su p (cs.map (· % 3)) = DSt.layBy su p cs := by
  induction p generalizing su cs with
  | nil => rfl
  | cons x p ih =>
    unfold DSt.layBy
    cases cs with
    | nil => rfl
    | cons c cs =>
      rw [List.map_cons, List.tail_cons, List.tail_cons, ih]
      unfold DSt.lay1
      simp only [Nat.mod_mod]
end

set_option maxRecDepth 100000 in
set_option maxHeartbeats 3200000 in
theorem dup_any {w : World} {T : List Nat} {g : Nat} {s : DSt} (D : DiskAt w T g s) {bA : Option Addr} {bn bc : Nat} {l : List Nat} (hB : Ints w .u8 256 bA bn bc l) (hbn : bn ≤ 1099511627776) :
    Calls Tryd.prog 19 #[.pointer (some ⟨g, 0, none⟩), .slice bA bn bc] w fun e w' => (∃ v, e = .returned v) ∧ ∃ T', DiskAt w' T' g (s.up l) ∧ Moved w w' T T' := by
  have hli := line_any hB hbn
  have HT := Lib.hid D.lt
  have H0 := Lib.hid D
  clear hB
  go_enter Tryd.func19, Tryd.ntmps19
  go_wp2_with fail
  refine hli.mono ?_; rintro e w1 ⟨gl, rfl, hgl, hch, hb⟩
  clear hli
  have D1 := H0.out.below hb
  obtain ⟨A, n, c, pA, pn, pc, xs, ys, D1⟩ := D1.ex
  have hpm := D1.pn_le
  have hpn := Lib.hid D1.pn_eq
  have c1 := D1.c1
  have hmb := Moved.of_below hb T
  have hglT : gl ∉ T := fun h => by have := HT.out gl h; omega
  have H := Lib.hid (And.intro D1 (And.intro hmb (And.intro hch hglT)))
  clear D1 hmb hch hglT H0 hb D
  go_wp2_with fail
  go_loopw [14] (fun i wr => ∃ (k : Nat) (su : List (List Nat)) (xs : List BEl) (cs : List Nat), k ≤ pn ∧ i = .int .i64 k ∧ DiskIn wr T g { s with sure := su } A n c pA pn pc xs ys ∧ Moved w wr T T ∧ ChAt wr gl true bn cs ∧ (∀ c ∈ cs, c < 3) ∧ DSt.layBy su (s.pend.drop k) cs = DSt.layBy s.sure s.pend l) (fun i _ => pn - (intOf i).toNat)
  case atStart => exact ⟨0, s.sure, xs, l.map (· % 3), Nat.zero_le _, rfl, H.out.1, H.out.2.1, H.out.2.2.1, fun c hc => by obtain ⟨x, _, rfl⟩ := List.mem_map.1 hc; omega, layBy_mod⟩
  case round =>
    obtain ⟨k, su, xs, cs, hk, rfl, D2, hm2, hch, hcs, hlay⟩ := hrel
    have hglT := H.out.2.2.2
    clear H c1
    by_cases hkp : k < pn
    · obtain ⟨i, y, b', hyk, hyin, rfl, hbl, hc0, hc1, hsp⟩ := D2.py hkp
      have hl := D2.wf.pend _ (List.mem_of_getElem? hsp)
      dsimp only at hl
      have hn2 := D2.n_eq
      dsimp only at hn2
      have hin : i < n := by rw [← hn2]; exact hl.1
      obtain ⟨x, b, _, _, rfl, _, _, hfz, _⟩ := D2.sx hin
      have hlay' := hlay.symm.trans (layBy_drop hsp)
      rw [lay1_head hcs] at hlay'
      dsimp only at hlay'
      have hlt : (k : Int) < (pn : Int) := by omega
      have hi0 : (0 : Int) ≤ (i : Int) := by omega
      have hi1 : (i : Int) < (n : Int) := by omega
      obtain ⟨q, hq⟩ : ∃ q, wr.heap.size = q := ⟨_, rfl⟩
      have hglq : gl < q := by rw [← hq]; exact hch.lt
      have hch2 : ChAt (wr.alloc (.cells #[.int .i64 (i : Int), .slice y.A y.n y.c] 83)) gl true bn cs := hch.below ((Below.refl _ _).alloc (Nat.le_refl _) _)
      have D3 := D2.alloc (.cells #[.int .i64 (i : Int), .slice y.A y.n y.c] 83)
      have hy3 := hyin.alloc (.cells #[.int .i64 (i : Int), .slice y.A y.n y.c] 83)
      have hm3 := hm2.alloc (.cells #[.int .i64 (i : Int), .slice y.A y.n y.c] 83)
      have hB3 := Blk.new wr 83 #[.int .i64 (i : Int), .slice y.A y.n y.c]
      rw [hq] at hB3
      have HS := Lib.hid (And.intro D3 (And.intro hy3 (And.intro hm3 (And.intro hB3 (And.intro hch2 (And.intro hlay' (And.intro hcs (And.intro hl.2 (And.intro hq hglq)))))))))
      clear D2 hm2 hyin hlay hlay' hsp hyk hl hn2 hch hch2 D3 hy3 hm3 hB3 hcs hglq
      go_wp2_with fail
      obtain ⟨D3, hy3, hm3, hB3, hch2, hlay', hcs, hl, hq', hglq⟩ := HS.out
      clear HS
      generalize wr.alloc _ = w3 at *
      refine (next_any hch2).mono ?_; rintro e w5 ⟨rfl, hch5, hm5⟩
      have D5 := D3.chan hch2 hm5 hglT
      have hy5 := hy3.chan hch2 hm5
      have hm6 := hm3.beyond hm5 (fun k hk => by rw [List.mem_singleton] at hk; subst hk; exact .inl hgl)
      have hB5 := hB3.moved hm5 (by simp; omega)
      have hcs5 : ∀ c ∈ cs.tail, c < 3 := fun c hc => hcs c (List.mem_of_mem_tail hc)
      obtain ⟨z, hz⟩ : ∃ z, cs.headD 0 = z := ⟨_, rfl⟩
      rw [hz] at hlay' ⊢
      have HS := Lib.hid (And.intro D5 (And.intro hy5 (And.intro hm6 (And.intro hB5 (And.intro hch5 (And.intro hlay' (And.intro hcs5 hl)))))))
      clear D5 hy5 hm6 hB5 hch5 hlay' hcs5 hl D3 hy3 hm3 hB3 hch2 hcs hz hm5 hq' hq
      by_cases h1 : z = 1
      · have e1 : ((z : Int) == 1) = true := by simp [h1]
        rw [h1]
        rw [h1] at HS
        go_wp2_with fail
        obtain ⟨D5, hy5, hm6, hB5, hch5, hlay', hcs5, hl⟩ := HS.out
        clear HS
        have hglb : gl ≠ b := fun e => hglT (e ▸ D5.AT rfl)
        have c0 := D5.drew.c0
        have q0 := hB5.drew.cell 0
        have q1 := hB5.drew.cell 1
        obtain ⟨x, b0, _, _, he, _, ch, fh, _⟩ := D5.drew.sx hin
        cases he
        rw [if_pos (by trivial)] at hlay'
        obtain ⟨D6, hm7⟩ := D5.drew.laid (i := i) hy5.drew (.inr hl)
        have hm8 := hm6.drew.trans hm7
        have HF := Lib.hid (And.intro D6 (And.intro hm8 (And.intro (hch5.drew.set_ (p := ⟨b, i, none⟩) hglb y.v) (And.intro hlay' hcs5))))
        clear D5 hy5 hm6 hB5 hch5 hlay' hcs5 hl D6 hm7 hm8
        refine wp_region_late [9] (fun w' => w'.cell? ⟨g, 0, none⟩ = some (.slice (some ⟨b, 0, none⟩) n c) ∧ w'.cell? ⟨q, 0, none⟩ = some (.int .i64 (i : Int)) ∧ w'.cell? ⟨q, 1, none⟩ = some (.slice y.A y.n y.c)) (by kernel_rfl) ?_
        generalize World.drew _ = w4 at *
        refine wpAnyL_take (i := 0) (v := ?_) rfl (by kernel_rfl) (by kernel_rfl) (by kernel_rfl) (by kernel_rfl) (by kernel_rfl) (fun _ _ _ h => h) (Or.inl ⟨by kernel_rfl, ?_⟩) ⟨c0, q0, q1⟩ ?_
        rotate_left
        · rintro w0 ⟨h1_, h2_, h3_⟩; go_simp; (try with_reducible rfl)
        try simp only [Act.put, List.setIfInBounds_toArray, List.set_cons_zero, List.set_cons_succ]
        refine wpAnyL_take (i := 1) (v := ?_) rfl (by kernel_rfl) (by kernel_rfl) (by kernel_rfl) (by kernel_rfl) (by kernel_rfl) (fun _ _ _ h => h) (Or.inl ⟨by kernel_rfl, ?_⟩) ⟨c0, q0, q1⟩ ?_
        rotate_left
        · rintro w0 ⟨h1_, h2_, h3_⟩; go_simp; (try with_reducible rfl)
        try simp only [Act.put, List.setIfInBounds_toArray, List.set_cons_zero, List.set_cons_succ]
        refine wpAnyL_take (i := 2) (v := ?_) rfl (by kernel_rfl) (by kernel_rfl) (by kernel_rfl) (by kernel_rfl) (by kernel_rfl) (fun _ _ _ h => h) (Or.inl ⟨by kernel_rfl, ?_⟩) ⟨c0, q0, q1⟩ ?_
        rotate_left
        · rintro w0 ⟨h1_, h2_, h3_⟩; go_simp; (try with_reducible rfl)
        try simp only [Act.put, List.setIfInBounds_toArray, List.set_cons_zero, List.set_cons_succ]
        refine wpAnyL_take (i := 3) (v := ?_) rfl (by kernel_rfl) (by kernel_rfl) (by kernel_rfl) (by kernel_rfl) (by kernel_rfl) (fun _ _ _ h => h) (Or.inl ⟨by kernel_rfl, ?_⟩) ⟨c0, q0, q1⟩ ?_
        rotate_left
        · rintro w0 ⟨h1_, h2_, h3_⟩; go_simp; (try with_reducible rfl)
        try simp only [Act.put, List.setIfInBounds_toArray, List.set_cons_zero, List.set_cons_succ]
        refine wpAnyL_take (i := 4) (v := ?_) rfl (by kernel_rfl) (by kernel_rfl) (by kernel_rfl) (by kernel_rfl) (by kernel_rfl) (fun _ _ _ h => h) (Or.inl ⟨by kernel_rfl, ?_⟩) ⟨c0, q0, q1⟩ ?_
        rotate_left
        · rintro w0 ⟨h1_, h2_, h3_⟩; go_simp; (try with_reducible rfl)
        try simp only [Act.put, List.setIfInBounds_toArray, List.set_cons_zero, List.set_cons_succ]
        refine wpAnyL_take (i := 5) (v := ?_) rfl (by kernel_rfl) (by kernel_rfl) (by kernel_rfl) (by kernel_rfl) (by kernel_rfl) (fun _ _ _ h => h) (Or.inl ⟨by kernel_rfl, ?_⟩) ⟨c0, q0, q1⟩ ?_
        rotate_left
        · rintro w0 ⟨h1_, h2_, h3_⟩; go_simp; (try with_reducible rfl)
        try simp only [Act.put, List.setIfInBounds_toArray, List.set_cons_zero, List.set_cons_succ]
        refine wpAnyL_take (i := 6) (v := ?_) rfl (by kernel_rfl) (by kernel_rfl) (by kernel_rfl) (by kernel_rfl) (by kernel_rfl) (fun _ _ _ h => h) (Or.inl ⟨by kernel_rfl, ?_⟩) ⟨c0, q0, q1⟩ ?_
        rotate_left
        · rintro w0 ⟨h1_, h2_, h3_⟩; go_simp; (try with_reducible rfl)
        try simp only [Act.put, List.setIfInBounds_toArray, List.set_cons_zero, List.set_cons_succ]
        refine wpAnyL_take (i := 7) (v := ?_) rfl (by kernel_rfl) (by kernel_rfl) (by kernel_rfl) (by kernel_rfl) (by kernel_rfl) (fun _ _ _ h => h) (Or.inl ⟨by kernel_rfl, ?_⟩) ⟨c0, q0, q1⟩ ?_
        rotate_left
        · rintro w0 ⟨h1_, h2_, h3_⟩; go_simp; (try with_reducible rfl)
        try simp only [Act.put, List.setIfInBounds_toArray, List.set_cons_zero, List.set_cons_succ]
        refine wpAnyL_take (i := 8) (v := ?_) rfl (by kernel_rfl) (by kernel_rfl) (by kernel_rfl) (by kernel_rfl) (by kernel_rfl) (fun _ _ _ h => h) (Or.inl ⟨by kernel_rfl, ?_⟩) ⟨c0, q0, q1⟩ ?_
        rotate_left
        · rintro w0 ⟨h1_, h2_, h3_⟩; go_simp; (try with_reducible rfl)
        try simp only [Act.put, List.setIfInBounds_toArray, List.set_cons_zero, List.set_cons_succ]
        refine wpAnyL_one (i := 9) (by kernel_rfl) rfl (fun K hK => ?_)
        go_simp
        refine hK.out _ _ (fun h => absurd (by simp) h) ?_
        clear hK K
        try simp only [Act.put, List.setIfInBounds_toArray, List.set_cons_zero, List.set_cons_succ]
        refine wpAnyL_done (by kernel_rfl) ?_ _
        go_wp2_with fail
        exact ⟨⟨k + 1, su.set i y.l, xs.set i y, cs.tail, by omega, by go_num, HF.out.1, HF.out.2.1, HF.out.2.2.1, HF.out.2.2.2.2, HF.out.2.2.2.1.symm⟩, by simp [intOf]; omega⟩
      by_cases h2 : z = 2
      · have e1 : ((z : Int) == 1) = false := by simp [h2]
        have e2 : ((z : Int) == 2) = true := by simp [h2]
        rw [h2]
        rw [h2] at HS
        go_wp2_with fail
        obtain ⟨D5, hy5, hm6, hB5, hch5, hlay', hcs5, hl⟩ := HS.out
        clear HS
        have hglb : gl ≠ b := fun e => hglT (e ▸ D5.AT rfl)
        have c0 := D5.drew.c0
        have q0 := hB5.drew.cell 0
        have q1 := hB5.drew.cell 1
        obtain ⟨x, b0, _, _, he, _, ch, fh, _⟩ := D5.drew.sx hin
        cases he
        rw [if_neg (by decide), if_pos (by trivial)] at hlay'
        have hnil : BEl.In w5.drew ⟨none, 0, 0, []⟩ := ⟨OwnI.nil_ .., by simp⟩
        obtain ⟨D6, hm7⟩ := D5.drew.laid (i := i) hnil (.inl rfl)
        have hm8 := hm6.drew.trans hm7
        have HF := Lib.hid (And.intro D6 (And.intro hm8 (And.intro (hch5.drew.set_ (p := ⟨b, i, none⟩) hglb (.slice none 0 0)) (And.intro hlay' hcs5))))
        clear D5 hy5 hm6 hB5 hch5 hlay' hcs5 hl D6 hm7 hm8 hnil
        refine wp_region_late [7] (fun w' => w'.cell? ⟨g, 0, none⟩ = some (.slice (some ⟨b, 0, none⟩) n c) ∧ w'.cell? ⟨q, 0, none⟩ = some (.int .i64 (i : Int)) ∧ w'.cell? ⟨q, 1, none⟩ = some (.slice y.A y.n y.c)) (by kernel_rfl) ?_
        generalize World.drew _ = w4 at *
        refine wpAnyL_take (i := 0) (v := ?_) rfl (by kernel_rfl) (by kernel_rfl) (by kernel_rfl) (by kernel_rfl) (by kernel_rfl) (fun _ _ _ h => h) (Or.inl ⟨by kernel_rfl, ?_⟩) ⟨c0, q0, q1⟩ ?_
        rotate_left
        · rintro w0 ⟨h1_, h2_, h3_⟩; go_simp; (try with_reducible rfl)
        try simp only [Act.put, List.setIfInBounds_toArray, List.set_cons_zero, List.set_cons_succ]
        refine wpAnyL_take (i := 1) (v := ?_) rfl (by kernel_rfl) (by kernel_rfl) (by kernel_rfl) (by kernel_rfl) (by kernel_rfl) (fun _ _ _ h => h) (Or.inl ⟨by kernel_rfl, ?_⟩) ⟨c0, q0, q1⟩ ?_
        rotate_left
        · rintro w0 ⟨h1_, h2_, h3_⟩; go_simp; (try with_reducible rfl)
        try simp only [Act.put, List.setIfInBounds_toArray, List.set_cons_zero, List.set_cons_succ]
        refine wpAnyL_take (i := 2) (v := ?_) rfl (by kernel_rfl) (by kernel_rfl) (by kernel_rfl) (by kernel_rfl) (by kernel_rfl) (fun _ _ _ h => h) (Or.inl ⟨by kernel_rfl, ?_⟩) ⟨c0, q0, q1⟩ ?_
        rotate_left
        · rintro w0 ⟨h1_, h2_, h3_⟩; go_simp; (try with_reducible rfl)
        try simp only [Act.put, List.setIfInBounds_toArray, List.set_cons_zero, List.set_cons_succ]
        refine wpAnyL_take (i := 3) (v := ?_) rfl (by kernel_rfl) (by kernel_rfl) (by kernel_rfl) (by kernel_rfl) (by kernel_rfl) (fun _ _ _ h => h) (Or.inl ⟨by kernel_rfl, ?_⟩) ⟨c0, q0, q1⟩ ?_
        rotate_left
        · rintro w0 ⟨h1_, h2_, h3_⟩; go_simp; (try with_reducible rfl)
        try simp only [Act.put, List.setIfInBounds_toArray, List.set_cons_zero, List.set_cons_succ]
        refine wpAnyL_take (i := 4) (v := ?_) rfl (by kernel_rfl) (by kernel_rfl) (by kernel_rfl) (by kernel_rfl) (by kernel_rfl) (fun _ _ _ h => h) (Or.inl ⟨by kernel_rfl, ?_⟩) ⟨c0, q0, q1⟩ ?_
        rotate_left
        · rintro w0 ⟨h1_, h2_, h3_⟩; go_simp; (try with_reducible rfl)
        try simp only [Act.put, List.setIfInBounds_toArray, List.set_cons_zero, List.set_cons_succ]
        refine wpAnyL_take (i := 5) (v := ?_) rfl (by kernel_rfl) (by kernel_rfl) (by kernel_rfl) (by kernel_rfl) (by kernel_rfl) (fun _ _ _ h => h) (Or.inl ⟨by kernel_rfl, ?_⟩) ⟨c0, q0, q1⟩ ?_
        rotate_left
        · rintro w0 ⟨h1_, h2_, h3_⟩; go_simp; (try with_reducible rfl)
        try simp only [Act.put, List.setIfInBounds_toArray, List.set_cons_zero, List.set_cons_succ]
        refine wpAnyL_take (i := 6) (v := ?_) rfl (by kernel_rfl) (by kernel_rfl) (by kernel_rfl) (by kernel_rfl) (by kernel_rfl) (fun _ _ _ h => h) (Or.inl ⟨by kernel_rfl, ?_⟩) ⟨c0, q0, q1⟩ ?_
        rotate_left
        · rintro w0 ⟨h1_, h2_, h3_⟩; go_simp; (try with_reducible rfl)
        try simp only [Act.put, List.setIfInBounds_toArray, List.set_cons_zero, List.set_cons_succ]
        refine wpAnyL_one (i := 7) (by kernel_rfl) rfl (fun K hK => ?_)
        go_simp
        refine hK.out _ _ (fun h => absurd (by simp) h) ?_
        clear hK K
        try simp only [Act.put, List.setIfInBounds_toArray, List.set_cons_zero, List.set_cons_succ]
        refine wpAnyL_done (by kernel_rfl) ?_ _
        go_wp2_with fail
        exact ⟨⟨k + 1, su.set i [], xs.set i ⟨none, 0, 0, []⟩, cs.tail, by omega, by go_num, HF.out.1, HF.out.2.1, HF.out.2.2.1, HF.out.2.2.2.2, HF.out.2.2.2.1.symm⟩, by simp [intOf]; omega⟩
      · have e1 : ((z : Int) == 1) = false := by simp; omega
        have e2 : ((z : Int) == 2) = false := by simp; omega
        have HN := Lib.hid (And.intro h1 h2)
        clear h1 h2
        go_wp2_with fail
        obtain ⟨D5, hy5, hm6, hB5, hch5, hlay', hcs5, hl⟩ := HS.out
        rw [if_neg HN.out.1, if_neg HN.out.2] at hlay'
        exact ⟨⟨k + 1, su, xs, cs.tail, by omega, by go_num, D5, hm6, hch5, hcs5, hlay'.symm⟩, by simp [intOf]; omega⟩
    · obtain rfl : k = pn := by omega
      have hp0 : s.pend.drop k = [] := List.drop_eq_nil_of_le (Nat.le_of_eq hpn.out)
      rw [hp0] at hlay
      have hsu : su = DSt.layBy s.sure s.pend l := hlay
      obtain ⟨T', D3, hm3⟩ := D2.reset
      have hm4 := hm2.trans hm3
      have c1 := D2.c1
      have c2 := D2.c2
      have c3 := D2.c3
      have c4 := D2.c4
      have f1 := D2.blk.frozen 1
      have f2 := D2.blk.frozen 2
      have f3 := D2.blk.frozen 3
      have f4 := D2.blk.frozen 4
      dsimp only at D3
      rw [hsu] at D3
      have HF := Lib.hid (And.intro D3 hm4)
      clear hsu hlay hp0 D2 hm2 D3 hm3 hm4
      go_wp2_with fail
      go_end0
      exact ⟨⟨_, rfl⟩, _, HF.out.1.at_, HF.out.2⟩
end Go.Proofs.YtdlcngmcjidomaaDoor
