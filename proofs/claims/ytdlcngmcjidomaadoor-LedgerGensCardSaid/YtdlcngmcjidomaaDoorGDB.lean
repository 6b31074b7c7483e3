/- Texts of several parts in one: DiskB, DiskD, DiskE, DiskF, DiskG, DiskH. Each says what it proves; no condition but those named there. -/
import Derived.Test.YtdlcngmcjidomaaDoorDiskA
import Derived.Test.YtdlcngmcjidomaaDoorLate
/- disk.begin and disk.Plan; a disk whose struct is written. No condition but that a count is below 2^60. -/
namespace Go.Proofs.YtdlcngmcjidomaaDoor
set_option linter.unusedSimpArgs false
set_option linter.unusedVariables false
open Go.RowKit

section
variable {w w' : World} {T T1 : List Nat} {g : Nat} {s : DSt} {A : Option Addr} {n c : Nat} {pA : Option Addr} {pn pc : Nat} {xs : List BEl} {ys : List (Nat × BEl)}
theorem Blk.any {k : Nat} {t : TypeId} {cs : Array Value} (h : Blk w k t cs) (g j : Nat) (u : Value) : ∃ cs', Blk (w.setCell ⟨g, j, none⟩ u) k t cs' := by
  by_cases e : k = g
  · subst e
    exact ⟨_, h.set_ j u⟩
  · exact ⟨cs, h.far (p := ⟨g, j, none⟩) e u⟩
theorem NoU8.set_ (h : NoU8 w T) (g j : Nat) (u : Value) : NoU8 (w.setCell ⟨g, j, none⟩ u) T :=
  ⟨fun k hk => by
    obtain ⟨t, cs, hb, hc⟩ := h.no k hk
    obtain ⟨cs', hb'⟩ := hb.any g j u
    exact ⟨t, cs', hb', hc⟩⟩
theorem DiskIn.A_ne (h : DiskIn w T g s A n c pA pn pc xs ys) : ∀ ad, A = some ad → ad.block ≠ g := h.sure.type_ne h.blk (by decide)
theorem DiskIn.pA_ne (h : DiskIn w T g s A n c pA pn pc xs ys) : ∀ ad, pA = some ad → ad.block ≠ g := h.pend.type_ne h.blk (by decide)
theorem moved_set {p : Addr} (hp : p.block ∈ T) (u : Value) : Moved w (w.setCell p u) T T := (Moved.refl w T).set_ hp u
/-- A cell of the struct is written: no bytes turn. -/
theorem DiskIn.put (h : DiskIn w T g s A n c pA pn pc xs ys) (s' : DSt) (j : Nat) (u : Value)
    (hcs : (#[Value.slice A n c, .slice pA pn pc, .bool s.down, .int .i64 s.stop, .int .i64 (s.begun : Int)] : Array Value).setIfInBounds j u = #[.slice A n c, .slice pA pn pc, .bool s'.down, .int .i64 s'.stop, .int .i64 (s'.begun : Int)])
    (hs : s'.sure = s.sure) (hp : s'.pend = s.pend) (h0 : 0 ≤ s'.stop) (h1 : s'.stop < 9223372036854775808) : DiskIn (w.setCell ⟨g, j, none⟩ u) T g s' A n c pA pn pc xs ys :=
  have hm : Moved w (w.setCell ⟨g, j, none⟩ u) T T := moved_set (p := ⟨g, j, none⟩) h.gT u
  ⟨by rw [← hcs]; exact h.blk.set_ j u, h.sure.setCell h.A_ne u, h.pend.setCell h.pA_ne u, fun x hx => (h.xin x hx).stay h.no hm, fun y hy => (h.yin y hy).stay h.no hm,
    by rw [hs]; exact h.es, by rw [hp]; exact h.ep, h.hT, h.no.set_ g j u, ⟨by rw [hs]; exact h.wf.sure, by rw [hs, hp]; exact h.wf.pend, by rw [hs]; exact h.wf.most, h0, h1⟩⟩
theorem DiskAt.drew (h : DiskAt w T g s) : DiskAt w.drew T g s := h.below ((Below.refl _ _).drew)
end

set_option maxRecDepth 100000 in
theorem plan_any {w : World} {T : List Nat} {g : Nat} {s : DSt} (D : DiskAt w T g s) (k : Int) (hk : k < 9223372036854775808) :
    Calls Tryd.prog 21 #[.pointer (some ⟨g, 0, none⟩), .int .i64 k] w fun e w' => (∃ v, e = .returned v) ∧ DiskAt w' T g (s.plan k) ∧ Moved w w' T T := by
  obtain ⟨A, n, c, pA, pn, pc, xs, ys, D⟩ := D.ex
  have f3 := D.blk.frozen 3
  have f4 := D.blk.frozen 4
  have c3 := D.c3
  have c4 := D.c4
  have D1 := D.put { s with stop := max k 0 } 3 (.int .i64 (max k 0)) rfl rfl rfl (Int.le_max_right ..) (by show max k 0 < _; omega)
  have D2 := D1.put (s.plan k) 4 (.int .i64 0) rfl rfl rfl (Int.le_max_right ..) (by show max k 0 < _; omega)
  have hm : Moved w _ T T := ((Moved.refl w T).set_ (p := ⟨g, 3, none⟩) D.gT (.int .i64 (max k 0))).set_ (p := ⟨g, 4, none⟩) D.gT (.int .i64 0)
  by_cases h : 0 ≤ k
  · rw [show max k 0 = k by omega] at D2 hm
    have H := Lib.hid (And.intro D2 hm)
    clear D2 D1 hm D
    go_enter Tryd.func21, Tryd.ntmps21
    go_wp2_with fail
    go_end0
    exact ⟨⟨_, rfl⟩, H.out.1.at_, H.out.2⟩
  · rw [show max k 0 = 0 by omega] at D2 hm
    have H := Lib.hid (And.intro D2 hm)
    clear D2 D1 hm D
    go_enter Tryd.func21, Tryd.ntmps21
    go_wp2_with fail
    go_end0
    exact ⟨⟨_, rfl⟩, H.out.1.at_, H.out.2⟩
set_option maxRecDepth 100000 in
set_option maxHeartbeats 800000 in
theorem begin_any {w : World} {T : List Nat} {g : Nat} {s : DSt} (D : DiskAt w T g s) (hb : s.begun < 1152921504606846976) :
    Calls Tryd.prog 40 #[.pointer (some ⟨g, 0, none⟩)] w fun e w' => e = .returned (.bool (!s.goes)) ∧ DiskAt w' T g s.beg ∧ Moved w w' T T := by
  obtain ⟨A, n, c, pA, pn, pc, xs, ys, D⟩ := D.ex
  have hw0 := D.wf.stop0
  have hw1 := D.wf.stop1
  have D1 : DiskIn _ T g { s with begun := s.begun + 1 } A n c pA pn pc xs ys := D.put { s with begun := s.begun + 1 } 4 (.int .i64 ((s.begun : Int) + 1)) rfl rfl rfl hw0 hw1
  have hm : Moved w _ T T := (Moved.refl w T).set_ (p := ⟨g, 4, none⟩) D.gT (.int .i64 ((s.begun : Int) + 1))
  have hgo : s.goes = (s.down || (decide (0 < s.stop) && decide ((s.begun : Int) + 1 = s.stop))) := rfl
  have f4 := D.blk.frozen 4
  have c4 := D.c4
  have hbg : (s.begun : Int) + 1 ≤ 9223372036854775807 := by omega
  have H := Lib.hid hgo
  have H1 := Lib.hid (And.intro D1 hm)
  clear D1 hm hgo D
  go_enter Tryd.func40, Tryd.ntmps40
  go_wp2_with fail
  obtain ⟨D1, hm⟩ := H1.out
  clear H1 c4 f4
  generalize w.setCell ⟨g, 4, none⟩ (.int .i64 ((s.begun : Int) + 1)) = w1 at *
  have D2 : DiskIn _ T g s.beg A n c pA pn pc xs ys := (D1.put s.beg 2 (.bool s.goes) rfl rfl rfl hw0 hw1).below ((Below.refl _ _).drew)
  have hm2 : Moved w _ T T := (hm.set_ (p := ⟨g, 2, none⟩) D1.gT (.bool s.goes)).drew
  have c2 := D1.c2
  have c3 := D1.c3
  have c4 := D1.c4
  have f2 := D1.blk.frozen 2
  have hgo := H.out
  dsimp only at c2 c3 c4
  rw [Int.natCast_add] at c4
  obtain ⟨gs, hgs⟩ : ∃ b, s.goes = b := ⟨_, rfl⟩
  rw [hgs] at D2 hm2 hgo
  clear D1 hm H
  have hbg0 : (0 : Int) ≤ (s.begun : Int) := by omega
  generalize hsb : (s.begun : Int) = bg at *
  generalize hst : s.stop = st at *
  generalize hsd : s.down = dn at *
  have H := Lib.hid (And.intro hgs (And.intro D2 hm2))
  clear hsb hst hsd D2 hm2 hb hgs
  cases dn
  · by_cases h1 : 0 < st
    · by_cases h2 : bg + 1 = st
      · rw [decide_eq_true h1, decide_eq_true h2] at hgo
        subst h2
        simp only [Bool.false_or, Bool.and_self] at hgo
        subst hgo
        refine wp_region_late [25] (fun w' => w'.cell? ⟨g, 2, none⟩ = some (.bool false) ∧ w'.cell? ⟨g, 3, none⟩ = some (.int .i64 (bg + 1)) ∧ w'.cell? ⟨g, 4, none⟩ = some (.int .i64 (bg + 1))) (by kernel_rfl) ?_
        refine wpAnyL_take (i := 0) (v := ?_) rfl (by kernel_rfl) (by kernel_rfl) (by kernel_rfl) (by kernel_rfl) (by kernel_rfl) (fun _ _ _ h => h) (Or.inl ⟨by kernel_rfl, ?_⟩) ⟨c2, c3, c4⟩ ?_
        rotate_left
        · rintro w0 ⟨h1_, h2_, h3_⟩; go_simp; (try with_reducible rfl)
        try simp only [Act.put, List.setIfInBounds_toArray, List.set_cons_zero, List.set_cons_succ]
        refine wpAnyL_take (i := 1) (v := ?_) rfl (by kernel_rfl) (by kernel_rfl) (by kernel_rfl) (by kernel_rfl) (by kernel_rfl) (fun _ _ _ h => h) (Or.inl ⟨by kernel_rfl, ?_⟩) ⟨c2, c3, c4⟩ ?_
        rotate_left
        · rintro w0 ⟨h1_, h2_, h3_⟩; go_simp; (try with_reducible rfl)
        try simp only [Act.put, List.setIfInBounds_toArray, List.set_cons_zero, List.set_cons_succ]
        refine wpAnyL_take (i := 2) (v := ?_) rfl (by kernel_rfl) (by kernel_rfl) (by kernel_rfl) (by kernel_rfl) (by kernel_rfl) (fun _ _ _ h => h) (Or.inl ⟨by kernel_rfl, ?_⟩) ⟨c2, c3, c4⟩ ?_
        rotate_left
        · rintro w0 ⟨h1_, h2_, h3_⟩; go_simp; (try with_reducible rfl)
        try simp only [Act.put, List.setIfInBounds_toArray, List.set_cons_zero, List.set_cons_succ]
        refine wpAnyL_take (i := 3) (v := ?_) rfl (by kernel_rfl) (by kernel_rfl) (by kernel_rfl) (by kernel_rfl) (by kernel_rfl) (fun _ _ _ h => h) (Or.inl ⟨by kernel_rfl, ?_⟩) ⟨c2, c3, c4⟩ ?_
        rotate_left
        · rintro w0 ⟨h1_, h2_, h3_⟩; go_simp; (try with_reducible rfl)
        try simp only [Act.put, List.setIfInBounds_toArray, List.set_cons_zero, List.set_cons_succ]
        refine wpAnyL_take (i := 4) (v := ?_) rfl (by kernel_rfl) (by kernel_rfl) (by kernel_rfl) (by kernel_rfl) (by kernel_rfl) (fun _ _ _ h => h) (Or.inl ⟨by kernel_rfl, ?_⟩) ⟨c2, c3, c4⟩ ?_
        rotate_left
        · rintro w0 ⟨h1_, h2_, h3_⟩; go_simp; (try with_reducible rfl)
        try simp only [Act.put, List.setIfInBounds_toArray, List.set_cons_zero, List.set_cons_succ]
        refine wpAnyL_take (i := 5) (v := ?_) rfl (by kernel_rfl) (by kernel_rfl) (by kernel_rfl) (by kernel_rfl) (by kernel_rfl) (fun _ _ _ h => h) (Or.inl ⟨by kernel_rfl, ?_⟩) ⟨c2, c3, c4⟩ ?_
        rotate_left
        · rintro w0 ⟨h1_, h2_, h3_⟩; go_simp; (try with_reducible rfl)
        try simp only [Act.put, List.setIfInBounds_toArray, List.set_cons_zero, List.set_cons_succ]
        refine wpAnyL_take (i := 6) (v := ?_) rfl (by kernel_rfl) (by kernel_rfl) (by kernel_rfl) (by kernel_rfl) (by kernel_rfl) (fun _ _ _ h => h) (Or.inl ⟨by kernel_rfl, ?_⟩) ⟨c2, c3, c4⟩ ?_
        rotate_left
        · rintro w0 ⟨h1_, h2_, h3_⟩; go_simp; (try with_reducible rfl)
        try simp only [Act.put, List.setIfInBounds_toArray, List.set_cons_zero, List.set_cons_succ]
        refine wpAnyL_take (i := 7) (v := ?_) rfl (by kernel_rfl) (by kernel_rfl) (by kernel_rfl) (by kernel_rfl) (by kernel_rfl) (fun _ _ _ h => h) (Or.inl ⟨by kernel_rfl, ?_⟩) ⟨c2, c3, c4⟩ ?_
        rotate_left
        · rintro w0 ⟨h1_, h2_, h3_⟩; go_simp; (try with_reducible rfl)
        try simp only [Act.put, List.setIfInBounds_toArray, List.set_cons_zero, List.set_cons_succ]
        refine wpAnyL_take (i := 8) (v := ?_) rfl (by kernel_rfl) (by kernel_rfl) (by kernel_rfl) (by kernel_rfl) (by kernel_rfl) (fun _ _ _ h => h) (Or.inl ⟨by kernel_rfl, ?_⟩) ⟨c2, c3, c4⟩ ?_
        rotate_left
        · rintro w0 ⟨h1_, h2_, h3_⟩; go_simp; (try with_reducible rfl)
        try simp only [Act.put, List.setIfInBounds_toArray, List.set_cons_zero, List.set_cons_succ]
        refine wpAnyL_take (i := 9) (v := ?_) rfl (by kernel_rfl) (by kernel_rfl) (by kernel_rfl) (by kernel_rfl) (by kernel_rfl) (fun _ _ _ h => h) (Or.inl ⟨by kernel_rfl, ?_⟩) ⟨c2, c3, c4⟩ ?_
        rotate_left
        · rintro w0 ⟨h1_, h2_, h3_⟩; go_simp; (try with_reducible rfl)
        try simp only [Act.put, List.setIfInBounds_toArray, List.set_cons_zero, List.set_cons_succ]
        refine wpAnyL_take (i := 10) (v := ?_) rfl (by kernel_rfl) (by kernel_rfl) (by kernel_rfl) (by kernel_rfl) (by kernel_rfl) (fun _ _ _ h => h) (Or.inl ⟨by kernel_rfl, ?_⟩) ⟨c2, c3, c4⟩ ?_
        rotate_left
        · rintro w0 ⟨h1_, h2_, h3_⟩; go_simp; (try with_reducible rfl)
        try simp only [Act.put, List.setIfInBounds_toArray, List.set_cons_zero, List.set_cons_succ]
        refine wpAnyL_take (i := 11) (v := ?_) rfl (by kernel_rfl) (by kernel_rfl) (by kernel_rfl) (by kernel_rfl) (by kernel_rfl) (fun _ _ _ h => h) (Or.inl ⟨by kernel_rfl, ?_⟩) ⟨c2, c3, c4⟩ ?_
        rotate_left
        · rintro w0 ⟨h1_, h2_, h3_⟩; go_simp; (try with_reducible rfl)
        try simp only [Act.put, List.setIfInBounds_toArray, List.set_cons_zero, List.set_cons_succ]
        refine wpAnyL_take (i := 12) (v := ?_) rfl (by kernel_rfl) (by kernel_rfl) (by kernel_rfl) (by kernel_rfl) (by kernel_rfl) (fun _ _ _ h => h) (Or.inl ⟨by kernel_rfl, ?_⟩) ⟨c2, c3, c4⟩ ?_
        rotate_left
        · rintro w0 ⟨h1_, h2_, h3_⟩; go_simp; (try with_reducible rfl)
        try simp only [Act.put, List.setIfInBounds_toArray, List.set_cons_zero, List.set_cons_succ]
        refine wpAnyL_take (i := 13) (v := ?_) rfl (by kernel_rfl) (by kernel_rfl) (by kernel_rfl) (by kernel_rfl) (by kernel_rfl) (fun _ _ _ h => h) (Or.inl ⟨by kernel_rfl, ?_⟩) ⟨c2, c3, c4⟩ ?_
        rotate_left
        · rintro w0 ⟨h1_, h2_, h3_⟩; go_simp; (try with_reducible rfl)
        try simp only [Act.put, List.setIfInBounds_toArray, List.set_cons_zero, List.set_cons_succ]
        refine wpAnyL_take (i := 14) (v := ?_) rfl (by kernel_rfl) (by kernel_rfl) (by kernel_rfl) (by kernel_rfl) (by kernel_rfl) (fun _ _ _ h => h) (Or.inl ⟨by kernel_rfl, ?_⟩) ⟨c2, c3, c4⟩ ?_
        rotate_left
        · rintro w0 ⟨h1_, h2_, h3_⟩; go_simp; (try with_reducible rfl)
        try simp only [Act.put, List.setIfInBounds_toArray, List.set_cons_zero, List.set_cons_succ]
        refine wpAnyL_take (i := 15) (v := ?_) rfl (by kernel_rfl) (by kernel_rfl) (by kernel_rfl) (by kernel_rfl) (by kernel_rfl) (fun _ _ _ h => h) (Or.inl ⟨by kernel_rfl, ?_⟩) ⟨c2, c3, c4⟩ ?_
        rotate_left
        · rintro w0 ⟨h1_, h2_, h3_⟩; go_simp; (try with_reducible rfl)
        try simp only [Act.put, List.setIfInBounds_toArray, List.set_cons_zero, List.set_cons_succ]
        refine wpAnyL_take (i := 16) (v := ?_) rfl (by kernel_rfl) (by kernel_rfl) (by kernel_rfl) (by kernel_rfl) (by kernel_rfl) (fun _ _ _ h => h) (Or.inl ⟨by kernel_rfl, ?_⟩) ⟨c2, c3, c4⟩ ?_
        rotate_left
        · rintro w0 ⟨h1_, h2_, h3_⟩; go_simp; (try with_reducible rfl)
        try simp only [Act.put, List.setIfInBounds_toArray, List.set_cons_zero, List.set_cons_succ]
        refine wpAnyL_take (i := 17) (v := ?_) rfl (by kernel_rfl) (by kernel_rfl) (by kernel_rfl) (by kernel_rfl) (by kernel_rfl) (fun _ _ _ h => h) (Or.inl ⟨by kernel_rfl, ?_⟩) ⟨c2, c3, c4⟩ ?_
        rotate_left
        · rintro w0 ⟨h1_, h2_, h3_⟩; go_simp; (try with_reducible rfl)
        try simp only [Act.put, List.setIfInBounds_toArray, List.set_cons_zero, List.set_cons_succ]
        refine wpAnyL_take (i := 18) (v := ?_) rfl (by kernel_rfl) (by kernel_rfl) (by kernel_rfl) (by kernel_rfl) (by kernel_rfl) (fun _ _ _ h => h) (Or.inl ⟨by kernel_rfl, ?_⟩) ⟨c2, c3, c4⟩ ?_
        rotate_left
        · rintro w0 ⟨h1_, h2_, h3_⟩; go_simp; (try with_reducible rfl)
        try simp only [Act.put, List.setIfInBounds_toArray, List.set_cons_zero, List.set_cons_succ]
        refine wpAnyL_take (i := 19) (v := ?_) rfl (by kernel_rfl) (by kernel_rfl) (by kernel_rfl) (by kernel_rfl) (by kernel_rfl) (fun _ _ _ h => h) (Or.inl ⟨by kernel_rfl, ?_⟩) ⟨c2, c3, c4⟩ ?_
        rotate_left
        · rintro w0 ⟨h1_, h2_, h3_⟩; go_simp; (try with_reducible rfl)
        try simp only [Act.put, List.setIfInBounds_toArray, List.set_cons_zero, List.set_cons_succ]
        refine wpAnyL_take (i := 20) (v := ?_) rfl (by kernel_rfl) (by kernel_rfl) (by kernel_rfl) (by kernel_rfl) (by kernel_rfl) (fun _ _ _ h => h) (Or.inl ⟨by kernel_rfl, ?_⟩) ⟨c2, c3, c4⟩ ?_
        rotate_left
        · rintro w0 ⟨h1_, h2_, h3_⟩; go_simp; (try with_reducible rfl)
        try simp only [Act.put, List.setIfInBounds_toArray, List.set_cons_zero, List.set_cons_succ]
        refine wpAnyL_take (i := 21) (v := ?_) rfl (by kernel_rfl) (by kernel_rfl) (by kernel_rfl) (by kernel_rfl) (by kernel_rfl) (fun _ _ _ h => h) (Or.inl ⟨by kernel_rfl, ?_⟩) ⟨c2, c3, c4⟩ ?_
        rotate_left
        · rintro w0 ⟨h1_, h2_, h3_⟩; go_simp; (try with_reducible rfl)
        try simp only [Act.put, List.setIfInBounds_toArray, List.set_cons_zero, List.set_cons_succ]
        refine wpAnyL_take (i := 22) (v := ?_) rfl (by kernel_rfl) (by kernel_rfl) (by kernel_rfl) (by kernel_rfl) (by kernel_rfl) (fun _ _ _ h => h) (Or.inl ⟨by kernel_rfl, ?_⟩) ⟨c2, c3, c4⟩ ?_
        rotate_left
        · rintro w0 ⟨h1_, h2_, h3_⟩; go_simp; (try with_reducible rfl)
        try simp only [Act.put, List.setIfInBounds_toArray, List.set_cons_zero, List.set_cons_succ]
        refine wpAnyL_take (i := 23) (v := ?_) rfl (by kernel_rfl) (by kernel_rfl) (by kernel_rfl) (by kernel_rfl) (by kernel_rfl) (fun _ _ _ h => h) (Or.inl ⟨by kernel_rfl, ?_⟩) ⟨c2, c3, c4⟩ ?_
        rotate_left
        · rintro w0 ⟨h1_, h2_, h3_⟩; go_simp; (try with_reducible rfl)
        try simp only [Act.put, List.setIfInBounds_toArray, List.set_cons_zero, List.set_cons_succ]
        refine wpAnyL_take (i := 24) (v := ?_) rfl (by kernel_rfl) (by kernel_rfl) (by kernel_rfl) (by kernel_rfl) (by kernel_rfl) (fun _ _ _ h => h) (Or.inl ⟨by kernel_rfl, ?_⟩) ⟨c2, c3, c4⟩ ?_
        rotate_left
        · rintro w0 ⟨h1_, h2_, h3_⟩; go_simp; (try with_reducible rfl)
        try simp only [Act.put, List.setIfInBounds_toArray, List.set_cons_zero, List.set_cons_succ]
        refine wpAnyL_one (i := 25) (by kernel_rfl) rfl (fun K hK => ?_)
        go_simp
        refine hK.out _ _ (fun h => absurd (by simp) h) ?_
        clear hK K
        try simp only [Act.put, List.setIfInBounds_toArray, List.set_cons_zero, List.set_cons_succ]
        refine wpAnyL_done (by kernel_rfl) ?_ _
        go_wp2_with fail
        go_ret
        exact ⟨by rw [H.out.1]; rfl, H.out.2.1.at_, H.out.2.2⟩
      · rw [decide_eq_true h1, decide_eq_false h2] at hgo
        have h2b : (bg + 1 == st) = false := by simpa using h2
        simp only [Bool.false_or, Bool.and_false] at hgo
        subst hgo
        refine wp_region_late [25] (fun w' => w'.cell? ⟨g, 2, none⟩ = some (.bool false) ∧ w'.cell? ⟨g, 3, none⟩ = some (.int .i64 st) ∧ w'.cell? ⟨g, 4, none⟩ = some (.int .i64 (bg + 1))) (by kernel_rfl) ?_
        refine wpAnyL_take (i := 0) (v := ?_) rfl (by kernel_rfl) (by kernel_rfl) (by kernel_rfl) (by kernel_rfl) (by kernel_rfl) (fun _ _ _ h => h) (Or.inl ⟨by kernel_rfl, ?_⟩) ⟨c2, c3, c4⟩ ?_
        rotate_left
        · rintro w0 ⟨h1_, h2_, h3_⟩; go_simp; (try with_reducible rfl)
        try simp only [Act.put, List.setIfInBounds_toArray, List.set_cons_zero, List.set_cons_succ]
        refine wpAnyL_take (i := 1) (v := ?_) rfl (by kernel_rfl) (by kernel_rfl) (by kernel_rfl) (by kernel_rfl) (by kernel_rfl) (fun _ _ _ h => h) (Or.inl ⟨by kernel_rfl, ?_⟩) ⟨c2, c3, c4⟩ ?_
        rotate_left
        · rintro w0 ⟨h1_, h2_, h3_⟩; go_simp; (try with_reducible rfl)
        try simp only [Act.put, List.setIfInBounds_toArray, List.set_cons_zero, List.set_cons_succ]
        refine wpAnyL_take (i := 2) (v := ?_) rfl (by kernel_rfl) (by kernel_rfl) (by kernel_rfl) (by kernel_rfl) (by kernel_rfl) (fun _ _ _ h => h) (Or.inl ⟨by kernel_rfl, ?_⟩) ⟨c2, c3, c4⟩ ?_
        rotate_left
        · rintro w0 ⟨h1_, h2_, h3_⟩; go_simp; (try with_reducible rfl)
        try simp only [Act.put, List.setIfInBounds_toArray, List.set_cons_zero, List.set_cons_succ]
        refine wpAnyL_take (i := 3) (v := ?_) rfl (by kernel_rfl) (by kernel_rfl) (by kernel_rfl) (by kernel_rfl) (by kernel_rfl) (fun _ _ _ h => h) (Or.inl ⟨by kernel_rfl, ?_⟩) ⟨c2, c3, c4⟩ ?_
        rotate_left
        · rintro w0 ⟨h1_, h2_, h3_⟩; go_simp; (try with_reducible rfl)
        try simp only [Act.put, List.setIfInBounds_toArray, List.set_cons_zero, List.set_cons_succ]
        refine wpAnyL_take (i := 4) (v := ?_) rfl (by kernel_rfl) (by kernel_rfl) (by kernel_rfl) (by kernel_rfl) (by kernel_rfl) (fun _ _ _ h => h) (Or.inl ⟨by kernel_rfl, ?_⟩) ⟨c2, c3, c4⟩ ?_
        rotate_left
        · rintro w0 ⟨h1_, h2_, h3_⟩; go_simp; (try with_reducible rfl)
        try simp only [Act.put, List.setIfInBounds_toArray, List.set_cons_zero, List.set_cons_succ]
        refine wpAnyL_take (i := 5) (v := ?_) rfl (by kernel_rfl) (by kernel_rfl) (by kernel_rfl) (by kernel_rfl) (by kernel_rfl) (fun _ _ _ h => h) (Or.inl ⟨by kernel_rfl, ?_⟩) ⟨c2, c3, c4⟩ ?_
        rotate_left
        · rintro w0 ⟨h1_, h2_, h3_⟩; go_simp; (try with_reducible rfl)
        try simp only [Act.put, List.setIfInBounds_toArray, List.set_cons_zero, List.set_cons_succ]
        refine wpAnyL_take (i := 6) (v := ?_) rfl (by kernel_rfl) (by kernel_rfl) (by kernel_rfl) (by kernel_rfl) (by kernel_rfl) (fun _ _ _ h => h) (Or.inl ⟨by kernel_rfl, ?_⟩) ⟨c2, c3, c4⟩ ?_
        rotate_left
        · rintro w0 ⟨h1_, h2_, h3_⟩; go_simp; (try with_reducible rfl)
        try simp only [Act.put, List.setIfInBounds_toArray, List.set_cons_zero, List.set_cons_succ]
        refine wpAnyL_take (i := 7) (v := ?_) rfl (by kernel_rfl) (by kernel_rfl) (by kernel_rfl) (by kernel_rfl) (by kernel_rfl) (fun _ _ _ h => h) (Or.inl ⟨by kernel_rfl, ?_⟩) ⟨c2, c3, c4⟩ ?_
        rotate_left
        · rintro w0 ⟨h1_, h2_, h3_⟩; go_simp; (try with_reducible rfl)
        try simp only [Act.put, List.setIfInBounds_toArray, List.set_cons_zero, List.set_cons_succ]
        refine wpAnyL_take (i := 8) (v := ?_) rfl (by kernel_rfl) (by kernel_rfl) (by kernel_rfl) (by kernel_rfl) (by kernel_rfl) (fun _ _ _ h => h) (Or.inl ⟨by kernel_rfl, ?_⟩) ⟨c2, c3, c4⟩ ?_
        rotate_left
        · rintro w0 ⟨h1_, h2_, h3_⟩; go_simp; (try with_reducible rfl)
        try simp only [Act.put, List.setIfInBounds_toArray, List.set_cons_zero, List.set_cons_succ]
        refine wpAnyL_take (i := 9) (v := ?_) rfl (by kernel_rfl) (by kernel_rfl) (by kernel_rfl) (by kernel_rfl) (by kernel_rfl) (fun _ _ _ h => h) (Or.inl ⟨by kernel_rfl, ?_⟩) ⟨c2, c3, c4⟩ ?_
        rotate_left
        · rintro w0 ⟨h1_, h2_, h3_⟩; go_simp; (try with_reducible rfl)
        try simp only [Act.put, List.setIfInBounds_toArray, List.set_cons_zero, List.set_cons_succ]
        refine wpAnyL_take (i := 10) (v := ?_) rfl (by kernel_rfl) (by kernel_rfl) (by kernel_rfl) (by kernel_rfl) (by kernel_rfl) (fun _ _ _ h => h) (Or.inl ⟨by kernel_rfl, ?_⟩) ⟨c2, c3, c4⟩ ?_
        rotate_left
        · rintro w0 ⟨h1_, h2_, h3_⟩; go_simp; (try with_reducible rfl)
        try simp only [Act.put, List.setIfInBounds_toArray, List.set_cons_zero, List.set_cons_succ]
        refine wpAnyL_take (i := 11) (v := ?_) rfl (by kernel_rfl) (by kernel_rfl) (by kernel_rfl) (by kernel_rfl) (by kernel_rfl) (fun _ _ _ h => h) (Or.inl ⟨by kernel_rfl, ?_⟩) ⟨c2, c3, c4⟩ ?_
        rotate_left
        · rintro w0 ⟨h1_, h2_, h3_⟩; go_simp; (try with_reducible rfl)
        try simp only [Act.put, List.setIfInBounds_toArray, List.set_cons_zero, List.set_cons_succ]
        refine wpAnyL_take (i := 12) (v := ?_) rfl (by kernel_rfl) (by kernel_rfl) (by kernel_rfl) (by kernel_rfl) (by kernel_rfl) (fun _ _ _ h => h) (Or.inl ⟨by kernel_rfl, ?_⟩) ⟨c2, c3, c4⟩ ?_
        rotate_left
        · rintro w0 ⟨h1_, h2_, h3_⟩; go_simp; (try with_reducible rfl)
        try simp only [Act.put, List.setIfInBounds_toArray, List.set_cons_zero, List.set_cons_succ]
        refine wpAnyL_take (i := 13) (v := ?_) rfl (by kernel_rfl) (by kernel_rfl) (by kernel_rfl) (by kernel_rfl) (by kernel_rfl) (fun _ _ _ h => h) (Or.inl ⟨by kernel_rfl, ?_⟩) ⟨c2, c3, c4⟩ ?_
        rotate_left
        · rintro w0 ⟨h1_, h2_, h3_⟩; go_simp; (try with_reducible rfl)
        try simp only [Act.put, List.setIfInBounds_toArray, List.set_cons_zero, List.set_cons_succ]
        refine wpAnyL_take (i := 14) (v := ?_) rfl (by kernel_rfl) (by kernel_rfl) (by kernel_rfl) (by kernel_rfl) (by kernel_rfl) (fun _ _ _ h => h) (Or.inl ⟨by kernel_rfl, ?_⟩) ⟨c2, c3, c4⟩ ?_
        rotate_left
        · rintro w0 ⟨h1_, h2_, h3_⟩; go_simp; (try with_reducible rfl)
        try simp only [Act.put, List.setIfInBounds_toArray, List.set_cons_zero, List.set_cons_succ]
        refine wpAnyL_take (i := 15) (v := ?_) rfl (by kernel_rfl) (by kernel_rfl) (by kernel_rfl) (by kernel_rfl) (by kernel_rfl) (fun _ _ _ h => h) (Or.inl ⟨by kernel_rfl, ?_⟩) ⟨c2, c3, c4⟩ ?_
        rotate_left
        · rintro w0 ⟨h1_, h2_, h3_⟩; go_simp; (try with_reducible rfl)
        try simp only [Act.put, List.setIfInBounds_toArray, List.set_cons_zero, List.set_cons_succ]
        refine wpAnyL_take (i := 16) (v := ?_) rfl (by kernel_rfl) (by kernel_rfl) (by kernel_rfl) (by kernel_rfl) (by kernel_rfl) (fun _ _ _ h => h) (Or.inl ⟨by kernel_rfl, ?_⟩) ⟨c2, c3, c4⟩ ?_
        rotate_left
        · rintro w0 ⟨h1_, h2_, h3_⟩; go_simp; (try with_reducible rfl)
        try simp only [Act.put, List.setIfInBounds_toArray, List.set_cons_zero, List.set_cons_succ]
        refine wpAnyL_take (i := 17) (v := ?_) rfl (by kernel_rfl) (by kernel_rfl) (by kernel_rfl) (by kernel_rfl) (by kernel_rfl) (fun _ _ _ h => h) (Or.inl ⟨by kernel_rfl, ?_⟩) ⟨c2, c3, c4⟩ ?_
        rotate_left
        · rintro w0 ⟨h1_, h2_, h3_⟩; go_simp; (try with_reducible rfl)
        try simp only [Act.put, List.setIfInBounds_toArray, List.set_cons_zero, List.set_cons_succ]
        refine wpAnyL_take (i := 18) (v := ?_) rfl (by kernel_rfl) (by kernel_rfl) (by kernel_rfl) (by kernel_rfl) (by kernel_rfl) (fun _ _ _ h => h) (Or.inl ⟨by kernel_rfl, ?_⟩) ⟨c2, c3, c4⟩ ?_
        rotate_left
        · rintro w0 ⟨h1_, h2_, h3_⟩; go_simp; (try with_reducible rfl)
        try simp only [Act.put, List.setIfInBounds_toArray, List.set_cons_zero, List.set_cons_succ]
        refine wpAnyL_take (i := 19) (v := ?_) rfl (by kernel_rfl) (by kernel_rfl) (by kernel_rfl) (by kernel_rfl) (by kernel_rfl) (fun _ _ _ h => h) (Or.inl ⟨by kernel_rfl, ?_⟩) ⟨c2, c3, c4⟩ ?_
        rotate_left
        · rintro w0 ⟨h1_, h2_, h3_⟩; go_simp; (try with_reducible rfl)
        try simp only [Act.put, List.setIfInBounds_toArray, List.set_cons_zero, List.set_cons_succ]
        refine wpAnyL_take (i := 20) (v := ?_) rfl (by kernel_rfl) (by kernel_rfl) (by kernel_rfl) (by kernel_rfl) (by kernel_rfl) (fun _ _ _ h => h) (Or.inl ⟨by kernel_rfl, ?_⟩) ⟨c2, c3, c4⟩ ?_
        rotate_left
        · rintro w0 ⟨h1_, h2_, h3_⟩; go_simp; (try with_reducible rfl)
        try simp only [Act.put, List.setIfInBounds_toArray, List.set_cons_zero, List.set_cons_succ]
        refine wpAnyL_take (i := 21) (v := ?_) rfl (by kernel_rfl) (by kernel_rfl) (by kernel_rfl) (by kernel_rfl) (by kernel_rfl) (fun _ _ _ h => h) (Or.inl ⟨by kernel_rfl, ?_⟩) ⟨c2, c3, c4⟩ ?_
        rotate_left
        · rintro w0 ⟨h1_, h2_, h3_⟩; go_simp; (try with_reducible rfl)
        try simp only [Act.put, List.setIfInBounds_toArray, List.set_cons_zero, List.set_cons_succ]
        refine wpAnyL_take (i := 22) (v := ?_) rfl (by kernel_rfl) (by kernel_rfl) (by kernel_rfl) (by kernel_rfl) (by kernel_rfl) (fun _ _ _ h => h) (Or.inl ⟨by kernel_rfl, ?_⟩) ⟨c2, c3, c4⟩ ?_
        rotate_left
        · rintro w0 ⟨h1_, h2_, h3_⟩; go_simp; (try with_reducible rfl)
        try simp only [Act.put, List.setIfInBounds_toArray, List.set_cons_zero, List.set_cons_succ]
        refine wpAnyL_take (i := 23) (v := ?_) rfl (by kernel_rfl) (by kernel_rfl) (by kernel_rfl) (by kernel_rfl) (by kernel_rfl) (fun _ _ _ h => h) (Or.inl ⟨by kernel_rfl, ?_⟩) ⟨c2, c3, c4⟩ ?_
        rotate_left
        · rintro w0 ⟨h1_, h2_, h3_⟩; go_simp; (try with_reducible rfl)
        try simp only [Act.put, List.setIfInBounds_toArray, List.set_cons_zero, List.set_cons_succ]
        refine wpAnyL_take (i := 24) (v := ?_) rfl (by kernel_rfl) (by kernel_rfl) (by kernel_rfl) (by kernel_rfl) (by kernel_rfl) (fun _ _ _ h => h) (Or.inl ⟨by kernel_rfl, ?_⟩) ⟨c2, c3, c4⟩ ?_
        rotate_left
        · rintro w0 ⟨h1_, h2_, h3_⟩; go_simp; (try with_reducible rfl)
        try simp only [Act.put, List.setIfInBounds_toArray, List.set_cons_zero, List.set_cons_succ]
        refine wpAnyL_one (i := 25) (by kernel_rfl) rfl (fun K hK => ?_)
        go_simp
        refine hK.out _ _ (fun h => absurd (by simp) h) ?_
        clear hK K
        try simp only [Act.put, List.setIfInBounds_toArray, List.set_cons_zero, List.set_cons_succ]
        refine wpAnyL_done (by kernel_rfl) ?_ _
        go_wp2_with fail
        go_ret
        exact ⟨by rw [H.out.1]; rfl, H.out.2.1.at_, H.out.2.2⟩
    · rw [decide_eq_false h1] at hgo
      have h1b : decide (0 < st) = false := decide_eq_false h1
      simp only [Bool.false_or, Bool.false_and] at hgo
      subst hgo
      refine wp_region_late [25] (fun w' => w'.cell? ⟨g, 2, none⟩ = some (.bool false) ∧ w'.cell? ⟨g, 3, none⟩ = some (.int .i64 st) ∧ w'.cell? ⟨g, 4, none⟩ = some (.int .i64 (bg + 1))) (by kernel_rfl) ?_
      refine wpAnyL_take (i := 0) (v := ?_) rfl (by kernel_rfl) (by kernel_rfl) (by kernel_rfl) (by kernel_rfl) (by kernel_rfl) (fun _ _ _ h => h) (Or.inl ⟨by kernel_rfl, ?_⟩) ⟨c2, c3, c4⟩ ?_
      rotate_left
      · rintro w0 ⟨h1_, h2_, h3_⟩; go_simp; (try with_reducible rfl)
      try simp only [Act.put, List.setIfInBounds_toArray, List.set_cons_zero, List.set_cons_succ]
      refine wpAnyL_take (i := 1) (v := ?_) rfl (by kernel_rfl) (by kernel_rfl) (by kernel_rfl) (by kernel_rfl) (by kernel_rfl) (fun _ _ _ h => h) (Or.inl ⟨by kernel_rfl, ?_⟩) ⟨c2, c3, c4⟩ ?_
      rotate_left
      · rintro w0 ⟨h1_, h2_, h3_⟩; go_simp; (try with_reducible rfl)
      try simp only [Act.put, List.setIfInBounds_toArray, List.set_cons_zero, List.set_cons_succ]
      refine wpAnyL_take (i := 2) (v := ?_) rfl (by kernel_rfl) (by kernel_rfl) (by kernel_rfl) (by kernel_rfl) (by kernel_rfl) (fun _ _ _ h => h) (Or.inl ⟨by kernel_rfl, ?_⟩) ⟨c2, c3, c4⟩ ?_
      rotate_left
      · rintro w0 ⟨h1_, h2_, h3_⟩; go_simp; (try with_reducible rfl)
      try simp only [Act.put, List.setIfInBounds_toArray, List.set_cons_zero, List.set_cons_succ]
      refine wpAnyL_take (i := 3) (v := ?_) rfl (by kernel_rfl) (by kernel_rfl) (by kernel_rfl) (by kernel_rfl) (by kernel_rfl) (fun _ _ _ h => h) (Or.inl ⟨by kernel_rfl, ?_⟩) ⟨c2, c3, c4⟩ ?_
      rotate_left
      · rintro w0 ⟨h1_, h2_, h3_⟩; go_simp; (try with_reducible rfl)
      try simp only [Act.put, List.setIfInBounds_toArray, List.set_cons_zero, List.set_cons_succ]
      refine wpAnyL_take (i := 4) (v := ?_) rfl (by kernel_rfl) (by kernel_rfl) (by kernel_rfl) (by kernel_rfl) (by kernel_rfl) (fun _ _ _ h => h) (Or.inl ⟨by kernel_rfl, ?_⟩) ⟨c2, c3, c4⟩ ?_
      rotate_left
      · rintro w0 ⟨h1_, h2_, h3_⟩; go_simp; (try with_reducible rfl)
      try simp only [Act.put, List.setIfInBounds_toArray, List.set_cons_zero, List.set_cons_succ]
      refine wpAnyL_take (i := 5) (v := ?_) rfl (by kernel_rfl) (by kernel_rfl) (by kernel_rfl) (by kernel_rfl) (by kernel_rfl) (fun _ _ _ h => h) (Or.inl ⟨by kernel_rfl, ?_⟩) ⟨c2, c3, c4⟩ ?_
      rotate_left
      · rintro w0 ⟨h1_, h2_, h3_⟩; go_simp; (try with_reducible rfl)
      try simp only [Act.put, List.setIfInBounds_toArray, List.set_cons_zero, List.set_cons_succ]
      refine wpAnyL_take (i := 6) (v := ?_) rfl (by kernel_rfl) (by kernel_rfl) (by kernel_rfl) (by kernel_rfl) (by kernel_rfl) (fun _ _ _ h => h) (Or.inl ⟨by kernel_rfl, ?_⟩) ⟨c2, c3, c4⟩ ?_
      rotate_left
      · rintro w0 ⟨h1_, h2_, h3_⟩; go_simp; (try with_reducible rfl)
      try simp only [Act.put, List.setIfInBounds_toArray, List.set_cons_zero, List.set_cons_succ]
      refine wpAnyL_take (i := 7) (v := ?_) rfl (by kernel_rfl) (by kernel_rfl) (by kernel_rfl) (by kernel_rfl) (by kernel_rfl) (fun _ _ _ h => h) (Or.inl ⟨by kernel_rfl, ?_⟩) ⟨c2, c3, c4⟩ ?_
      rotate_left
      · rintro w0 ⟨h1_, h2_, h3_⟩; go_simp; (try with_reducible rfl)
      try simp only [Act.put, List.setIfInBounds_toArray, List.set_cons_zero, List.set_cons_succ]
      refine wpAnyL_take (i := 8) (v := ?_) rfl (by kernel_rfl) (by kernel_rfl) (by kernel_rfl) (by kernel_rfl) (by kernel_rfl) (fun _ _ _ h => h) (Or.inl ⟨by kernel_rfl, ?_⟩) ⟨c2, c3, c4⟩ ?_
      rotate_left
      · rintro w0 ⟨h1_, h2_, h3_⟩; go_simp; (try with_reducible rfl)
      try simp only [Act.put, List.setIfInBounds_toArray, List.set_cons_zero, List.set_cons_succ]
      refine wpAnyL_take (i := 9) (v := ?_) rfl (by kernel_rfl) (by kernel_rfl) (by kernel_rfl) (by kernel_rfl) (by kernel_rfl) (fun _ _ _ h => h) (Or.inl ⟨by kernel_rfl, ?_⟩) ⟨c2, c3, c4⟩ ?_
      rotate_left
      · rintro w0 ⟨h1_, h2_, h3_⟩; go_simp; (try with_reducible rfl)
      try simp only [Act.put, List.setIfInBounds_toArray, List.set_cons_zero, List.set_cons_succ]
      refine wpAnyL_take (i := 10) (v := ?_) rfl (by kernel_rfl) (by kernel_rfl) (by kernel_rfl) (by kernel_rfl) (by kernel_rfl) (fun _ _ _ h => h) (Or.inl ⟨by kernel_rfl, ?_⟩) ⟨c2, c3, c4⟩ ?_
      rotate_left
      · rintro w0 ⟨h1_, h2_, h3_⟩; go_simp; (try with_reducible rfl)
      try simp only [Act.put, List.setIfInBounds_toArray, List.set_cons_zero, List.set_cons_succ]
      refine wpAnyL_take (i := 11) (v := ?_) rfl (by kernel_rfl) (by kernel_rfl) (by kernel_rfl) (by kernel_rfl) (by kernel_rfl) (fun _ _ _ h => h) (Or.inl ⟨by kernel_rfl, ?_⟩) ⟨c2, c3, c4⟩ ?_
      rotate_left
      · rintro w0 ⟨h1_, h2_, h3_⟩; go_simp; (try with_reducible rfl)
      try simp only [Act.put, List.setIfInBounds_toArray, List.set_cons_zero, List.set_cons_succ]
      refine wpAnyL_take (i := 12) (v := undef) rfl (by kernel_rfl) (by kernel_rfl) (by kernel_rfl) (by kernel_rfl) (by kernel_rfl) (fun _ _ _ h => h) (Or.inr ⟨by kernel_rfl, rfl⟩) ⟨c2, c3, c4⟩ ?_
      try simp only [Act.put, List.setIfInBounds_toArray, List.set_cons_zero, List.set_cons_succ]
      refine wpAnyL_take (i := 13) (v := undef) rfl (by kernel_rfl) (by kernel_rfl) (by kernel_rfl) (by kernel_rfl) (by kernel_rfl) (fun _ _ _ h => h) (Or.inr ⟨by kernel_rfl, rfl⟩) ⟨c2, c3, c4⟩ ?_
      try simp only [Act.put, List.setIfInBounds_toArray, List.set_cons_zero, List.set_cons_succ]
      refine wpAnyL_take (i := 14) (v := undef) rfl (by kernel_rfl) (by kernel_rfl) (by kernel_rfl) (by kernel_rfl) (by kernel_rfl) (fun _ _ _ h => h) (Or.inr ⟨by kernel_rfl, rfl⟩) ⟨c2, c3, c4⟩ ?_
      try simp only [Act.put, List.setIfInBounds_toArray, List.set_cons_zero, List.set_cons_succ]
      refine wpAnyL_take (i := 15) (v := undef) rfl (by kernel_rfl) (by kernel_rfl) (by kernel_rfl) (by kernel_rfl) (by kernel_rfl) (fun _ _ _ h => h) (Or.inr ⟨by kernel_rfl, rfl⟩) ⟨c2, c3, c4⟩ ?_
      try simp only [Act.put, List.setIfInBounds_toArray, List.set_cons_zero, List.set_cons_succ]
      refine wpAnyL_take (i := 16) (v := undef) rfl (by kernel_rfl) (by kernel_rfl) (by kernel_rfl) (by kernel_rfl) (by kernel_rfl) (fun _ _ _ h => h) (Or.inr ⟨by kernel_rfl, rfl⟩) ⟨c2, c3, c4⟩ ?_
      try simp only [Act.put, List.setIfInBounds_toArray, List.set_cons_zero, List.set_cons_succ]
      refine wpAnyL_take (i := 17) (v := undef) rfl (by kernel_rfl) (by kernel_rfl) (by kernel_rfl) (by kernel_rfl) (by kernel_rfl) (fun _ _ _ h => h) (Or.inr ⟨by kernel_rfl, rfl⟩) ⟨c2, c3, c4⟩ ?_
      try simp only [Act.put, List.setIfInBounds_toArray, List.set_cons_zero, List.set_cons_succ]
      refine wpAnyL_take (i := 18) (v := undef) rfl (by kernel_rfl) (by kernel_rfl) (by kernel_rfl) (by kernel_rfl) (by kernel_rfl) (fun _ _ _ h => h) (Or.inr ⟨by kernel_rfl, rfl⟩) ⟨c2, c3, c4⟩ ?_
      try simp only [Act.put, List.setIfInBounds_toArray, List.set_cons_zero, List.set_cons_succ]
      refine wpAnyL_take (i := 19) (v := undef) rfl (by kernel_rfl) (by kernel_rfl) (by kernel_rfl) (by kernel_rfl) (by kernel_rfl) (fun _ _ _ h => h) (Or.inr ⟨by kernel_rfl, rfl⟩) ⟨c2, c3, c4⟩ ?_
      try simp only [Act.put, List.setIfInBounds_toArray, List.set_cons_zero, List.set_cons_succ]
      refine wpAnyL_take (i := 20) (v := undef) rfl (by kernel_rfl) (by kernel_rfl) (by kernel_rfl) (by kernel_rfl) (by kernel_rfl) (fun _ _ _ h => h) (Or.inr ⟨by kernel_rfl, rfl⟩) ⟨c2, c3, c4⟩ ?_
      try simp only [Act.put, List.setIfInBounds_toArray, List.set_cons_zero, List.set_cons_succ]
      refine wpAnyL_take (i := 21) (v := ?_) rfl (by kernel_rfl) (by kernel_rfl) (by kernel_rfl) (by kernel_rfl) (by kernel_rfl) (fun _ _ _ h => h) (Or.inl ⟨by kernel_rfl, ?_⟩) ⟨c2, c3, c4⟩ ?_
      rotate_left
      · rintro w0 ⟨h1_, h2_, h3_⟩; go_simp; (try with_reducible rfl)
      try simp only [Act.put, List.setIfInBounds_toArray, List.set_cons_zero, List.set_cons_succ]
      refine wpAnyL_take (i := 22) (v := ?_) rfl (by kernel_rfl) (by kernel_rfl) (by kernel_rfl) (by kernel_rfl) (by kernel_rfl) (fun _ _ _ h => h) (Or.inl ⟨by kernel_rfl, ?_⟩) ⟨c2, c3, c4⟩ ?_
      rotate_left
      · rintro w0 ⟨h1_, h2_, h3_⟩; go_simp; (try with_reducible rfl)
      try simp only [Act.put, List.setIfInBounds_toArray, List.set_cons_zero, List.set_cons_succ]
      refine wpAnyL_take (i := 23) (v := ?_) rfl (by kernel_rfl) (by kernel_rfl) (by kernel_rfl) (by kernel_rfl) (by kernel_rfl) (fun _ _ _ h => h) (Or.inl ⟨by kernel_rfl, ?_⟩) ⟨c2, c3, c4⟩ ?_
      rotate_left
      · rintro w0 ⟨h1_, h2_, h3_⟩; go_simp; (try with_reducible rfl)
      try simp only [Act.put, List.setIfInBounds_toArray, List.set_cons_zero, List.set_cons_succ]
      refine wpAnyL_take (i := 24) (v := ?_) rfl (by kernel_rfl) (by kernel_rfl) (by kernel_rfl) (by kernel_rfl) (by kernel_rfl) (fun _ _ _ h => h) (Or.inl ⟨by kernel_rfl, ?_⟩) ⟨c2, c3, c4⟩ ?_
      rotate_left
      · rintro w0 ⟨h1_, h2_, h3_⟩; go_simp; (try with_reducible rfl)
      try simp only [Act.put, List.setIfInBounds_toArray, List.set_cons_zero, List.set_cons_succ]
      refine wpAnyL_one (i := 25) (by kernel_rfl) rfl (fun K hK => ?_)
      go_simp
      refine hK.out _ _ (fun h => absurd (by simp) h) ?_
      clear hK K
      try simp only [Act.put, List.setIfInBounds_toArray, List.set_cons_zero, List.set_cons_succ]
      refine wpAnyL_done (by kernel_rfl) ?_ _
      go_wp2_with fail
      go_ret
      exact ⟨by rw [H.out.1]; rfl, H.out.2.1.at_, H.out.2.2⟩
  · simp only [Bool.true_or] at hgo
    subst hgo
    refine wp_region_late [25] (fun w' => w'.cell? ⟨g, 2, none⟩ = some (.bool true) ∧ w'.cell? ⟨g, 3, none⟩ = some (.int .i64 st) ∧ w'.cell? ⟨g, 4, none⟩ = some (.int .i64 (bg + 1))) (by kernel_rfl) ?_
    refine wpAnyL_take (i := 0) (v := ?_) rfl (by kernel_rfl) (by kernel_rfl) (by kernel_rfl) (by kernel_rfl) (by kernel_rfl) (fun _ _ _ h => h) (Or.inl ⟨by kernel_rfl, ?_⟩) ⟨c2, c3, c4⟩ ?_
    rotate_left
    · rintro w0 ⟨h1_, h2_, h3_⟩; go_simp; (try with_reducible rfl)
    try simp only [Act.put, List.setIfInBounds_toArray, List.set_cons_zero, List.set_cons_succ]
    refine wpAnyL_take (i := 1) (v := ?_) rfl (by kernel_rfl) (by kernel_rfl) (by kernel_rfl) (by kernel_rfl) (by kernel_rfl) (fun _ _ _ h => h) (Or.inl ⟨by kernel_rfl, ?_⟩) ⟨c2, c3, c4⟩ ?_
    rotate_left
    · rintro w0 ⟨h1_, h2_, h3_⟩; go_simp; (try with_reducible rfl)
    try simp only [Act.put, List.setIfInBounds_toArray, List.set_cons_zero, List.set_cons_succ]
    refine wpAnyL_take (i := 2) (v := ?_) rfl (by kernel_rfl) (by kernel_rfl) (by kernel_rfl) (by kernel_rfl) (by kernel_rfl) (fun _ _ _ h => h) (Or.inl ⟨by kernel_rfl, ?_⟩) ⟨c2, c3, c4⟩ ?_
    rotate_left
    · rintro w0 ⟨h1_, h2_, h3_⟩; go_simp; (try with_reducible rfl)
    try simp only [Act.put, List.setIfInBounds_toArray, List.set_cons_zero, List.set_cons_succ]
    refine wpAnyL_take (i := 3) (v := ?_) rfl (by kernel_rfl) (by kernel_rfl) (by kernel_rfl) (by kernel_rfl) (by kernel_rfl) (fun _ _ _ h => h) (Or.inl ⟨by kernel_rfl, ?_⟩) ⟨c2, c3, c4⟩ ?_
    rotate_left
    · rintro w0 ⟨h1_, h2_, h3_⟩; go_simp; (try with_reducible rfl)
    try simp only [Act.put, List.setIfInBounds_toArray, List.set_cons_zero, List.set_cons_succ]
    refine wpAnyL_take (i := 4) (v := ?_) rfl (by kernel_rfl) (by kernel_rfl) (by kernel_rfl) (by kernel_rfl) (by kernel_rfl) (fun _ _ _ h => h) (Or.inl ⟨by kernel_rfl, ?_⟩) ⟨c2, c3, c4⟩ ?_
    rotate_left
    · rintro w0 ⟨h1_, h2_, h3_⟩; go_simp; (try with_reducible rfl)
    try simp only [Act.put, List.setIfInBounds_toArray, List.set_cons_zero, List.set_cons_succ]
    refine wpAnyL_take (i := 5) (v := ?_) rfl (by kernel_rfl) (by kernel_rfl) (by kernel_rfl) (by kernel_rfl) (by kernel_rfl) (fun _ _ _ h => h) (Or.inl ⟨by kernel_rfl, ?_⟩) ⟨c2, c3, c4⟩ ?_
    rotate_left
    · rintro w0 ⟨h1_, h2_, h3_⟩; go_simp; (try with_reducible rfl)
    try simp only [Act.put, List.setIfInBounds_toArray, List.set_cons_zero, List.set_cons_succ]
    refine wpAnyL_take (i := 6) (v := undef) rfl (by kernel_rfl) (by kernel_rfl) (by kernel_rfl) (by kernel_rfl) (by kernel_rfl) (fun _ _ _ h => h) (Or.inr ⟨by kernel_rfl, rfl⟩) ⟨c2, c3, c4⟩ ?_
    try simp only [Act.put, List.setIfInBounds_toArray, List.set_cons_zero, List.set_cons_succ]
    refine wpAnyL_take (i := 7) (v := undef) rfl (by kernel_rfl) (by kernel_rfl) (by kernel_rfl) (by kernel_rfl) (by kernel_rfl) (fun _ _ _ h => h) (Or.inr ⟨by kernel_rfl, rfl⟩) ⟨c2, c3, c4⟩ ?_
    try simp only [Act.put, List.setIfInBounds_toArray, List.set_cons_zero, List.set_cons_succ]
    refine wpAnyL_take (i := 8) (v := undef) rfl (by kernel_rfl) (by kernel_rfl) (by kernel_rfl) (by kernel_rfl) (by kernel_rfl) (fun _ _ _ h => h) (Or.inr ⟨by kernel_rfl, rfl⟩) ⟨c2, c3, c4⟩ ?_
    try simp only [Act.put, List.setIfInBounds_toArray, List.set_cons_zero, List.set_cons_succ]
    refine wpAnyL_take (i := 9) (v := undef) rfl (by kernel_rfl) (by kernel_rfl) (by kernel_rfl) (by kernel_rfl) (by kernel_rfl) (fun _ _ _ h => h) (Or.inr ⟨by kernel_rfl, rfl⟩) ⟨c2, c3, c4⟩ ?_
    try simp only [Act.put, List.setIfInBounds_toArray, List.set_cons_zero, List.set_cons_succ]
    refine wpAnyL_take (i := 10) (v := undef) rfl (by kernel_rfl) (by kernel_rfl) (by kernel_rfl) (by kernel_rfl) (by kernel_rfl) (fun _ _ _ h => h) (Or.inr ⟨by kernel_rfl, rfl⟩) ⟨c2, c3, c4⟩ ?_
    try simp only [Act.put, List.setIfInBounds_toArray, List.set_cons_zero, List.set_cons_succ]
    refine wpAnyL_take (i := 11) (v := undef) rfl (by kernel_rfl) (by kernel_rfl) (by kernel_rfl) (by kernel_rfl) (by kernel_rfl) (fun _ _ _ h => h) (Or.inr ⟨by kernel_rfl, rfl⟩) ⟨c2, c3, c4⟩ ?_
    try simp only [Act.put, List.setIfInBounds_toArray, List.set_cons_zero, List.set_cons_succ]
    refine wpAnyL_take (i := 12) (v := undef) rfl (by kernel_rfl) (by kernel_rfl) (by kernel_rfl) (by kernel_rfl) (by kernel_rfl) (fun _ _ _ h => h) (Or.inr ⟨by kernel_rfl, rfl⟩) ⟨c2, c3, c4⟩ ?_
    try simp only [Act.put, List.setIfInBounds_toArray, List.set_cons_zero, List.set_cons_succ]
    refine wpAnyL_take (i := 13) (v := undef) rfl (by kernel_rfl) (by kernel_rfl) (by kernel_rfl) (by kernel_rfl) (by kernel_rfl) (fun _ _ _ h => h) (Or.inr ⟨by kernel_rfl, rfl⟩) ⟨c2, c3, c4⟩ ?_
    try simp only [Act.put, List.setIfInBounds_toArray, List.set_cons_zero, List.set_cons_succ]
    refine wpAnyL_take (i := 14) (v := undef) rfl (by kernel_rfl) (by kernel_rfl) (by kernel_rfl) (by kernel_rfl) (by kernel_rfl) (fun _ _ _ h => h) (Or.inr ⟨by kernel_rfl, rfl⟩) ⟨c2, c3, c4⟩ ?_
    try simp only [Act.put, List.setIfInBounds_toArray, List.set_cons_zero, List.set_cons_succ]
    refine wpAnyL_take (i := 15) (v := undef) rfl (by kernel_rfl) (by kernel_rfl) (by kernel_rfl) (by kernel_rfl) (by kernel_rfl) (fun _ _ _ h => h) (Or.inr ⟨by kernel_rfl, rfl⟩) ⟨c2, c3, c4⟩ ?_
    try simp only [Act.put, List.setIfInBounds_toArray, List.set_cons_zero, List.set_cons_succ]
    refine wpAnyL_take (i := 16) (v := undef) rfl (by kernel_rfl) (by kernel_rfl) (by kernel_rfl) (by kernel_rfl) (by kernel_rfl) (fun _ _ _ h => h) (Or.inr ⟨by kernel_rfl, rfl⟩) ⟨c2, c3, c4⟩ ?_
    try simp only [Act.put, List.setIfInBounds_toArray, List.set_cons_zero, List.set_cons_succ]
    refine wpAnyL_take (i := 17) (v := undef) rfl (by kernel_rfl) (by kernel_rfl) (by kernel_rfl) (by kernel_rfl) (by kernel_rfl) (fun _ _ _ h => h) (Or.inr ⟨by kernel_rfl, rfl⟩) ⟨c2, c3, c4⟩ ?_
    try simp only [Act.put, List.setIfInBounds_toArray, List.set_cons_zero, List.set_cons_succ]
    refine wpAnyL_take (i := 18) (v := undef) rfl (by kernel_rfl) (by kernel_rfl) (by kernel_rfl) (by kernel_rfl) (by kernel_rfl) (fun _ _ _ h => h) (Or.inr ⟨by kernel_rfl, rfl⟩) ⟨c2, c3, c4⟩ ?_
    try simp only [Act.put, List.setIfInBounds_toArray, List.set_cons_zero, List.set_cons_succ]
    refine wpAnyL_take (i := 19) (v := undef) rfl (by kernel_rfl) (by kernel_rfl) (by kernel_rfl) (by kernel_rfl) (by kernel_rfl) (fun _ _ _ h => h) (Or.inr ⟨by kernel_rfl, rfl⟩) ⟨c2, c3, c4⟩ ?_
    try simp only [Act.put, List.setIfInBounds_toArray, List.set_cons_zero, List.set_cons_succ]
    refine wpAnyL_take (i := 20) (v := undef) rfl (by kernel_rfl) (by kernel_rfl) (by kernel_rfl) (by kernel_rfl) (by kernel_rfl) (fun _ _ _ h => h) (Or.inr ⟨by kernel_rfl, rfl⟩) ⟨c2, c3, c4⟩ ?_
    try simp only [Act.put, List.setIfInBounds_toArray, List.set_cons_zero, List.set_cons_succ]
    refine wpAnyL_take (i := 21) (v := undef) rfl (by kernel_rfl) (by kernel_rfl) (by kernel_rfl) (by kernel_rfl) (by kernel_rfl) (fun _ _ _ h => h) (Or.inr ⟨by kernel_rfl, rfl⟩) ⟨c2, c3, c4⟩ ?_
    try simp only [Act.put, List.setIfInBounds_toArray, List.set_cons_zero, List.set_cons_succ]
    refine wpAnyL_take (i := 22) (v := ?_) rfl (by kernel_rfl) (by kernel_rfl) (by kernel_rfl) (by kernel_rfl) (by kernel_rfl) (fun _ _ _ h => h) (Or.inl ⟨by kernel_rfl, ?_⟩) ⟨c2, c3, c4⟩ ?_
    rotate_left
    · rintro w0 ⟨h1_, h2_, h3_⟩; go_simp; (try with_reducible rfl)
    try simp only [Act.put, List.setIfInBounds_toArray, List.set_cons_zero, List.set_cons_succ]
    refine wpAnyL_take (i := 23) (v := ?_) rfl (by kernel_rfl) (by kernel_rfl) (by kernel_rfl) (by kernel_rfl) (by kernel_rfl) (fun _ _ _ h => h) (Or.inl ⟨by kernel_rfl, ?_⟩) ⟨c2, c3, c4⟩ ?_
    rotate_left
    · rintro w0 ⟨h1_, h2_, h3_⟩; go_simp; (try with_reducible rfl)
    try simp only [Act.put, List.setIfInBounds_toArray, List.set_cons_zero, List.set_cons_succ]
    refine wpAnyL_take (i := 24) (v := ?_) rfl (by kernel_rfl) (by kernel_rfl) (by kernel_rfl) (by kernel_rfl) (by kernel_rfl) (fun _ _ _ h => h) (Or.inl ⟨by kernel_rfl, ?_⟩) ⟨c2, c3, c4⟩ ?_
    rotate_left
    · rintro w0 ⟨h1_, h2_, h3_⟩; go_simp; (try with_reducible rfl)
    try simp only [Act.put, List.setIfInBounds_toArray, List.set_cons_zero, List.set_cons_succ]
    refine wpAnyL_one (i := 25) (by kernel_rfl) rfl (fun K hK => ?_)
    go_simp
    refine hK.out _ _ (fun h => absurd (by simp) h) ?_
    clear hK K
    try simp only [Act.put, List.setIfInBounds_toArray, List.set_cons_zero, List.set_cons_succ]
    refine wpAnyL_done (by kernel_rfl) ?_ _
    go_wp2_with fail
    go_ret
    exact ⟨by rw [H.out.1]; rfl, H.out.2.1.at_, H.out.2.2⟩
end Go.Proofs.YtdlcngmcjidomaaDoor

/- disk.Read. No condition. -/
namespace Go.Proofs.YtdlcngmcjidomaaDoor
set_option linter.unusedSimpArgs false
set_option linter.unusedVariables false
open Go.RowKit

section
variable {w w' : World} {T T1 : List Nat} {g : Nat} {s : DSt} {A : Option Addr} {n c : Nat} {pA : Option Addr} {pn pc : Nat} {xs : List BEl} {ys : List (Nat × BEl)}
theorem DiskIn.sx (h : DiskIn w T g s A n c pA pn pc xs ys) {i : Nat} (hi : i < n) : ∃ x b, xs[i]? = some x ∧ x.In w ∧ A = some ⟨b, 0, none⟩ ∧ b < w.heap.size ∧ w.cell? ⟨b, i, none⟩ = some (.slice x.A x.n x.c) ∧ w.frozen? ⟨b, i, none⟩ = false ∧ s.sure.getD i [] = x.l := by
  have hn := h.n_eq
  rw [h.es, List.length_map] at hn
  have hx : xs[i]? = some xs[i] := List.getElem?_eq_getElem (by omega)
  obtain ⟨b, e, _, hb, hc, hf⟩ := h.sure.get (j := i) (u := xs[i].v) (by rw [List.getElem?_map, hx]; rfl)
  exact ⟨xs[i], b, hx, h.xin _ (List.getElem_mem _), e, hb, hc, hf, by rw [h.es, List.getD_eq_getElem?_getD, List.getElem?_map, hx]; rfl⟩
theorem DiskIn.py (h : DiskIn w T g s A n c pA pn pc xs ys) {k : Nat} (hk : k < pn) : ∃ i y b, ys[k]? = some (i, y) ∧ y.In w ∧ pA = some ⟨b, 0, none⟩ ∧ b < w.heap.size ∧ w.cell? ⟨b, k * 2, none⟩ = some (.int .i64 (i : Int)) ∧ w.cell? ⟨b, k * 2 + 1, none⟩ = some (.slice y.A y.n y.c) ∧ s.pend[k]? = some (i, y.l) := by
  have hn := h.pn_eq
  rw [h.ep, List.length_map] at hn
  have hy : ys[k]? = some ys[k] := List.getElem?_eq_getElem (by omega)
  obtain ⟨h1, h2⟩ := flatW_get hy
  obtain ⟨b, e, _, hb, hc, _⟩ := h.pend.get h1
  obtain ⟨b', e', _, _, hc', _⟩ := h.pend.get h2
  rw [e] at e'
  cases e'
  exact ⟨ys[k].1, ys[k].2, b, hy, h.yin _ (List.getElem_mem _), e, hb, hc, hc', by rw [h.ep, List.getElem?_map, hy]; rfl⟩
theorem ret_vc {v : Value} {a b : Int} (h : a = b) : Ending.returned (.tuple #[v, .int .i64 a]) = .returned (.tuple #[v, .int .i64 b]) := by rw [h]
theorem BEl.In.alloc {x : BEl} (h : x.In w) (o : Obj) : x.In (w.alloc o) := ⟨h.own.alloc o, h.nil⟩
theorem BEl.In.drew {x : BEl} (h : x.In w) : x.In w.drew := ⟨h.own.drew, h.nil⟩
theorem BEl.In.of_own {base : Nat} {l : List Nat} (h : OwnI w base .u8 256 5 A n c l) (hne : l ≠ []) : BEl.In w ⟨A, n, c, l⟩ :=
  ⟨h.mono (Nat.zero_le _), ⟨(fun e => by
    dsimp only at e
    subst e
    rcases h.own.form with ⟨_, _, _, h4⟩ | ⟨_, _, h1, _⟩
    · exact List.map_eq_nil_iff.1 h4
    · cases h1), fun e => absurd e hne⟩⟩
theorem DiskIn.pn_le (h : DiskIn w T g s A n c pA pn pc xs ys) : (pn : Int) ≤ 9223372036854775807 := by
  rcases h.pend.form with ⟨_, rfl, _⟩ | ⟨_, _, _, _, _, h1, h2, _⟩
  · decide
  · unfold maxLen at h2; omega
theorem lastOf_64 (p : List (Nat × List Nat)) (i : Nat) (d : List Nat) (hp : ∀ x ∈ p, x.2.length = 64) (hd : d = [] ∨ d.length = 64) : DSt.lastOf p i d = [] ∨ (DSt.lastOf p i d).length = 64 := by
  revert d
  induction p with
  | nil => exact fun _ hd => hd
  | cons x p ih =>
    intro d hd
    rw [DSt.lastOf_cons]
    refine ih (fun y hy => hp y (List.mem_cons_of_mem _ hy)) _ ?_
    by_cases h : x.1 = i
    · rw [if_pos h]; exact .inr (hp x (by simp))
    · rw [if_neg h]; exact hd
theorem DSt.Wf.getD (h : s.Wf) (i : Nat) : s.sure.getD i [] = [] ∨ (s.sure.getD i []).length = 64 := by
  rw [List.getD_eq_getElem?_getD]
  cases hx : s.sure[i]? with
  | none => exact .inl rfl
  | some x => exact h.sure x (List.mem_of_getElem? hx)
theorem DSt.Wf.last (h : s.Wf) (k i : Nat) : DSt.lastOf (s.pend.take k) i (s.sure.getD i []) = [] ∨ (DSt.lastOf (s.pend.take k) i (s.sure.getD i [])).length = 64 :=
  lastOf_64 _ _ _ (fun x hx => (h.pend x (List.mem_of_mem_take hx)).2) (h.getD i)
theorem lastOf_take {p : List (Nat × List Nat)} {k i j : Nat} {d l : List Nat} (h : p[k]? = some (j, l)) : DSt.lastOf (p.take (k + 1)) i d = if j = i then l else DSt.lastOf (p.take k) i d := by
  rw [List.take_add_one, h, Option.toList_some, DSt.lastOf_snoc]
end

set_option maxRecDepth 100000 in
set_option maxHeartbeats 1600000 in
theorem dread_any {w : World} {T : List Nat} {g : Nat} {s : DSt} (D : DiskAt w T g s) (i : Int) :
    Calls Tryd.prog 56 #[.pointer (some ⟨g, 0, none⟩), .int .i64 i] w fun e w' => ∃ A n c, e = .returned (.tuple #[.slice A n c, .int .i64 (s.read i).2]) ∧ BEl.In w' ⟨A, n, c, (s.read i).1⟩ ∧ Below w.heap.size w w' := by
  have is := fun i => is_any D i
  have D0 := D
  obtain ⟨A, n, c, pA, pn, pc, xs, ys, D⟩ := D.ex
  have hn := D.n_eq
  have hpn := D.pn_eq
  have c2 := D.c2
  by_cases hd : s.down = true
  · rw [DSt.read_down hd]
    rw [hd] at c2
    clear D D0 hn hpn is hd
    go_enter Tryd.func56, Tryd.ntmps56
    go_wp2_with fail
    go_ret2
    exact ⟨none, 0, 0, rfl, ⟨OwnI.nil_ .., by simp⟩, Below.refl _ _⟩
  have hd : s.down = false := by simpa using hd
  rw [hd] at c2
  by_cases hi : s.has i = true
  · obtain ⟨j, rfl⟩ : ∃ j : Nat, i = (j : Int) := by
      have := of_decide_eq_true hi
      exact ⟨i.toNat, by omega⟩
    have hjn : j < n := by have := of_decide_eq_true hi; omega
    have is := is (j : Int)
    rw [hi] at is
    have R1 := fun hc => DSt.read_torn hd hi hc
    have R2 := fun hc => DSt.read_ok hd hi hc
    have hcur : s.cur j = DSt.lastOf (s.pend.take pn) j (s.sure.getD j []) := by rw [← hpn, List.take_length]; rfl
    rw [Int.toNat_natCast, hcur] at R1 R2
    obtain ⟨x, b, _, hxin, rfl, hb, hcx, _, hsx⟩ := D.sx hjn
    have HR1 := Lib.hid R1
    have HR2 := Lib.hid R2
    have HD := Lib.hid D
    have HX := Lib.hid hsx
    have HI := Lib.hid hxin
    have HB := Lib.hid D0
    have hpm := D.pn_le
    have c0 := D.c0
    have c1 := D.c1
    have hjn' : (j : Int) < (n : Int) := by omega
    clear D D0 hn hpn hd hi R1 R2 hcur hsx hxin hb
    go_enter Tryd.func56, Tryd.ntmps56
    go_wp2_with fail
    refine is.mono ?_; rintro e w1 ⟨rfl, rfl⟩
    clear is
    go_wp2_with fail
    go_loopw [6, 31] (fun t6 i wr => ∃ (k : Nat) (y : BEl), k ≤ pn ∧ i = .int .i64 k ∧ t6 = .slice y.A y.n y.c ∧ y.In wr ∧ y.l = DSt.lastOf (s.pend.take k) j (s.sure.getD j []) ∧ Below w.heap.size w wr) (fun _ i _ => pn - (intOf i).toNat)
    case atStart => exact ⟨0, x, Nat.zero_le _, rfl, rfl, HI.out, HX.out.symm, Below.refl _ _⟩
    case round =>
      obtain ⟨k, y, hk, rfl, rfl, hy, hyl, hb⟩ := hrel
      clear c0 c1 c2 hcx
      have D := HD.out.below hb
      by_cases hkp : k < pn
      · obtain ⟨i', y', b', hyk, hyin, rfl, hbl, hc0, hc1, hsp⟩ := D.py hkp
        have HL := Lib.hid (lastOf_take (i := j) (d := s.sure.getD j []) hsp)
        have HY := Lib.hid (And.intro hyl (And.intro hy hyin))
        clear D hsp hyk hyl
        have hlt : (k : Int) < (pn : Int) := by omega
        by_cases hij : i' = j
        · have he : ((i' : Int) == (j : Int)) = true := by simp [hij]
          have H1 := Lib.hid (HL.out.trans (if_pos hij))
          clear HL hij hy
          go_wp2_with fail
          go_roundw
          case rel => exact ⟨k + 1, y', by omega, by go_num, rfl, (HY.out.2.2.alloc _), H1.out.symm, hb.alloc (by have := hb.size; omega) _⟩
          case measure => simp [intOf]; omega
        · have he : ((i' : Int) == (j : Int)) = false := by simp; omega
          have H1 := Lib.hid (HL.out.trans (if_neg hij))
          clear HL hij hy
          go_wp2_with fail
          go_roundw
          case rel => exact ⟨k + 1, y, by omega, by go_num, rfl, (HY.out.2.1.alloc _), HY.out.1.trans H1.out.symm, hb.alloc (by have := hb.size; omega) _⟩
          case measure => simp [intOf]; omega
      · obtain rfl : k = pn := by omega
        have q22 : ∀ (w : World) (a : Option Addr) (n c n' c' : Nat), (binOp .eql 22 (.slice a n c) (.slice none n' c')).run Tryd.prog w = .ok (.bool a.isNone) w := fun w a n c n' c' => Lib.run_eql_slice_nil w _ _ a n c n' c' Tryd.underlying22
        have hb' := hb.size
        obtain ⟨yA, yn, yc, yl⟩ := y
        dsimp only at hyl ⊢
        cases yA with
        | none =>
          have hl0 := hy.nil.1 rfl
          dsimp only at hl0
          subst hl0
          have H1 := Lib.hid (HR1.out hyl.symm)
          clear D HR1 HR2 hyl hy
          go_wp2_with fail
          go_ret2
          exact ⟨none, 0, 0, ret_vc (by rw [H1.out]), by rw [H1.out]; exact ⟨OwnI.nil_ .., by simp⟩, hb⟩
        | some ad =>
          have hne : yl ≠ [] := fun e => by cases hy.nil.2 e
          have H1 := Lib.hid (HR2.out (by rw [← hyl]; exact hne))
          have hyn : yn ≤ 140737488355328 := by
            have h1 := hy.len
            dsimp only at h1
            rcases (HD.out.wf.last k j) with e | e
            · exact absurd (hyl.trans e) hne
            · rw [← hyl, h1] at e; omega
          have hcl := clone_any (some ad) yn yc yl wr hy.ints (by simp) hyn
          have HY := Lib.hid (And.intro hyl hne)
          clear D HR1 HR2 hyl hy hne
          go_wp2_with fail
          refine hcl.mono ?_; rintro e w2 ⟨A2, c2, rfl, ho, hb2⟩
          go_wp2_with fail
          go_ret2
          exact ⟨A2, yn, c2, ret_vc (by rw [H1.out]), by rw [H1.out, ← HY.out.1]; exact BEl.In.of_own ho HY.out.2, below_step hb hb2 hb'⟩
  · have hi : s.has i = false := by simpa using hi
    have is := is i
    rw [hi] at is
    rw [DSt.read_arg hd hi]
    clear D D0 hn hpn hd hi
    go_enter Tryd.func56, Tryd.ntmps56
    go_wp2_with fail
    refine is.mono ?_; rintro e w1 ⟨rfl, rfl⟩
    clear is
    go_wp2_with fail
    go_ret2
    exact ⟨none, 0, 0, rfl, ⟨OwnI.nil_ .., by simp⟩, Below.refl _ _⟩
end Go.Proofs.YtdlcngmcjidomaaDoor

/- disk.Write. No condition but that there are fewer than 2^40 pending writes, and fewer than 2^60 begun. -/
namespace Go.Proofs.YtdlcngmcjidomaaDoor
set_option linter.unusedSimpArgs false
set_option linter.unusedVariables false
open Go.RowKit

theorem winfo : (Tryd.prog.info? 83).map (fun i => (i.zero, i.size, i.bytes)) = some (some (.agg #[.int .i64 0, .slice none 0 0]), 2, 32) := by kernel_rfl
section
variable {P : Program} {w : World}
/-- 'append(s, x...)', s the call's own, its elements of size sz, x not nil, in a region that draws its order. -/
theorem step_appR {ops : Array Oper} {o : Oper} {a : Act} {K : Act → World → Prop} {Q : Exit → Act → World → Prop} {E : Prop} (hgd : o.guard = none) (s x : Operand) (t : TypeId)
    (ho : o.op = .call { callee := .builtin .append, args := #[s, x], argTypes := #[t, t] })
    (e : TypeId) (z : Value) (sz bytes : Nat) (ht : P.underlying t = some (.slice e)) (hinfo : (P.info? e).map (fun i => (i.zero, i.size, i.bytes)) = some (some z, sz, bytes)) (hz1 : z.cells.size = sz) (hsz : 0 < sz) (hby : 0 < bytes)
    {base : Nat} {A : Option Addr} {n c : Nat} {xs : List Value} (hs : a.eval s = .slice A n c) (hown : OwnR w base e sz A n c xs)
    {ad : Addr} {m c' : Nat} (news : List Value) (hx : a.eval x = .slice (some ad) m c') (hl : news.length = m * sz) (hcells : ∀ j u, news[j]? = some u → w.cell? (ad.add j) = some u) (h1 : ∀ u ∈ news, u.oneCell' = true)
    (hbytes : (n + m) * bytes ≤ 140737488355328) (hbase : base ≤ w.heap.size)
    (h : ∀ A2 c2 w', OwnR w' base e sz A2 (n + m) c2 (xs ++ news) → w.grownBy w' (A.map (·.block)) → (A2 = A ∨ A2 = some ⟨w.heap.size, 0, none⟩) → K (a.put o.dst (.slice A2 (n + m) c2)) w') :
    if Region.wanted o (yielded ops a.tmps) = true then Oper.wp P o a w K Q else E := by
  have hw : Region.wanted o (yielded ops a.tmps) = true := by simp [Region.wanted, hgd]
  rw [if_pos hw]
  obtain ⟨A2, c2, w', hrun, h2, h3, h4⟩ := run_appR (P := P) w base t o.type e z sz bytes ht hinfo hz1 hsz A n c xs hown ad m c' news hl hcells h1 hbytes hby hbase
  unfold Oper.wp execOp
  simp only [ho, resolve, invoke, builtin, Sem.run_bind, Sem.run_pure, Result.andThen_ok, List.map_toArray, List.map_cons, List.map_nil, hs, hx, hrun]
  exact h A2 c2 w' h2 h3 h4
end

section
variable {w w' : World} {T T1 : List Nat} {g : Nat} {s : DSt} {A A2 : Option Addr} {n c : Nat} {pA : Option Addr} {pn pc c2 : Nat} {xs : List BEl} {ys : List (Nat × BEl)}
theorem OwnR.nou8 {base : Nat} {e : TypeId} {sz : Nat} {vs : List Value} (h : OwnR w base e sz A n c vs) (he : e ≠ 5) : NoU8 w (Ab A) :=
  ⟨fun k hk => by
    rcases h.form with ⟨rfl, _⟩ | ⟨g, cur, rfl, _, hg, _⟩
    · cases hk
    · simp only [Ab, Option.map_some, Option.toList_some, List.mem_singleton] at hk
      subst hk
      exact ⟨_, _, hg, he⟩⟩
theorem NoU8.cons {t : TypeId} {cs : Array Value} (h : Blk w g t cs) (ht : t ≠ 5) (hT : NoU8 w T) : NoU8 w (g :: T) :=
  ⟨fun k hk => by
    rcases List.mem_cons.1 hk with rfl | hk
    · exact ⟨_, _, h, ht⟩
    · exact hT.no k hk⟩
theorem NoU8.app (h : NoU8 w T) (h' : NoU8 w T1) : NoU8 w (T ++ T1) := ⟨fun k hk => (List.mem_append.1 hk).elim (h.no k) (h'.no k)⟩
theorem OwnR.dis {base base' : Nat} {e e' : TypeId} {sz sz' : Nat} {vs vs' : List Value} (h : OwnR w base e sz A n c vs) (h' : OwnR w base' e' sz' pA pn pc vs') (ht : e ≠ e') : ∀ ad, A = some ad → some ad.block ≠ pA.map (·.block) := by
  intro ad he hp
  rcases h'.form with ⟨rfl, _⟩ | ⟨g', cur', rfl, _, hg', _⟩
  · cases hp
  · simp only [Option.map_some, Option.some.injEq] at hp
    exact h.type_ne hg' ht ad he hp
/-- A write is pending besides. -/
theorem DiskIn.pushed (h : DiskIn w T g s A n c pA pn pc xs ys) {i : Nat} {y : BEl} (hy : y.In w) (hl : y.l.length = 64) (hi : i < s.sure.length)
    (hp : OwnR w' 0 83 2 A2 (pn + 1) c2 (flatW ys ++ [.int .i64 (i : Int), y.v])) (hg : w.grownBy w' (pA.map (·.block))) (hA : A2 = pA ∨ A2 = some ⟨w.heap.size, 0, none⟩) :
    Blk w' g 64 #[.slice A n c, .slice pA pn pc, .bool s.down, .int .i64 s.stop, .int .i64 (s.begun : Int)] ∧ ∃ T', DiskIn (w'.setCell ⟨g, 1, none⟩ (.slice A2 (pn + 1) c2)) T' g { s with pend := s.pend ++ [(i, y.l)] } A n c A2 (pn + 1) c2 xs (ys ++ [(i, y)]) ∧ Moved w (w'.setCell ⟨g, 1, none⟩ (.slice A2 (pn + 1) c2)) T T' := by
  have hm : Moved w w' T T := (Moved.refl w T).grown hg (fun k hk => by
    cases pA with
    | none => cases hk
    | some ad => cases hk; exact .inl (h.pAT rfl))
  have hgp : some g ≠ pA.map (·.block) := by
    intro e
    cases hpa : pA with
    | none => rw [hpa] at e; cases e
    | some ad => rw [hpa] at e; cases e; exact h.pA_ne ad hpa rfl
  have hb := h.blk.grown hg hgp
  have hs := h.sure.kept hg (h.sure.dis h.pend (by decide))
  have hn := NoU8.cons hb (by decide) ((hs.nou8 (by decide)).app (hp.nou8 (by decide)))
  have hm2 : Moved w w' T (g :: (Ab A ++ Ab A2)) := hm.to' fun k hk => by
    rcases List.mem_cons.1 hk with rfl | hk
    · exact .inr (.inl h.gT)
    · rcases List.mem_append.1 hk with hk | hk
      · refine .inr (.inl ?_)
        rw [h.hT]
        exact List.mem_cons_of_mem _ (List.mem_append_left _ hk)
      · rcases hA with rfl | rfl
        · refine .inr (.inl ?_)
          rw [h.hT]
          exact List.mem_cons_of_mem _ (List.mem_append_right _ hk)
        · simp only [Ab, Option.map_some, Option.toList_some, List.mem_singleton] at hk
          exact .inr (.inr (by omega))
  have hgT : g ∈ g :: (Ab A ++ Ab A2) := by simp
  have hst := moved_set (w := w') (p := ⟨g, 1, none⟩) hgT (.slice A2 (pn + 1) c2)
  refine ⟨hb, g :: (Ab A ++ Ab A2), ⟨hb.set_ 1 _, hs.setCell h.A_ne _, by rw [flatW_snoc]; exact hp.setCell (hp.type_ne hb (show 83 ≠ 64 by decide)) _, fun x hx => ((h.xin x hx).stay h.no hm2).stay hn hst, fun z hz => ?_, h.es, ?_, rfl, hn.set_ g 1 _, h.wf.sure, fun p hp => ?_, h.wf.most, h.wf.stop0, h.wf.stop1⟩, hm2.set_ (p := ⟨g, 1, none⟩) hgT _⟩
  · rcases List.mem_append.1 hz with hz | hz
    · exact ((h.yin z hz).stay h.no hm2).stay hn hst
    · rw [List.mem_singleton] at hz
      subst hz
      exact (hy.stay h.no hm2).stay hn hst
  · rw [List.map_append, ← h.ep]; rfl
  · rcases List.mem_append.1 hp with hp | hp
    · exact h.wf.pend p hp
    · rw [List.mem_singleton] at hp
      subst hp
      exact ⟨hi, hl⟩
end

set_option maxRecDepth 100000 in
set_option maxHeartbeats 1600000 in
theorem dwrite_any {w : World} {T : List Nat} {g : Nat} {s : DSt} (D : DiskAt w T g s) (i : Int) {bA : Option Addr} {bn bc : Nat} {l : List Nat} (hB : Ints w .u8 256 bA bn bc l) (hBT : ∀ ad, bA = some ad → ad.block ∉ T) (hbn : (bn : Int) ≤ 9223372036854775807) (hb : s.begun < 1152921504606846976) (hp : s.pend.length < 1099511627776) :
    Calls Tryd.prog 18 #[.pointer (some ⟨g, 0, none⟩), .int .i64 i, .slice bA bn bc] w fun e w' => e = .returned (.int .i64 (s.write i l).2) ∧ ∃ T', DiskAt w' T' g (s.write i l).1 ∧ Moved w w' T T' := by
  have is := is_any D i
  have bg := begin_any D hb
  have D0 := D
  obtain ⟨A, n, c, pA, pn, pc, xs, ys, D⟩ := D.ex
  have hn := D.n_eq
  have hpn := D.pn_eq
  have c2 := D.c2
  have hl := hB.len
  by_cases hd : s.down = true
  · rw [DSt.write_down hd]
    rw [hd] at c2
    have H := Lib.hid D0
    clear D D0 hn hpn is bg hd hp hb
    go_enter Tryd.func18, Tryd.ntmps18
    go_wp2_with fail
    go_ret
    exact ⟨rfl, T, H.out, Moved.refl _ _⟩
  have hd : s.down = false := by simpa using hd
  rw [hd] at c2
  by_cases hi : s.has i = true
  · by_cases hbl : bn = 64
    · have hw : (s.has i && decide (l.length = 64)) = true := by rw [hi, decide_eq_true (by omega)]; rfl
      rw [hi] at is
      obtain ⟨gs, hgs⟩ : ∃ b, s.goes = b := ⟨_, rfl⟩
      cases gs with
      | true =>
        rw [DSt.write_goes hd hw hgs]
        rw [hgs] at bg
        subst hbl
        clear D D0 hn hpn hd hi hw hgs hp hb hl hB
        go_enter Tryd.func18, Tryd.ntmps18
        go_wp2_with fail
        refine is.mono ?_; rintro e w1 ⟨rfl, rfl⟩
        clear is
        go_wp2_with fail
        refine bg.mono ?_; rintro e w1 ⟨rfl, D1, hm⟩
        have H := Lib.hid (And.intro D1 hm)
        clear bg D1 hm
        go_wp2_with fail
        go_ret
        exact ⟨rfl, T, H.out⟩
      | false =>
        rw [DSt.write_ok hd hw hgs]
        rw [hgs] at bg
        subst hbl
        obtain ⟨j, rfl⟩ : ∃ j : Nat, i = (j : Int) := by
          have := of_decide_eq_true hi
          exact ⟨i.toNat, by omega⟩
        have hj : j < s.sure.length := by have := of_decide_eq_true hi; omega
        have H := Lib.hid (And.intro (And.intro hB hBT) (And.intro hl (And.intro hj hp)))
        clear D hn hpn hd hi hw hgs hp hb hl hB hBT hj
        go_enter Tryd.func18, Tryd.ntmps18
        go_wp2_with fail
        refine is.mono ?_; rintro e w1 ⟨rfl, rfl⟩
        clear is
        go_wp2_with fail
        refine bg.mono ?_; rintro e w1 ⟨rfl, D1, hm⟩
        have H1 := Lib.hid (And.intro D1 (And.intro hm D0))
        clear bg D1 hm D0
        go_wp2_with fail
        -- region 7
        obtain ⟨D1, hm, -⟩ := H1.out
        obtain ⟨⟨hB, hBT⟩, hl, hj, hp⟩ := H.out
        obtain ⟨A, n, c, pA, pn, pc, xs, ys, D1⟩ := D1.ex
        have hpn := D1.pn_eq
        have hpn2 : pn < 1099511627776 := by rw [← hpn]; exact hp
        have hne : l ≠ [] := fun e => by rw [e] at hl; cases hl
        have hbA : bA ≠ none := by
          obtain ⟨_, _, _, e, _⟩ := hB.get (k := 0) (by omega)
          rw [e]
          simp
        have hB := hB.moved hm hBT
        have hb := hm.size
        clear H H1 hpn hp c2 D
        refine wp_region_late [13] (fun w' => w'.cell? ⟨g, 1, none⟩ = some (.slice pA pn pc)) (by kernel_rfl) ?_
        have D2 := D1.below ((Below.refl _ _).drew)
        have hm2 := hm.drew
        have hB2 := hB.drew
        clear D1 hm hB
        generalize World.drew _ = w2 at *
        have c1 := D2.c1
        clear hb
        refine wpAnyL_take (i := 0) (v := ?_) rfl (by kernel_rfl) (by kernel_rfl) (by kernel_rfl) (by kernel_rfl) (by kernel_rfl) (fun _ _ _ h => h) (Or.inl ⟨by kernel_rfl, ?_⟩) c1 ?_
        rotate_left
        · rintro w0 h1_; go_simp; (try with_reducible rfl)
        try simp only [Act.put, List.setIfInBounds_toArray, List.set_cons_zero, List.set_cons_succ]
        refine wpAnyL_take (i := 1) (v := ?_) rfl (by kernel_rfl) (by kernel_rfl) (by kernel_rfl) (by kernel_rfl) (by kernel_rfl) (fun _ _ _ h => h) (Or.inl ⟨by kernel_rfl, ?_⟩) c1 ?_
        rotate_left
        · rintro w0 h1_; go_simp; (try with_reducible rfl)
        try simp only [Act.put, List.setIfInBounds_toArray, List.set_cons_zero, List.set_cons_succ]
        refine wpAnyL_take (i := 2) (v := ?_) rfl (by kernel_rfl) (by kernel_rfl) (by kernel_rfl) (by kernel_rfl) (by kernel_rfl) (fun _ _ _ h => h) (Or.inl ⟨by kernel_rfl, ?_⟩) c1 ?_
        rotate_left
        · rintro w0 h1_; go_simp; (try with_reducible rfl)
        try simp only [Act.put, List.setIfInBounds_toArray, List.set_cons_zero, List.set_cons_succ]
        refine wpAnyL_take (i := 3) (v := ?_) rfl (by kernel_rfl) (by kernel_rfl) (by kernel_rfl) (by kernel_rfl) (by kernel_rfl) (fun _ _ _ h => h) (Or.inl ⟨by kernel_rfl, ?_⟩) c1 ?_
        rotate_left
        · rintro w0 h1_; go_simp; (try with_reducible rfl)
        try simp only [Act.put, List.setIfInBounds_toArray, List.set_cons_zero, List.set_cons_succ]
        refine wpAnyL_take (i := 4) (v := ?_) rfl (by kernel_rfl) (by kernel_rfl) (by kernel_rfl) (by kernel_rfl) (by kernel_rfl) (fun _ _ _ h => h) (Or.inl ⟨by kernel_rfl, ?_⟩) c1 ?_
        rotate_left
        · rintro w0 h1_; go_simp; (try with_reducible rfl)
        try simp only [Act.put, List.setIfInBounds_toArray, List.set_cons_zero, List.set_cons_succ]
        refine wpAnyL_take (i := 5) (v := ?_) rfl (by kernel_rfl) (by kernel_rfl) (by kernel_rfl) (by kernel_rfl) (by kernel_rfl) (fun _ _ _ h => h) (Or.inl ⟨by kernel_rfl, ?_⟩) c1 ?_
        rotate_left
        · rintro w0 h1_; go_simp; (try with_reducible rfl)
        try simp only [Act.put, List.setIfInBounds_toArray, List.set_cons_zero, List.set_cons_succ]
        refine wpAnyL_take (i := 6) (v := ?_) rfl (by kernel_rfl) (by kernel_rfl) (by kernel_rfl) (by kernel_rfl) (by kernel_rfl) (fun _ _ _ h => h) (Or.inl ⟨by kernel_rfl, ?_⟩) c1 ?_
        rotate_left
        · rintro w0 h1_; go_simp; (try with_reducible rfl)
        try simp only [Act.put, List.setIfInBounds_toArray, List.set_cons_zero, List.set_cons_succ]
        refine wpAnyL_one (i := 7) (by kernel_rfl) rfl (fun K hK => ?_)
        go_simp
        refine (clone_any bA 64 bc l w2 hB2 hbA (by omega)).mono ?_; rintro e w3 ⟨A3, c3, rfl, ho, hb⟩
        have D3 := D2.below hb
        have c1 := D3.c1
        have hm3 := hm2.below_ hb
        go_wp2_with fail
        refine hK.out _ _ (fun _ => c1) ?_
        clear hK K
        try simp only [Act.put, List.setIfInBounds_toArray, List.set_cons_zero, List.set_cons_succ]
        refine wpAnyL_one (i := 8) (by kernel_rfl) rfl (fun K hK => ?_)
        go_simp
        refine hK.out _ _ (fun _ => c1) ?_
        clear hK K
        try simp only [Act.put, List.setIfInBounds_toArray, List.set_cons_zero, List.set_cons_succ]
        refine wpAnyL_one (i := 9) (by kernel_rfl) rfl (fun K hK => ?_)
        go_simp
        have D4 := D3.below ((Below.refl _ _).alloc (Nat.le_refl _) (.cells #[.int .i64 (j : Int), .slice A3 64 c3] 83))
        have hm4 := hm3.alloc (.cells #[.int .i64 (j : Int), .slice A3 64 c3] 83)
        have hy := (BEl.In.of_own ho hne).alloc (.cells #[.int .i64 (j : Int), .slice A3 64 c3] 83)
        have hcs := cells_new w3 #[.int .i64 (j : Int), .slice A3 64 c3] 83 (g := w3.heap.size) rfl
        clear c1
        have c1 := D4.c1
        refine hK.out _ _ (fun _ => c1) ?_
        clear hK K
        try simp only [Act.put, List.setIfInBounds_toArray, List.set_cons_zero, List.set_cons_succ]
        generalize w3.alloc _ = w4 at *
        refine wpAnyL_one (i := 10) (by kernel_rfl) rfl (fun K hK => ?_)
        refine step_appR rfl (.tmp 30) (.tmp 35) 62 rfl 83 _ 2 32 Tryd.underlying62 winfo rfl (by omega) (by omega) rfl D4.pend (ad := ⟨w3.heap.size, 0, none⟩) (m := 1) (c' := 1) [.int .i64 (j : Int), .slice A3 64 c3] rfl rfl hcs (by intro u hu; simp only [List.mem_cons, List.not_mem_nil, or_false] at hu; rcases hu with rfl | rfl <;> rfl) (by omega) (Nat.zero_le _) ?_
        intro A5 c5 w5 hown hg hA
        obtain ⟨hb5, T', D5, hm5⟩ := D4.pushed hy hl hj hown hg hA
        have hmv := hm4.trans hm5
        have c1 := hb5.cell 1
        have f1 := hb5.frozen 1
        have HF := Lib.hid (And.intro D5 hmv)
        clear D5 hmv hm5 hm4 hown hb5 hg hA hy hcs D4 D3 D2 hm3 hm2 ho hb hB hB2
        refine hK.out _ _ (fun _ => c1) ?_
        clear hK K
        try simp only [Act.put, List.setIfInBounds_toArray, List.set_cons_zero, List.set_cons_succ]
        refine wpAnyL_one (i := 11) (by kernel_rfl) rfl (fun K hK => ?_)
        go_simp
        refine hK.out _ _ (fun _ => c1) ?_
        clear hK K
        try simp only [Act.put, List.setIfInBounds_toArray, List.set_cons_zero, List.set_cons_succ]
        refine wpAnyL_one (i := 12) (by kernel_rfl) rfl (fun K hK => ?_)
        go_simp
        refine hK.out _ _ (fun _ => c1) ?_
        clear hK K
        try simp only [Act.put, List.setIfInBounds_toArray, List.set_cons_zero, List.set_cons_succ]
        refine wpAnyL_one (i := 13) (by kernel_rfl) rfl (fun K hK => ?_)
        go_simp
        refine hK.out _ _ (fun h => absurd (by simp) h) ?_
        clear hK K
        try simp only [Act.put, List.setIfInBounds_toArray, List.set_cons_zero, List.set_cons_succ]
        refine wpAnyL_done (by kernel_rfl) ?_ _
        go_wp2_with fail
        go_ret
        exact ⟨rfl, _, HF.out.1.at_, HF.out.2⟩
    · have hw : (s.has i && decide (l.length = 64)) = false := by rw [hi, decide_eq_false (by omega)]; rfl
      rw [hi] at is
      rw [DSt.write_arg hd hw]
      have hbl' : ¬ (bn : Int) = 64 := by omega
      have hbl'' : ((bn : Int) != 64) = true := by simpa using hbl'
      have H := Lib.hid D0
      clear D D0 hn hpn hd hi hw hp hb hl hB bg hbl hbl'
      go_enter Tryd.func18, Tryd.ntmps18
      go_wp2_with fail
      refine is.mono ?_; rintro e w1 ⟨rfl, rfl⟩
      clear is
      go_wp2_with fail
      go_ret
      exact ⟨rfl, T, H.out, Moved.refl _ _⟩
  · have hi : s.has i = false := by simpa using hi
    have hw : (s.has i && decide (l.length = 64)) = false := by rw [hi]; rfl
    rw [hi] at is
    rw [DSt.write_arg hd hw]
    have H := Lib.hid D0
    clear D D0 hn hpn hd hi hw hp hb hl hB bg
    go_enter Tryd.func18, Tryd.ntmps18
    go_wp2_with fail
    refine is.mono ?_; rintro e w1 ⟨rfl, rfl⟩
    clear is
    go_wp2_with fail
    go_ret
    exact ⟨rfl, T, H.out, Moved.refl _ _⟩
end Go.Proofs.YtdlcngmcjidomaaDoor

/- disk.Flush. No condition but that fewer than 2^60 have begun. -/
namespace Go.Proofs.YtdlcngmcjidomaaDoor
set_option linter.unusedSimpArgs false
set_option linter.unusedVariables false
open Go.RowKit

section
variable {w w' : World} {T T1 : List Nat} {g : Nat} {s : DSt} {A A2 : Option Addr} {n c : Nat} {pA : Option Addr} {pn pc c2 : Nat} {xs : List BEl} {ys : List (Nat × BEl)}
theorem DiskIn.drew (h : DiskIn w T g s A n c pA pn pc xs ys) : DiskIn w.drew T g s A n c pA pn pc xs ys := h.below ((Below.refl _ _).drew)
theorem DiskIn.alloc (h : DiskIn w T g s A n c pA pn pc xs ys) (o : Obj) : DiskIn (w.alloc o) T g s A n c pA pn pc xs ys := h.below ((Below.refl _ _).alloc (Nat.le_refl _) o)
/-- A sector is laid. -/
theorem DiskIn.laid {b : Nat} (h : DiskIn w T g s (some ⟨b, 0, none⟩) n c pA pn pc xs ys) {i : Nat} {y : BEl} (hy : y.In w) (hl : y.l = [] ∨ y.l.length = 64) :
    DiskIn (w.setCell ⟨b, i, none⟩ y.v) T g { s with sure := s.sure.set i y.l } (some ⟨b, 0, none⟩) n c pA pn pc (xs.set i y) ys ∧ Moved w (w.setCell ⟨b, i, none⟩ y.v) T T := by
  have hbT : b ∈ T := h.AT rfl
  have hm := moved_set (w := w) (p := ⟨b, i, none⟩) hbT y.v
  have hbg : b ≠ g := h.A_ne _ rfl
  have hst := h.sure.stored i y.v
  refine ⟨⟨h.blk.far (p := ⟨b, i, none⟩) (Ne.symm hbg) y.v, ?_, h.pend.setCell (fun ad he e => ?_) _, fun x hx => ?_, fun z hz => (h.yin z hz).stay h.no hm, ?_, h.ep, h.hT, h.no.set_ b i _, fun l hl2 => ?_, fun p hp => ?_, ?_, h.wf.stop0, h.wf.stop1⟩, hm⟩
  · rw [List.map_set]; exact hst
  · have := h.sure.dis h.pend (show 22 ≠ 83 by decide) _ rfl
    rw [he] at this
    exact this (by simp only [Option.map_some]; rw [e])
  · rcases List.mem_or_eq_of_mem_set hx with hx | rfl
    · exact (h.xin x hx).stay h.no hm
    · exact hy.stay h.no hm
  · show s.sure.set i y.l = _
    rw [List.map_set, h.es]
  · rcases List.mem_or_eq_of_mem_set hl2 with hx | rfl
    · exact h.wf.sure l hx
    · exact hl
  · have := h.wf.pend p hp
    show p.1 < (s.sure.set i y.l).length ∧ _
    rw [List.length_set]
    exact this
  · show (s.sure.set i y.l).length ≤ 512
    rw [List.length_set]
    exact h.wf.most
/-- A pending write's copy is laid beside it, and a sector. -/
theorem DiskIn.round {b : Nat} (h : DiskIn w T g s (some ⟨b, 0, none⟩) n c pA pn pc xs ys) (o : Obj) {i : Nat} {y : BEl} (hy : y.In w) (hl : y.l = [] ∨ y.l.length = 64) :
    DiskIn ((w.alloc o).drew.setCell ⟨b, i, none⟩ (.slice y.A y.n y.c)) T g { s with sure := s.sure.set i y.l } (some ⟨b, 0, none⟩) n c pA pn pc (xs.set i y) ys ∧ Moved w ((w.alloc o).drew.setCell ⟨b, i, none⟩ (.slice y.A y.n y.c)) T T := by
  obtain ⟨h1, h2⟩ := ((h.alloc o).drew).laid (i := i) (hy.alloc o).drew hl
  exact ⟨h1, (((Moved.refl w T).alloc o).drew).trans h2⟩
theorem DiskIn.cells {b : Nat} (h : DiskIn w T g s (some ⟨b, 0, none⟩) n c pA pn pc xs ys) (o : Obj) {i : Nat} (hi : i < n) : (w.alloc o).drew.cell? ⟨g, 0, none⟩ = some (.slice (some ⟨b, 0, none⟩) n c) ∧ (∃ v, (w.alloc o).drew.cell? ⟨b, i, none⟩ = some v) ∧ (w.alloc o).drew.frozen? ⟨b, i, none⟩ = false := by
  have h3 := (h.alloc o).drew
  obtain ⟨x, b0, _, _, he, _, ch, fh, _⟩ := h3.sx hi
  cases he
  exact ⟨h3.c0, ⟨_, ch⟩, fh⟩
/-- No write is pending any more. -/
theorem DiskIn.cleared (h : DiskIn w T g s A n c pA pn pc xs ys) :
    ∃ T', DiskIn (w.setCell ⟨g, 1, none⟩ (.slice none 0 0)) T' g { s with pend := [] } A n c none 0 0 xs [] ∧ Moved w (w.setCell ⟨g, 1, none⟩ (.slice none 0 0)) T T' := by
  have hm := moved_set (w := w) (p := ⟨g, 1, none⟩) h.gT (.slice none 0 0)
  have hsub : ∀ k ∈ g :: (Ab A ++ Ab none), k ∈ T := fun k hk => by
    rw [h.hT]
    rcases List.mem_cons.1 hk with rfl | hk
    · simp
    · rcases List.mem_append.1 hk with hk | hk
      · exact List.mem_cons_of_mem _ (List.mem_append_left _ hk)
      · cases hk
  refine ⟨g :: (Ab A ++ Ab none), ⟨h.blk.set_ 1 _, h.sure.setCell h.A_ne _, OwnR.nil_ .., fun x hx => (h.xin x hx).stay h.no hm, (fun _ h => by cases h), h.es, rfl, rfl, ⟨fun k hk => (h.no.set_ g 1 (.slice none 0 0)).no k (hsub k hk)⟩, h.wf.sure, (fun _ h => by cases h), h.wf.most, h.wf.stop0, h.wf.stop1⟩, hm.to' fun k hk => .inl (hsub k hk)⟩
theorem lay_drop {su : List (List Nat)} {p : List (Nat × List Nat)} {k i : Nat} {l : List Nat} (h : p[k]? = some (i, l)) : DSt.lay su (p.drop k) = DSt.lay (su.set i l) (p.drop (k + 1)) := by
  obtain ⟨hk, he⟩ := List.getElem?_eq_some_iff.1 h
  rw [List.drop_eq_getElem_cons hk, he]
  rfl
end

set_option maxRecDepth 100000 in
set_option maxHeartbeats 1600000 in
theorem dflush_any {w : World} {T : List Nat} {g : Nat} {s : DSt} (D : DiskAt w T g s) (hb : s.begun < 1152921504606846976) :
    Calls Tryd.prog 38 #[.pointer (some ⟨g, 0, none⟩)] w fun e w' => e = .returned (.int .i64 s.flush.2) ∧ ∃ T', DiskAt w' T' g s.flush.1 ∧ Moved w w' T T' := by
  have bg := begin_any D hb
  have D0 := D
  obtain ⟨A, n, c, pA, pn, pc, xs, ys, D⟩ := D.ex
  have c2 := D.c2
  by_cases hd : s.down = true
  · rw [DSt.flush_down hd]
    rw [hd] at c2
    have H := Lib.hid D0
    clear D D0 bg hd hb
    go_enter Tryd.func38, Tryd.ntmps38
    go_wp2_with fail
    go_ret
    exact ⟨rfl, T, H.out, Moved.refl _ _⟩
  have hd : s.down = false := by simpa using hd
  rw [hd] at c2
  obtain ⟨gs, hgs⟩ : ∃ b, s.goes = b := ⟨_, rfl⟩
  cases gs with
  | true =>
    rw [DSt.flush_goes hd hgs]
    rw [hgs] at bg
    clear D D0 hd hgs hb
    go_enter Tryd.func38, Tryd.ntmps38
    go_wp2_with fail
    refine bg.mono ?_; rintro e w1 ⟨rfl, D1, hm⟩
    have H := Lib.hid (And.intro D1 hm)
    clear bg D1 hm
    go_wp2_with fail
    go_ret
    exact ⟨rfl, T, H.out⟩
  | false =>
    rw [DSt.flush_ok hd hgs]
    rw [hgs] at bg
    clear D D0 hd hgs hb
    go_enter Tryd.func38, Tryd.ntmps38
    go_wp2_with fail
    refine bg.mono ?_; rintro e w1 ⟨rfl, D1, hm⟩
    clear bg c2
    obtain ⟨A, n, c, pA, pn, pc, xs, ys, D1⟩ := D1.ex
    have hpm := D1.pn_le
    have hpn := Lib.hid D1.pn_eq
    have c1 := D1.c1
    have H := Lib.hid (And.intro D1 hm)
    clear D1 hm
    go_wp2_with fail
    go_loopw [19] (fun i wr => ∃ (k : Nat) (su : List (List Nat)) (xs : List BEl), k ≤ pn ∧ i = .int .i64 k ∧ DiskIn wr T g { s.beg with sure := su } A n c pA pn pc xs ys ∧ Moved w wr T T ∧ DSt.lay su (s.pend.drop k) = DSt.lay s.sure s.pend) (fun i _ => pn - (intOf i).toNat)
    case atStart => exact ⟨0, s.sure, xs, Nat.zero_le _, rfl, H.out.1, H.out.2, rfl⟩
    case round =>
      obtain ⟨k, su, xs, hk, rfl, D2, hm2, hlay⟩ := hrel
      clear H c1
      by_cases hkp : k < pn
      · obtain ⟨i, y, b', hyk, hyin, rfl, hbl, hc0, hc1, hsp⟩ := D2.py hkp
        have hl := D2.wf.pend _ (List.mem_of_getElem? hsp)
        dsimp only at hl
        have hn2 := D2.n_eq
        dsimp only at hn2
        have hin : i < n := by rw [← hn2]; exact hl.1
        obtain ⟨x, b, _, _, rfl, _, _, hfz, _⟩ := D2.sx hin
        -- round
        have HL := Lib.hid (hlay.symm.trans (lay_drop hsp))
        have q0 := ((Blk.new wr 83 #[.int .i64 (i : Int), .slice y.A y.n y.c]).drew).cell 0
        have q1 := ((Blk.new wr 83 #[.int .i64 (i : Int), .slice y.A y.n y.c]).drew).cell 1
        obtain ⟨c0, ⟨v0, ch⟩, fh⟩ := D2.cells (.cells #[.int .i64 (i : Int), .slice y.A y.n y.c] 83) hin
        have hlt : (k : Int) < (pn : Int) := by omega
        have hi0 : (0 : Int) ≤ (i : Int) := by omega
        have hi1 : (i : Int) < (n : Int) := by omega
        have HF := Lib.hid (And.intro (D2.round (.cells #[.int .i64 (i : Int), .slice y.A y.n y.c] 83) (i := i) hyin (.inr hl.2)) hm2)
        clear D2 hm2 hyin hlay hsp hyk hl hn2
        go_wp2_with fail
        refine wp_region_late [9] (fun w' => w'.cell? ⟨g, 0, none⟩ = some (.slice (some ⟨b, 0, none⟩) n c) ∧ w'.cell? ⟨wr.heap.size, 0, none⟩ = some (.int .i64 (i : Int)) ∧ w'.cell? ⟨wr.heap.size, 1, none⟩ = some (.slice y.A y.n y.c)) (by kernel_rfl) ?_
        generalize World.drew _ = w4 at *
        refine wpAnyL_take (i := 0) (v := ?_) rfl (by kernel_rfl) (by kernel_rfl) (by kernel_rfl) (by kernel_rfl) (by kernel_rfl) (fun _ _ _ h => h) (Or.inl ⟨by kernel_rfl, ?_⟩) ⟨c0, q0, q1⟩ ?_
        rotate_left
        · rintro w0 ⟨h1_, h2_, h3_⟩; go_simp; (try with_reducible rfl)
        try simp only [Act.put, List.setIfInBounds_toArray, List.set_cons_zero, List.set_cons_succ]
        refine wpAnyL_take (i := 1) (v := ?_) rfl (by kernel_rfl) (by kernel_rfl) (by kernel_rfl) (by kernel_rfl) (by kernel_rfl) (fun _ _ _ h => h) (Or.inl ⟨by kernel_rfl, ?_⟩) ⟨c0, q0, q1⟩ ?_
        rotate_left
        · rintro w0 ⟨h1_, h2_, h3_⟩; go_simp; (try with_reducible rfl)
        try simp only [Act.put, List.setIfInBounds_toArray, List.set_cons_zero, List.set_cons_succ]
        refine wpAnyL_take (i := 2) (v := ?_) rfl (by kernel_rfl) (by kernel_rfl) (by kernel_rfl) (by kernel_rfl) (by kernel_rfl) (fun _ _ _ h => h) (Or.inl ⟨by kernel_rfl, ?_⟩) ⟨c0, q0, q1⟩ ?_
        rotate_left
        · rintro w0 ⟨h1_, h2_, h3_⟩; go_simp; (try with_reducible rfl)
        try simp only [Act.put, List.setIfInBounds_toArray, List.set_cons_zero, List.set_cons_succ]
        refine wpAnyL_take (i := 3) (v := ?_) rfl (by kernel_rfl) (by kernel_rfl) (by kernel_rfl) (by kernel_rfl) (by kernel_rfl) (fun _ _ _ h => h) (Or.inl ⟨by kernel_rfl, ?_⟩) ⟨c0, q0, q1⟩ ?_
        rotate_left
        · rintro w0 ⟨h1_, h2_, h3_⟩; go_simp; (try with_reducible rfl)
        try simp only [Act.put, List.setIfInBounds_toArray, List.set_cons_zero, List.set_cons_succ]
        refine wpAnyL_take (i := 4) (v := ?_) rfl (by kernel_rfl) (by kernel_rfl) (by kernel_rfl) (by kernel_rfl) (by kernel_rfl) (fun _ _ _ h => h) (Or.inl ⟨by kernel_rfl, ?_⟩) ⟨c0, q0, q1⟩ ?_
        rotate_left
        · rintro w0 ⟨h1_, h2_, h3_⟩; go_simp; (try with_reducible rfl)
        try simp only [Act.put, List.setIfInBounds_toArray, List.set_cons_zero, List.set_cons_succ]
        refine wpAnyL_take (i := 5) (v := ?_) rfl (by kernel_rfl) (by kernel_rfl) (by kernel_rfl) (by kernel_rfl) (by kernel_rfl) (fun _ _ _ h => h) (Or.inl ⟨by kernel_rfl, ?_⟩) ⟨c0, q0, q1⟩ ?_
        rotate_left
        · rintro w0 ⟨h1_, h2_, h3_⟩; go_simp; (try with_reducible rfl)
        try simp only [Act.put, List.setIfInBounds_toArray, List.set_cons_zero, List.set_cons_succ]
        refine wpAnyL_take (i := 6) (v := ?_) rfl (by kernel_rfl) (by kernel_rfl) (by kernel_rfl) (by kernel_rfl) (by kernel_rfl) (fun _ _ _ h => h) (Or.inl ⟨by kernel_rfl, ?_⟩) ⟨c0, q0, q1⟩ ?_
        rotate_left
        · rintro w0 ⟨h1_, h2_, h3_⟩; go_simp; (try with_reducible rfl)
        try simp only [Act.put, List.setIfInBounds_toArray, List.set_cons_zero, List.set_cons_succ]
        refine wpAnyL_take (i := 7) (v := ?_) rfl (by kernel_rfl) (by kernel_rfl) (by kernel_rfl) (by kernel_rfl) (by kernel_rfl) (fun _ _ _ h => h) (Or.inl ⟨by kernel_rfl, ?_⟩) ⟨c0, q0, q1⟩ ?_
        rotate_left
        · rintro w0 ⟨h1_, h2_, h3_⟩; go_simp; (try with_reducible rfl)
        try simp only [Act.put, List.setIfInBounds_toArray, List.set_cons_zero, List.set_cons_succ]
        refine wpAnyL_take (i := 8) (v := ?_) rfl (by kernel_rfl) (by kernel_rfl) (by kernel_rfl) (by kernel_rfl) (by kernel_rfl) (fun _ _ _ h => h) (Or.inl ⟨by kernel_rfl, ?_⟩) ⟨c0, q0, q1⟩ ?_
        rotate_left
        · rintro w0 ⟨h1_, h2_, h3_⟩; go_simp; (try with_reducible rfl)
        try simp only [Act.put, List.setIfInBounds_toArray, List.set_cons_zero, List.set_cons_succ]
        refine wpAnyL_one (i := 9) (by kernel_rfl) rfl (fun K hK => ?_)
        go_simp
        refine hK.out _ _ (fun h => absurd (by simp) h) ?_
        clear hK K
        try simp only [Act.put, List.setIfInBounds_toArray, List.set_cons_zero, List.set_cons_succ]
        refine wpAnyL_done (by kernel_rfl) ?_ _
        go_wp2_with fail
        exact ⟨⟨k + 1, su.set i y.l, xs.set i y, by omega, by go_num, HF.out.1.1, HF.out.2.trans HF.out.1.2, HL.out.symm⟩, by simp [intOf]; omega⟩
      · obtain rfl : k = pn := by omega
        have hp0 : s.pend.drop k = [] := List.drop_eq_nil_of_le (Nat.le_of_eq hpn.out)
        rw [hp0] at hlay
        have hsu : su = DSt.lay s.sure s.pend := hlay
        obtain ⟨T', D3, hm3⟩ := D2.cleared
        have hm4 := hm2.trans hm3
        have c1 := D2.c1
        have f1 := D2.blk.frozen 1
        rw [hsu] at D3
        have HF := Lib.hid (And.intro D3 hm4)
        clear hsu hlay hp0 D2 hm2 D3 hm3 hm4
        go_wp2_with fail
        go_ret
        exact ⟨rfl, _, HF.out.1.at_, HF.out.2⟩
end Go.Proofs.YtdlcngmcjidomaaDoor

/- disk.Image. No condition. -/
namespace Go.Proofs.YtdlcngmcjidomaaDoor
set_option linter.unusedSimpArgs false
set_option linter.unusedVariables false
open Go.RowKit

theorem binfo : (Tryd.prog.info? 22).map (fun i => (i.zero, i.size, i.bytes)) = some (some (.slice none 0 0), 1, 24) := by kernel_rfl

set_option maxRecDepth 100000 in
theorem clone_nil (n c : Nat) (w : World) :
    Calls Tryd.prog 41 #[.slice none n c] w fun e w' => e = .returned (.slice none 0 0) ∧ w = w' := by
  have q22 : ∀ (w : World) (a : Option Addr) (n c n' c' : Nat), (binOp .eql 22 (.slice a n c) (.slice none n' c')).run Tryd.prog w = .ok (.bool a.isNone) w := fun w a n c n' c' => Lib.run_eql_slice_nil w _ _ a n c n' c' Tryd.underlying22
  go_enter Tryd.func41, Tryd.ntmps41
  go_wp2_with fail
  go_ret
  exact ⟨rfl, rfl⟩
/-- A copy of bytes. -/
theorem clone_el {w : World} {x : BEl} (h : x.In w) (hn : x.n ≤ 140737488355328) :
    Calls Tryd.prog 41 #[.slice x.A x.n x.c] w fun e w' => ∃ A n c, e = .returned (.slice A n c) ∧ BEl.In w' ⟨A, n, c, x.l⟩ ∧ Below w.heap.size w w' := by
  cases hA : x.A with
  | none => exact (clone_nil x.n x.c w).mono fun _ _ ⟨he, hw⟩ => by subst hw; exact ⟨none, 0, 0, he, by rw [h.nil.1 hA]; exact ⟨OwnI.nil_ .., by simp⟩, Below.refl _ _⟩
  | some ad =>
    have hr := h.ints
    rw [hA] at hr
    exact (clone_any (some ad) x.n x.c x.l w hr (by simp) hn).mono fun _ _ ⟨A', c', he, ho, hb⟩ => ⟨A', _, c', he, BEl.In.of_own ho (fun e => by have := h.nil.2 e; rw [hA] at this; cases this), hb⟩

section
variable {w w' : World} {T T1 : List Nat} {g : Nat} {s : DSt} {A A2 : Option Addr} {n c : Nat} {pA : Option Addr} {pn pc c2 : Nat} {xs : List BEl} {ys : List (Nat × BEl)}
/-- A slice of rows of bytes. -/
structure Img (w : World) (base : Nat) (A : Option Addr) (n c : Nat) (ls : List (List Nat)) : Prop where
  ex : ∃ xs : List BEl, OwnR w base 22 1 A n c (xs.map BEl.v) ∧ (∀ x ∈ xs, x.In w) ∧ ls = xs.map (·.l)
theorem Img.nil_ (w : World) (base : Nat) : Img w base none 0 0 [] := ⟨[], OwnR.nil_ .., fun _ h => (by cases h), rfl⟩
theorem Img.below {base : Nat} {ls : List (List Nat)} (h : Img w base A n c ls) (hb : Below w.heap.size w w') : Img w' base A n c ls := by
  obtain ⟨xs, h1, h2, h3⟩ := h.ex
  exact ⟨xs, h1.below hb, fun x hx => (h2 x hx).below hb, h3⟩
theorem Img.len {base : Nat} {ls : List (List Nat)} (h : Img w base A n c ls) : ls.length = n := by
  obtain ⟨xs, h1, h2, h3⟩ := h.ex
  have := h1.len
  rw [h3, List.length_map]
  simpa using this
theorem Img.moved {base : Nat} {ls : List (List Nat)} (h : Img w base A n c ls) (hn : NoU8 w T) (hm : Moved w w' T T1) (hA : ∀ ad, A = some ad → ad.block ∉ T) : Img w' base A n c ls := by
  obtain ⟨xs, h1, h2, h3⟩ := h.ex
  exact ⟨xs, h1.moved hm hA, fun x hx => (h2 x hx).stay hn hm, h3⟩
theorem Img.lt {base : Nat} {ls : List (List Nat)} (h : Img w base A n c ls) : ∀ ad, A = some ad → base ≤ ad.block ∧ ad.block < w.heap.size := by
  obtain ⟨xs, h1, _⟩ := h.ex
  exact h1.lt
theorem Img.get {base : Nat} {ls : List (List Nat)} {k : Nat} (h : Img w base A n c ls) (hk : k < n) : ∃ b x, A = some ⟨b, 0, none⟩ ∧ BEl.In w x ∧ ls[k]? = some x.l ∧ w.cell? ⟨b, k, none⟩ = some (.slice x.A x.n x.c) := by
  obtain ⟨xs, h1, h2, h3⟩ := h.ex
  have hl := h1.len
  rw [List.length_map, Nat.mul_one] at hl
  have hx : xs[k]? = some xs[k] := List.getElem?_eq_getElem (by omega)
  obtain ⟨b, e, _, _, hc, _⟩ := h1.get (j := k) (u := xs[k].v) (by rw [List.getElem?_map, hx]; rfl)
  exact ⟨b, xs[k], e, h2 _ (List.getElem_mem _), by rw [h3, List.getElem?_map, hx]; rfl, hc⟩
/-- A row more. -/
theorem Img.snoc {base : Nat} {x : BEl} (h2 : ∀ x ∈ xs, x.In w) (h1 : OwnR w base 22 1 A n c (xs.map BEl.v)) (hx : x.In w) (hp : OwnR w' base 22 1 A2 (n + 1) c2 (xs.map BEl.v ++ [x.v])) (hg : w.grownBy w' (A.map (·.block))) : Img w' base A2 (n + 1) c2 (xs.map (·.l) ++ [x.l]) := by
  have hm : Moved w w' (Ab A) (Ab A) := Moved.of_grown hg (fun k hk => by
    cases A with
    | none => cases hk
    | some ad => cases hk; simp [Ab])
  have hn : NoU8 w (Ab A) := h1.nou8 (by decide)
  refine ⟨xs ++ [x], by rw [List.map_append]; exact hp, fun y hy => ?_, by rw [List.map_append]; rfl⟩
  rcases List.mem_append.1 hy with hy | hy
  · exact (h2 y hy).stay hn hm
  · rw [List.mem_singleton] at hy
    subst hy
    exact hx.stay hn hm
end

end Go.Proofs.YtdlcngmcjidomaaDoor

/- disk.New. No condition. -/
namespace Go.Proofs.YtdlcngmcjidomaaDoor
set_option linter.unusedSimpArgs false
set_option linter.unusedVariables false
open Go.RowKit

section
variable {P : Program} {w : World}
/-- 'make([]T, n)' of numbers, in a region that draws its order. -/
theorem step_mkI {ops : Array Oper} {o : Oper} {a : Act} {K : Act → World → Prop} {Q : Exit → Act → World → Prop} {E : Prop} (hgd : o.guard = none) (l c : Operand) (t : TypeId) (ho : o.op = Op.makeSlice t l c)
    {kd : IntKind} {lim : Nat} (hlim : 0 < lim) (e : TypeId) (bytes : Nat) (ht : P.underlying t = some (.slice e)) (hinfo : (P.info? e).map (fun i => (i.zero, i.size, i.bytes)) = some (some (.int kd 0), 1, bytes))
    {kl kc : IntKind} {L C : Int} (n : Nat) (hl : a.eval l = .int kl L) (hc : a.eval c = .int kc C) (hL : L = (n : Int)) (hC : C = (n : Int)) (b2 : bytes * n ≤ 281474976710656) (b3 : n ≤ maxLen)
    (base : Nat) (hbase : base ≤ w.heap.size)
    (h : ∀ w', OwnI w' base kd lim e (some ⟨w.heap.size, 0, none⟩) n n (List.replicate n 0) → w.grownBy w' none → K (a.put o.dst (.slice (some ⟨w.heap.size, 0, none⟩) n n)) w') :
    if Region.wanted o (yielded ops a.tmps) = true then Oper.wp P o a w K Q else E := by
  have hw : Region.wanted o (yielded ops a.tmps) = true := by simp [Region.wanted, hgd]
  rw [if_pos hw]
  obtain ⟨i, hi, hz, hs1, hs2⟩ := info_parts hinfo
  obtain ⟨w', hrun, r1, r2⟩ := run_make_full (P := P) w base t e i _ 1 ht hi hz hs1 kl kc n (by rw [hs2]; exact b2) b3 hbase
  subst hL
  subst hC
  unfold Oper.wp
  simp [execOp, ho, hl, hc, hrun, Result.andThen]
  refine h w' ⟨⟨?_⟩, fun x hx => by rw [List.eq_of_mem_replicate hx]; exact hlim⟩ r2
  rw [List.map_replicate]
  rw [show (Value.int kd 0).cells = #[Value.int kd 0] from rfl, Nat.mul_one, toList_madeCells_one] at r1
  exact r1
end

section
variable {w w' : World} {T T1 : List Nat} {g : Nat} {s : DSt} {A A2 : Option Addr} {n c : Nat} {pA : Option Addr} {pn pc c2 : Nat} {xs : List BEl} {ys : List (Nat × BEl)}
/-- A sector more. -/
theorem DiskIn.widened (h : DiskIn w T g s A n c pA pn pc xs ys) {y : BEl} (hy : y.In w) (hl : y.l = [] ∨ y.l.length = 64) (hmost : s.sure.length + 1 ≤ 512)
    (hp : OwnR w' 0 22 1 A2 (n + 1) c2 (xs.map BEl.v ++ [y.v])) (hg : w.grownBy w' (A.map (·.block))) (hA : A2 = A ∨ A2 = some ⟨w.heap.size, 0, none⟩) :
    Blk w' g 64 #[.slice A n c, .slice pA pn pc, .bool s.down, .int .i64 s.stop, .int .i64 (s.begun : Int)] ∧ ∃ T', DiskIn (w'.setCell ⟨g, 0, none⟩ (.slice A2 (n + 1) c2)) T' g { s with sure := s.sure ++ [y.l] } A2 (n + 1) c2 pA pn pc (xs ++ [y]) ys ∧ Moved w (w'.setCell ⟨g, 0, none⟩ (.slice A2 (n + 1) c2)) T T' := by
  have hm : Moved w w' T T := (Moved.refl w T).grown hg (fun k hk => by
    cases A with
    | none => cases hk
    | some ad => cases hk; exact .inl (h.AT rfl))
  have hgp : some g ≠ A.map (·.block) := by
    intro e
    cases hpa : A with
    | none => rw [hpa] at e; cases e
    | some ad => rw [hpa] at e; cases e; exact h.A_ne ad hpa rfl
  have hb := h.blk.grown hg hgp
  have hs := h.pend.kept hg (h.pend.dis h.sure (by decide))
  have hn := NoU8.cons hb (by decide) ((hp.nou8 (by decide)).app (hs.nou8 (by decide)))
  have hm2 : Moved w w' T (g :: (Ab A2 ++ Ab pA)) := hm.to' fun k hk => by
    rcases List.mem_cons.1 hk with rfl | hk
    · exact .inr (.inl h.gT)
    · rcases List.mem_append.1 hk with hk | hk
      · rcases hA with rfl | rfl
        · refine .inr (.inl ?_)
          rw [h.hT]
          exact List.mem_cons_of_mem _ (List.mem_append_left _ hk)
        · simp only [Ab, Option.map_some, Option.toList_some, List.mem_singleton] at hk
          exact .inr (.inr (by omega))
      · refine .inr (.inl ?_)
        rw [h.hT]
        exact List.mem_cons_of_mem _ (List.mem_append_right _ hk)
  have hgT : g ∈ g :: (Ab A2 ++ Ab pA) := by simp
  have hst := moved_set (w := w') (p := ⟨g, 0, none⟩) hgT (.slice A2 (n + 1) c2)
  refine ⟨hb, g :: (Ab A2 ++ Ab pA), ⟨hb.set_ 0 _, by rw [List.map_append]; exact hp.setCell (hp.type_ne hb (show 22 ≠ 64 by decide)) _, hs.setCell h.pA_ne _, fun x hx => ?_, fun z hz => ((h.yin z hz).stay h.no hm2).stay hn hst, ?_, h.ep, rfl, hn.set_ g 0 _, fun l hl2 => ?_, fun p hp => ?_, ?_, h.wf.stop0, h.wf.stop1⟩, hm2.set_ (p := ⟨g, 0, none⟩) hgT _⟩
  · rcases List.mem_append.1 hx with hx | hx
    · exact ((h.xin x hx).stay h.no hm2).stay hn hst
    · rw [List.mem_singleton] at hx
      subst hx
      exact (hy.stay h.no hm2).stay hn hst
  · show s.sure ++ [y.l] = _
    rw [List.map_append, ← h.es]; rfl
  · rcases List.mem_append.1 hl2 with hl2 | hl2
    · exact h.wf.sure l hl2
    · rw [List.mem_singleton] at hl2
      subst hl2
      exact hl
  · have := h.wf.pend p hp
    show p.1 < (s.sure ++ [y.l]).length ∧ _
    rw [List.length_append]
    exact ⟨by omega, this.2⟩
  · show (s.sure ++ [y.l]).length ≤ 512
    rw [List.length_append]
    simpa using hmost
/-- A disk of no sectors. -/
theorem diskIn_new (w : World) : DiskIn (w.alloc (.cells #[.slice none 0 0, .slice none 0 0, .bool false, .int .i64 0, .int .i64 0] 64)) [w.heap.size] w.heap.size (DSt.new 0) none 0 0 none 0 0 [] [] :=
  ⟨Blk.new .., OwnR.nil_ .., OwnR.nil_ .., (fun _ h => by cases h), (fun _ h => by cases h), rfl, rfl, rfl, NoU8.cons (Blk.new ..) (by decide) ⟨fun _ h => by cases h⟩, (fun _ h => by cases h), (fun _ h => by cases h), by show 0 ≤ 512; omega, by show (0 : Int) ≤ 0; omega, by show (0 : Int) < _; decide⟩
theorem new_snoc (k : Nat) : { DSt.new k with sure := (DSt.new k).sure ++ [List.replicate 64 0] } = DSt.new (k + 1) := by
  unfold DSt.new
  simp only [DSt.mk.injEq, and_true]
  generalize List.replicate 64 0 = z
  rw [List.replicate_succ']
end

set_option maxRecDepth 100000 in
theorem dnew_no (n : Int) (h : n < 1 ∨ 512 < n) (w : World) :
    Calls Tryd.prog 11 #[.int .i64 n] w fun e w' => e = .returned (.tuple #[.pointer none, .int .i64 1]) ∧ w = w' := by
  by_cases h1 : n < 1
  · clear h
    go_enter Tryd.func11, Tryd.ntmps11
    go_wp2_with fail
    go_ret2
    exact ⟨rfl, rfl⟩
  · have h2 : 512 < n := by omega
    have h3 : decide (n < 1) = false := by simpa using h1
    clear h
    go_enter Tryd.func11, Tryd.ntmps11
    go_wp2_with fail
    go_ret2
    exact ⟨rfl, rfl⟩
set_option maxRecDepth 100000 in
set_option maxHeartbeats 1600000 in
theorem dnew_any (n : Nat) (hn1 : 1 ≤ n) (hn2 : n ≤ 512) (w : World) :
    Calls Tryd.prog 11 #[.int .i64 (n : Int)] w fun e w' => ∃ g T, e = .returned (.tuple #[.pointer (some ⟨g, 0, none⟩), .int .i64 0]) ∧ DiskAt w' T g (DSt.new n) ∧ (∀ k ∈ T, w.heap.size ≤ k) ∧ Below w.heap.size w w' := by
  have h1 : ¬ ((n : Int) < 1) := by omega
  have h2 : ¬ (512 < (n : Int)) := by omega
  have h3 : decide ((n : Int) < 1) = false := by simpa using h1
  have h4 : decide (512 < (n : Int)) = false := by simpa using h2
  have D0 := diskIn_new w
  have H := Lib.hid D0
  have B0 := Lib.hid ((Below.refl w.heap.size w).alloc (Nat.le_refl _) (.cells #[.slice none 0 0, .slice none 0 0, .bool false, .int .i64 0, .int .i64 0] 64))
  clear D0
  go_enter Tryd.func11, Tryd.ntmps11
  go_wp2_with fail
  go_loopw [14] (fun i wr => ∃ (k : Nat) (T : List Nat), k ≤ n ∧ i = .int .i64 k ∧ DiskAt wr T w.heap.size (DSt.new k) ∧ (∀ j ∈ T, w.heap.size ≤ j) ∧ Below w.heap.size w wr) (fun i _ => n - (intOf i).toNat)
  case atStart => exact ⟨0, [w.heap.size], Nat.zero_le _, rfl, H.out.at_, by simp, B0.out⟩
  case round =>
    obtain ⟨k, T, hk, rfl, D, hT, hb⟩ := hrel
    clear H B0
    by_cases hkn : k < n
    · have hlt : (k : Int) < (n : Int) := by omega
      -- region 6
      obtain ⟨g, hg⟩ : ∃ g, w.heap.size = g := ⟨_, rfl⟩
      rw [hg] at D ⊢
      have HG := Lib.hid hg
      obtain ⟨A, n1, c, pA, pn, pc, xs, ys, D1⟩ := D.ex
      obtain rfl : k = n1 := by
        have := D1.n_eq
        unfold DSt.new at this
        simpa using this
      clear D hg
      go_wp2_with fail
      refine wp_region_late [10] (fun w' => w'.cell? ⟨g, 0, none⟩ = some (.slice A k c)) (by kernel_rfl) ?_
      have D2 := D1.drew
      have hb2 := hb.drew
      clear D1 hb
      generalize World.drew _ = w2 at *
      have c0 := D2.c0
      refine wpAnyL_take (i := 0) (v := ?_) rfl (by kernel_rfl) (by kernel_rfl) (by kernel_rfl) (by kernel_rfl) (by kernel_rfl) (fun _ _ _ h => h) (Or.inl ⟨by kernel_rfl, ?_⟩) c0 ?_
      rotate_left
      · rintro w0 h1_; go_simp; (try with_reducible rfl)
      try simp only [Act.put, List.setIfInBounds_toArray, List.set_cons_zero, List.set_cons_succ]
      refine wpAnyL_take (i := 1) (v := ?_) rfl (by kernel_rfl) (by kernel_rfl) (by kernel_rfl) (by kernel_rfl) (by kernel_rfl) (fun _ _ _ h => h) (Or.inl ⟨by kernel_rfl, ?_⟩) c0 ?_
      rotate_left
      · rintro w0 h1_; go_simp; (try with_reducible rfl)
      try simp only [Act.put, List.setIfInBounds_toArray, List.set_cons_zero, List.set_cons_succ]
      refine wpAnyL_take (i := 2) (v := ?_) rfl (by kernel_rfl) (by kernel_rfl) (by kernel_rfl) (by kernel_rfl) (by kernel_rfl) (fun _ _ _ h => h) (Or.inl ⟨by kernel_rfl, ?_⟩) c0 ?_
      rotate_left
      · rintro w0 h1_; go_simp; (try with_reducible rfl)
      try simp only [Act.put, List.setIfInBounds_toArray, List.set_cons_zero, List.set_cons_succ]
      refine wpAnyL_take (i := 3) (v := ?_) rfl (by kernel_rfl) (by kernel_rfl) (by kernel_rfl) (by kernel_rfl) (by kernel_rfl) (fun _ _ _ h => h) (Or.inl ⟨by kernel_rfl, ?_⟩) c0 ?_
      rotate_left
      · rintro w0 h1_; go_simp; (try with_reducible rfl)
      try simp only [Act.put, List.setIfInBounds_toArray, List.set_cons_zero, List.set_cons_succ]
      refine wpAnyL_take (i := 4) (v := ?_) rfl (by kernel_rfl) (by kernel_rfl) (by kernel_rfl) (by kernel_rfl) (by kernel_rfl) (fun _ _ _ h => h) (Or.inl ⟨by kernel_rfl, ?_⟩) c0 ?_
      rotate_left
      · rintro w0 h1_; go_simp; (try with_reducible rfl)
      try simp only [Act.put, List.setIfInBounds_toArray, List.set_cons_zero, List.set_cons_succ]
      refine wpAnyL_one (i := 5) (by kernel_rfl) rfl (fun K hK => ?_)
      refine step_mkI rfl (.const (.int .i64 64)) (.const (.int .i64 64)) 22 rfl (lim := 256) (by omega) 5 1 Tryd.underlying22 dinfo_u8 64 rfl rfl rfl rfl (by omega) (by decide) w2.heap.size (Nat.le_refl _) ?_
      intro w3 ho hg3
      have hz2 := hb2.size
      have hb3 := below_none (Below.refl w2.heap.size w2) hg3 (Nat.le_refl _)
      have hb30 := below_none hb2 hg3 hz2
      have hz3 := hb3.size
      have D3 := D2.below hb3
      have hy3 := BEl.In.of_own ho (by simp)
      clear c0
      have c0 := D3.c0
      refine hK.out _ _ (fun _ => c0) ?_
      clear hK K
      try simp only [Act.put, List.setIfInBounds_toArray, List.set_cons_zero, List.set_cons_succ]
      refine wpAnyL_one (i := 6) (by kernel_rfl) rfl (fun K hK => ?_)
      go_simp
      have D4 := D3.alloc (.cells #[.slice (some ⟨w2.heap.size, 0, none⟩) 64 64] 22)
      have hy := hy3.alloc (.cells #[.slice (some ⟨w2.heap.size, 0, none⟩) 64 64] 22)
      have hb4 := hb30.alloc (by omega) (.cells #[.slice (some ⟨w2.heap.size, 0, none⟩) 64 64] 22)
      have hcs := cells_new w3 #[.slice (some ⟨w2.heap.size, 0, none⟩) 64 64] 22 (g := w3.heap.size) rfl
      have hz4 : w2.heap.size ≤ (w3.alloc (.cells #[.slice (some ⟨w2.heap.size, 0, none⟩) 64 64] 22)).heap.size := by simp; omega
      clear c0
      have c0 := D4.c0
      refine hK.out _ _ (fun _ => c0) ?_
      clear hK K
      try simp only [Act.put, List.setIfInBounds_toArray, List.set_cons_zero, List.set_cons_succ]
      generalize w3.alloc _ = w4 at *
      refine wpAnyL_one (i := 7) (by kernel_rfl) rfl (fun K hK => ?_)
      refine step_appR rfl (.tmp 20) (.tmp 22) 32 rfl 22 _ 1 24 Tryd.underlying32 binfo rfl (by omega) (by omega) rfl D4.sure (ad := ⟨w3.heap.size, 0, none⟩) (m := 1) (c' := 1) [.slice (some ⟨w2.heap.size, 0, none⟩) 64 64] rfl rfl hcs (by intro u hu; simp only [List.mem_cons, List.not_mem_nil, or_false] at hu; rw [hu]; rfl) (by omega) (Nat.zero_le _) ?_
      intro A5 c5 w5 hown hg5 hA
      obtain ⟨hb5, T', D5, hm5⟩ := D4.widened hy (.inr (by simp)) (by rw [D4.n_eq]; omega) hown hg5 hA
      rw [new_snoc] at D5
      have hTB : ∀ j ∈ T', w.heap.size ≤ j := fun j hj => (hm5.new j hj).elim (hT j) (fun h => by omega)
      have hbf := hm5.below hb4 (by omega) hT
      have c0 := hb5.cell 0
      have f0 := hb5.frozen 0
      have HF := Lib.hid (And.intro D5.at_ (And.intro hTB hbf))
      clear D5 hTB hbf hm5 hown hb5 hg5 hA hy hcs D4 D3 D2 ho hg3 hb2 hb30 hb3 hb4 hy3
      refine hK.out _ _ (fun _ => c0) ?_
      clear hK K
      try simp only [Act.put, List.setIfInBounds_toArray, List.set_cons_zero, List.set_cons_succ]
      refine wpAnyL_one (i := 8) (by kernel_rfl) rfl (fun K hK => ?_)
      go_simp
      refine hK.out _ _ (fun _ => c0) ?_
      clear hK K
      try simp only [Act.put, List.setIfInBounds_toArray, List.set_cons_zero, List.set_cons_succ]
      refine wpAnyL_one (i := 9) (by kernel_rfl) rfl (fun K hK => ?_)
      go_simp
      refine hK.out _ _ (fun _ => c0) ?_
      clear hK K
      try simp only [Act.put, List.setIfInBounds_toArray, List.set_cons_zero, List.set_cons_succ]
      refine wpAnyL_one (i := 10) (by kernel_rfl) rfl (fun K hK => ?_)
      go_simp
      refine hK.out _ _ (fun h => absurd (by simp) h) ?_
      clear hK K
      try simp only [Act.put, List.setIfInBounds_toArray, List.set_cons_zero, List.set_cons_succ]
      refine wpAnyL_done (by kernel_rfl) ?_ _
      go_wp2_with fail
      have hgg := HG.out
      subst hgg
      exact ⟨⟨k + 1, T', by omega, by go_num, HF.out.1, HF.out.2.1, HF.out.2.2⟩, by simp [intOf]; omega⟩
    · obtain rfl : k = n := by omega
      have H := Lib.hid D
      clear D
      go_wp2_with fail
      go_ret2
      exact ⟨_, T, rfl, H.out, hT, hb⟩
end Go.Proofs.YtdlcngmcjidomaaDoor
