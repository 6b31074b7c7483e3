/- disk.New. No condition. -/
import Derived.Test.YtdlcngmcjidomaaDoorDiskG
namespace Go.Proofs.YtdlcngmcjidomaaDoor
set_option linter.unusedSimpArgs false
set_option linter.unusedVariables false
open Go.RowKit

section
variable {P : Program} {w : World}
/-- 'make([]T, n)' of numbers, in a region that draws its order. -/
theorem step_mkI {ops : Array Oper} {o : Oper} {a : Act} {K : Act → World → Prop} {Q : Exit → Act → World → Prop} {E : Prop} (hgd : o.guard = none) (l c : Operand) (t : TypeId) (ho : o.op = Op.makeSlice t l c)
    {kd : IntKind} {lim : Nat} (hlim : 0 < lim) (e : TypeId) (bytes : Nat) (ht : P.underlying t = some (.slice e)) (hinfo : (P.info? e).map (fun i => (i.zero, i.size, i.bytes)) = some (some (.int kd 0), 1, bytes))
    {kl kc : IntKind} {L C : Int} (n : Nat) (hl : a.eval l = .int kl L) (hc : a.eval c = .int kc C) (hL : L = (n : Int)) (hC : C = (n : Int)) (b2 : bytes * n ≤ 281474976710656) (b3 : n ≤ maxLen)
    (base : Nat) (hbase : base ≤ w.heap.size)
    (h : ∀ w', OwnI w' base kd lim e (some ⟨w.heap.size, 0, none⟩) n n (List.replicate n 0) → w.grownBy w' none → K (a.put o.dst (.slice (some ⟨w.heap.size, 0, none⟩) n n)) w') :
    if Region.wanted o (yielded ops a.tmps) = true then Oper.wp P o a w K Q else E := by
  have hw : Region.wanted o (yielded ops a.tmps) = true := by simp [Region.wanted, hgd]
  rw [if_pos hw]
  obtain ⟨i, hi, hz, hs1, hs2⟩ := info_parts hinfo
  obtain ⟨w', hrun, r1, r2⟩ := run_make_full (P := P) w base t e i _ 1 ht hi hz hs1 kl kc n (by rw [hs2]; exact b2) b3 hbase
  subst hL
  subst hC
  unfold Oper.wp
  simp [execOp, ho, hl, hc, hrun, Result.andThen]
  refine h w' ⟨⟨?_⟩, fun x hx => by rw [List.eq_of_mem_replicate hx]; exact hlim⟩ r2
  rw [List.map_replicate]
  rw [show (Value.int kd 0).cells = #[Value.int kd 0] from rfl, Nat.mul_one, toList_madeCells_one] at r1
  exact r1
end

section
variable {w w' : World} {T T1 : List Nat} {g : Nat} {s : DSt} {A A2 : Option Addr} {n c : Nat} {pA : Option Addr} {pn pc c2 : Nat} {xs : List BEl} {ys : List (Nat × BEl)}
/-- A sector more. -/
theorem DiskIn.widened (h : DiskIn w T g s A n c pA pn pc xs ys) {y : BEl} (hy : y.In w) (hl : y.l = [] ∨ y.l.length = 64) (hmost : s.sure.length + 1 ≤ 512)
    (hp : OwnR w' 0 22 1 A2 (n + 1) c2 (xs.map BEl.v ++ [y.v])) (hg : w.grownBy w' (A.map (·.block))) (hA : A2 = A ∨ A2 = some ⟨w.heap.size, 0, none⟩) :
    Blk w' g 64 #[.slice A n c, .slice pA pn pc, .bool s.down, .int .i64 s.stop, .int .i64 (s.begun : Int)] ∧ ∃ T', DiskIn (w'.setCell ⟨g, 0, none⟩ (.slice A2 (n + 1) c2)) T' g { s with sure := s.sure ++ [y.l] } A2 (n + 1) c2 pA pn pc (xs ++ [y]) ys ∧ Moved w (w'.setCell ⟨g, 0, none⟩ (.slice A2 (n + 1) c2)) T T' := by
  have hm : Moved w w' T T := (Moved.refl w T).grown hg (fun k hk => by
    cases A with
    | none => cases hk
    | some ad => cases hk; exact .inl (h.AT rfl))
  have hgp : some g ≠ A.map (·.block) := by
    intro e
    cases hpa : A with
    | none => rw [hpa] at e; cases e
    | some ad => rw [hpa] at e; cases e; exact h.A_ne ad hpa rfl
  have hb := h.blk.grown hg hgp
  have hs := h.pend.kept hg (h.pend.dis h.sure (by decide))
  have hn := NoU8.cons hb (by decide) ((hp.nou8 (by decide)).app (hs.nou8 (by decide)))
  have hm2 : Moved w w' T (g :: (Ab A2 ++ Ab pA)) := hm.to' fun k hk => by
    rcases List.mem_cons.1 hk with rfl | hk
    · exact .inr (.inl h.gT)
    · rcases List.mem_append.1 hk with hk | hk
      · rcases hA with rfl | rfl
        · refine .inr (.inl ?_)
          rw [h.hT]
          exact List.mem_cons_of_mem _ (List.mem_append_left _ hk)
        · simp only [Ab, Option.map_some, Option.toList_some, List.mem_singleton] at hk
          exact .inr (.inr (by omega))
      · refine .inr (.inl ?_)
        rw [h.hT]
        exact List.mem_cons_of_mem _ (List.mem_append_right _ hk)
  have hgT : g ∈ g :: (Ab A2 ++ Ab pA) := by simp
  have hst := moved_set (w := w') (p := ⟨g, 0, none⟩) hgT (.slice A2 (n + 1) c2)
  refine ⟨hb, g :: (Ab A2 ++ Ab pA), ⟨hb.set_ 0 _, by rw [List.map_append]; exact hp.setCell (hp.type_ne hb (show 22 ≠ 64 by decide)) _, hs.setCell h.pA_ne _, fun x hx => ?_, fun z hz => ((h.yin z hz).stay h.no hm2).stay hn hst, ?_, h.ep, rfl, hn.set_ g 0 _, fun l hl2 => ?_, fun p hp => ?_, ?_, h.wf.stop0, h.wf.stop1⟩, hm2.set_ (p := ⟨g, 0, none⟩) hgT _⟩
  · rcases List.mem_append.1 hx with hx | hx
    · exact ((h.xin x hx).stay h.no hm2).stay hn hst
    · rw [List.mem_singleton] at hx
      subst hx
      exact (hy.stay h.no hm2).stay hn hst
  · show s.sure ++ [y.l] = _
    rw [List.map_append, ← h.es]; rfl
  · rcases List.mem_append.1 hl2 with hl2 | hl2
    · exact h.wf.sure l hl2
    · rw [List.mem_singleton] at hl2
      subst hl2
      exact hl
  · have := h.wf.pend p hp
    show p.1 < (s.sure ++ [y.l]).length ∧ _
    rw [List.length_append]
    exact ⟨by omega, this.2⟩
  · show (s.sure ++ [y.l]).length ≤ 512
    rw [List.length_append]
    simpa using hmost
/-- A disk of no sectors. -/
theorem diskIn_new (w : World) : DiskIn (w.alloc (.cells #[.slice none 0 0, .slice none 0 0, .bool false, .int .i64 0, .int .i64 0] 64)) [w.heap.size] w.heap.size (DSt.new 0) none 0 0 none 0 0 [] [] :=
  ⟨Blk.new .., OwnR.nil_ .., OwnR.nil_ .., (fun _ h => by cases h), (fun _ h => by cases h), rfl, rfl, rfl, NoU8.cons (Blk.new ..) (by decide) ⟨fun _ h => by cases h⟩, (fun _ h => by cases h), (fun _ h => by cases h), by show 0 ≤ 512; omega, by show (0 : Int) ≤ 0; omega, by show (0 : Int) < _; decide⟩
theorem new_snoc (k : Nat) : { DSt.new k with sure := (DSt.new k).sure ++ [List.replicate 64 0] } = DSt.new (k + 1) := by
  unfold DSt.new
  simp only [DSt.mk.injEq, and_true]
  generalize List.replicate 64 0 = z
  rw [List.replicate_succ']
end

set_option maxRecDepth 100000 in
theorem dnew_no (n : Int) (h : n < 1 ∨ 512 < n) (w : World) :
    Calls Tryd.prog 11 #[.int .i64 n] w fun e w' => e = .returned (.tuple #[.pointer none, .int .i64 1]) ∧ w = w' := by
  by_cases h1 : n < 1
  · clear h
    go_enter Tryd.func11, Tryd.ntmps11
    go_wp2_with fail
    go_ret2
    exact ⟨rfl, rfl⟩
  · have h2 : 512 < n := by omega
    have h3 : decide (n < 1) = false := by simpa using h1
    clear h
    go_enter Tryd.func11, Tryd.ntmps11
    go_wp2_with fail
    go_ret2
    exact ⟨rfl, rfl⟩
set_option maxRecDepth 100000 in
set_option maxHeartbeats 1600000 in
theorem dnew_any (n : Nat) (hn1 : 1 ≤ n) (hn2 : n ≤ 512) (w : World) :
    Calls Tryd.prog 11 #[.int .i64 (n : Int)] w fun e w' => ∃ g T, e = .returned (.tuple #[.pointer (some ⟨g, 0, none⟩), .int .i64 0]) ∧ DiskAt w' T g (DSt.new n) ∧ (∀ k ∈ T, w.heap.size ≤ k) ∧ Below w.heap.size w w' := by
  have h1 : ¬ ((n : Int) < 1) := by omega
  have h2 : ¬ (512 < (n : Int)) := by omega
  have h3 : decide ((n : Int) < 1) = false := by simpa using h1
  have h4 : decide (512 < (n : Int)) = false := by simpa using h2
  have D0 := diskIn_new w
  have H := Lib.hid D0
  have B0 := Lib.hid ((Below.refl w.heap.size w).alloc (Nat.le_refl _) (.cells #[.slice none 0 0, .slice none 0 0, .bool false, .int .i64 0, .int .i64 0] 64))
  clear D0
  go_enter Tryd.func11, Tryd.ntmps11
  go_wp2_with fail
  go_loopw [14] (fun i wr => ∃ (k : Nat) (T : List Nat), k ≤ n ∧ i = .int .i64 k ∧ DiskAt wr T w.heap.size (DSt.new k) ∧ (∀ j ∈ T, w.heap.size ≤ j) ∧ Below w.heap.size w wr) (fun i _ => n - (intOf i).toNat)
  case atStart => exact ⟨0, [w.heap.size], Nat.zero_le _, rfl, H.out.at_, by simp, B0.out⟩
  case round =>
    obtain ⟨k, T, hk, rfl, D, hT, hb⟩ := hrel
    clear H B0
    by_cases hkn : k < n
    · have hlt : (k : Int) < (n : Int) := by omega
      -- region 6
      obtain ⟨g, hg⟩ : ∃ g, w.heap.size = g := ⟨_, rfl⟩
      rw [hg] at D ⊢
      have HG := Lib.hid hg
      obtain ⟨A, n1, c, pA, pn, pc, xs, ys, D1⟩ := D.ex
      obtain rfl : k = n1 := by
        have := D1.n_eq
        unfold DSt.new at this
        simpa using this
      clear D hg
      go_wp2_with fail
      refine wp_region_late [10] (fun w' => w'.cell? ⟨g, 0, none⟩ = some (.slice A k c)) (by kernel_rfl) ?_
      have D2 := D1.drew
      have hb2 := hb.drew
      clear D1 hb
      generalize World.drew _ = w2 at *
      have c0 := D2.c0
      refine wpAnyL_take (i := 0) (v := ?_) rfl (by kernel_rfl) (by kernel_rfl) (by kernel_rfl) (by kernel_rfl) (by kernel_rfl) (fun _ _ _ h => h) (Or.inl ⟨by kernel_rfl, ?_⟩) c0 ?_
      rotate_left
      · rintro w0 h1_; go_simp; (try with_reducible rfl)
      try simp only [Act.put, List.setIfInBounds_toArray, List.set_cons_zero, List.set_cons_succ]
      refine wpAnyL_take (i := 1) (v := ?_) rfl (by kernel_rfl) (by kernel_rfl) (by kernel_rfl) (by kernel_rfl) (by kernel_rfl) (fun _ _ _ h => h) (Or.inl ⟨by kernel_rfl, ?_⟩) c0 ?_
      rotate_left
      · rintro w0 h1_; go_simp; (try with_reducible rfl)
      try simp only [Act.put, List.setIfInBounds_toArray, List.set_cons_zero, List.set_cons_succ]
      refine wpAnyL_take (i := 2) (v := ?_) rfl (by kernel_rfl) (by kernel_rfl) (by kernel_rfl) (by kernel_rfl) (by kernel_rfl) (fun _ _ _ h => h) (Or.inl ⟨by kernel_rfl, ?_⟩) c0 ?_
      rotate_left
      · rintro w0 h1_; go_simp; (try with_reducible rfl)
      try simp only [Act.put, List.setIfInBounds_toArray, List.set_cons_zero, List.set_cons_succ]
      refine wpAnyL_take (i := 3) (v := ?_) rfl (by kernel_rfl) (by kernel_rfl) (by kernel_rfl) (by kernel_rfl) (by kernel_rfl) (fun _ _ _ h => h) (Or.inl ⟨by kernel_rfl, ?_⟩) c0 ?_
      rotate_left
      · rintro w0 h1_; go_simp; (try with_reducible rfl)
      try simp only [Act.put, List.setIfInBounds_toArray, List.set_cons_zero, List.set_cons_succ]
      refine wpAnyL_take (i := 4) (v := ?_) rfl (by kernel_rfl) (by kernel_rfl) (by kernel_rfl) (by kernel_rfl) (by kernel_rfl) (fun _ _ _ h => h) (Or.inl ⟨by kernel_rfl, ?_⟩) c0 ?_
      rotate_left
      · rintro w0 h1_; go_simp; (try with_reducible rfl)
      try simp only [Act.put, List.setIfInBounds_toArray, List.set_cons_zero, List.set_cons_succ]
      refine wpAnyL_one (i := 5) (by kernel_rfl) rfl (fun K hK => ?_)
      refine step_mkI rfl (.const (.int .i64 64)) (.const (.int .i64 64)) 22 rfl (lim := 256) (by omega) 5 1 Tryd.underlying22 dinfo_u8 64 rfl rfl rfl rfl (by omega) (by decide) w2.heap.size (Nat.le_refl _) ?_
      intro w3 ho hg3
      have hz2 := hb2.size
      have hb3 := below_none (Below.refl w2.heap.size w2) hg3 (Nat.le_refl _)
      have hb30 := below_none hb2 hg3 hz2
      have hz3 := hb3.size
      have D3 := D2.below hb3
      have hy3 := BEl.In.of_own ho (by simp)
      clear c0
      have c0 := D3.c0
      refine hK.out _ _ (fun _ => c0) ?_
      clear hK K
      try simp only [Act.put, List.setIfInBounds_toArray, List.set_cons_zero, List.set_cons_succ]
      refine wpAnyL_one (i := 6) (by kernel_rfl) rfl (fun K hK => ?_)
      go_simp
      have D4 := D3.alloc (.cells #[.slice (some ⟨w2.heap.size, 0, none⟩) 64 64] 22)
      have hy := hy3.alloc (.cells #[.slice (some ⟨w2.heap.size, 0, none⟩) 64 64] 22)
      have hb4 := hb30.alloc (by omega) (.cells #[.slice (some ⟨w2.heap.size, 0, none⟩) 64 64] 22)
      have hcs := cells_new w3 #[.slice (some ⟨w2.heap.size, 0, none⟩) 64 64] 22 (g := w3.heap.size) rfl
      have hz4 : w2.heap.size ≤ (w3.alloc (.cells #[.slice (some ⟨w2.heap.size, 0, none⟩) 64 64] 22)).heap.size := by simp; omega
      clear c0
      have c0 := D4.c0
      refine hK.out _ _ (fun _ => c0) ?_
      clear hK K
      try simp only [Act.put, List.setIfInBounds_toArray, List.set_cons_zero, List.set_cons_succ]
      generalize w3.alloc _ = w4 at *
      refine wpAnyL_one (i := 7) (by kernel_rfl) rfl (fun K hK => ?_)
      refine step_appR rfl (.tmp 20) (.tmp 22) 32 rfl 22 _ 1 24 Tryd.underlying32 binfo rfl (by omega) (by omega) rfl D4.sure (ad := ⟨w3.heap.size, 0, none⟩) (m := 1) (c' := 1) [.slice (some ⟨w2.heap.size, 0, none⟩) 64 64] rfl rfl hcs (by intro u hu; simp only [List.mem_cons, List.not_mem_nil, or_false] at hu; rw [hu]; rfl) (by omega) (Nat.zero_le _) ?_
      intro A5 c5 w5 hown hg5 hA
      obtain ⟨hb5, T', D5, hm5⟩ := D4.widened hy (.inr (by simp)) (by rw [D4.n_eq]; omega) hown hg5 hA
      rw [new_snoc] at D5
      have hTB : ∀ j ∈ T', w.heap.size ≤ j := fun j hj => (hm5.new j hj).elim (hT j) (fun h => by omega)
      have hbf := hm5.below hb4 (by omega) hT
      have c0 := hb5.cell 0
      have f0 := hb5.frozen 0
      have HF := Lib.hid (And.intro D5.at_ (And.intro hTB hbf))
      clear D5 hTB hbf hm5 hown hb5 hg5 hA hy hcs D4 D3 D2 ho hg3 hb2 hb30 hb3 hb4 hy3
      refine hK.out _ _ (fun _ => c0) ?_
      clear hK K
      try simp only [Act.put, List.setIfInBounds_toArray, List.set_cons_zero, List.set_cons_succ]
      refine wpAnyL_one (i := 8) (by kernel_rfl) rfl (fun K hK => ?_)
      go_simp
      refine hK.out _ _ (fun _ => c0) ?_
      clear hK K
      try simp only [Act.put, List.setIfInBounds_toArray, List.set_cons_zero, List.set_cons_succ]
      refine wpAnyL_one (i := 9) (by kernel_rfl) rfl (fun K hK => ?_)
      go_simp
      refine hK.out _ _ (fun _ => c0) ?_
      clear hK K
      try simp only [Act.put, List.setIfInBounds_toArray, List.set_cons_zero, List.set_cons_succ]
      refine wpAnyL_one (i := 10) (by kernel_rfl) rfl (fun K hK => ?_)
      go_simp
      refine hK.out _ _ (fun h => absurd (by simp) h) ?_
      clear hK K
      try simp only [Act.put, List.setIfInBounds_toArray, List.set_cons_zero, List.set_cons_succ]
      refine wpAnyL_done (by kernel_rfl) ?_ _
      go_wp2_with fail
      have hgg := HG.out
      subst hgg
      exact ⟨⟨k + 1, T', by omega, by go_num, HF.out.1, HF.out.2.1, HF.out.2.2⟩, by simp [intOf]; omega⟩
    · obtain rfl : k = n := by omega
      have H := Lib.hid D
      clear D
      go_wp2_with fail
      go_ret2
      exact ⟨_, T, rfl, H.out, hT, hb⟩
end Go.Proofs.YtdlcngmcjidomaaDoor
