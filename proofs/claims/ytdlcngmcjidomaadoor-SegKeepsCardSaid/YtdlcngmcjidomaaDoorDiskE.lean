/- disk.Write. No condition but that there are fewer than 2^40 pending writes, and fewer than 2^60 begun. -/
import Derived.Test.YtdlcngmcjidomaaDoorDiskD
namespace Go.Proofs.YtdlcngmcjidomaaDoor
set_option linter.unusedSimpArgs false
set_option linter.unusedVariables false
open Go.RowKit

theorem winfo : (Tryd.prog.info? 83).map (fun i => (i.zero, i.size, i.bytes)) = some (some (.agg #[.int .i64 0, .slice none 0 0]), 2, 32) := by kernel_rfl
section
variable {P : Program} {w : World}
/-- 'append(s, x...)', s the call's own, its elements of size sz, x not nil, in a region that draws its order. -/
theorem step_appR {ops : Array Oper} {o : Oper} {a : Act} {K : Act → World → Prop} {Q : Exit → Act → World → Prop} {E : Prop} (hgd : o.guard = none) (s x : Operand) (t : TypeId)
    (ho : o.op = .call { callee := .builtin .append, args := #[s, x], argTypes := #[t, t] })
    (e : TypeId) (z : Value) (sz bytes : Nat) (ht : P.underlying t = some (.slice e)) (hinfo : (P.info? e).map (fun i => (i.zero, i.size, i.bytes)) = some (some z, sz, bytes)) (hz1 : z.cells.size = sz) (hsz : 0 < sz) (hby : 0 < bytes)
    {base : Nat} {A : Option Addr} {n c : Nat} {xs : List Value} (hs : a.eval s = .slice A n c) (hown : OwnR w base e sz A n c xs)
    {ad : Addr} {m c' : Nat} (news : List Value) (hx : a.eval x = .slice (some ad) m c') (hl : news.length = m * sz) (hcells : ∀ j u, news[j]? = some u → w.cell? (ad.add j) = some u) (h1 : ∀ u ∈ news, u.oneCell' = true)
    (hbytes : (n + m) * bytes ≤ 140737488355328) (hbase : base ≤ w.heap.size)
    (h : ∀ A2 c2 w', OwnR w' base e sz A2 (n + m) c2 (xs ++ news) → w.grownBy w' (A.map (·.block)) → (A2 = A ∨ A2 = some ⟨w.heap.size, 0, none⟩) → K (a.put o.dst (.slice A2 (n + m) c2)) w') :
    if Region.wanted o (yielded ops a.tmps) = true then Oper.wp P o a w K Q else E := by
  have hw : Region.wanted o (yielded ops a.tmps) = true := by simp [Region.wanted, hgd]
  rw [if_pos hw]
  obtain ⟨A2, c2, w', hrun, h2, h3, h4⟩ := run_appR (P := P) w base t o.type e z sz bytes ht hinfo hz1 hsz A n c xs hown ad m c' news hl hcells h1 hbytes hby hbase
  unfold Oper.wp execOp
  simp only [ho, resolve, invoke, builtin, Sem.run_bind, Sem.run_pure, Result.andThen_ok, List.map_toArray, List.map_cons, List.map_nil, hs, hx, hrun]
  exact h A2 c2 w' h2 h3 h4
end

section
variable {w w' : World} {T T1 : List Nat} {g : Nat} {s : DSt} {A A2 : Option Addr} {n c : Nat} {pA : Option Addr} {pn pc c2 : Nat} {xs : List BEl} {ys : List (Nat × BEl)}
theorem OwnR.nou8 {base : Nat} {e : TypeId} {sz : Nat} {vs : List Value} (h : OwnR w base e sz A n c vs) (he : e ≠ 5) : NoU8 w (Ab A) :=
  ⟨fun k hk => by
    rcases h.form with ⟨rfl, _⟩ | ⟨g, cur, rfl, _, hg, _⟩
    · cases hk
    · simp only [Ab, Option.map_some, Option.toList_some, List.mem_singleton] at hk
      subst hk
      exact ⟨_, _, hg, he⟩⟩
theorem NoU8.cons {t : TypeId} {cs : Array Value} (h : Blk w g t cs) (ht : t ≠ 5) (hT : NoU8 w T) : NoU8 w (g :: T) :=
  ⟨fun k hk => by
    rcases List.mem_cons.1 hk with rfl | hk
    · exact ⟨_, _, h, ht⟩
    · exact hT.no k hk⟩
theorem NoU8.app (h : NoU8 w T) (h' : NoU8 w T1) : NoU8 w (T ++ T1) := ⟨fun k hk => (List.mem_append.1 hk).elim (h.no k) (h'.no k)⟩
theorem OwnR.dis {base base' : Nat} {e e' : TypeId} {sz sz' : Nat} {vs vs' : List Value} (h : OwnR w base e sz A n c vs) (h' : OwnR w base' e' sz' pA pn pc vs') (ht : e ≠ e') : ∀ ad, A = some ad → some ad.block ≠ pA.map (·.block) := by
  intro ad he hp
  rcases h'.form with ⟨rfl, _⟩ | ⟨g', cur', rfl, _, hg', _⟩
  · cases hp
  · simp only [Option.map_some, Option.some.injEq] at hp
    exact h.type_ne hg' ht ad he hp
/-- A write is pending besides. -/
theorem DiskIn.pushed (h : DiskIn w T g s A n c pA pn pc xs ys) {i : Nat} {y : BEl} (hy : y.In w) (hl : y.l.length = 64) (hi : i < s.sure.length)
    (hp : OwnR w' 0 83 2 A2 (pn + 1) c2 (flatW ys ++ [.int .i64 (i : Int), y.v])) (hg : w.grownBy w' (pA.map (·.block))) (hA : A2 = pA ∨ A2 = some ⟨w.heap.size, 0, none⟩) :
    Blk w' g 64 #[.slice A n c, .slice pA pn pc, .bool s.down, .int .i64 s.stop, .int .i64 (s.begun : Int)] ∧ ∃ T', DiskIn (w'.setCell ⟨g, 1, none⟩ (.slice A2 (pn + 1) c2)) T' g { s with pend := s.pend ++ [(i, y.l)] } A n c A2 (pn + 1) c2 xs (ys ++ [(i, y)]) ∧ Moved w (w'.setCell ⟨g, 1, none⟩ (.slice A2 (pn + 1) c2)) T T' := by
  have hm : Moved w w' T T := (Moved.refl w T).grown hg (fun k hk => by
    cases pA with
    | none => cases hk
    | some ad => cases hk; exact .inl (h.pAT rfl))
  have hgp : some g ≠ pA.map (·.block) := by
    intro e
    cases hpa : pA with
    | none => rw [hpa] at e; cases e
    | some ad => rw [hpa] at e; cases e; exact h.pA_ne ad hpa rfl
  have hb := h.blk.grown hg hgp
  have hs := h.sure.kept hg (h.sure.dis h.pend (by decide))
  have hn := NoU8.cons hb (by decide) ((hs.nou8 (by decide)).app (hp.nou8 (by decide)))
  have hm2 : Moved w w' T (g :: (Ab A ++ Ab A2)) := hm.to' fun k hk => by
    rcases List.mem_cons.1 hk with rfl | hk
    · exact .inr (.inl h.gT)
    · rcases List.mem_append.1 hk with hk | hk
      · refine .inr (.inl ?_)
        rw [h.hT]
        exact List.mem_cons_of_mem _ (List.mem_append_left _ hk)
      · rcases hA with rfl | rfl
        · refine .inr (.inl ?_)
          rw [h.hT]
          exact List.mem_cons_of_mem _ (List.mem_append_right _ hk)
        · simp only [Ab, Option.map_some, Option.toList_some, List.mem_singleton] at hk
          exact .inr (.inr (by omega))
  have hgT : g ∈ g :: (Ab A ++ Ab A2) := by simp
  have hst := moved_set (w := w') (p := ⟨g, 1, none⟩) hgT (.slice A2 (pn + 1) c2)
  refine ⟨hb, g :: (Ab A ++ Ab A2), ⟨hb.set_ 1 _, hs.setCell h.A_ne _, by rw [flatW_snoc]; exact hp.setCell (hp.type_ne hb (show 83 ≠ 64 by decide)) _, fun x hx => ((h.xin x hx).stay h.no hm2).stay hn hst, fun z hz => ?_, h.es, ?_, rfl, hn.set_ g 1 _, h.wf.sure, fun p hp => ?_, h.wf.most, h.wf.stop0, h.wf.stop1⟩, hm2.set_ (p := ⟨g, 1, none⟩) hgT _⟩
  · rcases List.mem_append.1 hz with hz | hz
    · exact ((h.yin z hz).stay h.no hm2).stay hn hst
    · rw [List.mem_singleton] at hz
      subst hz
      exact (hy.stay h.no hm2).stay hn hst
  · rw [List.map_append, ← h.ep]; rfl
  · rcases List.mem_append.1 hp with hp | hp
    · exact h.wf.pend p hp
    · rw [List.mem_singleton] at hp
      subst hp
      exact ⟨hi, hl⟩
end

set_option maxRecDepth 100000 in
set_option maxHeartbeats 1600000 in
theorem dwrite_any {w : World} {T : List Nat} {g : Nat} {s : DSt} (D : DiskAt w T g s) (i : Int) {bA : Option Addr} {bn bc : Nat} {l : List Nat} (hB : Ints w .u8 256 bA bn bc l) (hBT : ∀ ad, bA = some ad → ad.block ∉ T) (hbn : (bn : Int) ≤ 9223372036854775807) (hb : s.begun < 1152921504606846976) (hp : s.pend.length < 1099511627776) :
    Calls Tryd.prog 18 #[.pointer (some ⟨g, 0, none⟩), .int .i64 i, .slice bA bn bc] w fun e w' => e = .returned (.int .i64 (s.write i l).2) ∧ ∃ T', DiskAt w' T' g (s.write i l).1 ∧ Moved w w' T T' := by
  have is := is_any D i
  have bg := begin_any D hb
  have D0 := D
  obtain ⟨A, n, c, pA, pn, pc, xs, ys, D⟩ := D.ex
  have hn := D.n_eq
  have hpn := D.pn_eq
  have c2 := D.c2
  have hl := hB.len
  by_cases hd : s.down = true
  · rw [DSt.write_down hd]
    rw [hd] at c2
    have H := Lib.hid D0
    clear D D0 hn hpn is bg hd hp hb
    go_enter Tryd.func18, Tryd.ntmps18
    go_wp2_with fail
    go_ret
    exact ⟨rfl, T, H.out, Moved.refl _ _⟩
  have hd : s.down = false := by simpa using hd
  rw [hd] at c2
  by_cases hi : s.has i = true
  · by_cases hbl : bn = 64
    · have hw : (s.has i && decide (l.length = 64)) = true := by rw [hi, decide_eq_true (by omega)]; rfl
      rw [hi] at is
      obtain ⟨gs, hgs⟩ : ∃ b, s.goes = b := ⟨_, rfl⟩
      cases gs with
      | true =>
        rw [DSt.write_goes hd hw hgs]
        rw [hgs] at bg
        subst hbl
        clear D D0 hn hpn hd hi hw hgs hp hb hl hB
        go_enter Tryd.func18, Tryd.ntmps18
        go_wp2_with fail
        refine is.mono ?_; rintro e w1 ⟨rfl, rfl⟩
        clear is
        go_wp2_with fail
        refine bg.mono ?_; rintro e w1 ⟨rfl, D1, hm⟩
        have H := Lib.hid (And.intro D1 hm)
        clear bg D1 hm
        go_wp2_with fail
        go_ret
        exact ⟨rfl, T, H.out⟩
      | false =>
        rw [DSt.write_ok hd hw hgs]
        rw [hgs] at bg
        subst hbl
        obtain ⟨j, rfl⟩ : ∃ j : Nat, i = (j : Int) := by
          have := of_decide_eq_true hi
          exact ⟨i.toNat, by omega⟩
        have hj : j < s.sure.length := by have := of_decide_eq_true hi; omega
        have H := Lib.hid (And.intro (And.intro hB hBT) (And.intro hl (And.intro hj hp)))
        clear D hn hpn hd hi hw hgs hp hb hl hB hBT hj
        go_enter Tryd.func18, Tryd.ntmps18
        go_wp2_with fail
        refine is.mono ?_; rintro e w1 ⟨rfl, rfl⟩
        clear is
        go_wp2_with fail
        refine bg.mono ?_; rintro e w1 ⟨rfl, D1, hm⟩
        have H1 := Lib.hid (And.intro D1 (And.intro hm D0))
        clear bg D1 hm D0
        go_wp2_with fail
        -- region 7
        obtain ⟨D1, hm, -⟩ := H1.out
        obtain ⟨⟨hB, hBT⟩, hl, hj, hp⟩ := H.out
        obtain ⟨A, n, c, pA, pn, pc, xs, ys, D1⟩ := D1.ex
        have hpn := D1.pn_eq
        have hpn2 : pn < 1099511627776 := by rw [← hpn]; exact hp
        have hne : l ≠ [] := fun e => by rw [e] at hl; cases hl
        have hbA : bA ≠ none := by
          obtain ⟨_, _, _, e, _⟩ := hB.get (k := 0) (by omega)
          rw [e]
          simp
        have hB := hB.moved hm hBT
        have hb := hm.size
        clear H H1 hpn hp c2 D
        refine wp_region_late [13] (fun w' => w'.cell? ⟨g, 1, none⟩ = some (.slice pA pn pc)) (by kernel_rfl) ?_
        have D2 := D1.below ((Below.refl _ _).drew)
        have hm2 := hm.drew
        have hB2 := hB.drew
        clear D1 hm hB
        generalize World.drew _ = w2 at *
        have c1 := D2.c1
        clear hb
        refine wpAnyL_take (i := 0) (v := ?_) rfl (by kernel_rfl) (by kernel_rfl) (by kernel_rfl) (by kernel_rfl) (by kernel_rfl) (fun _ _ _ h => h) (Or.inl ⟨by kernel_rfl, ?_⟩) c1 ?_
        rotate_left
        · rintro w0 h1_; go_simp; (try with_reducible rfl)
        try simp only [Act.put, List.setIfInBounds_toArray, List.set_cons_zero, List.set_cons_succ]
        refine wpAnyL_take (i := 1) (v := ?_) rfl (by kernel_rfl) (by kernel_rfl) (by kernel_rfl) (by kernel_rfl) (by kernel_rfl) (fun _ _ _ h => h) (Or.inl ⟨by kernel_rfl, ?_⟩) c1 ?_
        rotate_left
        · rintro w0 h1_; go_simp; (try with_reducible rfl)
        try simp only [Act.put, List.setIfInBounds_toArray, List.set_cons_zero, List.set_cons_succ]
        refine wpAnyL_take (i := 2) (v := ?_) rfl (by kernel_rfl) (by kernel_rfl) (by kernel_rfl) (by kernel_rfl) (by kernel_rfl) (fun _ _ _ h => h) (Or.inl ⟨by kernel_rfl, ?_⟩) c1 ?_
        rotate_left
        · rintro w0 h1_; go_simp; (try with_reducible rfl)
        try simp only [Act.put, List.setIfInBounds_toArray, List.set_cons_zero, List.set_cons_succ]
        refine wpAnyL_take (i := 3) (v := ?_) rfl (by kernel_rfl) (by kernel_rfl) (by kernel_rfl) (by kernel_rfl) (by kernel_rfl) (fun _ _ _ h => h) (Or.inl ⟨by kernel_rfl, ?_⟩) c1 ?_
        rotate_left
        · rintro w0 h1_; go_simp; (try with_reducible rfl)
        try simp only [Act.put, List.setIfInBounds_toArray, List.set_cons_zero, List.set_cons_succ]
        refine wpAnyL_take (i := 4) (v := ?_) rfl (by kernel_rfl) (by kernel_rfl) (by kernel_rfl) (by kernel_rfl) (by kernel_rfl) (fun _ _ _ h => h) (Or.inl ⟨by kernel_rfl, ?_⟩) c1 ?_
        rotate_left
        · rintro w0 h1_; go_simp; (try with_reducible rfl)
        try simp only [Act.put, List.setIfInBounds_toArray, List.set_cons_zero, List.set_cons_succ]
        refine wpAnyL_take (i := 5) (v := ?_) rfl (by kernel_rfl) (by kernel_rfl) (by kernel_rfl) (by kernel_rfl) (by kernel_rfl) (fun _ _ _ h => h) (Or.inl ⟨by kernel_rfl, ?_⟩) c1 ?_
        rotate_left
        · rintro w0 h1_; go_simp; (try with_reducible rfl)
        try simp only [Act.put, List.setIfInBounds_toArray, List.set_cons_zero, List.set_cons_succ]
        refine wpAnyL_take (i := 6) (v := ?_) rfl (by kernel_rfl) (by kernel_rfl) (by kernel_rfl) (by kernel_rfl) (by kernel_rfl) (fun _ _ _ h => h) (Or.inl ⟨by kernel_rfl, ?_⟩) c1 ?_
        rotate_left
        · rintro w0 h1_; go_simp; (try with_reducible rfl)
        try simp only [Act.put, List.setIfInBounds_toArray, List.set_cons_zero, List.set_cons_succ]
        refine wpAnyL_one (i := 7) (by kernel_rfl) rfl (fun K hK => ?_)
        go_simp
        refine (clone_any bA 64 bc l w2 hB2 hbA (by omega)).mono ?_; rintro e w3 ⟨A3, c3, rfl, ho, hb⟩
        have D3 := D2.below hb
        have c1 := D3.c1
        have hm3 := hm2.below_ hb
        go_wp2_with fail
        refine hK.out _ _ (fun _ => c1) ?_
        clear hK K
        try simp only [Act.put, List.setIfInBounds_toArray, List.set_cons_zero, List.set_cons_succ]
        refine wpAnyL_one (i := 8) (by kernel_rfl) rfl (fun K hK => ?_)
        go_simp
        refine hK.out _ _ (fun _ => c1) ?_
        clear hK K
        try simp only [Act.put, List.setIfInBounds_toArray, List.set_cons_zero, List.set_cons_succ]
        refine wpAnyL_one (i := 9) (by kernel_rfl) rfl (fun K hK => ?_)
        go_simp
        have D4 := D3.below ((Below.refl _ _).alloc (Nat.le_refl _) (.cells #[.int .i64 (j : Int), .slice A3 64 c3] 83))
        have hm4 := hm3.alloc (.cells #[.int .i64 (j : Int), .slice A3 64 c3] 83)
        have hy := (BEl.In.of_own ho hne).alloc (.cells #[.int .i64 (j : Int), .slice A3 64 c3] 83)
        have hcs := cells_new w3 #[.int .i64 (j : Int), .slice A3 64 c3] 83 (g := w3.heap.size) rfl
        clear c1
        have c1 := D4.c1
        refine hK.out _ _ (fun _ => c1) ?_
        clear hK K
        try simp only [Act.put, List.setIfInBounds_toArray, List.set_cons_zero, List.set_cons_succ]
        generalize w3.alloc _ = w4 at *
        refine wpAnyL_one (i := 10) (by kernel_rfl) rfl (fun K hK => ?_)
        refine step_appR rfl (.tmp 30) (.tmp 35) 62 rfl 83 _ 2 32 Tryd.underlying62 winfo rfl (by omega) (by omega) rfl D4.pend (ad := ⟨w3.heap.size, 0, none⟩) (m := 1) (c' := 1) [.int .i64 (j : Int), .slice A3 64 c3] rfl rfl hcs (by intro u hu; simp only [List.mem_cons, List.not_mem_nil, or_false] at hu; rcases hu with rfl | rfl <;> rfl) (by omega) (Nat.zero_le _) ?_
        intro A5 c5 w5 hown hg hA
        obtain ⟨hb5, T', D5, hm5⟩ := D4.pushed hy hl hj hown hg hA
        have hmv := hm4.trans hm5
        have c1 := hb5.cell 1
        have f1 := hb5.frozen 1
        have HF := Lib.hid (And.intro D5 hmv)
        clear D5 hmv hm5 hm4 hown hb5 hg hA hy hcs D4 D3 D2 hm3 hm2 ho hb hB hB2
        refine hK.out _ _ (fun _ => c1) ?_
        clear hK K
        try simp only [Act.put, List.setIfInBounds_toArray, List.set_cons_zero, List.set_cons_succ]
        refine wpAnyL_one (i := 11) (by kernel_rfl) rfl (fun K hK => ?_)
        go_simp
        refine hK.out _ _ (fun _ => c1) ?_
        clear hK K
        try simp only [Act.put, List.setIfInBounds_toArray, List.set_cons_zero, List.set_cons_succ]
        refine wpAnyL_one (i := 12) (by kernel_rfl) rfl (fun K hK => ?_)
        go_simp
        refine hK.out _ _ (fun _ => c1) ?_
        clear hK K
        try simp only [Act.put, List.setIfInBounds_toArray, List.set_cons_zero, List.set_cons_succ]
        refine wpAnyL_one (i := 13) (by kernel_rfl) rfl (fun K hK => ?_)
        go_simp
        refine hK.out _ _ (fun h => absurd (by simp) h) ?_
        clear hK K
        try simp only [Act.put, List.setIfInBounds_toArray, List.set_cons_zero, List.set_cons_succ]
        refine wpAnyL_done (by kernel_rfl) ?_ _
        go_wp2_with fail
        go_ret
        exact ⟨rfl, _, HF.out.1.at_, HF.out.2⟩
    · have hw : (s.has i && decide (l.length = 64)) = false := by rw [hi, decide_eq_false (by omega)]; rfl
      rw [hi] at is
      rw [DSt.write_arg hd hw]
      have hbl' : ¬ (bn : Int) = 64 := by omega
      have hbl'' : ((bn : Int) != 64) = true := by simpa using hbl'
      have H := Lib.hid D0
      clear D D0 hn hpn hd hi hw hp hb hl hB bg hbl hbl'
      go_enter Tryd.func18, Tryd.ntmps18
      go_wp2_with fail
      refine is.mono ?_; rintro e w1 ⟨rfl, rfl⟩
      clear is
      go_wp2_with fail
      go_ret
      exact ⟨rfl, T, H.out, Moved.refl _ _⟩
  · have hi : s.has i = false := by simpa using hi
    have hw : (s.has i && decide (l.length = 64)) = false := by rw [hi]; rfl
    rw [hi] at is
    rw [DSt.write_arg hd hw]
    have H := Lib.hid D0
    clear D D0 hn hpn hd hi hw hp hb hl hB bg
    go_enter Tryd.func18, Tryd.ntmps18
    go_wp2_with fail
    refine is.mono ?_; rintro e w1 ⟨rfl, rfl⟩
    clear is
    go_wp2_with fail
    go_ret
    exact ⟨rfl, T, H.out, Moved.refl _ _⟩
end Go.Proofs.YtdlcngmcjidomaaDoor
