/- The law DiskSeen, walked. No condition but the reach of a slice. -/
import Derived.Test.YtkjmccicdjkccaaDAwake
import Derived.Test.YtkjmccicdjkccaaDMath2
import Derived.Test.YtkjmccicdjkccaaLawAct
import Derived.Test.YtkjmccicdjkccaaDQuietB
namespace Go.Proofs.Ytkjmccicdjkccaa
set_option linter.unusedSimpArgs false
set_option linter.unusedVariables false
open Go.RowKit

/-- A disk of eight sectors, each with the row of what was written last. -/
structure Sn (s : DSt) (want : List Nat) (j m : Nat) : Prop where
  up : s.Up
  len : s.sure.length = 8
  beg : s.begun ≤ m
  pend : s.pend.length ≤ j
  wl : want.length = 8
  wlt : ∀ x ∈ want, x < 256
  cur : ∀ i, i < 8 → s.cur i = rowL (want.getD i 0) false
section
variable {s : DSt} {want : List Nat} {j m : Nat}
theorem getD_setN {l : List Nat} {i j x : Nat} (hi : i < l.length) : (l.set i x).getD j 0 = if j = i then x else l.getD j 0 := by
  by_cases h : j = i
  · subst h; rw [if_pos rfl, List.getD_eq_getElem?_getD, List.getElem?_set_self hi]; rfl
  · rw [if_neg h, List.getD_eq_getElem?_getD, List.getD_eq_getElem?_getD, List.getElem?_set_ne (Ne.symm h)]
theorem Sn.write (h : Sn s want j m) {i : Nat} (hi : i < 8) {c : Nat} (hc : c < 256) : (s.write (i : Int) (rowL c false)).2 = 0 ∧ Sn (s.write (i : Int) (rowL c false)).1 (want.set i c) (j + 1) (m + 1) := by
  rw [h.up.write (by rw [h.len]; exact hi) (rowL_len c)]
  refine ⟨rfl, ⟨rfl, rfl⟩, h.len, Nat.succ_le_succ h.beg, ?_, by rw [List.length_set]; exact h.wl, fun x hx => ?_, fun k hk => ?_⟩
  · show (s.pend ++ [(i, rowL c false)]).length ≤ _
    rw [List.length_append]
    exact Nat.succ_le_succ h.pend
  · rcases List.mem_or_eq_of_mem_set hx with hx | rfl
    · exact h.wlt x hx
    · exact hc
  · show DSt.lastOf (s.pend ++ [(i, rowL c false)]) k (s.sure.getD k []) = _
    rw [DSt.lastOf_snoc, getD_setN (by rw [h.wl]; exact hi)]
    by_cases e : k = i
    · subst e; rw [if_pos rfl, if_pos rfl]
    · rw [if_neg (Ne.symm e), if_neg e]; exact h.cur k hk
theorem Sn.flush (h : Sn s want j m) : s.flush.2 = 0 ∧ Sn s.flush.1 want j (m + 1) := by
  rw [h.up.flush]
  refine ⟨rfl, ⟨rfl, rfl⟩, ?_, Nat.succ_le_succ h.beg, Nat.zero_le _, h.wl, h.wlt, fun k hk => ?_⟩
  · show (DSt.lay s.sure s.pend).length = 8
    rw [DSt.len_lay]; exact h.len
  · show (DSt.lay s.sure s.pend).getD k [] = _
    rw [DSt.lay_get _ _ _ (by rw [h.len]; exact hk)]
    exact h.cur k hk
theorem Sn.read (h : Sn s want j m) {i : Nat} (hi : i < 8) : s.read (i : Int) = (rowL (want.getD i 0) false, 0) := by
  rw [h.up.read (by rw [h.len]; exact hi), h.cur i hi, if_neg]
  exact fun e => by have := rowL_len (want.getD i 0); rw [e] at this; cases this
theorem Sn.mono (h : Sn s want j m) : Sn s want (j + 1) m := ⟨h.up, h.len, h.beg, Nat.le_succ_of_le h.pend, h.wl, h.wlt, h.cur⟩
theorem Sn.start : Sn (DSt.new 8) (List.replicate 8 0) 0 0 :=
  ⟨DSt.new_up 8, rfl, Nat.le_refl _, Nat.le_refl _, rfl, fun x hx => by rw [List.eq_of_mem_replicate hx]; decide, fun i hi => by
    show (List.replicate 8 (List.replicate 64 0)).getD i [] = _
    rw [DSt.getD_rep hi]
    have e : (List.replicate 8 0).getD i 0 = 0 := by
      rw [List.getD_eq_getElem?_getD, List.getElem?_replicate, if_pos hi]; rfl
    rw [e]
    unfold rowL
    rw [if_neg (by decide), List.append_nil]⟩
end

/-- Numbers as an array's cells. -/
def arrN (l : List Nat) : Array Value := (l.map fun (x : Nat) => Value.int .u8 (x : Int)).toArray
theorem arrN_set (l : List Nat) (i x : Nat) : (arrN l).setIfInBounds i (.int .u8 (x : Int)) = arrN (l.set i x) := by
  unfold arrN
  rw [List.setIfInBounds_toArray, List.map_set]
theorem arrN_get {l : List Nat} {i : Nat} (h : i < l.length) : (arrN l)[i]? = some (.int .u8 ((l.getD i 0 : Nat) : Int)) := by
  unfold arrN
  rw [List.getElem?_toArray, List.getElem?_map, List.getD_eq_getElem?_getD, List.getElem?_eq_getElem h]
  rfl

theorem act_cells {w0 w : World} {ba o n c k i : Nat} {xs : List ActEl} {x : ActEl} (hr : ARows w0 (some ⟨ba, o, none⟩) n c xs) (hb : Below w0.heap.size w0 w) (hx : xs[k]? = some x) (hi : x.i = (i : Int)) :
    w.cell? ⟨ba, o + k * 5 + 1, none⟩ = some (.int .i64 (i : Int)) ∧ w.cell? ⟨ba, o + k * 5 + 2, none⟩ = some (.int .u8 (x.c : Int)) ∧ w.cell? ⟨ba, o + k * 5 + 3, none⟩ = some (.bool x.bad) := by
  have hk : k < n := by rw [← hr.len]; exact (List.getElem?_eq_some_iff.1 hx).1
  obtain ⟨_, _, x2, he, hx2, _, h0, h1, h2, h3, h4⟩ := (hr.below hb).get hk
  cases he
  rw [hx] at hx2
  cases hx2
  exact ⟨by rw [← hi]; exact h1, h2, h3⟩
/-- A law's disk, and an array that lies beside it. -/
structure DEB (w0 w : World) (g : Nat) (s : DSt) (b : Nat) (cs : Array Value) : Prop where
  ex : ∃ T, DiskAt w T g s ∧ (∀ k ∈ T, w0.heap.size ≤ k) ∧ Below w0.heap.size w0 w ∧ Blk w b 28 cs ∧ b ∉ T ∧ w0.heap.size ≤ b
section
variable {w0 w w' : World} {g b : Nat} {s : DSt} {cs : Array Value}
theorem DEB.bel (E : DEB w0 w g s b cs) : Below w0.heap.size w0 w := by
  obtain ⟨_, _, _, h, _⟩ := E.ex
  exact h
theorem DEB.blk (E : DEB w0 w g s b cs) : Blk w b 28 cs := by
  obtain ⟨_, _, _, _, h, _⟩ := E.ex
  exact h
theorem DEB.below (E : DEB w0 w g s b cs) (hb : Below w.heap.size w w') : DEB w0 w' g s b cs := by
  obtain ⟨T, D, hT, hb0, hB, hbT, hbw⟩ := E.ex
  exact ⟨T, D.below hb, hT, below_step hb0 hb hb0.size, hB.below hb hB.lt, hbT, hbw⟩
theorem DEB.drew (E : DEB w0 w g s b cs) : DEB w0 w.drew g s b cs := E.below ((Below.refl _ _).drew)
theorem DEB.drewN (E : DEB w0 w g s b cs) (n : Nat) : DEB w0 (w.drewN n) g s b cs := E.below (((Moved.refl w []).drewN n).below0)
theorem DE.array (E : DE w0 w g s [] []) (cs : Array Value) : DEB w0 (w.alloc (.cells cs 28)) g s w.heap.size cs := by
  obtain ⟨T, D, hT, hb0, _, _⟩ := E.ex
  have hb := (Below.refl w.heap.size w).alloc (Nat.le_refl _) (.cells cs 28)
  exact ⟨T, D.below hb, hT, below_step hb0 hb hb0.size, Blk.new .., fun h => by have := D.lt _ h; omega, hb0.size⟩
/-- The array is written. -/
theorem DEB.set_ (E : DEB w0 w g s b cs) (i : Nat) (u : Value) : DEB w0 (w.setCell ⟨b, i, none⟩ u) g s b (cs.setIfInBounds i u) := by
  obtain ⟨T, D, hT, hb0, hB, hbT, hbw⟩ := E.ex
  have hn : NoU8 w [b] := NoU8.cons hB (by decide) ⟨fun _ h => by cases h⟩
  refine ⟨T, D.other hn (moved_set (w := w) (p := ⟨b, i, none⟩) (T := [b]) (by simp) u) (fun k hk hm => hbT ?_), hT, hb0.setCell hbw u, hB.set_ i u, hbT, hbw⟩
  rw [List.mem_singleton] at hm
  exact hm ▸ hk
theorem DEB.go {T T' : List Nat} {s' : DSt} (hT : ∀ k ∈ T, w0.heap.size ≤ k) (hb0 : Below w0.heap.size w0 w) (hB : Blk w b 28 cs) (hbT : b ∉ T) (hbw : w0.heap.size ≤ b) (D' : DiskAt w' T' g s') (hm : Moved w w' T T') : DEB w0 w' g s' b cs :=
  ⟨T', D', fun k hk => (hm.new k hk).elim (hT k) (fun h => by have := hb0.size; omega), hm.below hb0 hb0.size hT, hB.moved hm hbT, hm.apart hB.lt hbT, hbw⟩
theorem dwrite_deb (E : DEB w0 w g s b cs) (i : Int) {base : Nat} {bA : Option Addr} {bn bc : Nat} {l : List Nat} (hB : OwnI w base .u8 256 5 bA bn bc l) (hbn : (bn : Int) ≤ 9223372036854775807) (hb : s.begun < 1152921504606846976) (hp : s.pend.length < 1099511627776) :
    Calls Try.prog 11 #[.pointer (some ⟨g, 0, none⟩), .int .i64 i, .slice bA bn bc] w fun e w' => e = .returned (.int .i64 (s.write i l).2) ∧ DEB w0 w' g (s.write i l).1 b cs := by
  obtain ⟨T, D, hT, hb0, h1, h2, h3⟩ := E.ex
  exact (dwrite_any D i hB.ints (D.no.off hB) hbn hb hp).mono fun _ _ ⟨he, T', D', hm⟩ => ⟨he, DEB.go hT hb0 h1 h2 h3 D' hm⟩
theorem dflush_deb (E : DEB w0 w g s b cs) (hb : s.begun < 1152921504606846976) :
    Calls Try.prog 13 #[.pointer (some ⟨g, 0, none⟩)] w fun e w' => e = .returned (.int .i64 s.flush.2) ∧ DEB w0 w' g s.flush.1 b cs := by
  obtain ⟨T, D, hT, hb0, h1, h2, h3⟩ := E.ex
  exact (dflush_any D hb).mono fun _ _ ⟨he, T', D', hm⟩ => ⟨he, DEB.go hT hb0 h1 h2 h3 D' hm⟩
theorem dread_deb (E : DEB w0 w g s b cs) (i : Int) :
    Calls Try.prog 14 #[.pointer (some ⟨g, 0, none⟩), .int .i64 i] w fun e w' => ∃ A n c, e = .returned (.tuple #[.slice A n c, .int .i64 (s.read i).2]) ∧ BEl.In w' ⟨A, n, c, (s.read i).1⟩ ∧ DEB w0 w' g s b cs := by
  obtain ⟨T, D, _⟩ := E.ex
  exact (dread_any D i).mono fun _ _ ⟨A, n, c, he, hx, hb⟩ => ⟨A, n, c, he, hx, E.below hb⟩
end

set_option maxRecDepth 100000 in
set_option maxHeartbeats 6400000 in
theorem diskSeen_any (A : Option Addr) (n c : Nat) (xs : List ActEl) (w : World) (hr0 : ARows w A n c xs) (hn : n ≤ maxLen) : Calls Try.prog 3 #[.slice A n c] w fun e w' => e = .returned (.bool true) ∧ Below w.heap.size w w' := by
  have hn' : (n : Int) ≤ 9223372036854775807 := by unfold maxLen at hn; omega
  have HR0 := Lib.hid hr0
  clear hr0 hn
  go_enter Try.func3, Try.ntmps3
  go_wp2_with fail
  refine (dawake_any w).mono ?_; rintro e w1 ⟨rfl, hb1⟩
  go_wp2_with fail
  refine (dnew_de 8 (by omega) (by omega) _ hb1).mono ?_; rintro e w2 ⟨g, rfl, E⟩
  have E := E.array (arrN (List.replicate 8 0))
  go_wp2_with fail
  obtain ⟨b, hb⟩ : ∃ b, w2.heap.size = b := ⟨_, rfl⟩
  generalize hw3 : World.alloc _ _ = w3
  have E : DEB w w3 g (DSt.new 8) w2.heap.size (arrN (List.replicate 8 0)) := by rw [← hw3]; exact E
  rw [hb] at E ⊢
  clear hb hb1 hw3
  go_loopw [6] (fun v wr => ∃ (k m : Nat) (s : DSt) (want : List Nat), k ≤ n ∧ k ≤ 40 ∧ m ≤ 2 * k ∧ v = .int .i64 k ∧ DEB w wr g s b (arrN want) ∧ Sn s want k m) (fun i _ => n - (intOf i).toNat)
  case atStart => exact ⟨0, 0, _, _, Nat.zero_le _, Nat.zero_le _, Nat.le_refl _, rfl, E, Sn.start⟩
  case round =>
    obtain ⟨k, m, s, want, hkn, hk40, hm, rfl, E, hS⟩ := hrel
    by_cases hgo : k < n ∧ k < 40
    · obtain ⟨hk1, hk2⟩ := hgo
      have hlt1 : (k : Int) < (n : Int) := by omega
      have hlt2 : (k : Int) < 40 := by omega
      have hlt3 : decide ((k : Int) < 40) = true := by simp; omega
      have hlt0 : (0 : Int) ≤ (k : Int) := by omega
      obtain ⟨ba, o, x, rfl, hx, hok, h0, h1, h2, h3, h4⟩ := (HR0.out.below E.bel).get hk1
      clear h0 h4
      have HS := Lib.hid hS
      clear hS
      by_cases hi0 : x.i < 0
      · have e1 : decide (x.i < 0) = true := decide_eq_true hi0
        go_wp2_with fail
        exact ⟨⟨k + 1, m, s, want, by omega, by omega, by omega, by go_num, E, HS.out.mono⟩, by simp [intOf]; omega⟩
      by_cases hi7 : 7 < x.i
      · have e1 : decide (x.i < 0) = false := decide_eq_false hi0
        have e2 : decide (7 < x.i) = true := decide_eq_true hi7
        go_wp2_with fail
        exact ⟨⟨k + 1, m, s, want, by omega, by omega, by omega, by go_num, E, HS.out.mono⟩, by first | (simp [intOf]; done) | (simp [intOf]; omega)⟩
      obtain ⟨i, hi⟩ : ∃ i : Nat, x.i = (i : Int) := ⟨x.i.toNat, by omega⟩
      have hi8 : i < 8 := by omega
      rw [hi] at h1
      have HX := Lib.hid hi
      have e1 : decide ((i : Int) < 0) = false := decide_eq_false (by omega)
      have e2 : decide (7 < (i : Int)) = false := decide_eq_false (by omega)
      have hc := hok.c
      have HW := Lib.hid (HS.out.write hi8 hc)
      have hbg := HS.out.beg
      have hwl : i < want.length := by rw [HS.out.wl]; exact hi8
      have hpd := HS.out.pend
      clear hi0 hi7 hi
      have hia : (0 : Int) ≤ (i : Int) := by omega
      have hib : (i : Int) < 8 := by omega
      go_wp2_with fail
      refine wp_region_late [12, 13] (fun w' => w'.cell? ⟨ba, o + k * 5 + 1, none⟩ = some (.int .i64 (i : Int)) ∧ w'.cell? ⟨ba, o + k * 5 + 2, none⟩ = some (.int .u8 (x.c : Int))) (by kernel_rfl) ?_
      have E := E.drew
      obtain ⟨h1, h2⟩ : (World.drew _).cell? ⟨ba, o + k * 5 + 1, none⟩ = some (.int .i64 (i : Int)) ∧ (World.drew _).cell? ⟨ba, o + k * 5 + 2, none⟩ = some (.int .u8 (x.c : Int)) := ⟨h1, h2⟩
      generalize World.drew _ = w4 at *
      refine wpAnyL_take (i := 0) (v := ?_) rfl (by kernel_rfl) (by kernel_rfl) (by kernel_rfl) (by kernel_rfl) (by kernel_rfl) (fun _ _ _ h => h) (Or.inl ⟨by kernel_rfl, ?_⟩) ⟨h1, h2⟩ ?_
      rotate_left
      · rintro w0 ⟨h1_, h2_⟩; go_simp; (try with_reducible rfl)
      try simp only [Act.put, List.setIfInBounds_toArray, List.set_cons_zero, List.set_cons_succ]
      refine wpAnyL_take (i := 1) (v := ?_) rfl (by kernel_rfl) (by kernel_rfl) (by kernel_rfl) (by kernel_rfl) (by kernel_rfl) (fun _ _ _ h => h) (Or.inl ⟨by kernel_rfl, ?_⟩) ⟨h1, h2⟩ ?_
      rotate_left
      · rintro w0 ⟨h1_, h2_⟩; go_simp; (try with_reducible rfl)
      try simp only [Act.put, List.setIfInBounds_toArray, List.set_cons_zero, List.set_cons_succ]
      refine wpAnyL_take (i := 2) (v := ?_) rfl (by kernel_rfl) (by kernel_rfl) (by kernel_rfl) (by kernel_rfl) (by kernel_rfl) (fun _ _ _ h => h) (Or.inl ⟨by kernel_rfl, ?_⟩) ⟨h1, h2⟩ ?_
      rotate_left
      · rintro w0 ⟨h1_, h2_⟩; go_simp; (try with_reducible rfl)
      try simp only [Act.put, List.setIfInBounds_toArray, List.set_cons_zero, List.set_cons_succ]
      refine wpAnyL_take (i := 3) (v := ?_) rfl (by kernel_rfl) (by kernel_rfl) (by kernel_rfl) (by kernel_rfl) (by kernel_rfl) (fun _ _ _ h => h) (Or.inl ⟨by kernel_rfl, ?_⟩) ⟨h1, h2⟩ ?_
      rotate_left
      · rintro w0 ⟨h1_, h2_⟩; go_simp; (try with_reducible rfl)
      try simp only [Act.put, List.setIfInBounds_toArray, List.set_cons_zero, List.set_cons_succ]
      refine wpAnyL_take (i := 4) (v := ?_) rfl (by kernel_rfl) (by kernel_rfl) (by kernel_rfl) (by kernel_rfl) (by kernel_rfl) (fun _ _ _ h => h) (Or.inl ⟨by kernel_rfl, ?_⟩) ⟨h1, h2⟩ ?_
      rotate_left
      · rintro w0 ⟨h1_, h2_⟩; go_simp; (try with_reducible rfl)
      try simp only [Act.put, List.setIfInBounds_toArray, List.set_cons_zero, List.set_cons_succ]
      refine wpAnyL_take (i := 5) (v := ?_) rfl (by kernel_rfl) (by kernel_rfl) (by kernel_rfl) (by kernel_rfl) (by kernel_rfl) (fun _ _ _ h => h) (Or.inl ⟨by kernel_rfl, ?_⟩) ⟨h1, h2⟩ ?_
      rotate_left
      · rintro w0 ⟨h1_, h2_⟩; go_simp; (try with_reducible rfl)
      try simp only [Act.put, List.setIfInBounds_toArray, List.set_cons_zero, List.set_cons_succ]
      refine wpAnyL_take (i := 6) (v := ?_) rfl (by kernel_rfl) (by kernel_rfl) (by kernel_rfl) (by kernel_rfl) (by kernel_rfl) (fun _ _ _ h => h) (Or.inl ⟨by kernel_rfl, ?_⟩) ⟨h1, h2⟩ ?_
      rotate_left
      · rintro w0 ⟨h1_, h2_⟩; go_simp; (try with_reducible rfl)
      try simp only [Act.put, List.setIfInBounds_toArray, List.set_cons_zero, List.set_cons_succ]
      refine wpAnyL_take (i := 7) (v := ?_) rfl (by kernel_rfl) (by kernel_rfl) (by kernel_rfl) (by kernel_rfl) (by kernel_rfl) (fun _ _ _ h => h) (Or.inl ⟨by kernel_rfl, ?_⟩) ⟨h1, h2⟩ ?_
      rotate_left
      · rintro w0 ⟨h1_, h2_⟩; go_simp; (try with_reducible rfl)
      try simp only [Act.put, List.setIfInBounds_toArray, List.set_cons_zero, List.set_cons_succ]
      refine wpAnyL_take (i := 8) (v := ?_) rfl (by kernel_rfl) (by kernel_rfl) (by kernel_rfl) (by kernel_rfl) (by kernel_rfl) (fun _ _ _ h => h) (Or.inl ⟨by kernel_rfl, ?_⟩) ⟨h1, h2⟩ ?_
      rotate_left
      · rintro w0 ⟨h1_, h2_⟩; go_simp; (try with_reducible rfl)
      try simp only [Act.put, List.setIfInBounds_toArray, List.set_cons_zero, List.set_cons_succ]
      refine wpAnyL_take (i := 9) (v := ?_) rfl (by kernel_rfl) (by kernel_rfl) (by kernel_rfl) (by kernel_rfl) (by kernel_rfl) (fun _ _ _ h => h) (Or.inl ⟨by kernel_rfl, ?_⟩) ⟨h1, h2⟩ ?_
      rotate_left
      · rintro w0 ⟨h1_, h2_⟩; go_simp; (try with_reducible rfl)
      try simp only [Act.put, List.setIfInBounds_toArray, List.set_cons_zero, List.set_cons_succ]
      refine wpAnyL_take (i := 10) (v := ?_) rfl (by kernel_rfl) (by kernel_rfl) (by kernel_rfl) (by kernel_rfl) (by kernel_rfl) (fun _ _ _ h => h) (Or.inl ⟨by kernel_rfl, ?_⟩) ⟨h1, h2⟩ ?_
      rotate_left
      · rintro w0 ⟨h1_, h2_⟩; go_simp; (try with_reducible rfl)
      try simp only [Act.put, List.setIfInBounds_toArray, List.set_cons_zero, List.set_cons_succ]
      refine wpAnyL_one (i := 11) (by kernel_rfl) rfl (fun K hK => ?_)
      go_simp
      refine (row_any x.c hc false _).mono ?_; rintro e w5 ⟨A5, n5, c5, rfl, ho, hn5, hb5⟩
      have E := E.below hb5
      go_wp2_with fail
      refine hK.out _ _ (fun _ => ⟨cell_below hb5 h1, cell_below hb5 h2⟩) ?_
      clear hK K
      try simp only [Act.put, List.setIfInBounds_toArray, List.set_cons_zero, List.set_cons_succ]
      refine wpAnyL_one (i := 12) (by kernel_rfl) rfl (fun K hK => ?_)
      go_simp
      refine (dwrite_deb E (i : Int) ho (by omega) (by omega) (by omega)).mono ?_; rintro e w6 ⟨rfl, E⟩
      rw [HW.out.1]
      clear ho hn5 hb5 h1 h2 h3
      go_wp2_with fail
      refine hK.out _ _ (fun h => absurd (by simp) h) ?_
      clear hK K
      try simp only [Act.put, List.setIfInBounds_toArray, List.set_cons_zero, List.set_cons_succ]
      refine wpAnyL_one (i := 13) (by kernel_rfl) rfl (fun K hK => ?_)
      go_simp
      refine hK.out _ _ (fun h => absurd (by simp) h) ?_
      clear hK K
      try simp only [Act.put, List.setIfInBounds_toArray, List.set_cons_zero, List.set_cons_succ]
      refine wpAnyL_done (by kernel_rfl) ?_ _
      have HW2 := Lib.hid HW.out.2
      clear HW HS hbg hpd
      generalize (s.write (i : Int) (rowL x.c false)).1 = s1 at *
      obtain ⟨h1, h2, h3⟩ := act_cells HR0.out E.bel hx HX.out
      go_wp2_with fail
      have hcb := E.drew.blk.cell i
      rw [arrN_get hwl] at hcb
      have hfb := E.drew.blk.frozen i
      have E2 := (E.drew.set_ i (.int .u8 (x.c : Int)))
      rw [arrN_set] at E2
      have HE := Lib.hid E2
      clear E2 E
      refine wp_region_late [11] (fun w' => w'.cell? ⟨ba, o + k * 5 + 1, none⟩ = some (.int .i64 (i : Int)) ∧ w'.cell? ⟨ba, o + k * 5 + 2, none⟩ = some (.int .u8 (x.c : Int))) (by kernel_rfl) ?_
      obtain ⟨h1, h2⟩ : (World.drew _).cell? ⟨ba, o + k * 5 + 1, none⟩ = some (.int .i64 (i : Int)) ∧ (World.drew _).cell? ⟨ba, o + k * 5 + 2, none⟩ = some (.int .u8 (x.c : Int)) := ⟨h1, h2⟩
      generalize World.drew _ = w7 at *
      refine wpAnyL_take (i := 0) (v := ?_) rfl (by kernel_rfl) (by kernel_rfl) (by kernel_rfl) (by kernel_rfl) (by kernel_rfl) (fun _ _ _ h => h) (Or.inl ⟨by kernel_rfl, ?_⟩) ⟨h1, h2⟩ ?_
      rotate_left
      · rintro w0 ⟨h1_, h2_⟩; go_simp; (try with_reducible rfl)
      try simp only [Act.put, List.setIfInBounds_toArray, List.set_cons_zero, List.set_cons_succ]
      refine wpAnyL_take (i := 1) (v := ?_) rfl (by kernel_rfl) (by kernel_rfl) (by kernel_rfl) (by kernel_rfl) (by kernel_rfl) (fun _ _ _ h => h) (Or.inl ⟨by kernel_rfl, ?_⟩) ⟨h1, h2⟩ ?_
      rotate_left
      · rintro w0 ⟨h1_, h2_⟩; go_simp; (try with_reducible rfl)
      try simp only [Act.put, List.setIfInBounds_toArray, List.set_cons_zero, List.set_cons_succ]
      refine wpAnyL_take (i := 2) (v := ?_) rfl (by kernel_rfl) (by kernel_rfl) (by kernel_rfl) (by kernel_rfl) (by kernel_rfl) (fun _ _ _ h => h) (Or.inl ⟨by kernel_rfl, ?_⟩) ⟨h1, h2⟩ ?_
      rotate_left
      · rintro w0 ⟨h1_, h2_⟩; go_simp; (try with_reducible rfl)
      try simp only [Act.put, List.setIfInBounds_toArray, List.set_cons_zero, List.set_cons_succ]
      refine wpAnyL_take (i := 3) (v := ?_) rfl (by kernel_rfl) (by kernel_rfl) (by kernel_rfl) (by kernel_rfl) (by kernel_rfl) (fun _ _ _ h => h) (Or.inl ⟨by kernel_rfl, ?_⟩) ⟨h1, h2⟩ ?_
      rotate_left
      · rintro w0 ⟨h1_, h2_⟩; go_simp; (try with_reducible rfl)
      try simp only [Act.put, List.setIfInBounds_toArray, List.set_cons_zero, List.set_cons_succ]
      refine wpAnyL_take (i := 4) (v := ?_) rfl (by kernel_rfl) (by kernel_rfl) (by kernel_rfl) (by kernel_rfl) (by kernel_rfl) (fun _ _ _ h => h) (Or.inl ⟨by kernel_rfl, ?_⟩) ⟨h1, h2⟩ ?_
      rotate_left
      · rintro w0 ⟨h1_, h2_⟩; go_simp; (try with_reducible rfl)
      try simp only [Act.put, List.setIfInBounds_toArray, List.set_cons_zero, List.set_cons_succ]
      refine wpAnyL_take (i := 5) (v := ?_) rfl (by kernel_rfl) (by kernel_rfl) (by kernel_rfl) (by kernel_rfl) (by kernel_rfl) (fun _ _ _ h => h) (Or.inl ⟨by kernel_rfl, ?_⟩) ⟨h1, h2⟩ ?_
      rotate_left
      · rintro w0 ⟨h1_, h2_⟩; go_simp; (try with_reducible rfl)
      try simp only [Act.put, List.setIfInBounds_toArray, List.set_cons_zero, List.set_cons_succ]
      refine wpAnyL_take (i := 6) (v := ?_) rfl (by kernel_rfl) (by kernel_rfl) (by kernel_rfl) (by kernel_rfl) (by kernel_rfl) (fun _ _ _ h => h) (Or.inl ⟨by kernel_rfl, ?_⟩) ⟨h1, h2⟩ ?_
      rotate_left
      · rintro w0 ⟨h1_, h2_⟩; go_simp; (try with_reducible rfl)
      try simp only [Act.put, List.setIfInBounds_toArray, List.set_cons_zero, List.set_cons_succ]
      refine wpAnyL_take (i := 7) (v := ?_) rfl (by kernel_rfl) (by kernel_rfl) (by kernel_rfl) (by kernel_rfl) (by kernel_rfl) (fun _ _ _ h => h) (Or.inl ⟨by kernel_rfl, ?_⟩) ⟨h1, h2⟩ ?_
      rotate_left
      · rintro w0 ⟨h1_, h2_⟩; go_simp; (try with_reducible rfl)
      try simp only [Act.put, List.setIfInBounds_toArray, List.set_cons_zero, List.set_cons_succ]
      refine wpAnyL_take (i := 8) (v := ?_) rfl (by kernel_rfl) (by kernel_rfl) (by kernel_rfl) (by kernel_rfl) (by kernel_rfl) (fun _ _ _ h => h) (Or.inl ⟨by kernel_rfl, ?_⟩) ⟨h1, h2⟩ ?_
      rotate_left
      · rintro w0 ⟨h1_, h2_⟩; go_simp; (try with_reducible rfl)
      try simp only [Act.put, List.setIfInBounds_toArray, List.set_cons_zero, List.set_cons_succ]
      refine wpAnyL_take (i := 9) (v := ?_) rfl (by kernel_rfl) (by kernel_rfl) (by kernel_rfl) (by kernel_rfl) (by kernel_rfl) (fun _ _ _ h => h) (Or.inl ⟨by kernel_rfl, ?_⟩) ⟨h1, h2⟩ ?_
      rotate_left
      · rintro w0 ⟨h1_, h2_⟩; go_simp; (try with_reducible rfl)
      try simp only [Act.put, List.setIfInBounds_toArray, List.set_cons_zero, List.set_cons_succ]
      refine wpAnyL_take (i := 10) (v := ?_) rfl (by kernel_rfl) (by kernel_rfl) (by kernel_rfl) (by kernel_rfl) (by kernel_rfl) (fun _ _ _ h => h) (Or.inl ⟨by kernel_rfl, ?_⟩) ⟨h1, h2⟩ ?_
      rotate_left
      · rintro w0 ⟨h1_, h2_⟩; go_simp; (try with_reducible rfl)
      try simp only [Act.put, List.setIfInBounds_toArray, List.set_cons_zero, List.set_cons_succ]
      refine wpAnyL_one (i := 11) (by kernel_rfl) rfl (fun K hK => ?_)
      go_simp
      refine hK.out _ _ (fun h => absurd (by simp) h) ?_
      clear hK K
      try simp only [Act.put, List.setIfInBounds_toArray, List.set_cons_zero, List.set_cons_succ]
      refine wpAnyL_done (by kernel_rfl) ?_ _
      generalize hw8 : World.setCell w7 _ _ = w8 at *
      have E := HE.out
      have h3 := (act_cells HR0.out E.bel hx HX.out).2.2
      have hbg := HW2.out.beg
      clear h1 h2 hcb hfb HE hw8 hok
      cases hbad : x.bad with
      | false =>
        rw [hbad] at h3
        clear hbad
        go_wp2_with fail
        exact ⟨⟨k + 1, m + 1, s1, want.set i x.c, by omega, by omega, by omega, by go_num, E, HW2.out⟩, by simp [intOf]; omega⟩
      | true =>
        rw [hbad] at h3
        clear hbad
        go_wp2_with fail
        refine (dflush_deb E (by omega)).mono ?_; rintro e w9 ⟨rfl, E⟩
        rw [HW2.out.flush.1]
        go_wp2_with fail
        exact ⟨⟨k + 1, m + 2, _, want.set i x.c, by omega, by omega, by omega, by go_num, E, HW2.out.flush.2⟩, by simp [intOf]; omega⟩
    · have HS := Lib.hid hS
      have hwl := hS.wl
      clear hS
      by_cases hk1 : k < n
      · have hlt1 : (k : Int) < (n : Int) := by omega
        have hlt2 : ¬ (k : Int) < 40 := by omega
        have hlt3 : decide ((k : Int) < 40) = false := by simp; omega
        clear hgo
        go_wp2_with fail
        go_loopw [7] (fun v wr => ∃ q : Nat, q ≤ 8 ∧ v = .int .i64 q ∧ DEB w wr g s b (arrN want)) (fun i _ => 8 - (intOf i).toNat)
        case atStart => exact ⟨0, Nat.zero_le _, rfl, E⟩
        case round =>
          obtain ⟨q, hq8, rfl, E2⟩ := hrel
          clear E
          by_cases hq : q < 8
          · have hlq : (q : Int) < 8 := by omega
            have hq0 : (0 : Int) ≤ (q : Int) := by omega
            obtain ⟨y, hy⟩ : ∃ y, want.getD q 0 = y := ⟨_, rfl⟩
            have HR := HS.out.read hq
            rw [hy] at HR
            have HR := Lib.hid HR
            have hwq : y < 256 := by
              rw [← hy, List.getD_eq_getElem?_getD, List.getElem?_eq_getElem (by omega)]
              exact HS.out.wlt _ (List.getElem_mem _)
            have HY := Lib.hid hy
            clear hy
            go_wp2_with fail
            refine (dread_deb E2 (q : Int)).mono ?_; rintro e w41 ⟨A41, n41, c41, rfl, hx41, E3⟩
            rw [HR.out] at hx41
            rw [HR.out]
            have hcb := E3.blk.cell q
            rw [arrN_get (by omega), HY.out] at hcb
            go_wp2_with fail
            refine (row_any y hwq false _).mono ?_; rintro e w42 ⟨A42, n42, c42, rfl, ho, hn42, hb42⟩
            have hx42 := hx41.below hb42
            have hxl := hx42.len
            dsimp only at hxl
            rw [rowL_len] at hxl
            have E3 := E3.below hb42
            clear hcb
            go_wp2_with fail
            refine (rows_any _ _ _ _ _ _ _ _ _ hx42.ints ho.ints (by dsimp only; omega) (by omega)).mono ?_; rintro e w43 ⟨⟨q1, rfl⟩, rfl⟩
            rw [decide_eq_true (rfl : rowL y false = rowL y false)]
            have E3 := E3.drewN q1
            clear hx41 hx42 ho hb42 hn42 E2
            go_wp2_with fail
            exact ⟨⟨q + 1, by omega, by go_num, E3⟩, by simp [intOf]; omega⟩
          · obtain rfl : q = 8 := by omega
            go_wp2_with fail
            go_ret
            exact ⟨rfl, E2.bel⟩
      · obtain rfl : k = n := by omega
        clear hgo
        go_wp2_with fail
        go_loopw [7] (fun v wr => ∃ q : Nat, q ≤ 8 ∧ v = .int .i64 q ∧ DEB w wr g s b (arrN want)) (fun i _ => 8 - (intOf i).toNat)
        case atStart => exact ⟨0, Nat.zero_le _, rfl, E⟩
        case round =>
          obtain ⟨q, hq8, rfl, E2⟩ := hrel
          clear E
          by_cases hq : q < 8
          · have hlq : (q : Int) < 8 := by omega
            have hq0 : (0 : Int) ≤ (q : Int) := by omega
            obtain ⟨y, hy⟩ : ∃ y, want.getD q 0 = y := ⟨_, rfl⟩
            have HR := HS.out.read hq
            rw [hy] at HR
            have HR := Lib.hid HR
            have hwq : y < 256 := by
              rw [← hy, List.getD_eq_getElem?_getD, List.getElem?_eq_getElem (by omega)]
              exact HS.out.wlt _ (List.getElem_mem _)
            have HY := Lib.hid hy
            clear hy
            go_wp2_with fail
            refine (dread_deb E2 (q : Int)).mono ?_; rintro e w41 ⟨A41, n41, c41, rfl, hx41, E3⟩
            rw [HR.out] at hx41
            rw [HR.out]
            have hcb := E3.blk.cell q
            rw [arrN_get (by omega), HY.out] at hcb
            go_wp2_with fail
            refine (row_any y hwq false _).mono ?_; rintro e w42 ⟨A42, n42, c42, rfl, ho, hn42, hb42⟩
            have hx42 := hx41.below hb42
            have hxl := hx42.len
            dsimp only at hxl
            rw [rowL_len] at hxl
            have E3 := E3.below hb42
            clear hcb
            go_wp2_with fail
            refine (rows_any _ _ _ _ _ _ _ _ _ hx42.ints ho.ints (by dsimp only; omega) (by omega)).mono ?_; rintro e w43 ⟨⟨q1, rfl⟩, rfl⟩
            rw [decide_eq_true (rfl : rowL y false = rowL y false)]
            have E3 := E3.drewN q1
            clear hx41 hx42 ho hb42 hn42 E2
            go_wp2_with fail
            exact ⟨⟨q + 1, by omega, by go_num, E3⟩, by simp [intOf]; omega⟩
          · obtain rfl : q = 8 := by omega
            go_wp2_with fail
            go_ret
            exact ⟨rfl, E2.bel⟩
end Go.Proofs.Ytkjmccicdjkccaa
