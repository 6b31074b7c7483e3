/- The contract of heijunkaref05's Make. No condition but that the count may be. -/
import Derived.Test.YtkjmccicdjkccaaRDiskH
namespace Go.Proofs.Ytkjmccicdjkccaa
set_option linter.unusedSimpArgs false
set_option linter.unusedVariables false
open Go.RowKit

theorem row_ne_ {w : World} {base g k c : Nat} {A : Option Addr} {e t : TypeId} {vs : List Value} {cs : Array Value} (h : OwnR w base e 1 A k c vs) (hb : Blk w g t cs) (ht : e ≠ t) : some g ≠ A.map (·.block) := by
  intro e1
  cases hA : A with
  | none => rw [hA] at e1; cases e1
  | some ad => rw [hA] at e1; cases e1; exact h.type_ne hb ht ad hA rfl
theorem bel_in64 {w : World} {base g c : Nat} {l : List Nat} (h : OwnI w base .u8 256 5 (some ⟨g, 0, none⟩) 64 c l) (hl : l.length = 64) : BEl.In w ⟨some ⟨g, 0, none⟩, 64, c, l⟩ :=
  ⟨h.mono (Nat.zero_le _), Iff.intro (fun e => (by cases e)) (fun e => (by have e : l = [] := e; rw [e] at hl; cases hl))⟩
theorem img_set {w : World} {base g j n c : Nat} {A : Option Addr} {ls : List (List Nat)} {cs : Array Value} (h : Img w base A n c ls) (hb : Blk w g 53 cs) (u : Value) : Img (w.setCell ⟨g, j, none⟩ u) base A n c ls := by
  obtain ⟨xs, h1, h2, h3⟩ := h.ex
  have hne := h1.type_ne hb (by decide)
  have hn : NoU8 w [g] := ⟨fun k hk => by rw [List.mem_singleton] at hk; subst hk; exact ⟨_, _, hb, by decide⟩⟩
  exact h.moved hn (moved_set (p := ⟨g, j, none⟩) (List.mem_singleton.2 rfl) u) (fun ad e hk => hne ad e (List.mem_singleton.1 hk))
theorem tornBy_none (xs : List BEl) : tornBy (List.replicate xs.length false) xs = xs.map (·.l) := by
  induction xs with
  | nil => rfl
  | cons x xs ih =>
    show tornBy (false :: List.replicate xs.length false) (x :: xs) = _
    unfold tornBy at ih ⊢
    rw [List.zipWith_cons_cons, ih]
    rfl
theorem map_torn_len (xs : List BEl) (n : Nat) (h : List.replicate n (List.replicate 64 0) = xs.map (·.l)) : ∀ x ∈ xs, x.l.length = 64 := by
  intro x hx
  have : x.l ∈ xs.map (·.l) := List.mem_map_of_mem hx
  rw [← h] at this
  rw [List.eq_of_mem_replicate this, List.length_replicate]
theorem ref_new {w : World} {base g n gc bc : Nat} {BA GA : Option Addr} (hn : n ≤ 512) (hg : base ≤ g) (hB : Blk w g 53 #[.slice BA n bc, .slice GA n gc, .slice none 0 0, .slice none 0 0, .bool false, .int .i64 0, .int .i64 0]) (hI : Img w base BA n bc (List.replicate n (List.replicate 64 0))) (hG : OwnR w base 4 1 GA n gc (List.replicate n (.bool false))) :
    ∃ T, RefAt w T g (DSt.new n) ∧ ∀ k ∈ T, base ≤ k := by
  obtain ⟨xs, x1, x2, x3⟩ := hI.ex
  have hl : xs.length = n := by have := congrArg List.length x3; simp at this; omega
  refine ⟨g :: (Ab BA ++ (Ab GA ++ (Ab none ++ Ab none))), ⟨BA, n, bc, GA, gc, none, 0, 0, none, 0, 0, xs, List.replicate n false, [], [], hB, x1.mono (Nat.zero_le _), by rw [List.map_replicate]; exact hG.mono (Nat.zero_le _), OwnR.nil_ .., OwnR.nil_ .., Dis.none_r _, x2, (fun _ h => by cases h), map_torn_len xs n x3, ?_, rfl, rfl, by decide, rfl, ?_, ?_⟩, ?_⟩
  · subst hl
    rw [tornBy_none, ← x3]; rfl
  · exact NoU8.cons hB (by decide) ((x1.nou8 (by decide)).app ((hG.nou8 (by decide)).app ⟨fun _ h => by cases h⟩))
  · refine ⟨fun l h => Or.inr ?_, (fun _ h => by cases h), ?_, by show (0 : Int) ≤ 0; omega, by show (0 : Int) < _; decide⟩
    · rw [List.eq_of_mem_replicate (show l ∈ List.replicate n _ from h), List.length_replicate]
    · show (List.replicate n _).length ≤ 512
      rw [List.length_replicate]; exact hn
  · intro k hk
    rcases List.mem_cons.1 hk with rfl | hk
    · exact hg
    rcases List.mem_append.1 hk with hk | hk
    · cases BA with
      | none => cases hk
      | some ad => rw [show Ab (some ad) = [ad.block] from rfl, List.mem_singleton] at hk; subst hk; exact (x1.lt ad rfl).1
    rcases List.mem_append.1 hk with hk | hk
    · cases GA with
      | none => cases hk
      | some ad => rw [show Ab (some ad) = [ad.block] from rfl, List.mem_singleton] at hk; subst hk; exact (hG.lt ad rfl).1
    · cases hk
set_option maxRecDepth 100000 in
set_option maxHeartbeats 6400000 in
theorem rmake_any (n : Nat) (hn1 : 1 ≤ n) (hn2 : n ≤ 512) (w : World) :
    Calls Try.prog 21 #[.int .i64 (n : Int)] w fun e w' => ∃ g T, e = .returned (.pointer (some ⟨g, 0, none⟩)) ∧ RefAt w' T g (DSt.new n) ∧ (∀ k ∈ T, w.heap.size ≤ k) ∧ Below w.heap.size w w' := by
  go_enter Try.func21, Try.ntmps21
  go_wp2_with (refine wpList_mk _ rfl _ _ 50 rfl 4 (.bool false) 1 Try.underlying50 (by kernel_rfl) rfl .i64 .i64 _ _ n rfl rfl rfl rfl (by omega) (by unfold maxLen; omega) w.heap.size (Nat.le_refl _) ?_; intro w1 ho1 hg1)
  have hO1 : OwnR (w1.alloc (.cells #[.slice none 0 0, .slice (some ⟨w.heap.size, 0, none⟩) n n, .slice none 0 0, .slice none 0 0, .bool false, .int .i64 0, .int .i64 0] 53)) w.heap.size 4 1 (some ⟨w.heap.size, 0, none⟩) n n (List.replicate n (.bool false)) := OwnR.alloc ⟨ho1.row⟩ _
  have hB1 := Blk.new w1 53 #[.slice none 0 0, .slice (some ⟨w.heap.size, 0, none⟩) n n, .slice none 0 0, .slice none 0 0, .bool false, .int .i64 0, .int .i64 0]
  have hb0 := below_none (Below.refl _ _) hg1 (Nat.le_refl _)
  have hgw := hb0.size
  have hb1 := hb0.alloc hgw (.cells #[.slice none 0 0, .slice (some ⟨w.heap.size, 0, none⟩) n n, .slice none 0 0, .slice none 0 0, .bool false, .int .i64 0, .int .i64 0] 53)
  have H := Lib.hid (And.intro hB1 (And.intro hO1 hb1))
  clear hB1 hO1 hb1 hb0 ho1 hg1
  generalize w1.alloc _ = w2 at *
  generalize w1.heap.size = g at *
  generalize hGA : some (⟨w.heap.size, 0, none⟩ : Addr) = GA at *
  have HGA := Lib.hid hGA
  clear hGA
  go_loopw [4] (fun v wr => ∃ (k : Nat) (BA : Option Addr) (bc : Nat), k ≤ n ∧ v = .int .i64 (k : Int) ∧ Blk wr g 53 #[.slice BA k bc, .slice GA n n, .slice none 0 0, .slice none 0 0, .bool false, .int .i64 0, .int .i64 0] ∧ Img wr w.heap.size BA k bc (List.replicate k (List.replicate 64 0)) ∧ OwnR wr w.heap.size 4 1 GA n n (List.replicate n (.bool false)) ∧ Below w.heap.size w wr) (fun v _ => n - (intOf v).toNat)
  case atStart => exact ⟨0, none, 0, Nat.zero_le _, rfl, H.out.1, Img.nil_ .., H.out.2.1, H.out.2.2⟩
  case round =>
    obtain ⟨k, BA, bc, hk, rfl, hB, hI, hG, hb⟩ := hrel
    clear H
    have s00 := hB.cell 0
    have s01 := hB.cell 1
    by_cases hkn : k < n
    · have hlt : (k : Int) < (n : Int) := by omega
      go_wp2_with fail
      have hB2 := hB.drew
      have hI2 := hI.below (Below.refl _ _).drew
      have hG2 := hG.drew
      have hb2 := hb.drew
      generalize hwd : World.drew _ = w2 at *
      have s0 : (fun w' : World => w'.cell? ⟨g, 0, none⟩ = some (.slice BA k bc)) w2 := hB2.cell 0
      refine wp_region_late [10] (fun w' : World => w'.cell? ⟨g, 0, none⟩ = some (.slice BA k bc)) (by kernel_rfl) ?_
      rw [hwd]
      refine wpAnyL_take (i := 0) (v := ?_) rfl (by kernel_rfl) (by kernel_rfl) (by kernel_rfl) (by kernel_rfl) (by kernel_rfl) (fun _ _ _ h => h) (Or.inl ⟨by kernel_rfl, ?_⟩) s0 ?_
      rotate_left
      · rintro w0 h1_; go_simp; (try with_reducible rfl)
      try simp only [Act.put, List.getElem_toArray, List.getElem_cons_succ, List.getElem_cons_zero, List.setIfInBounds_toArray, List.set_cons_zero, List.set_cons_succ]
      refine wpAnyL_take (i := 1) (v := ?_) rfl (by kernel_rfl) (by kernel_rfl) (by kernel_rfl) (by kernel_rfl) (by kernel_rfl) (fun _ _ _ h => h) (Or.inl ⟨by kernel_rfl, ?_⟩) s0 ?_
      rotate_left
      · rintro w0 h1_; go_simp; (try with_reducible rfl)
      try simp only [Act.put, List.getElem_toArray, List.getElem_cons_succ, List.getElem_cons_zero, List.setIfInBounds_toArray, List.set_cons_zero, List.set_cons_succ]
      refine wpAnyL_take (i := 2) (v := ?_) rfl (by kernel_rfl) (by kernel_rfl) (by kernel_rfl) (by kernel_rfl) (by kernel_rfl) (fun _ _ _ h => h) (Or.inl ⟨by kernel_rfl, ?_⟩) s0 ?_
      rotate_left
      · rintro w0 h1_; go_simp; (try with_reducible rfl)
      try simp only [Act.put, List.getElem_toArray, List.getElem_cons_succ, List.getElem_cons_zero, List.setIfInBounds_toArray, List.set_cons_zero, List.set_cons_succ]
      refine wpAnyL_take (i := 3) (v := ?_) rfl (by kernel_rfl) (by kernel_rfl) (by kernel_rfl) (by kernel_rfl) (by kernel_rfl) (fun _ _ _ h => h) (Or.inl ⟨by kernel_rfl, ?_⟩) s0 ?_
      rotate_left
      · rintro w0 h1_; go_simp; (try with_reducible rfl)
      try simp only [Act.put, List.getElem_toArray, List.getElem_cons_succ, List.getElem_cons_zero, List.setIfInBounds_toArray, List.set_cons_zero, List.set_cons_succ]
      refine wpAnyL_take (i := 4) (v := ?_) rfl (by kernel_rfl) (by kernel_rfl) (by kernel_rfl) (by kernel_rfl) (by kernel_rfl) (fun _ _ _ h => h) (Or.inl ⟨by kernel_rfl, ?_⟩) s0 ?_
      rotate_left
      · rintro w0 h1_; go_simp; (try with_reducible rfl)
      try simp only [Act.put, List.getElem_toArray, List.getElem_cons_succ, List.getElem_cons_zero, List.setIfInBounds_toArray, List.set_cons_zero, List.set_cons_succ]
      refine wpAnyL_one (i := 5) (by kernel_rfl) rfl (fun K hK => ?_)
      refine step_mkI rfl (.const (.int .i64 64)) (.const (.int .i64 64)) 29 rfl (lim := 256) (by omega) 5 1 Try.underlying29 dinfo_u8 64 rfl rfl rfl rfl (by omega) (by decide) w2.heap.size (Nat.le_refl _) ?_
      intro w3 ho3 hg3
      have b3 : Below w2.heap.size w2 w3 := below_none (Below.refl _ _) hg3 (Nat.le_refl _)
      have hB3 := hB2.below b3 hB2.lt
      have s1 : (fun w' : World => w'.cell? ⟨g, 0, none⟩ = some (.slice BA k bc)) w3 := hB3.cell 0
      refine hK.out _ _ (fun _ => s1) ?_
      clear hK K
      try simp only [Act.put, List.getElem_toArray, List.getElem_cons_succ, List.getElem_cons_zero, List.setIfInBounds_toArray, List.set_cons_zero, List.set_cons_succ]
      refine wpAnyL_one (i := 6) (by kernel_rfl) rfl (fun K hK => ?_)
      go_simp
      have hB4 := hB3.alloc (.cells #[.slice (some ⟨w2.heap.size, 0, none⟩) 64 64] 29)
      have s2 : (fun w' : World => w'.cell? ⟨g, 0, none⟩ = some (.slice BA k bc)) _ := hB4.cell 0
      refine hK.out _ _ (fun _ => s2) ?_
      clear hK K
      try simp only [Act.put, List.getElem_toArray, List.getElem_cons_succ, List.getElem_cons_zero, List.setIfInBounds_toArray, List.set_cons_zero, List.set_cons_succ]
      refine wpAnyL_one (i := 7) (by kernel_rfl) rfl (fun K hK => ?_)
      obtain ⟨zs, z1, z2, z3⟩ := (hI2.below b3).ex
      refine step_appR rfl (.tmp 18) (.tmp 20) 43 rfl 29 (.slice none 0 0) 1 24 Try.underlying43 binfo rfl (by omega) (by omega) rfl (z1.alloc _) (ad := ⟨w3.heap.size, 0, none⟩) (m := 1) (c' := 1) [.slice (some ⟨w2.heap.size, 0, none⟩) 64 64] rfl rfl (cells_new w3 #[.slice (some ⟨w2.heap.size, 0, none⟩) 64 64] 29 (g := w3.heap.size) rfl) (by intro u hu; rw [List.mem_singleton] at hu; subst hu; rfl) (by omega) (by have h1 := hb2.size; have h2 := b3.size; simp; omega) ?_
      intro A6 c6 w6 o6 g6 a6
      have hgp := row_ne_ z1 hB3 (by decide)
      have hB6 := hB4.grown g6 hgp
      have s3 : (fun w' : World => w'.cell? ⟨g, 0, none⟩ = some (.slice BA k bc)) w6 := hB6.cell 0
      have hIn : BEl.In w3 ⟨some ⟨w2.heap.size, 0, none⟩, 64, 64, List.replicate 64 0⟩ := bel_in64 ho3 (List.length_replicate ..)
      have hI6 := Img.snoc (x := ⟨some ⟨w2.heap.size, 0, none⟩, 64, 64, List.replicate 64 0⟩) (fun z hz => (z2 z hz).alloc (.cells #[.slice (some ⟨w2.heap.size, 0, none⟩) 64 64] 29)) (z1.alloc _) (hIn.alloc _) o6 g6
      rw [← z3, ← List.replicate_succ'] at hI6
      have hG4 := (hG2.below b3).alloc (.cells #[.slice (some ⟨w2.heap.size, 0, none⟩) 64 64] 29)
      have hG6 := hG4.kept g6 (hG4.dis (z1.alloc _) (by decide))
      clear hG4
      have hb6 := below_own ((below_step hb2 b3 hb2.size).alloc (by have h1 := hb2.size; have h2 := b3.size; omega) (.cells #[.slice (some ⟨w2.heap.size, 0, none⟩) 64 64] 29)) g6 (by have h1 := hb2.size; have h2 := b3.size; simp; omega) (fun ad h => (z1.lt ad h).1)
      have hf6 := hB6.frozen 0
      have HX := Lib.hid (And.intro hB6 (And.intro hI6 (And.intro hG6 hb6)))
      clear hB2 hB3 hB4 hB6 hI2 hI6 hG2 hG6 hb2 hb6 ho3 hg3 b3 z1 z2 z3 o6 g6 a6 hIn hgp s0 s1 s2
      refine hK.out _ _ (fun _ => s3) ?_
      clear hK K
      try simp only [Act.put, List.getElem_toArray, List.getElem_cons_succ, List.getElem_cons_zero, List.setIfInBounds_toArray, List.set_cons_zero, List.set_cons_succ]
      refine wpAnyL_take (i := 8) (v := ?_) rfl (by kernel_rfl) (by kernel_rfl) (by kernel_rfl) (by kernel_rfl) (by kernel_rfl) (fun _ _ _ h => h) (Or.inl ⟨by kernel_rfl, ?_⟩) s3 ?_
      rotate_left
      · rintro w0 h1_; go_simp; (try with_reducible rfl)
      try simp only [Act.put, List.getElem_toArray, List.getElem_cons_succ, List.getElem_cons_zero, List.setIfInBounds_toArray, List.set_cons_zero, List.set_cons_succ]
      refine wpAnyL_take (i := 9) (v := ?_) rfl (by kernel_rfl) (by kernel_rfl) (by kernel_rfl) (by kernel_rfl) (by kernel_rfl) (fun _ _ _ h => h) (Or.inl ⟨by kernel_rfl, ?_⟩) s3 ?_
      rotate_left
      · rintro w0 h1_; go_simp; (try with_reducible rfl)
      try simp only [Act.put, List.getElem_toArray, List.getElem_cons_succ, List.getElem_cons_zero, List.setIfInBounds_toArray, List.set_cons_zero, List.set_cons_succ]
      refine wpAnyL_one (i := 10) (by kernel_rfl) rfl (fun K hK => ?_)
      go_simp
      refine hK.out _ _ (fun h => absurd (by simp) h) ?_
      clear hK K
      try simp only [Act.put, List.getElem_toArray, List.getElem_cons_succ, List.getElem_cons_zero, List.setIfInBounds_toArray, List.set_cons_zero, List.set_cons_succ]
      refine wpAnyL_done (by kernel_rfl) ?_ _
      obtain ⟨hB6, hI6, hG6, hb6⟩ := HX.out
      have hB7 := hB6.set_ 0 (.slice A6 (k + 1) c6)
      have hI7 := img_set (j := 0) hI6 hB6 (.slice A6 (k + 1) c6)
      have hG7 := hG6.setCell (hG6.type_ne hB6 (by decide)) (p := ⟨g, 0, none⟩) (.slice A6 (k + 1) c6)
      have hb7 := hb6.setCell (p := ⟨g, 0, none⟩) hgw (.slice A6 (k + 1) c6)
      clear hB6 hI6 hG6 hb6 HX hf6 s3
      go_wp2_with fail
      go_roundw
      case rel => exact ⟨k + 1, A6, c6, by omega, by go_num, hB7, hI7, hG7, hb7⟩
      case measure => simp [intOf]; omega
    · obtain rfl : k = n := by omega
      have hlt : ¬ (k : Int) < (k : Int) := by omega
      have H := Lib.hid (And.intro hB (And.intro hI (And.intro hG hb)))
      clear hB hI hG hb
      go_wp2_with fail
      go_ret
      obtain ⟨hB, hI, hG, hb⟩ := H.out
      obtain ⟨T, h1, h2⟩ := ref_new hn2 hgw hB hI hG
      exact ⟨g, rfl, T, h1, h2, hb⟩
end Go.Proofs.Ytkjmccicdjkccaa
