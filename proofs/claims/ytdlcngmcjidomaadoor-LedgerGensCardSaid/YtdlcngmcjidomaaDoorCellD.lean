/- The contract of cell.Decode. No condition but the reach of a slice. -/
import Derived.Test.YtdlcngmcjidomaaDoorCellC
import Derived.Test.YtdlcngmcjidomaaDoorStruct2
import Derived.Test.YtdlcngmcjidomaaDoorLate2
import Derived.Deep.DeepCutAuto
namespace Go.Proofs.YtdlcngmcjidomaaDoor
set_option linter.unusedSimpArgs false
set_option linter.unusedVariables false
open Go.RowKit

/-- Bytes in a block of bytes. -/
structure FI (w : World) (A : Option Addr) (n c : Nat) (l : List Nat) : Prop where
  ints : Ints w .u8 256 A n c l
  far : 0 < n → ∀ ad, A = some ad → ∃ cs, Blk w ad.block 5 cs
theorem FI.nil_ (w : World) (A : Option Addr) (c : Nat) : FI w A 0 c [] := ⟨Ints.nil_ .., fun h => absurd h (by omega)⟩
theorem FI.below {w w' : World} {A : Option Addr} {n c : Nat} {l : List Nat} (h : FI w A n c l) (hb : Below w.heap.size w w') : FI w' A n c l := ⟨h.ints.below hb, fun hn ad e => by
  obtain ⟨cs, hk⟩ := h.far hn ad e
  exact ⟨cs, hk.below hb hk.lt⟩⟩
theorem FI.alloc {w : World} {A : Option Addr} {n c : Nat} {l : List Nat} (h : FI w A n c l) (o : Obj) : FI (w.alloc o) A n c l := h.below ((Below.refl _ _).alloc (Nat.le_refl _) o)
theorem FI.grown {w w' : World} {A : Option Addr} {n c : Nat} {l : List Nat} (h : FI w A n c l) {row : Option Nat} (hg : w.grownBy w' row) (hr : ∀ ad, A = some ad → some ad.block ≠ row) : FI w' A n c l := ⟨h.ints.grown hg hr, fun hn ad e => by
  obtain ⟨cs, hk⟩ := h.far hn ad e
  exact ⟨cs, hk.grown hg (hr ad e)⟩⟩
/-- What Decode hands back. -/
def DecPost (w : World) (l : List Nat) (e : Ending) (w' : World) : Prop :=
  ∃ A m c, e = .returned (.tuple #[.agg #[.int .u32 ((Cl.dec l).gen : Int), .int .u32 ((Cl.dec l).seq : Int), .int .i64 (Cl.dec l).part, .int .i64 (Cl.dec l).parts, .slice A m c], .int .i64 (Cl.code l)]) ∧ FI w' A m c (Cl.dec l).data ∧ Below w.heap.size w w'
theorem dec_no {w w' : World} {l : List Nat} (h : Cl.isEnc l = false) (hb : Below w.heap.size w w') : DecPost w l (.returned (.tuple #[.agg #[.int .u32 0, .int .u32 0, .int .i64 0, .int .i64 0, .slice none 0 0], .int .i64 2])) w' := by
  unfold DecPost
  have e : Cl.dec l = Cl.zero := by unfold Cl.dec; rw [h]; rfl
  have e2 : Cl.code l = 2 := by unfold Cl.code; rw [h]; rfl
  rw [e, e2]
  exact ⟨none, 0, 0, rfl, FI.nil_ .., hb⟩
theorem dec_yes {w w' : World} {l : List Nat} {g1 g2 x8 x9 m c : Nat} {A : Option Addr} {d : List Nat} (h : Cl.isEnc l = true) (hr : Cl.raw l = ⟨g1, g2, (x8 : Int), (x9 : Int), d⟩) (hI : FI w' A m c d) (hb : Below w.heap.size w w') :
    DecPost w l (.returned (.tuple #[.agg #[.int .u32 (g1 : Int), .int .u32 (g2 : Int), .int .i64 (x8 : Int), .int .i64 (x9 : Int), .slice A m c], .int .i64 0])) w' := by
  unfold DecPost
  have e : Cl.dec l = ⟨g1, g2, (x8 : Int), (x9 : Int), d⟩ := by unfold Cl.dec; rw [h]; exact hr
  have e2 : Cl.code l = 0 := by unfold Cl.code; rw [h]; rfl
  rw [e, e2]
  exact ⟨A, m, c, rfl, hI, hb⟩
theorem openL_yes_of {l : List Nat} (h : (openL l).2 = true) : (openL l).1 = l.drop 4 := by
  unfold openL at h ⊢
  split at h
  · next h1 => rw [if_pos h1]
  · cases h
theorem isEnc_len {l : List Nat} (h : l.length ≠ 64) : Cl.isEnc l = false := by
  unfold Cl.isEnc
  rw [decide_eq_false h]; rfl
theorem cell_size5 : (Tryd.prog.info? 73).map (·.size) = some 5 := by kernel_rfl

set_option maxRecDepth 100000 in
set_option maxHeartbeats 1600000 in
theorem decode_short {A : Option Addr} {n c : Nat} {l : List Nat} {w : World} (hl : l.length = n) (hn : n ≠ 64) (hn2 : n ≤ 70368744177664) :
    Calls Tryd.prog 57 #[.slice A n c] w (DecPost w l) := by
  have ht : ((n : Int) != 64) = true := by simp; omega
  have HN := Lib.hid (isEnc_len (l := l) (by omega))
  have hB := Blk.new w 73 #[.int .u32 0, .int .u32 0, .int .i64 0, .int .i64 0, .slice none 0 0]
  have hb : Below w.heap.size w (w.alloc (.cells #[.int .u32 0, .int .u32 0, .int .i64 0, .int .i64 0, .slice none 0 0] 73)) := (Below.refl _ _).alloc (Nat.le_refl _) _
  have HB := Lib.hid (And.intro hB hb)
  clear hB hb hl hn
  go_enter Tryd.func57, Tryd.ntmps57
  go_wp2_with fail
  refine bodyPost_ret (results_row_tmp rfl _ _ w.heap.size 73 #[.int .u32 0, .int .u32 0, .int .i64 0, .int .i64 0, .slice none 0 0] (0, 0) _ rfl HB.out.1.is Tryd.underlying73 rfl (by kernel_rfl)) rfl ?_
  exact dec_no HN.out HB.out.2
set_option maxRecDepth 100000 in
set_option maxHeartbeats 6400000 in
theorem decode_full {A : Option Addr} {c : Nat} {l : List Nat} {w : World} (hr : Ints w .u8 256 A 64 c l) :
    Calls Tryd.prog 57 #[.slice A 64 c] w (DecPost w l) := by
  have hl64 := hr.len
  have hprog := Cl.isEnc_prog hl64 hr.lt
  have hB := Blk.new w 73 #[.int .u32 0, .int .u32 0, .int .i64 0, .int .i64 0, .slice none 0 0]
  have hb : Below w.heap.size w (w.alloc (.cells #[.int .u32 0, .int .u32 0, .int .i64 0, .int .i64 0, .slice none 0 0] 73)) := (Below.refl _ _).alloc (Nat.le_refl _) _
  have hr1 := hr.alloc (.cells #[.int .u32 0, .int .u32 0, .int .i64 0, .int .i64 0, .slice none 0 0] 73)
  have HB := Lib.hid (And.intro hB (And.intro hb (And.intro hr1 (And.intro hprog (And.intro hl64 hr.lt)))))
  clear hB hb hr1 hprog hl64 hr
  go_enter Tryd.func57, Tryd.ntmps57
  go_wp2_with fail
  refine (open_any A 64 c l _ HB.out.2.2.1 (by omega)).mono ?_; rintro e w1 ⟨A1, m, c1, rfl, ho, hb1⟩
  have hb := below_step HB.out.2.1 hb1 (by simp)
  have hB := HB.out.1.below hb1 (by simp)
  have hprog := HB.out.2.2.2.1
  have HL := Lib.hid (And.intro HB.out.2.2.2.2.1 HB.out.2.2.2.2.2)
  obtain ⟨ok, hok⟩ : ∃ b, (openL l).2 = b := ⟨_, rfl⟩
  rw [hok] at hprog ⊢
  cases ok with
  | false =>
    rw [Bool.false_and] at hprog
    have HN := Lib.hid (And.intro hprog (And.intro hb hB))
    clear hprog hb hB hb1 ho HB hok
    go_wp2_with (refine wpList_store_blk rfl 73 (.tmp 2) (.tmp 26) rfl w.heap.size rfl 73 #[.int .u32 0, .int .u32 0, .int .i64 0, .int .i64 0, .slice none 0 0] #[.int .u32 0, .int .u32 0, .int .i64 0, .int .i64 0, .slice none 0 0] rfl HN.out.2.2 (by kernel_rfl) rfl (by simp [Value.oneCell']) ?_; intro w5 hB5 hg5)
    refine bodyPost_ret (results_row_tmp rfl _ _ w.heap.size 73 #[.int .u32 0, .int .u32 0, .int .i64 0, .int .i64 0, .slice none 0 0] (0, 0) _ rfl hB5.is Tryd.underlying73 rfl (by kernel_rfl)) rfl ?_
    exact dec_no HN.out.1 (HN.out.2.1.grown hg5 HN.out.2.1.size (fun k e => by cases e; exact Nat.le_refl _))
  | true =>
    rw [openL_yes_of hok] at ho
    have hm60 : m = 60 := by have := ho.len; rw [List.length_drop, HL.out.1] at this; omega
    subst hm60
    rw [Bool.true_and] at hprog
    obtain ⟨b, x10, rfl, hb0, hblt, hx10, hx10l, hc10, _⟩ := ho.get (k := 10) (by omega)
    rw [List.getElem?_drop] at hx10
    have e14 : l.getD 14 0 = x10 := by rw [List.getD_eq_getElem?_getD, hx10]; rfl
    have hcap := ho.cap
    have HO := Lib.hid ho
    have H14 := Lib.hid e14
    rw [e14] at hprog
    clear hx10 e14 hok HB hb1
    by_cases h49 : x10 ≤ 49
    case neg =>
      rw [decide_eq_false h49, Bool.false_and] at hprog
      have ht : decide ((49 : Int) < (x10 : Int)) = true := decide_eq_true (by omega)
      have HN := Lib.hid (And.intro hprog (And.intro hb hB))
      clear hprog hb hB ho h49
      go_wp2_with (refine wpList_store_blk rfl 73 (.tmp 2) (.tmp 26) rfl w.heap.size rfl 73 #[.int .u32 0, .int .u32 0, .int .i64 0, .int .i64 0, .slice none 0 0] #[.int .u32 0, .int .u32 0, .int .i64 0, .int .i64 0, .slice none 0 0] rfl HN.out.2.2 (by kernel_rfl) rfl (by simp [Value.oneCell']) ?_; intro w5 hB5 hg5)
      refine bodyPost_ret (results_row_tmp rfl _ _ w.heap.size 73 #[.int .u32 0, .int .u32 0, .int .i64 0, .int .i64 0, .slice none 0 0] (0, 0) _ rfl hB5.is Tryd.underlying73 rfl (by kernel_rfl)) rfl ?_
      exact dec_no HN.out.1 (HN.out.2.1.grown hg5 HN.out.2.1.size (fun k e => by cases e; exact Nat.le_refl _))
    rw [decide_eq_true h49, Bool.true_and] at hprog
    have ht : decide ((49 : Int) < (x10 : Int)) = false := decide_eq_false (by omega)
    have h49' : (x10 : Int) ≤ 49 := by omega
    have h0 : (0 : Int) ≤ (x10 : Int) := by omega
    have HP := Lib.hid hprog
    have HW := Lib.hid (And.intro hb hB)
    obtain ⟨en, hen⟩ : ∃ en : Nat, 11 + x10 = en := ⟨_, rfl⟩
    have e11 : (11 : Int) + (x10 : Int) = (en : Int) := by omega
    have en1 : en - 11 = x10 := by omega
    have en2 : (11 : Int) ≤ (en : Int) := by omega
    have en3 : (en : Int) ≤ (c1 : Int) := by omega
    have en4 : (0 : Int) ≤ (en : Int) := by omega
    have en5 : 11 ≤ en := by omega
    have en6 : en ≤ 60 := by omega
    clear hprog hb hB ho hen
    go_wp2_with fail
    have HO2 := HO.out.drew
    obtain ⟨x8, hx8, hx8l, k8⟩ := HO2.ints.get' (k := 8) (by omega)
    obtain ⟨x9, hx9, hx9l, k9⟩ := HO2.ints.get' (k := 9) (by omega)
    rw [Nat.zero_add] at k8 k9
    have HX := Lib.hid (And.intro hx8 hx9)
    have hb := HW.out.1.drew
    have hB := HW.out.2.drew
    have hcut := (HO2.ints.cut (k := 4) (by omega))
    have hc4 : ¬ c1 = 4 := by omega
    rw [if_neg hc4, Option.map_some, add_plain, List.drop_drop] at hcut
    have hw8 : IntKind.i64.wrap (x8 : Int) = (x8 : Int) := IntWalk.i64_in _ (by omega)
    have hw9 : IntKind.i64.wrap (x9 : Int) = (x9 : Int) := IntWalk.i64_in _ (by omega)
    obtain ⟨A48, hA48, hI48⟩ : ∃ A48, (if en = 11 then (some ⟨b, 0, none⟩ : Option Addr) else some ⟨b, 11, none⟩) = A48 ∧ FI w1.drew A48 x10 x10 ((l.drop 15).take x10) := by
      refine ⟨_, rfl, ?_⟩
      by_cases e : x10 = 0
      · subst e; exact FI.nil_ ..
      · rw [if_neg (by omega)]
        have h11 := ((HO2.ints.cut (k := 11) (by omega)).take (k := x10) (c' := x10) (by omega) (Nat.le_refl _))
        rw [if_neg (by omega), Option.map_some, add_plain, List.drop_drop] at h11
        refine ⟨h11, fun _ ad e => ?_⟩
        cases e
        rcases HO2.own.form with ⟨h7, _⟩ | ⟨k, cur, h7, _, hg7, _⟩
        · cases h7
        · cases h7; exact ⟨cur, hg7⟩
    have HAB := Lib.hid (show ∀ ad, A48 = some ad → ad.block = b from fun ad e => by rw [← hA48] at e; split at e <;> (cases e; rfl))
    have HC := Lib.hid (And.intro HO2.ints (And.intro hcut hI48))
    clear hx8 hx9 hcut HO2 hI48
    go_upto_region 8 with (fail)
    go_cut [7] (fun v wx => v = .pointer (some ⟨w1.drew.heap.size, 0, none⟩) ∧ wx = w1.drew.alloc (.cells #[.int .u32 (Crc.num ((l.drop 4).take 4) : Nat), .int .u32 (Crc.num ((l.drop 8).take 4) : Nat), .int .i64 (x8 : Int), .int .i64 (x9 : Int), .slice A48 x10 x10] 73))
    case first =>
      refine wp_region_late [19] (fun w' => w'.cell? ⟨b, 8, none⟩ = some (.int .u8 (x8 : Int)) ∧ w'.cell? ⟨b, 9, none⟩ = some (.int .u8 (x9 : Int))) (by kernel_rfl) ?_
      have hblt2 : b < w1.drew.heap.size := hblt
      generalize World.drew _ = w2 at *
      refine wpAnyL_take (i := 0) (v := ?_) rfl (by kernel_rfl) (by kernel_rfl) (by kernel_rfl) (by kernel_rfl) (by kernel_rfl) (fun _ _ _ h => h) (Or.inl ⟨by kernel_rfl, ?_⟩) ⟨k8, k9⟩ ?_
      rotate_left
      · rintro w0 ⟨h1_, h2_⟩; go_simp; (try with_reducible rfl)
      try simp only [Act.put, List.getElem_toArray, List.getElem_cons_succ, List.getElem_cons_zero, List.setIfInBounds_toArray, List.set_cons_zero, List.set_cons_succ]
      refine wpAnyL_take (i := 2) (v := ?_) rfl (by kernel_rfl) (by kernel_rfl) (by kernel_rfl) (by kernel_rfl) (by kernel_rfl) (fun _ _ _ h => h) (Or.inl ⟨by kernel_rfl, ?_⟩) ⟨k8, k9⟩ ?_
      rotate_left
      · rintro w0 ⟨h1_, h2_⟩; go_simp; (try with_reducible rfl)
      try simp only [Act.put, List.getElem_toArray, List.getElem_cons_succ, List.getElem_cons_zero, List.setIfInBounds_toArray, List.set_cons_zero, List.set_cons_succ]
      refine wpAnyL_take (i := 3) (v := .slice (some ⟨b, 4, none⟩) 56 (c1 - 4)) rfl (by kernel_rfl) (by kernel_rfl) (by kernel_rfl) (by kernel_rfl) (by kernel_rfl) (fun _ _ _ h => h) (Or.inl ⟨by kernel_rfl, by rintro w0 ⟨h1_, h2_⟩; (have hc4i : (4 : Int) ≤ (c1 : Int) := by omega); go_simp⟩) ⟨k8, k9⟩ ?_
      try simp only [Act.put, List.getElem_toArray, List.getElem_cons_succ, List.getElem_cons_zero, List.setIfInBounds_toArray, List.set_cons_zero, List.set_cons_succ]
      refine wpAnyL_take (i := 5) (v := ?_) rfl (by kernel_rfl) (by kernel_rfl) (by kernel_rfl) (by kernel_rfl) (by kernel_rfl) (fun _ _ _ h => h) (Or.inl ⟨by kernel_rfl, ?_⟩) ⟨k8, k9⟩ ?_
      rotate_left
      · rintro w0 ⟨h1_, h2_⟩; go_simp; (try with_reducible rfl)
      try simp only [Act.put, List.getElem_toArray, List.getElem_cons_succ, List.getElem_cons_zero, List.setIfInBounds_toArray, List.set_cons_zero, List.set_cons_succ]
      refine wpAnyL_take (i := 6) (v := ?_) rfl (by kernel_rfl) (by kernel_rfl) (by kernel_rfl) (by kernel_rfl) (by kernel_rfl) (fun _ _ _ h => h) (Or.inl ⟨by kernel_rfl, ?_⟩) ⟨k8, k9⟩ ?_
      rotate_left
      · rintro w0 ⟨h1_, h2_⟩; go_simp; (try with_reducible rfl)
      try simp only [Act.put, List.getElem_toArray, List.getElem_cons_succ, List.getElem_cons_zero, List.setIfInBounds_toArray, List.set_cons_zero, List.set_cons_succ]
      refine wpAnyL_take (i := 7) (v := ?_) rfl (by kernel_rfl) (by kernel_rfl) (by kernel_rfl) (by kernel_rfl) (by kernel_rfl) (fun _ _ _ h => h) (Or.inl ⟨by kernel_rfl, ?_⟩) ⟨k8, k9⟩ ?_
      rotate_left
      · rintro w0 ⟨h1_, h2_⟩; go_simp; (try with_reducible rfl)
      try simp only [Act.put, List.getElem_toArray, List.getElem_cons_succ, List.getElem_cons_zero, List.setIfInBounds_toArray, List.set_cons_zero, List.set_cons_succ]
      refine wpAnyL_take (i := 8) (v := ?_) rfl (by kernel_rfl) (by kernel_rfl) (by kernel_rfl) (by kernel_rfl) (by kernel_rfl) (fun _ _ _ h => h) (Or.inl ⟨by kernel_rfl, ?_⟩) ⟨k8, k9⟩ ?_
      rotate_left
      · rintro w0 ⟨h1_, h2_⟩; go_simp; (try with_reducible rfl)
      try simp only [Act.put, List.getElem_toArray, List.getElem_cons_succ, List.getElem_cons_zero, List.setIfInBounds_toArray, List.set_cons_zero, List.set_cons_succ]
      refine wpAnyL_take (i := 9) (v := ?_) rfl (by kernel_rfl) (by kernel_rfl) (by kernel_rfl) (by kernel_rfl) (by kernel_rfl) (fun _ _ _ h => h) (Or.inl ⟨by kernel_rfl, ?_⟩) ⟨k8, k9⟩ ?_
      rotate_left
      · rintro w0 ⟨h1_, h2_⟩; go_simp; (try with_reducible rfl)
      try simp only [Act.put, List.getElem_toArray, List.getElem_cons_succ, List.getElem_cons_zero, List.setIfInBounds_toArray, List.set_cons_zero, List.set_cons_succ]
      refine wpAnyL_take (i := 10) (v := ?_) rfl (by kernel_rfl) (by kernel_rfl) (by kernel_rfl) (by kernel_rfl) (by kernel_rfl) (fun _ _ _ h => h) (Or.inl ⟨by kernel_rfl, ?_⟩) ⟨k8, k9⟩ ?_
      rotate_left
      · rintro w0 ⟨h1_, h2_⟩; go_simp; (try with_reducible rfl)
      try simp only [Act.put, List.getElem_toArray, List.getElem_cons_succ, List.getElem_cons_zero, List.setIfInBounds_toArray, List.set_cons_zero, List.set_cons_succ]
      refine wpAnyL_take (i := 11) (v := ?_) rfl (by kernel_rfl) (by kernel_rfl) (by kernel_rfl) (by kernel_rfl) (by kernel_rfl) (fun _ _ _ h => h) (Or.inl ⟨by kernel_rfl, ?_⟩) ⟨k8, k9⟩ ?_
      rotate_left
      · rintro w0 ⟨h1_, h2_⟩; go_simp; (try with_reducible rfl)
      try simp only [Act.put, List.getElem_toArray, List.getElem_cons_succ, List.getElem_cons_zero, List.setIfInBounds_toArray, List.set_cons_zero, List.set_cons_succ]
      refine wpAnyL_take (i := 12) (v := ?_) rfl (by kernel_rfl) (by kernel_rfl) (by kernel_rfl) (by kernel_rfl) (by kernel_rfl) (fun _ _ _ h => h) (Or.inl ⟨by kernel_rfl, ?_⟩) ⟨k8, k9⟩ ?_
      rotate_left
      · rintro w0 ⟨h1_, h2_⟩; go_simp; (try with_reducible rfl)
      try simp only [Act.put, List.getElem_toArray, List.getElem_cons_succ, List.getElem_cons_zero, List.setIfInBounds_toArray, List.set_cons_zero, List.set_cons_succ]
      refine wpAnyL_take (i := 13) (v := ?_) rfl (by kernel_rfl) (by kernel_rfl) (by kernel_rfl) (by kernel_rfl) (by kernel_rfl) (fun _ _ _ h => h) (Or.inl ⟨by kernel_rfl, ?_⟩) ⟨k8, k9⟩ ?_
      rotate_left
      · rintro w0 ⟨h1_, h2_⟩; go_simp; (try with_reducible rfl)
      try simp only [Act.put, List.getElem_toArray, List.getElem_cons_succ, List.getElem_cons_zero, List.setIfInBounds_toArray, List.set_cons_zero, List.set_cons_succ]
      refine wpAnyL_take (i := 14) (v := ?_) rfl (by kernel_rfl) (by kernel_rfl) (by kernel_rfl) (by kernel_rfl) (by kernel_rfl) (fun _ _ _ h => h) (Or.inl ⟨by kernel_rfl, ?_⟩) ⟨k8, k9⟩ ?_
      rotate_left
      · rintro w0 ⟨h1_, h2_⟩; go_simp; (try with_reducible rfl)
      try simp only [Act.put, List.getElem_toArray, List.getElem_cons_succ, List.getElem_cons_zero, List.setIfInBounds_toArray, List.set_cons_zero, List.set_cons_succ]
      refine wpAnyL_take (i := 15) (v := ?_) rfl (by kernel_rfl) (by kernel_rfl) (by kernel_rfl) (by kernel_rfl) (by kernel_rfl) (fun _ _ _ h => h) (Or.inl ⟨by kernel_rfl, ?_⟩) ⟨k8, k9⟩ ?_
      rotate_left
      · rintro w0 ⟨h1_, h2_⟩; go_simp; (try with_reducible rfl)
      try simp only [Act.put, List.getElem_toArray, List.getElem_cons_succ, List.getElem_cons_zero, List.setIfInBounds_toArray, List.set_cons_zero, List.set_cons_succ]
      refine wpAnyL_take (i := 16) (v := ?_) rfl (by kernel_rfl) (by kernel_rfl) (by kernel_rfl) (by kernel_rfl) (by kernel_rfl) (fun _ _ _ h => h) (Or.inl ⟨by kernel_rfl, ?_⟩) ⟨k8, k9⟩ ?_
      rotate_left
      · rintro w0 ⟨h1_, h2_⟩; go_simp; (try with_reducible rfl)
      try simp only [Act.put, List.getElem_toArray, List.getElem_cons_succ, List.getElem_cons_zero, List.setIfInBounds_toArray, List.set_cons_zero, List.set_cons_succ]
      refine wpAnyL_all (rs := [1, 18]) (by kernel_rfl) (by simp) (StepsL.cons (i := 1) rfl (fun K hK => ?_) (StepsL.cons (i := 18) rfl (fun K hK => ?_) StepsL.nil))
      · go_simp
        refine (number_any HC.out.1 (by omega)).mono ?_; rintro e w3 ⟨rfl, rfl⟩
        go_wp2_with fail
        refine hK.out _ _ (fun _ => ⟨k8, k9⟩) ?_
        clear hK K
        try simp only [Act.put, List.getElem_toArray, List.getElem_cons_succ, List.getElem_cons_zero, List.setIfInBounds_toArray, List.set_cons_zero, List.set_cons_succ]
        refine wpAnyL_all (rs := [4, 18]) (by kernel_rfl) (by simp) (StepsL.cons (i := 4) rfl (fun K hK => ?_) (StepsL.cons (i := 18) rfl (fun K hK => ?_) StepsL.nil))
        · go_simp
          refine (number_any HC.out.2.1 (by omega)).mono ?_; rintro e w3 ⟨rfl, rfl⟩
          go_wp2_with fail
          refine hK.out _ _ (fun _ => ⟨k8, k9⟩) ?_
          clear hK K
          try simp only [Act.put, List.getElem_toArray, List.getElem_cons_succ, List.getElem_cons_zero, List.setIfInBounds_toArray, List.set_cons_zero, List.set_cons_succ]
          refine wpAnyL_take (i := 17) (v := ?_) rfl (by kernel_rfl) (by kernel_rfl) (by kernel_rfl) (by kernel_rfl) (by kernel_rfl) (fun _ _ _ h => h) (Or.inl ⟨by kernel_rfl, ?_⟩) ⟨k8, k9⟩ ?_
          rotate_left
          · rintro w0 ⟨h1_, h2_⟩; go_simp; (try with_reducible rfl)
          try simp only [Act.put, List.getElem_toArray, List.getElem_cons_succ, List.getElem_cons_zero, List.setIfInBounds_toArray, List.set_cons_zero, List.set_cons_succ]
          refine wpAnyL_one (i := 18) (by kernel_rfl) rfl (fun K hK => ?_)
          go_simp
          have k8 := (World.cell?_alloc_lt w2 (.cells #[.int .u32 0, .int .u32 0, .int .i64 0, .int .i64 0, .slice none 0 0] 73) ⟨b, 8, none⟩ hblt2).trans k8
          have k9 := (World.cell?_alloc_lt w2 (.cells #[.int .u32 0, .int .u32 0, .int .i64 0, .int .i64 0, .slice none 0 0] 73) ⟨b, 9, none⟩ hblt2).trans k9
          refine hK.out _ _ (fun _ => ⟨k8, k9⟩) ?_
          clear hK K
          try simp only [Act.put, List.getElem_toArray, List.getElem_cons_succ, List.getElem_cons_zero, List.setIfInBounds_toArray, List.set_cons_zero, List.set_cons_succ]
          refine wpAnyL_one (i := 19) (by kernel_rfl) rfl (fun K hK => ?_)
          go_simp
          refine hK.out _ _ (fun h => absurd (by simp) h) ?_
          clear hK K
          try simp only [Act.put, List.getElem_toArray, List.getElem_cons_succ, List.getElem_cons_zero, List.setIfInBounds_toArray, List.set_cons_zero, List.set_cons_succ]
          refine wpAnyL_done (by kernel_rfl) ?_ _
          go_wp2_with fail
          go_meet
          exact ⟨rfl, rfl⟩
        · go_simp
          have k8 := (World.cell?_alloc_lt w2 (.cells #[.int .u32 0, .int .u32 0, .int .i64 0, .int .i64 0, .slice none 0 0] 73) ⟨b, 8, none⟩ hblt2).trans k8
          have k9 := (World.cell?_alloc_lt w2 (.cells #[.int .u32 0, .int .u32 0, .int .i64 0, .int .i64 0, .slice none 0 0] 73) ⟨b, 9, none⟩ hblt2).trans k9
          refine hK.out _ _ (fun _ => ⟨k8, k9⟩) ?_
          clear hK K
          try simp only [Act.put, List.getElem_toArray, List.getElem_cons_succ, List.getElem_cons_zero, List.setIfInBounds_toArray, List.set_cons_zero, List.set_cons_succ]
          refine wpAnyL_one (i := 4) (by kernel_rfl) rfl (fun K hK => ?_)
          go_simp
          refine (number_any (HC.out.2.1.alloc _) (by omega)).mono ?_; rintro e w3 ⟨rfl, rfl⟩
          go_wp2_with fail
          refine hK.out _ _ (fun _ => ⟨k8, k9⟩) ?_
          clear hK K
          try simp only [Act.put, List.getElem_toArray, List.getElem_cons_succ, List.getElem_cons_zero, List.setIfInBounds_toArray, List.set_cons_zero, List.set_cons_succ]
          refine wpAnyL_take (i := 17) (v := ?_) rfl (by kernel_rfl) (by kernel_rfl) (by kernel_rfl) (by kernel_rfl) (by kernel_rfl) (fun _ _ _ h => h) (Or.inl ⟨by kernel_rfl, ?_⟩) ⟨k8, k9⟩ ?_
          rotate_left
          · rintro w0 ⟨h1_, h2_⟩; go_simp; (try with_reducible rfl)
          try simp only [Act.put, List.getElem_toArray, List.getElem_cons_succ, List.getElem_cons_zero, List.setIfInBounds_toArray, List.set_cons_zero, List.set_cons_succ]
          refine wpAnyL_one (i := 19) (by kernel_rfl) rfl (fun K hK => ?_)
          go_simp
          refine hK.out _ _ (fun h => absurd (by simp) h) ?_
          clear hK K
          try simp only [Act.put, List.getElem_toArray, List.getElem_cons_succ, List.getElem_cons_zero, List.setIfInBounds_toArray, List.set_cons_zero, List.set_cons_succ]
          refine wpAnyL_done (by kernel_rfl) ?_ _
          go_wp2_with fail
          go_meet
          exact ⟨rfl, rfl⟩
      · go_simp
        have k8 := (World.cell?_alloc_lt w2 (.cells #[.int .u32 0, .int .u32 0, .int .i64 0, .int .i64 0, .slice none 0 0] 73) ⟨b, 8, none⟩ hblt2).trans k8
        have k9 := (World.cell?_alloc_lt w2 (.cells #[.int .u32 0, .int .u32 0, .int .i64 0, .int .i64 0, .slice none 0 0] 73) ⟨b, 9, none⟩ hblt2).trans k9
        refine hK.out _ _ (fun _ => ⟨k8, k9⟩) ?_
        clear hK K
        try simp only [Act.put, List.getElem_toArray, List.getElem_cons_succ, List.getElem_cons_zero, List.setIfInBounds_toArray, List.set_cons_zero, List.set_cons_succ]
        refine wpAnyL_one (i := 1) (by kernel_rfl) rfl (fun K hK => ?_)
        go_simp
        refine (number_any (HC.out.1.alloc _) (by omega)).mono ?_; rintro e w3 ⟨rfl, rfl⟩
        go_wp2_with fail
        refine hK.out _ _ (fun _ => ⟨k8, k9⟩) ?_
        clear hK K
        try simp only [Act.put, List.getElem_toArray, List.getElem_cons_succ, List.getElem_cons_zero, List.setIfInBounds_toArray, List.set_cons_zero, List.set_cons_succ]
        refine wpAnyL_one (i := 4) (by kernel_rfl) rfl (fun K hK => ?_)
        go_simp
        refine (number_any (HC.out.2.1.alloc _) (by omega)).mono ?_; rintro e w3 ⟨rfl, rfl⟩
        go_wp2_with fail
        refine hK.out _ _ (fun _ => ⟨k8, k9⟩) ?_
        clear hK K
        try simp only [Act.put, List.getElem_toArray, List.getElem_cons_succ, List.getElem_cons_zero, List.setIfInBounds_toArray, List.set_cons_zero, List.set_cons_succ]
        refine wpAnyL_take (i := 17) (v := ?_) rfl (by kernel_rfl) (by kernel_rfl) (by kernel_rfl) (by kernel_rfl) (by kernel_rfl) (fun _ _ _ h => h) (Or.inl ⟨by kernel_rfl, ?_⟩) ⟨k8, k9⟩ ?_
        rotate_left
        · rintro w0 ⟨h1_, h2_⟩; go_simp; (try with_reducible rfl)
        try simp only [Act.put, List.getElem_toArray, List.getElem_cons_succ, List.getElem_cons_zero, List.setIfInBounds_toArray, List.set_cons_zero, List.set_cons_succ]
        refine wpAnyL_one (i := 19) (by kernel_rfl) rfl (fun K hK => ?_)
        go_simp
        refine hK.out _ _ (fun h => absurd (by simp) h) ?_
        clear hK K
        try simp only [Act.put, List.getElem_toArray, List.getElem_cons_succ, List.getElem_cons_zero, List.setIfInBounds_toArray, List.set_cons_zero, List.set_cons_succ]
        refine wpAnyL_done (by kernel_rfl) ?_ _
        go_wp2_with fail
        go_meet
        exact ⟨rfl, rfl⟩
    case rest =>
      obtain ⟨rfl, rfl⟩ := hcut
      have hraw : Cl.raw l = ⟨Crc.num ((l.drop 4).take 4), Crc.num ((l.drop 8).take 4), (x8 : Int), (x9 : Int), (l.drop 15).take x10⟩ := by
        unfold Cl.raw
        have g8 := HX.out.1
        have g9 := HX.out.2
        rw [List.getElem?_drop] at g8 g9
        have g12 : l.getD 12 0 = x8 := by rw [List.getD_eq_getElem?_getD, g8]; rfl
        have g13 : l.getD 13 0 = x9 := by rw [List.getD_eq_getElem?_getD, g9]; rfl
        rw [g12, g13, H14.out]
      have hmay : (Cl.raw l).may = mayN (x8 : Int) (x9 : Int) x10 := by
        rw [hraw, may_eq]
        congr 1
        have := HC.out.2.2.ints.len
        exact this
      have hn1 : Crc.num ((l.drop 4).take 4) < 4294967296 := (Cl.raw_ok HL.out.2).gen
      have hn2 : Crc.num ((l.drop 8).take 4) < 4294967296 := by have := (Cl.raw_ok HL.out.2).seq; rw [hraw] at this; exact this
      have hprog := HP.out
      rw [hmay] at hprog
      have HR := Lib.hid (And.intro hraw hprog)
      generalize Crc.num ((l.drop 4).take 4) = g1 at *
      generalize Crc.num ((l.drop 8).take 4) = g2 at *
      have hN := Blk.new w1.drew 73 #[.int .u32 (g1 : Int), .int .u32 (g2 : Int), .int .i64 (x8 : Int), .int .i64 (x9 : Int), .slice A48 x10 x10]
      have hB := hB.alloc (.cells #[.int .u32 (g1 : Int), .int .u32 (g2 : Int), .int .i64 (x8 : Int), .int .i64 (x9 : Int), .slice A48 x10 x10] 73)
      have hb := hb.alloc hb.size (.cells #[.int .u32 (g1 : Int), .int .u32 (g2 : Int), .int .i64 (x8 : Int), .int .i64 (x9 : Int), .slice A48 x10 x10] 73)
      have hI := HC.out.2.2.alloc (.cells #[.int .u32 (g1 : Int), .int .u32 (g2 : Int), .int .i64 (x8 : Int), .int .i64 (x9 : Int), .slice A48 x10 x10] 73)
      have hO := HC.out.1.alloc (.cells #[.int .u32 (g1 : Int), .int .u32 (g2 : Int), .int .i64 (x8 : Int), .int .i64 (x9 : Int), .slice A48 x10 x10] 73)
      have HC := Lib.hid (And.intro hI hO)
      have hlt0 := hB.lt
      have hlt1 := hN.lt
      clear hI hO hraw hmay hprog hc4 hA48 hw8 hw9 HP HX HW HO k8 k9
      generalize w1.drew.alloc _ = w5 at *
      generalize w1.drew.heap.size = G1 at *
      have c0 := hN.cell 0
      have c1_ := hN.cell 1
      have c2 := hN.cell 2
      have c3 := hN.cell 3
      have c4 := hN.cell 4
      simp only [List.getElem?_toArray, List.getElem?_cons_zero, List.getElem?_cons_succ] at c0 c1_ c2 c3 c4
      have HS := Lib.hid (And.intro hb (And.intro hB hN))
      clear hb hB hN
      go_wp2_with fail
      refine (cmay_any g1 g2 (x8 : Int) (x9 : Int) A48 x10 x10 _ (by omega)).mono ?_; rintro e w6 ⟨rfl, hb6⟩
      clear c0 c1_ c2 c3 c4
      have hb6' := below_step HS.out.1 hb6 HS.out.1.size
      have hB6 := HS.out.2.1.below hb6 hlt0
      have hN6 := HS.out.2.2.below hb6 hlt1
      have hI6 := HC.out.1.below hb6
      obtain ⟨A7, hA7, hT7⟩ := (HC.out.2.below hb6).cutAt (k := en) (by omega)
      rw [List.drop_drop, show 4 + en = 15 + x10 by omega] at hT7
      rw [Nat.zero_add] at hA7
      have h6 := hb6.size
      have HS6 := Lib.hid (And.intro hb6' (And.intro hB6 (And.intro hN6 hI6)))
      have HT := Lib.hid hT7
      obtain ⟨mb, hmb⟩ : ∃ mb, mayN (x8 : Int) (x9 : Int) x10 = mb := ⟨_, rfl⟩
      have hprog := HR.out.2
      rw [hmb] at hprog ⊢
      have hen60 : (en : Int) ≤ 60 := by omega
      clear hb6 hb6' hB6 hN6 hI6 hT7 HS HC
      cases mb with
      | false =>
        rw [Bool.false_and] at hprog
        have HN := Lib.hid hprog
        clear hprog hmb
        go_wp2_with (refine wpList_store_blk rfl 73 (.tmp 2) (.tmp 61) rfl w.heap.size rfl 73 #[.int .u32 0, .int .u32 0, .int .i64 0, .int .i64 0, .slice none 0 0] #[.int .u32 0, .int .u32 0, .int .i64 0, .int .i64 0, .slice none 0 0] rfl HS6.out.2.1 (by kernel_rfl) rfl (by simp [Value.oneCell']) ?_; intro w8 hB8 hg8)
        refine bodyPost_ret (results_row_tmp rfl _ _ w.heap.size 73 #[.int .u32 0, .int .u32 0, .int .i64 0, .int .i64 0, .slice none 0 0] (0, 0) _ rfl hB8.is Tryd.underlying73 rfl (by kernel_rfl)) rfl ?_
        exact dec_no HN.out (HS6.out.1.grown hg8 HS6.out.1.size (fun k e => by cases e; exact Nat.le_refl _))
      | true =>
        rw [Bool.true_and] at hprog
        have HP := Lib.hid hprog
        have HMB := Lib.hid hmb
        clear hprog hmb
        go_wp2_with fail
        refine (trim_any HT.out (by omega)).mono ?_; rintro e w7 ⟨A8, m8, c8, rfl, hm8, hz8, hb7⟩
        have hb7' := below_step HS6.out.1 hb7 HS6.out.1.size
        have hB7 := HS6.out.2.1.below hb7 (by omega)
        have hN7 := HS6.out.2.2.1.below hb7 (by omega)
        have hI7 := HS6.out.2.2.2.below hb7
        obtain ⟨zb, hzb⟩ : ∃ zb, (l.drop (15 + x10)).all (· == 0) = zb := ⟨_, rfl⟩
        have hprog := HP.out
        rw [hzb] at hz8 hprog
        have hd8 : decide ((0 : Int) < (m8 : Int)) = !zb := by
          rw [← hz8, Bool.eq_iff_iff, decide_eq_true_iff, decide_eq_true_iff]
          omega
        have HS7 := Lib.hid (And.intro hb7' (And.intro hB7 (And.intro hN7 (And.intro hI7 hprog))))
        clear hb7 hb7' hB7 hN7 hI7 hprog hzb HS6
        cases zb with
        | false =>
          rw [Bool.not_false] at hd8 hz8
          go_wp2_with (refine wpList_store_blk rfl 73 (.tmp 2) (.tmp 61) rfl w.heap.size rfl 73 #[.int .u32 0, .int .u32 0, .int .i64 0, .int .i64 0, .slice none 0 0] #[.int .u32 0, .int .u32 0, .int .i64 0, .int .i64 0, .slice none 0 0] rfl HS7.out.2.1 (by kernel_rfl) rfl (by simp [Value.oneCell']) ?_; intro w8 hB8 hg8)
          refine bodyPost_ret (results_row_tmp rfl _ _ w.heap.size 73 #[.int .u32 0, .int .u32 0, .int .i64 0, .int .i64 0, .slice none 0 0] (0, 0) _ rfl hB8.is Tryd.underlying73 rfl (by kernel_rfl)) rfl ?_
          exact dec_no HS7.out.2.2.2.2 (HS7.out.1.grown hg8 HS7.out.1.size (fun k e => by cases e; exact Nat.le_refl _))
        | true =>
          rw [Bool.not_true] at hd8 hz8
          have c0 := HS7.out.2.2.1.cell 0
          have c1_ := HS7.out.2.2.1.cell 1
          have c2 := HS7.out.2.2.1.cell 2
          have c3 := HS7.out.2.2.1.cell 3
          have c4 := HS7.out.2.2.1.cell 4
          simp only [List.getElem?_toArray, List.getElem?_cons_zero, List.getElem?_cons_succ] at c0 c1_ c2 c3 c4
          go_wp2_with (refine wpList_store_blk rfl 73 (.tmp 2) (.tmp 62) rfl w.heap.size rfl 73 #[.int .u32 0, .int .u32 0, .int .i64 0, .int .i64 0, .slice none 0 0] #[.int .u32 (g1 : Int), .int .u32 (g2 : Int), .int .i64 (x8 : Int), .int .i64 (x9 : Int), .slice A48 x10 x10] rfl HS7.out.2.1 cell_size5 rfl (by simp [Value.oneCell']) ?_; intro w8 hB8 hg8; clear c0 c1_ c2 c3 c4)
          refine bodyPost_ret (results_row_tmp rfl _ _ w.heap.size 73 #[.int .u32 (g1 : Int), .int .u32 (g2 : Int), .int .i64 (x8 : Int), .int .i64 (x9 : Int), .slice A48 x10 x10] (0, 0) _ rfl hB8.is Tryd.underlying73 rfl cell_size5) rfl ?_
          exact dec_yes HS7.out.2.2.2.2 HR.out.1 (HS7.out.2.2.2.1.grown hg8 (fun ad e h => by have := HAB.out ad e; injection h with h; simp at hb0; omega)) (HS7.out.1.grown hg8 HS7.out.1.size (fun k e => by cases e; exact Nat.le_refl _))
theorem decode_any {A : Option Addr} {n c : Nat} {l : List Nat} {w : World} (hr : Ints w .u8 256 A n c l) (hn : n ≤ 70368744177664) :
    Calls Tryd.prog 57 #[.slice A n c] w (DecPost w l) := by
  by_cases h : n = 64
  · subst h; exact decode_full hr
  · exact decode_short hr.len h hn
end Go.Proofs.YtdlcngmcjidomaaDoor
