/- The contract of heijunkaref06.Decode. No condition but the reach of a slice. -/
import Derived.Test.YtfoeapjlklfjgaaDoorCellE
import Derived.Test.YtfoeapjlklfjgaaDoorRowsB
namespace Go.Proofs.YtfoeapjlklfjgaaDoor
set_option linter.unusedSimpArgs false
set_option linter.unusedVariables false
open Go.RowKit

theorem wrap32_in (n : Int) (h0 : 0 ≤ n) (h1 : n < 4294967296) : IntKind.u32.wrap n = n := by rw [IntKind.wrap_u32]; omega
theorem num_cons (x : Nat) (m : List Nat) : Crc.num (x :: m) = x + 256 * Crc.num m := rfl
theorem num_up {l : List Nat} {a k x : Nat} (hx : l[a]? = some x) : Crc.num ((l.drop a).take (k + 1)) = x + 256 * Crc.num ((l.drop (a + 1)).take k) := by
  obtain ⟨ha, e⟩ := List.getElem?_eq_some_iff.1 hx
  rw [List.drop_eq_getElem_cons ha, List.take_succ_cons, num_cons, e]
theorem num_take_lt' {l : List Nat} (hl : ∀ c ∈ l, c < 256) (a k : Nat) (hk : k ≤ 4) : Crc.num ((l.drop a).take k) < 2 ^ (8 * k) := num_take_lt (fun c hc => hl c (List.mem_of_mem_drop hc)) k hk

set_option maxRecDepth 100000 in
set_option maxHeartbeats 1600000 in
theorem rdecode_short {A : Option Addr} {n c : Nat} {l : List Nat} {w : World} (hl : l.length = n) (hn : n ≠ 64) (hn2 : n ≤ 70368744177664) :
    Calls Tryd.prog 19 #[.slice A n c] w (DecPost w l) := by
  have ht : ((n : Int) != 64) = true := by simp; omega
  have HN := Lib.hid (isEnc_len (l := l) (by omega))
  have hB := Blk.new w 25 #[.int .u32 0, .int .u32 0, .int .i64 0, .int .i64 0, .slice none 0 0]
  have hb : Below w.heap.size w (w.alloc (.cells #[.int .u32 0, .int .u32 0, .int .i64 0, .int .i64 0, .slice none 0 0] 25)) := (Below.refl _ _).alloc (Nat.le_refl _) _
  have HB := Lib.hid (And.intro hB hb)
  clear hB hb hl hn
  go_enter Tryd.func19, Tryd.ntmps19
  go_wp2_with (refine wpList_store_blk rfl 25 (.tmp 2) (.tmp 15) rfl w.heap.size rfl 25 #[.int .u32 0, .int .u32 0, .int .i64 0, .int .i64 0, .slice none 0 0] #[.int .u32 0, .int .u32 0, .int .i64 0, .int .i64 0, .slice none 0 0] rfl HB.out.1 (by kernel_rfl) rfl (by simp [Value.oneCell']) ?_; intro w8 hB8 hg8)
  refine bodyPost_ret (results_row_tmp rfl _ _ w.heap.size 25 #[.int .u32 0, .int .u32 0, .int .i64 0, .int .i64 0, .slice none 0 0] (0, 0) _ rfl hB8.is Tryd.underlying25 rfl (by kernel_rfl)) rfl ?_
  exact dec_no HN.out (HB.out.2.grown hg8 HB.out.2.size (fun k e => by cases e; exact Nat.le_refl _))
set_option maxRecDepth 100000 in
set_option maxHeartbeats 12800000 in
theorem rdecode_full {A : Option Addr} {c : Nat} {l : List Nat} {w : World} (hr : Ints w .u8 256 A 64 c l) :
    Calls Tryd.prog 19 #[.slice A 64 c] w (DecPost w l) := by
  have hl64 := hr.len
  have hB := Blk.new w 25 #[.int .u32 0, .int .u32 0, .int .i64 0, .int .i64 0, .slice none 0 0]
  have hb : Below w.heap.size w (w.alloc (.cells #[.int .u32 0, .int .u32 0, .int .i64 0, .int .i64 0, .slice none 0 0] 25)) := (Below.refl _ _).alloc (Nat.le_refl _) _
  obtain ⟨b, o, x14, rfl, hb0, hx14, hx14l, k14⟩ := hr.get (k := 14) (by omega)
  obtain ⟨x12, hx12, hx12l, k12⟩ := hr.get' (k := 12) (by omega)
  obtain ⟨x13, hx13, hx13l, k13⟩ := hr.get' (k := 13) (by omega)
  have hcap := hr.rd.cap
  have e14 : l.getD 14 0 = x14 := by rw [List.getD_eq_getElem?_getD, hx14]; rfl
  have e12 : l.getD 12 0 = x12 := by rw [List.getD_eq_getElem?_getD, hx12]; rfl
  have e13 : l.getD 13 0 = x13 := by rw [List.getD_eq_getElem?_getD, hx13]; rfl
  have HX := Lib.hid (And.intro e12 (And.intro e13 (And.intro e14 (And.intro hl64 hr.lt))))
  have HR := Lib.hid hr
  have HB := Lib.hid (And.intro hB hb)
  have k14 := (World.cell?_alloc_lt w (.cells #[.int .u32 0, .int .u32 0, .int .i64 0, .int .i64 0, .slice none 0 0] 25) ⟨b, o + 14, none⟩ hb0).trans k14
  have k12 := (World.cell?_alloc_lt w (.cells #[.int .u32 0, .int .u32 0, .int .i64 0, .int .i64 0, .slice none 0 0] 25) ⟨b, o + 12, none⟩ hb0).trans k12
  have k13 := (World.cell?_alloc_lt w (.cells #[.int .u32 0, .int .u32 0, .int .i64 0, .int .i64 0, .slice none 0 0] 25) ⟨b, o + 13, none⟩ hb0).trans k13
  clear e12 e13 e14 hl64 hr hB hb hx12 hx13 hx14
  by_cases h49 : x14 ≤ 49
  case neg =>
    have ht : decide ((49 : Int) < (x14 : Int)) = true := decide_eq_true (by omega)
    have HN := Lib.hid (show Cl.isEnc l = false from by rw [Bool.eq_false_iff]; intro h; have := Cl.isEnc_14 h; rw [HX.out.2.2.1] at this; exact h49 this)
    clear h49
    go_enter Tryd.func19, Tryd.ntmps19
    go_wp2_with (refine wpList_store_blk rfl 25 (.tmp 2) (.tmp 15) rfl w.heap.size rfl 25 #[.int .u32 0, .int .u32 0, .int .i64 0, .int .i64 0, .slice none 0 0] #[.int .u32 0, .int .u32 0, .int .i64 0, .int .i64 0, .slice none 0 0] rfl HB.out.1 (by kernel_rfl) rfl (by simp [Value.oneCell']) ?_; intro w8 hB8 hg8)
    refine bodyPost_ret (results_row_tmp rfl _ _ w.heap.size 25 #[.int .u32 0, .int .u32 0, .int .i64 0, .int .i64 0, .slice none 0 0] (0, 0) _ rfl hB8.is Tryd.underlying25 rfl (by kernel_rfl)) rfl ?_
    exact dec_no HN.out (HB.out.2.grown hg8 HB.out.2.size (fun k e => by cases e; exact Nat.le_refl _))
  have ht : decide ((49 : Int) < (x14 : Int)) = false := decide_eq_false (by omega)
  obtain ⟨en, hen⟩ : ∃ en : Nat, 15 + x14 = en := ⟨_, rfl⟩
  have e15 : (15 : Int) + (x14 : Int) = (en : Int) := by omega
  have en1 : en - 15 = x14 := by omega
  have en2 : (15 : Int) ≤ (en : Int) := by omega
  have en3 : (en : Int) ≤ (c : Int) := by omega
  have en4 : (0 : Int) ≤ (en : Int) := by omega
  have en5 : 15 ≤ en := by omega
  have en6 : en ≤ 64 := by omega
  have hcd : c - 15 + 15 = c := by omega
  have hc15 : ¬ c = 15 := by omega
  have hI := ((HR.out.cut (k := 15) (by omega)).take (k := x14) (c' := c - 15) (by omega) (by omega))
  rw [if_neg hc15, Option.map_some, add_plain] at hI
  have HI := Lib.hid hI
  have hw12 : IntKind.i64.wrap (x12 : Int) = (x12 : Int) := IntWalk.i64_in _ (by omega)
  have hw13 : IntKind.i64.wrap (x13 : Int) = (x13 : Int) := IntWalk.i64_in _ (by omega)
  have hw14 : IntKind.i64.wrap (x14 : Int) = (x14 : Int) := IntWalk.i64_in _ (by omega)
  have hw15 : IntKind.i64.wrap (15 + (x14 : Int)) = (en : Int) := by rw [e15]; exact IntWalk.i64_in _ (by omega)
  have hwen : IntKind.i64.wrap (en : Int) = (en : Int) := IntWalk.i64_in _ (by omega)
  clear hen hI h49
  go_enter Tryd.func19, Tryd.ntmps19
  go_wp2_with fail
  refine wp_region_late [17] (fun w' => w'.cell? ⟨b, o + 12, none⟩ = some (.int .u8 (x12 : Int)) ∧ w'.cell? ⟨b, o + 13, none⟩ = some (.int .u8 (x13 : Int)) ∧ w'.cell? ⟨b, o + 14, none⟩ = some (.int .u8 (x14 : Int))) (by kernel_rfl) ?_
  have k12 : ((w.alloc (.cells #[.int .u32 0, .int .u32 0, .int .i64 0, .int .i64 0, .slice none 0 0] 25)).drew).cell? ⟨b, o + 12, none⟩ = some (.int .u8 (x12 : Int)) := k12
  have k13 : ((w.alloc (.cells #[.int .u32 0, .int .u32 0, .int .i64 0, .int .i64 0, .slice none 0 0] 25)).drew).cell? ⟨b, o + 13, none⟩ = some (.int .u8 (x13 : Int)) := k13
  have k14 : ((w.alloc (.cells #[.int .u32 0, .int .u32 0, .int .i64 0, .int .i64 0, .slice none 0 0] 25)).drew).cell? ⟨b, o + 14, none⟩ = some (.int .u8 (x14 : Int)) := k14
  have hB := HB.out.1.drew
  have hb := HB.out.2.drew
  generalize World.drew _ = w2 at *
  refine wpAnyL_take (i := 0) (v := ?_) rfl (by kernel_rfl) (by kernel_rfl) (by kernel_rfl) (by kernel_rfl) (by kernel_rfl) (fun _ _ _ h => h) (Or.inl ⟨by kernel_rfl, ?_⟩) ⟨k12, k13, k14⟩ ?_
  rotate_left
  · rintro w0 ⟨h1_, h2_, h3_⟩; go_simp; (try with_reducible rfl)
  try simp only [Act.put, List.getElem_toArray, List.getElem_cons_succ, List.getElem_cons_zero, List.setIfInBounds_toArray, List.set_cons_zero, List.set_cons_succ]
  refine wpAnyL_take (i := 1) (v := ?_) rfl (by kernel_rfl) (by kernel_rfl) (by kernel_rfl) (by kernel_rfl) (by kernel_rfl) (fun _ _ _ h => h) (Or.inl ⟨by kernel_rfl, ?_⟩) ⟨k12, k13, k14⟩ ?_
  rotate_left
  · rintro w0 ⟨h1_, h2_, h3_⟩; go_simp; (try with_reducible rfl)
  try simp only [Act.put, List.getElem_toArray, List.getElem_cons_succ, List.getElem_cons_zero, List.setIfInBounds_toArray, List.set_cons_zero, List.set_cons_succ]
  refine wpAnyL_take (i := 2) (v := ?_) rfl (by kernel_rfl) (by kernel_rfl) (by kernel_rfl) (by kernel_rfl) (by kernel_rfl) (fun _ _ _ h => h) (Or.inl ⟨by kernel_rfl, ?_⟩) ⟨k12, k13, k14⟩ ?_
  rotate_left
  · rintro w0 ⟨h1_, h2_, h3_⟩; go_simp; (try with_reducible rfl)
  try simp only [Act.put, List.getElem_toArray, List.getElem_cons_succ, List.getElem_cons_zero, List.setIfInBounds_toArray, List.set_cons_zero, List.set_cons_succ]
  refine wpAnyL_take (i := 3) (v := ?_) rfl (by kernel_rfl) (by kernel_rfl) (by kernel_rfl) (by kernel_rfl) (by kernel_rfl) (fun _ _ _ h => h) (Or.inl ⟨by kernel_rfl, ?_⟩) ⟨k12, k13, k14⟩ ?_
  rotate_left
  · rintro w0 ⟨h1_, h2_, h3_⟩; go_simp; (try with_reducible rfl)
  try simp only [Act.put, List.getElem_toArray, List.getElem_cons_succ, List.getElem_cons_zero, List.setIfInBounds_toArray, List.set_cons_zero, List.set_cons_succ]
  refine wpAnyL_take (i := 4) (v := ?_) rfl (by kernel_rfl) (by kernel_rfl) (by kernel_rfl) (by kernel_rfl) (by kernel_rfl) (fun _ _ _ h => h) (Or.inl ⟨by kernel_rfl, ?_⟩) ⟨k12, k13, k14⟩ ?_
  rotate_left
  · rintro w0 ⟨h1_, h2_, h3_⟩; go_simp; (try with_reducible rfl)
  try simp only [Act.put, List.getElem_toArray, List.getElem_cons_succ, List.getElem_cons_zero, List.setIfInBounds_toArray, List.set_cons_zero, List.set_cons_succ]
  refine wpAnyL_take (i := 5) (v := ?_) rfl (by kernel_rfl) (by kernel_rfl) (by kernel_rfl) (by kernel_rfl) (by kernel_rfl) (fun _ _ _ h => h) (Or.inl ⟨by kernel_rfl, ?_⟩) ⟨k12, k13, k14⟩ ?_
  rotate_left
  · rintro w0 ⟨h1_, h2_, h3_⟩; go_simp; (try with_reducible rfl)
  try simp only [Act.put, List.getElem_toArray, List.getElem_cons_succ, List.getElem_cons_zero, List.setIfInBounds_toArray, List.set_cons_zero, List.set_cons_succ]
  refine wpAnyL_take (i := 6) (v := ?_) rfl (by kernel_rfl) (by kernel_rfl) (by kernel_rfl) (by kernel_rfl) (by kernel_rfl) (fun _ _ _ h => h) (Or.inl ⟨by kernel_rfl, ?_⟩) ⟨k12, k13, k14⟩ ?_
  rotate_left
  · rintro w0 ⟨h1_, h2_, h3_⟩; go_simp; (try with_reducible rfl)
  try simp only [Act.put, List.getElem_toArray, List.getElem_cons_succ, List.getElem_cons_zero, List.setIfInBounds_toArray, List.set_cons_zero, List.set_cons_succ]
  refine wpAnyL_take (i := 7) (v := ?_) rfl (by kernel_rfl) (by kernel_rfl) (by kernel_rfl) (by kernel_rfl) (by kernel_rfl) (fun _ _ _ h => h) (Or.inl ⟨by kernel_rfl, ?_⟩) ⟨k12, k13, k14⟩ ?_
  rotate_left
  · rintro w0 ⟨h1_, h2_, h3_⟩; go_simp; (try with_reducible rfl)
  try simp only [Act.put, List.getElem_toArray, List.getElem_cons_succ, List.getElem_cons_zero, List.setIfInBounds_toArray, List.set_cons_zero, List.set_cons_succ]
  refine wpAnyL_take (i := 8) (v := ?_) rfl (by kernel_rfl) (by kernel_rfl) (by kernel_rfl) (by kernel_rfl) (by kernel_rfl) (fun _ _ _ h => h) (Or.inl ⟨by kernel_rfl, ?_⟩) ⟨k12, k13, k14⟩ ?_
  rotate_left
  · rintro w0 ⟨h1_, h2_, h3_⟩; go_simp; (try with_reducible rfl)
  try simp only [Act.put, List.getElem_toArray, List.getElem_cons_succ, List.getElem_cons_zero, List.setIfInBounds_toArray, List.set_cons_zero, List.set_cons_succ]
  refine wpAnyL_take (i := 9) (v := ?_) rfl (by kernel_rfl) (by kernel_rfl) (by kernel_rfl) (by kernel_rfl) (by kernel_rfl) (fun _ _ _ h => h) (Or.inl ⟨by kernel_rfl, ?_⟩) ⟨k12, k13, k14⟩ ?_
  rotate_left
  · rintro w0 ⟨h1_, h2_, h3_⟩; go_simp; (try with_reducible rfl)
  try simp only [Act.put, List.getElem_toArray, List.getElem_cons_succ, List.getElem_cons_zero, List.setIfInBounds_toArray, List.set_cons_zero, List.set_cons_succ]
  refine wpAnyL_take (i := 10) (v := ?_) rfl (by kernel_rfl) (by kernel_rfl) (by kernel_rfl) (by kernel_rfl) (by kernel_rfl) (fun _ _ _ h => h) (Or.inl ⟨by kernel_rfl, ?_⟩) ⟨k12, k13, k14⟩ ?_
  rotate_left
  · rintro w0 ⟨h1_, h2_, h3_⟩; go_simp; (try with_reducible rfl)
  try simp only [Act.put, List.getElem_toArray, List.getElem_cons_succ, List.getElem_cons_zero, List.setIfInBounds_toArray, List.set_cons_zero, List.set_cons_succ]
  refine wpAnyL_take (i := 11) (v := ?_) rfl (by kernel_rfl) (by kernel_rfl) (by kernel_rfl) (by kernel_rfl) (by kernel_rfl) (fun _ _ _ h => h) (Or.inl ⟨by kernel_rfl, ?_⟩) ⟨k12, k13, k14⟩ ?_
  rotate_left
  · rintro w0 ⟨h1_, h2_, h3_⟩; go_simp; (try with_reducible rfl)
  try simp only [Act.put, List.getElem_toArray, List.getElem_cons_succ, List.getElem_cons_zero, List.setIfInBounds_toArray, List.set_cons_zero, List.set_cons_succ]
  refine wpAnyL_take (i := 12) (v := ?_) rfl (by kernel_rfl) (by kernel_rfl) (by kernel_rfl) (by kernel_rfl) (by kernel_rfl) (fun _ _ _ h => h) (Or.inl ⟨by kernel_rfl, ?_⟩) ⟨k12, k13, k14⟩ ?_
  rotate_left
  · rintro w0 ⟨h1_, h2_, h3_⟩; go_simp; (try with_reducible rfl)
  try simp only [Act.put, List.getElem_toArray, List.getElem_cons_succ, List.getElem_cons_zero, List.setIfInBounds_toArray, List.set_cons_zero, List.set_cons_succ]
  refine wpAnyL_take (i := 13) (v := ?_) rfl (by kernel_rfl) (by kernel_rfl) (by kernel_rfl) (by kernel_rfl) (by kernel_rfl) (fun _ _ _ h => h) (Or.inl ⟨by kernel_rfl, ?_⟩) ⟨k12, k13, k14⟩ ?_
  rotate_left
  · rintro w0 ⟨h1_, h2_, h3_⟩; go_simp; (try with_reducible rfl)
  try simp only [Act.put, List.getElem_toArray, List.getElem_cons_succ, List.getElem_cons_zero, List.setIfInBounds_toArray, List.set_cons_zero, List.set_cons_succ]
  refine wpAnyL_take (i := 14) (v := ?_) rfl (by kernel_rfl) (by kernel_rfl) (by kernel_rfl) (by kernel_rfl) (by kernel_rfl) (fun _ _ _ h => h) (Or.inl ⟨by kernel_rfl, ?_⟩) ⟨k12, k13, k14⟩ ?_
  rotate_left
  · rintro w0 ⟨h1_, h2_, h3_⟩; go_simp; (try with_reducible rfl)
  try simp only [Act.put, List.getElem_toArray, List.getElem_cons_succ, List.getElem_cons_zero, List.setIfInBounds_toArray, List.set_cons_zero, List.set_cons_succ]
  refine wpAnyL_take (i := 15) (v := ?_) rfl (by kernel_rfl) (by kernel_rfl) (by kernel_rfl) (by kernel_rfl) (by kernel_rfl) (fun _ _ _ h => h) (Or.inl ⟨by kernel_rfl, ?_⟩) ⟨k12, k13, k14⟩ ?_
  rotate_left
  · rintro w0 ⟨h1_, h2_, h3_⟩; go_simp; (try with_reducible rfl)
  try simp only [Act.put, List.getElem_toArray, List.getElem_cons_succ, List.getElem_cons_zero, List.setIfInBounds_toArray, List.set_cons_zero, List.set_cons_succ]
  refine wpAnyL_one (i := 16) (by kernel_rfl) rfl (fun K hK => ?_)
  go_simp
  have k12 := (World.cell?_alloc_lt w2 (.cells #[.int .u32 0, .int .u32 0, .int .i64 0, .int .i64 0, .slice none 0 0] 25) ⟨b, o + 12, none⟩ (show b < w2.heap.size by have := hB.lt; omega)).trans k12
  have k13 := (World.cell?_alloc_lt w2 (.cells #[.int .u32 0, .int .u32 0, .int .i64 0, .int .i64 0, .slice none 0 0] 25) ⟨b, o + 13, none⟩ (show b < w2.heap.size by have := hB.lt; omega)).trans k13
  have k14 := (World.cell?_alloc_lt w2 (.cells #[.int .u32 0, .int .u32 0, .int .i64 0, .int .i64 0, .slice none 0 0] 25) ⟨b, o + 14, none⟩ (show b < w2.heap.size by have := hB.lt; omega)).trans k14
  refine hK.out _ _ (fun _ => ⟨k12, k13, k14⟩) ?_
  clear hK K
  try simp only [Act.put, List.getElem_toArray, List.getElem_cons_succ, List.getElem_cons_zero, List.setIfInBounds_toArray, List.set_cons_zero, List.set_cons_succ]
  refine wpAnyL_one (i := 17) (by kernel_rfl) rfl (fun K hK => ?_)
  go_simp
  refine hK.out _ _ (fun h => absurd (by simp) h) ?_
  clear hK K
  try simp only [Act.put, List.getElem_toArray, List.getElem_cons_succ, List.getElem_cons_zero, List.setIfInBounds_toArray, List.set_cons_zero, List.set_cons_succ]
  refine wpAnyL_done (by kernel_rfl) ?_ _
  have hN := Blk.new w2 25 #[.int .u32 0, .int .u32 0, .int .i64 (x12 : Int), .int .i64 (x13 : Int), .slice (some ⟨b, o + 15, none⟩) x14 (c - 15)]
  have hB0 := hB
  have hB := hB.alloc (.cells #[.int .u32 0, .int .u32 0, .int .i64 (x12 : Int), .int .i64 (x13 : Int), .slice (some ⟨b, o + 15, none⟩) x14 (c - 15)] 25)
  have hb := hb.alloc hb.size (.cells #[.int .u32 0, .int .u32 0, .int .i64 (x12 : Int), .int .i64 (x13 : Int), .slice (some ⟨b, o + 15, none⟩) x14 (c - 15)] 25)
  have hg0 : b < w2.heap.size := by have := hB0.lt; omega
  have hlt0 : w.heap.size < w2.heap.size := by have := hB0.lt; omega
  generalize w2.alloc _ = w3 at *
  generalize w2.heap.size = G at *
  clear k12 k13 k14 hw12 hw13 hw14 hw15 hwen hc15 en1 en2 en3 en4 en5 en6 e15
  go_wp2_with fail
  go_loopw [5] (fun i wr => ∃ k : Nat, k ≤ 4 ∧ i = .int .i64 (3 - (k : Int)) ∧ Blk wr G 25 #[.int .u32 (Crc.num ((l.drop (8 - k)).take k) : Nat), .int .u32 (Crc.num ((l.drop (12 - k)).take k) : Nat), .int .i64 (x12 : Int), .int .i64 (x13 : Int), .slice (some ⟨b, o + 15, none⟩) x14 (c - 15)] ∧ Blk wr w.heap.size 25 #[.int .u32 0, .int .u32 0, .int .i64 0, .int .i64 0, .slice none 0 0] ∧ Below w.heap.size w wr) (fun i _ => (intOf i + 1).toNat)
  case atStart => exact ⟨0, by omega, rfl, hN, hB, hb⟩
  case round =>
    obtain ⟨k, hk, rfl, hN, hB, hb⟩ := hrel
    have hlr := HX.out.2.2.2.2
    obtain rfl | rfl | rfl | rfl | rfl : k = 0 ∨ k = 1 ∨ k = 2 ∨ k = 3 ∨ k = 4 := by omega
    · rw [show (3 - ((0 : Nat) : Int)) = 3 from by decide]
      obtain ⟨y, hy, hyl, ky⟩ := (HR.out.below hb).get' (k := 7) (by omega)
      obtain ⟨z, hz, hzl, kz⟩ := (HR.out.below hb).get' (k := 11) (by omega)
      have hu1 := num_up (k := 0) hy
      have hu2 := num_up (k := 0) hz
      have hg1 := num_take_lt' hlr 8 0 (by omega)
      have hg2 := num_take_lt' hlr 12 0 (by omega)
      simp only [Nat.reduceSub, Nat.reduceAdd, Nat.reduceMul, Nat.reducePow] at hN hu1 hu2 hg1 hg2
      obtain ⟨u, hu⟩ : ∃ u, Crc.num ((l.drop 8).take 0) = u := ⟨_, rfl⟩
      obtain ⟨v, hv⟩ : ∃ v, Crc.num ((l.drop 12).take 0) = v := ⟨_, rfl⟩
      rw [hu] at hN hu1 hg1
      rw [hv] at hN hu2 hg2
      obtain ⟨u', hu'⟩ : ∃ u', y + 256 * u = u' := ⟨_, rfl⟩
      obtain ⟨v', hv'⟩ : ∃ v', z + 256 * v = v' := ⟨_, rfl⟩
      have m1 : IntKind.u32.wrap ((u : Int) * 256) = (u : Int) * 256 := wrap32_in _ (by omega) (by omega)
      have m2 : IntKind.u32.wrap ((u : Int) * 256 + (y : Int)) = (u' : Int) := by rw [wrap32_in _ (by omega) (by omega)]; omega
      have m3 : IntKind.u32.wrap ((v : Int) * 256) = (v : Int) * 256 := wrap32_in _ (by omega) (by omega)
      have m4 : IntKind.u32.wrap ((v : Int) * 256 + (z : Int)) = (v' : Int) := by rw [wrap32_in _ (by omega) (by omega)]; omega
      have hy32 : IntKind.u32.wrap (y : Int) = (y : Int) := wrap32_in _ (by omega) (by omega)
      have hz32 : IntKind.u32.wrap (z : Int) = (z : Int) := wrap32_in _ (by omega) (by omega)
      have lw1 : IntKind.i64.wrap 7 = 7 := by decide
      have lw2 : IntKind.i64.wrap 11 = 11 := by decide
      rw [hu'] at hu1
      rw [hv'] at hu2
      have HU := Lib.hid (And.intro hu1 hu2)
      have hGb : b ≠ G := by omega
      clear hu1 hu2 hu hv hu' hv' hg1 hg2 hy hz
      go_wp2_with fail
      refine wp_region_late [11] (fun w' => w'.cell? ⟨G, 0, none⟩ = some (.int .u32 (u : Int)) ∧ w'.cell? ⟨b, o + 7, none⟩ = some (.int .u8 (y : Int))) (by kernel_rfl) ?_
      have ky : wr.drew.cell? ⟨b, o + 7, none⟩ = some (.int .u8 (y : Int)) := ky
      have kz : wr.drew.cell? ⟨b, o + 11, none⟩ = some (.int .u8 (z : Int)) := kz
      have hN := hN.drew
      have hB := hB.drew
      have hb := hb.drew
      generalize World.drew _ = w4 at *
      have c0 : w4.cell? ⟨G, 0, none⟩ = some (.int .u32 (u : Int)) := hN.cell 0
      have f0 := hN.frozen 0
      refine wpAnyL_take (i := 0) (v := ?_) rfl (by kernel_rfl) (by kernel_rfl) (by kernel_rfl) (by kernel_rfl) (by kernel_rfl) (fun _ _ _ h => h) (Or.inl ⟨by kernel_rfl, ?_⟩) ⟨c0, ky⟩ ?_
      rotate_left
      · rintro w0 ⟨h1_, h2_⟩; go_simp; (try with_reducible rfl)
      try simp only [Act.put, List.getElem_toArray, List.getElem_cons_succ, List.getElem_cons_zero, List.setIfInBounds_toArray, List.set_cons_zero, List.set_cons_succ]
      refine wpAnyL_take (i := 1) (v := ?_) rfl (by kernel_rfl) (by kernel_rfl) (by kernel_rfl) (by kernel_rfl) (by kernel_rfl) (fun _ _ _ h => h) (Or.inl ⟨by kernel_rfl, ?_⟩) ⟨c0, ky⟩ ?_
      rotate_left
      · rintro w0 ⟨h1_, h2_⟩; go_simp; (try with_reducible rfl)
      try simp only [Act.put, List.getElem_toArray, List.getElem_cons_succ, List.getElem_cons_zero, List.setIfInBounds_toArray, List.set_cons_zero, List.set_cons_succ]
      refine wpAnyL_take (i := 2) (v := ?_) rfl (by kernel_rfl) (by kernel_rfl) (by kernel_rfl) (by kernel_rfl) (by kernel_rfl) (fun _ _ _ h => h) (Or.inl ⟨by kernel_rfl, ?_⟩) ⟨c0, ky⟩ ?_
      rotate_left
      · rintro w0 ⟨h1_, h2_⟩; go_simp; (try with_reducible rfl)
      try simp only [Act.put, List.getElem_toArray, List.getElem_cons_succ, List.getElem_cons_zero, List.setIfInBounds_toArray, List.set_cons_zero, List.set_cons_succ]
      refine wpAnyL_take (i := 3) (v := ?_) rfl (by kernel_rfl) (by kernel_rfl) (by kernel_rfl) (by kernel_rfl) (by kernel_rfl) (fun _ _ _ h => h) (Or.inl ⟨by kernel_rfl, ?_⟩) ⟨c0, ky⟩ ?_
      rotate_left
      · rintro w0 ⟨h1_, h2_⟩; go_simp; (try with_reducible rfl)
      try simp only [Act.put, List.getElem_toArray, List.getElem_cons_succ, List.getElem_cons_zero, List.setIfInBounds_toArray, List.set_cons_zero, List.set_cons_succ]
      refine wpAnyL_take (i := 4) (v := ?_) rfl (by kernel_rfl) (by kernel_rfl) (by kernel_rfl) (by kernel_rfl) (by kernel_rfl) (fun _ _ _ h => h) (Or.inl ⟨by kernel_rfl, ?_⟩) ⟨c0, ky⟩ ?_
      rotate_left
      · rintro w0 ⟨h1_, h2_⟩; go_simp; (try with_reducible rfl)
      try simp only [Act.put, List.getElem_toArray, List.getElem_cons_succ, List.getElem_cons_zero, List.setIfInBounds_toArray, List.set_cons_zero, List.set_cons_succ]
      refine wpAnyL_take (i := 5) (v := ?_) rfl (by kernel_rfl) (by kernel_rfl) (by kernel_rfl) (by kernel_rfl) (by kernel_rfl) (fun _ _ _ h => h) (Or.inl ⟨by kernel_rfl, ?_⟩) ⟨c0, ky⟩ ?_
      rotate_left
      · rintro w0 ⟨h1_, h2_⟩; go_simp; (try with_reducible rfl)
      try simp only [Act.put, List.getElem_toArray, List.getElem_cons_succ, List.getElem_cons_zero, List.setIfInBounds_toArray, List.set_cons_zero, List.set_cons_succ]
      refine wpAnyL_take (i := 6) (v := ?_) rfl (by kernel_rfl) (by kernel_rfl) (by kernel_rfl) (by kernel_rfl) (by kernel_rfl) (fun _ _ _ h => h) (Or.inl ⟨by kernel_rfl, ?_⟩) ⟨c0, ky⟩ ?_
      rotate_left
      · rintro w0 ⟨h1_, h2_⟩; go_simp; (try with_reducible rfl)
      try simp only [Act.put, List.getElem_toArray, List.getElem_cons_succ, List.getElem_cons_zero, List.setIfInBounds_toArray, List.set_cons_zero, List.set_cons_succ]
      refine wpAnyL_take (i := 7) (v := ?_) rfl (by kernel_rfl) (by kernel_rfl) (by kernel_rfl) (by kernel_rfl) (by kernel_rfl) (fun _ _ _ h => h) (Or.inl ⟨by kernel_rfl, ?_⟩) ⟨c0, ky⟩ ?_
      rotate_left
      · rintro w0 ⟨h1_, h2_⟩; go_simp; (try with_reducible rfl)
      try simp only [Act.put, List.getElem_toArray, List.getElem_cons_succ, List.getElem_cons_zero, List.setIfInBounds_toArray, List.set_cons_zero, List.set_cons_succ]
      refine wpAnyL_take (i := 8) (v := ?_) rfl (by kernel_rfl) (by kernel_rfl) (by kernel_rfl) (by kernel_rfl) (by kernel_rfl) (fun _ _ _ h => h) (Or.inl ⟨by kernel_rfl, ?_⟩) ⟨c0, ky⟩ ?_
      rotate_left
      · rintro w0 ⟨h1_, h2_⟩; go_simp; (try with_reducible rfl)
      try simp only [Act.put, List.getElem_toArray, List.getElem_cons_succ, List.getElem_cons_zero, List.setIfInBounds_toArray, List.set_cons_zero, List.set_cons_succ]
      refine wpAnyL_take (i := 9) (v := ?_) rfl (by kernel_rfl) (by kernel_rfl) (by kernel_rfl) (by kernel_rfl) (by kernel_rfl) (fun _ _ _ h => h) (Or.inl ⟨by kernel_rfl, ?_⟩) ⟨c0, ky⟩ ?_
      rotate_left
      · rintro w0 ⟨h1_, h2_⟩; go_simp; (try with_reducible rfl)
      try simp only [Act.put, List.getElem_toArray, List.getElem_cons_succ, List.getElem_cons_zero, List.setIfInBounds_toArray, List.set_cons_zero, List.set_cons_succ]
      refine wpAnyL_take (i := 10) (v := ?_) rfl (by kernel_rfl) (by kernel_rfl) (by kernel_rfl) (by kernel_rfl) (by kernel_rfl) (fun _ _ _ h => h) (Or.inl ⟨by kernel_rfl, ?_⟩) ⟨c0, ky⟩ ?_
      rotate_left
      · rintro w0 ⟨h1_, h2_⟩; go_simp; (try with_reducible rfl)
      try simp only [Act.put, List.getElem_toArray, List.getElem_cons_succ, List.getElem_cons_zero, List.setIfInBounds_toArray, List.set_cons_zero, List.set_cons_succ]
      refine wpAnyL_one (i := 11) (by kernel_rfl) rfl (fun K hK => ?_)
      go_simp
      refine hK.out _ _ (fun h => absurd (by simp) h) ?_
      clear hK K
      try simp only [Act.put, List.getElem_toArray, List.getElem_cons_succ, List.getElem_cons_zero, List.setIfInBounds_toArray, List.set_cons_zero, List.set_cons_succ]
      refine wpAnyL_done (by kernel_rfl) ?_ _
      have kz := (World.cell?_setCell_other w4 ⟨G, 0, none⟩ ⟨b, o + 11, none⟩ (.int .u32 (u' : Int)) (by intro e; exact hGb (congrArg Addr.block e).symm)).trans kz
      have hN := hN.set_ 0 (.int .u32 (u' : Int))
      have hB := hB.far (p := ⟨G, 0, none⟩) (show w.heap.size ≠ G by omega) (.int .u32 (u' : Int))
      have hb := hb.setCell (p := ⟨G, 0, none⟩) (show w.heap.size ≤ G by omega) (.int .u32 (u' : Int))
      clear c0 ky f0
      generalize w4.setCell _ _ = w5 at *
      go_wp2_with fail
      refine wp_region_late [11] (fun w' => w'.cell? ⟨G, 1, none⟩ = some (.int .u32 (v : Int)) ∧ w'.cell? ⟨b, o + 11, none⟩ = some (.int .u8 (z : Int))) (by kernel_rfl) ?_
      have kz : w5.drew.cell? ⟨b, o + 11, none⟩ = some (.int .u8 (z : Int)) := kz
      have hN := hN.drew
      have hB := hB.drew
      have hb := hb.drew
      generalize World.drew _ = w6 at *
      have c1_ : w6.cell? ⟨G, 1, none⟩ = some (.int .u32 (v : Int)) := hN.cell 1
      have f1 := hN.frozen 1
      refine wpAnyL_take (i := 0) (v := ?_) rfl (by kernel_rfl) (by kernel_rfl) (by kernel_rfl) (by kernel_rfl) (by kernel_rfl) (fun _ _ _ h => h) (Or.inl ⟨by kernel_rfl, ?_⟩) ⟨c1_, kz⟩ ?_
      rotate_left
      · rintro w0 ⟨h1_, h2_⟩; go_simp; (try with_reducible rfl)
      try simp only [Act.put, List.getElem_toArray, List.getElem_cons_succ, List.getElem_cons_zero, List.setIfInBounds_toArray, List.set_cons_zero, List.set_cons_succ]
      refine wpAnyL_take (i := 1) (v := ?_) rfl (by kernel_rfl) (by kernel_rfl) (by kernel_rfl) (by kernel_rfl) (by kernel_rfl) (fun _ _ _ h => h) (Or.inl ⟨by kernel_rfl, ?_⟩) ⟨c1_, kz⟩ ?_
      rotate_left
      · rintro w0 ⟨h1_, h2_⟩; go_simp; (try with_reducible rfl)
      try simp only [Act.put, List.getElem_toArray, List.getElem_cons_succ, List.getElem_cons_zero, List.setIfInBounds_toArray, List.set_cons_zero, List.set_cons_succ]
      refine wpAnyL_take (i := 2) (v := ?_) rfl (by kernel_rfl) (by kernel_rfl) (by kernel_rfl) (by kernel_rfl) (by kernel_rfl) (fun _ _ _ h => h) (Or.inl ⟨by kernel_rfl, ?_⟩) ⟨c1_, kz⟩ ?_
      rotate_left
      · rintro w0 ⟨h1_, h2_⟩; go_simp; (try with_reducible rfl)
      try simp only [Act.put, List.getElem_toArray, List.getElem_cons_succ, List.getElem_cons_zero, List.setIfInBounds_toArray, List.set_cons_zero, List.set_cons_succ]
      refine wpAnyL_take (i := 3) (v := ?_) rfl (by kernel_rfl) (by kernel_rfl) (by kernel_rfl) (by kernel_rfl) (by kernel_rfl) (fun _ _ _ h => h) (Or.inl ⟨by kernel_rfl, ?_⟩) ⟨c1_, kz⟩ ?_
      rotate_left
      · rintro w0 ⟨h1_, h2_⟩; go_simp; (try with_reducible rfl)
      try simp only [Act.put, List.getElem_toArray, List.getElem_cons_succ, List.getElem_cons_zero, List.setIfInBounds_toArray, List.set_cons_zero, List.set_cons_succ]
      refine wpAnyL_take (i := 4) (v := ?_) rfl (by kernel_rfl) (by kernel_rfl) (by kernel_rfl) (by kernel_rfl) (by kernel_rfl) (fun _ _ _ h => h) (Or.inl ⟨by kernel_rfl, ?_⟩) ⟨c1_, kz⟩ ?_
      rotate_left
      · rintro w0 ⟨h1_, h2_⟩; go_simp; (try with_reducible rfl)
      try simp only [Act.put, List.getElem_toArray, List.getElem_cons_succ, List.getElem_cons_zero, List.setIfInBounds_toArray, List.set_cons_zero, List.set_cons_succ]
      refine wpAnyL_take (i := 5) (v := ?_) rfl (by kernel_rfl) (by kernel_rfl) (by kernel_rfl) (by kernel_rfl) (by kernel_rfl) (fun _ _ _ h => h) (Or.inl ⟨by kernel_rfl, ?_⟩) ⟨c1_, kz⟩ ?_
      rotate_left
      · rintro w0 ⟨h1_, h2_⟩; go_simp; (try with_reducible rfl)
      try simp only [Act.put, List.getElem_toArray, List.getElem_cons_succ, List.getElem_cons_zero, List.setIfInBounds_toArray, List.set_cons_zero, List.set_cons_succ]
      refine wpAnyL_take (i := 6) (v := ?_) rfl (by kernel_rfl) (by kernel_rfl) (by kernel_rfl) (by kernel_rfl) (by kernel_rfl) (fun _ _ _ h => h) (Or.inl ⟨by kernel_rfl, ?_⟩) ⟨c1_, kz⟩ ?_
      rotate_left
      · rintro w0 ⟨h1_, h2_⟩; go_simp; (try with_reducible rfl)
      try simp only [Act.put, List.getElem_toArray, List.getElem_cons_succ, List.getElem_cons_zero, List.setIfInBounds_toArray, List.set_cons_zero, List.set_cons_succ]
      refine wpAnyL_take (i := 7) (v := ?_) rfl (by kernel_rfl) (by kernel_rfl) (by kernel_rfl) (by kernel_rfl) (by kernel_rfl) (fun _ _ _ h => h) (Or.inl ⟨by kernel_rfl, ?_⟩) ⟨c1_, kz⟩ ?_
      rotate_left
      · rintro w0 ⟨h1_, h2_⟩; go_simp; (try with_reducible rfl)
      try simp only [Act.put, List.getElem_toArray, List.getElem_cons_succ, List.getElem_cons_zero, List.setIfInBounds_toArray, List.set_cons_zero, List.set_cons_succ]
      refine wpAnyL_take (i := 8) (v := ?_) rfl (by kernel_rfl) (by kernel_rfl) (by kernel_rfl) (by kernel_rfl) (by kernel_rfl) (fun _ _ _ h => h) (Or.inl ⟨by kernel_rfl, ?_⟩) ⟨c1_, kz⟩ ?_
      rotate_left
      · rintro w0 ⟨h1_, h2_⟩; go_simp; (try with_reducible rfl)
      try simp only [Act.put, List.getElem_toArray, List.getElem_cons_succ, List.getElem_cons_zero, List.setIfInBounds_toArray, List.set_cons_zero, List.set_cons_succ]
      refine wpAnyL_take (i := 9) (v := ?_) rfl (by kernel_rfl) (by kernel_rfl) (by kernel_rfl) (by kernel_rfl) (by kernel_rfl) (fun _ _ _ h => h) (Or.inl ⟨by kernel_rfl, ?_⟩) ⟨c1_, kz⟩ ?_
      rotate_left
      · rintro w0 ⟨h1_, h2_⟩; go_simp; (try with_reducible rfl)
      try simp only [Act.put, List.getElem_toArray, List.getElem_cons_succ, List.getElem_cons_zero, List.setIfInBounds_toArray, List.set_cons_zero, List.set_cons_succ]
      refine wpAnyL_take (i := 10) (v := ?_) rfl (by kernel_rfl) (by kernel_rfl) (by kernel_rfl) (by kernel_rfl) (by kernel_rfl) (fun _ _ _ h => h) (Or.inl ⟨by kernel_rfl, ?_⟩) ⟨c1_, kz⟩ ?_
      rotate_left
      · rintro w0 ⟨h1_, h2_⟩; go_simp; (try with_reducible rfl)
      try simp only [Act.put, List.getElem_toArray, List.getElem_cons_succ, List.getElem_cons_zero, List.setIfInBounds_toArray, List.set_cons_zero, List.set_cons_succ]
      refine wpAnyL_one (i := 11) (by kernel_rfl) rfl (fun K hK => ?_)
      go_simp
      refine hK.out _ _ (fun h => absurd (by simp) h) ?_
      clear hK K
      try simp only [Act.put, List.getElem_toArray, List.getElem_cons_succ, List.getElem_cons_zero, List.setIfInBounds_toArray, List.set_cons_zero, List.set_cons_succ]
      refine wpAnyL_done (by kernel_rfl) ?_ _
      have hN := hN.set_ 1 (.int .u32 (v' : Int))
      have hB := hB.far (p := ⟨G, 1, none⟩) (show w.heap.size ≠ G by omega) (.int .u32 (v' : Int))
      have hb := hb.setCell (p := ⟨G, 1, none⟩) (show w.heap.size ≤ G by omega) (.int .u32 (v' : Int))
      clear c1_ kz f1
      generalize w6.setCell _ _ = w7 at *
      go_wp2_with fail
      exact ⟨⟨1, by omega, congrArg (Value.int .i64) (by decide), by rw [show (8 - 1 : Nat) = 7 from rfl, show (12 - 1 : Nat) = 11 from rfl, HU.out.1, HU.out.2]; exact hN, hB, hb⟩, by simp [intOf]⟩
    · rw [show (3 - ((1 : Nat) : Int)) = 2 from by decide]
      obtain ⟨y, hy, hyl, ky⟩ := (HR.out.below hb).get' (k := 6) (by omega)
      obtain ⟨z, hz, hzl, kz⟩ := (HR.out.below hb).get' (k := 10) (by omega)
      have hu1 := num_up (k := 1) hy
      have hu2 := num_up (k := 1) hz
      have hg1 := num_take_lt' hlr 7 1 (by omega)
      have hg2 := num_take_lt' hlr 11 1 (by omega)
      simp only [Nat.reduceSub, Nat.reduceAdd, Nat.reduceMul, Nat.reducePow] at hN hu1 hu2 hg1 hg2
      obtain ⟨u, hu⟩ : ∃ u, Crc.num ((l.drop 7).take 1) = u := ⟨_, rfl⟩
      obtain ⟨v, hv⟩ : ∃ v, Crc.num ((l.drop 11).take 1) = v := ⟨_, rfl⟩
      rw [hu] at hN hu1 hg1
      rw [hv] at hN hu2 hg2
      obtain ⟨u', hu'⟩ : ∃ u', y + 256 * u = u' := ⟨_, rfl⟩
      obtain ⟨v', hv'⟩ : ∃ v', z + 256 * v = v' := ⟨_, rfl⟩
      have m1 : IntKind.u32.wrap ((u : Int) * 256) = (u : Int) * 256 := wrap32_in _ (by omega) (by omega)
      have m2 : IntKind.u32.wrap ((u : Int) * 256 + (y : Int)) = (u' : Int) := by rw [wrap32_in _ (by omega) (by omega)]; omega
      have m3 : IntKind.u32.wrap ((v : Int) * 256) = (v : Int) * 256 := wrap32_in _ (by omega) (by omega)
      have m4 : IntKind.u32.wrap ((v : Int) * 256 + (z : Int)) = (v' : Int) := by rw [wrap32_in _ (by omega) (by omega)]; omega
      have hy32 : IntKind.u32.wrap (y : Int) = (y : Int) := wrap32_in _ (by omega) (by omega)
      have hz32 : IntKind.u32.wrap (z : Int) = (z : Int) := wrap32_in _ (by omega) (by omega)
      have lw1 : IntKind.i64.wrap 6 = 6 := by decide
      have lw2 : IntKind.i64.wrap 10 = 10 := by decide
      rw [hu'] at hu1
      rw [hv'] at hu2
      have HU := Lib.hid (And.intro hu1 hu2)
      have hGb : b ≠ G := by omega
      clear hu1 hu2 hu hv hu' hv' hg1 hg2 hy hz
      go_wp2_with fail
      refine wp_region_late [11] (fun w' => w'.cell? ⟨G, 0, none⟩ = some (.int .u32 (u : Int)) ∧ w'.cell? ⟨b, o + 6, none⟩ = some (.int .u8 (y : Int))) (by kernel_rfl) ?_
      have ky : wr.drew.cell? ⟨b, o + 6, none⟩ = some (.int .u8 (y : Int)) := ky
      have kz : wr.drew.cell? ⟨b, o + 10, none⟩ = some (.int .u8 (z : Int)) := kz
      have hN := hN.drew
      have hB := hB.drew
      have hb := hb.drew
      generalize World.drew _ = w4 at *
      have c0 : w4.cell? ⟨G, 0, none⟩ = some (.int .u32 (u : Int)) := hN.cell 0
      have f0 := hN.frozen 0
      refine wpAnyL_take (i := 0) (v := ?_) rfl (by kernel_rfl) (by kernel_rfl) (by kernel_rfl) (by kernel_rfl) (by kernel_rfl) (fun _ _ _ h => h) (Or.inl ⟨by kernel_rfl, ?_⟩) ⟨c0, ky⟩ ?_
      rotate_left
      · rintro w0 ⟨h1_, h2_⟩; go_simp; (try with_reducible rfl)
      try simp only [Act.put, List.getElem_toArray, List.getElem_cons_succ, List.getElem_cons_zero, List.setIfInBounds_toArray, List.set_cons_zero, List.set_cons_succ]
      refine wpAnyL_take (i := 1) (v := ?_) rfl (by kernel_rfl) (by kernel_rfl) (by kernel_rfl) (by kernel_rfl) (by kernel_rfl) (fun _ _ _ h => h) (Or.inl ⟨by kernel_rfl, ?_⟩) ⟨c0, ky⟩ ?_
      rotate_left
      · rintro w0 ⟨h1_, h2_⟩; go_simp; (try with_reducible rfl)
      try simp only [Act.put, List.getElem_toArray, List.getElem_cons_succ, List.getElem_cons_zero, List.setIfInBounds_toArray, List.set_cons_zero, List.set_cons_succ]
      refine wpAnyL_take (i := 2) (v := ?_) rfl (by kernel_rfl) (by kernel_rfl) (by kernel_rfl) (by kernel_rfl) (by kernel_rfl) (fun _ _ _ h => h) (Or.inl ⟨by kernel_rfl, ?_⟩) ⟨c0, ky⟩ ?_
      rotate_left
      · rintro w0 ⟨h1_, h2_⟩; go_simp; (try with_reducible rfl)
      try simp only [Act.put, List.getElem_toArray, List.getElem_cons_succ, List.getElem_cons_zero, List.setIfInBounds_toArray, List.set_cons_zero, List.set_cons_succ]
      refine wpAnyL_take (i := 3) (v := ?_) rfl (by kernel_rfl) (by kernel_rfl) (by kernel_rfl) (by kernel_rfl) (by kernel_rfl) (fun _ _ _ h => h) (Or.inl ⟨by kernel_rfl, ?_⟩) ⟨c0, ky⟩ ?_
      rotate_left
      · rintro w0 ⟨h1_, h2_⟩; go_simp; (try with_reducible rfl)
      try simp only [Act.put, List.getElem_toArray, List.getElem_cons_succ, List.getElem_cons_zero, List.setIfInBounds_toArray, List.set_cons_zero, List.set_cons_succ]
      refine wpAnyL_take (i := 4) (v := ?_) rfl (by kernel_rfl) (by kernel_rfl) (by kernel_rfl) (by kernel_rfl) (by kernel_rfl) (fun _ _ _ h => h) (Or.inl ⟨by kernel_rfl, ?_⟩) ⟨c0, ky⟩ ?_
      rotate_left
      · rintro w0 ⟨h1_, h2_⟩; go_simp; (try with_reducible rfl)
      try simp only [Act.put, List.getElem_toArray, List.getElem_cons_succ, List.getElem_cons_zero, List.setIfInBounds_toArray, List.set_cons_zero, List.set_cons_succ]
      refine wpAnyL_take (i := 5) (v := ?_) rfl (by kernel_rfl) (by kernel_rfl) (by kernel_rfl) (by kernel_rfl) (by kernel_rfl) (fun _ _ _ h => h) (Or.inl ⟨by kernel_rfl, ?_⟩) ⟨c0, ky⟩ ?_
      rotate_left
      · rintro w0 ⟨h1_, h2_⟩; go_simp; (try with_reducible rfl)
      try simp only [Act.put, List.getElem_toArray, List.getElem_cons_succ, List.getElem_cons_zero, List.setIfInBounds_toArray, List.set_cons_zero, List.set_cons_succ]
      refine wpAnyL_take (i := 6) (v := ?_) rfl (by kernel_rfl) (by kernel_rfl) (by kernel_rfl) (by kernel_rfl) (by kernel_rfl) (fun _ _ _ h => h) (Or.inl ⟨by kernel_rfl, ?_⟩) ⟨c0, ky⟩ ?_
      rotate_left
      · rintro w0 ⟨h1_, h2_⟩; go_simp; (try with_reducible rfl)
      try simp only [Act.put, List.getElem_toArray, List.getElem_cons_succ, List.getElem_cons_zero, List.setIfInBounds_toArray, List.set_cons_zero, List.set_cons_succ]
      refine wpAnyL_take (i := 7) (v := ?_) rfl (by kernel_rfl) (by kernel_rfl) (by kernel_rfl) (by kernel_rfl) (by kernel_rfl) (fun _ _ _ h => h) (Or.inl ⟨by kernel_rfl, ?_⟩) ⟨c0, ky⟩ ?_
      rotate_left
      · rintro w0 ⟨h1_, h2_⟩; go_simp; (try with_reducible rfl)
      try simp only [Act.put, List.getElem_toArray, List.getElem_cons_succ, List.getElem_cons_zero, List.setIfInBounds_toArray, List.set_cons_zero, List.set_cons_succ]
      refine wpAnyL_take (i := 8) (v := ?_) rfl (by kernel_rfl) (by kernel_rfl) (by kernel_rfl) (by kernel_rfl) (by kernel_rfl) (fun _ _ _ h => h) (Or.inl ⟨by kernel_rfl, ?_⟩) ⟨c0, ky⟩ ?_
      rotate_left
      · rintro w0 ⟨h1_, h2_⟩; go_simp; (try with_reducible rfl)
      try simp only [Act.put, List.getElem_toArray, List.getElem_cons_succ, List.getElem_cons_zero, List.setIfInBounds_toArray, List.set_cons_zero, List.set_cons_succ]
      refine wpAnyL_take (i := 9) (v := ?_) rfl (by kernel_rfl) (by kernel_rfl) (by kernel_rfl) (by kernel_rfl) (by kernel_rfl) (fun _ _ _ h => h) (Or.inl ⟨by kernel_rfl, ?_⟩) ⟨c0, ky⟩ ?_
      rotate_left
      · rintro w0 ⟨h1_, h2_⟩; go_simp; (try with_reducible rfl)
      try simp only [Act.put, List.getElem_toArray, List.getElem_cons_succ, List.getElem_cons_zero, List.setIfInBounds_toArray, List.set_cons_zero, List.set_cons_succ]
      refine wpAnyL_take (i := 10) (v := ?_) rfl (by kernel_rfl) (by kernel_rfl) (by kernel_rfl) (by kernel_rfl) (by kernel_rfl) (fun _ _ _ h => h) (Or.inl ⟨by kernel_rfl, ?_⟩) ⟨c0, ky⟩ ?_
      rotate_left
      · rintro w0 ⟨h1_, h2_⟩; go_simp; (try with_reducible rfl)
      try simp only [Act.put, List.getElem_toArray, List.getElem_cons_succ, List.getElem_cons_zero, List.setIfInBounds_toArray, List.set_cons_zero, List.set_cons_succ]
      refine wpAnyL_one (i := 11) (by kernel_rfl) rfl (fun K hK => ?_)
      go_simp
      refine hK.out _ _ (fun h => absurd (by simp) h) ?_
      clear hK K
      try simp only [Act.put, List.getElem_toArray, List.getElem_cons_succ, List.getElem_cons_zero, List.setIfInBounds_toArray, List.set_cons_zero, List.set_cons_succ]
      refine wpAnyL_done (by kernel_rfl) ?_ _
      have kz := (World.cell?_setCell_other w4 ⟨G, 0, none⟩ ⟨b, o + 10, none⟩ (.int .u32 (u' : Int)) (by intro e; exact hGb (congrArg Addr.block e).symm)).trans kz
      have hN := hN.set_ 0 (.int .u32 (u' : Int))
      have hB := hB.far (p := ⟨G, 0, none⟩) (show w.heap.size ≠ G by omega) (.int .u32 (u' : Int))
      have hb := hb.setCell (p := ⟨G, 0, none⟩) (show w.heap.size ≤ G by omega) (.int .u32 (u' : Int))
      clear c0 ky f0
      generalize w4.setCell _ _ = w5 at *
      go_wp2_with fail
      refine wp_region_late [11] (fun w' => w'.cell? ⟨G, 1, none⟩ = some (.int .u32 (v : Int)) ∧ w'.cell? ⟨b, o + 10, none⟩ = some (.int .u8 (z : Int))) (by kernel_rfl) ?_
      have kz : w5.drew.cell? ⟨b, o + 10, none⟩ = some (.int .u8 (z : Int)) := kz
      have hN := hN.drew
      have hB := hB.drew
      have hb := hb.drew
      generalize World.drew _ = w6 at *
      have c1_ : w6.cell? ⟨G, 1, none⟩ = some (.int .u32 (v : Int)) := hN.cell 1
      have f1 := hN.frozen 1
      refine wpAnyL_take (i := 0) (v := ?_) rfl (by kernel_rfl) (by kernel_rfl) (by kernel_rfl) (by kernel_rfl) (by kernel_rfl) (fun _ _ _ h => h) (Or.inl ⟨by kernel_rfl, ?_⟩) ⟨c1_, kz⟩ ?_
      rotate_left
      · rintro w0 ⟨h1_, h2_⟩; go_simp; (try with_reducible rfl)
      try simp only [Act.put, List.getElem_toArray, List.getElem_cons_succ, List.getElem_cons_zero, List.setIfInBounds_toArray, List.set_cons_zero, List.set_cons_succ]
      refine wpAnyL_take (i := 1) (v := ?_) rfl (by kernel_rfl) (by kernel_rfl) (by kernel_rfl) (by kernel_rfl) (by kernel_rfl) (fun _ _ _ h => h) (Or.inl ⟨by kernel_rfl, ?_⟩) ⟨c1_, kz⟩ ?_
      rotate_left
      · rintro w0 ⟨h1_, h2_⟩; go_simp; (try with_reducible rfl)
      try simp only [Act.put, List.getElem_toArray, List.getElem_cons_succ, List.getElem_cons_zero, List.setIfInBounds_toArray, List.set_cons_zero, List.set_cons_succ]
      refine wpAnyL_take (i := 2) (v := ?_) rfl (by kernel_rfl) (by kernel_rfl) (by kernel_rfl) (by kernel_rfl) (by kernel_rfl) (fun _ _ _ h => h) (Or.inl ⟨by kernel_rfl, ?_⟩) ⟨c1_, kz⟩ ?_
      rotate_left
      · rintro w0 ⟨h1_, h2_⟩; go_simp; (try with_reducible rfl)
      try simp only [Act.put, List.getElem_toArray, List.getElem_cons_succ, List.getElem_cons_zero, List.setIfInBounds_toArray, List.set_cons_zero, List.set_cons_succ]
      refine wpAnyL_take (i := 3) (v := ?_) rfl (by kernel_rfl) (by kernel_rfl) (by kernel_rfl) (by kernel_rfl) (by kernel_rfl) (fun _ _ _ h => h) (Or.inl ⟨by kernel_rfl, ?_⟩) ⟨c1_, kz⟩ ?_
      rotate_left
      · rintro w0 ⟨h1_, h2_⟩; go_simp; (try with_reducible rfl)
      try simp only [Act.put, List.getElem_toArray, List.getElem_cons_succ, List.getElem_cons_zero, List.setIfInBounds_toArray, List.set_cons_zero, List.set_cons_succ]
      refine wpAnyL_take (i := 4) (v := ?_) rfl (by kernel_rfl) (by kernel_rfl) (by kernel_rfl) (by kernel_rfl) (by kernel_rfl) (fun _ _ _ h => h) (Or.inl ⟨by kernel_rfl, ?_⟩) ⟨c1_, kz⟩ ?_
      rotate_left
      · rintro w0 ⟨h1_, h2_⟩; go_simp; (try with_reducible rfl)
      try simp only [Act.put, List.getElem_toArray, List.getElem_cons_succ, List.getElem_cons_zero, List.setIfInBounds_toArray, List.set_cons_zero, List.set_cons_succ]
      refine wpAnyL_take (i := 5) (v := ?_) rfl (by kernel_rfl) (by kernel_rfl) (by kernel_rfl) (by kernel_rfl) (by kernel_rfl) (fun _ _ _ h => h) (Or.inl ⟨by kernel_rfl, ?_⟩) ⟨c1_, kz⟩ ?_
      rotate_left
      · rintro w0 ⟨h1_, h2_⟩; go_simp; (try with_reducible rfl)
      try simp only [Act.put, List.getElem_toArray, List.getElem_cons_succ, List.getElem_cons_zero, List.setIfInBounds_toArray, List.set_cons_zero, List.set_cons_succ]
      refine wpAnyL_take (i := 6) (v := ?_) rfl (by kernel_rfl) (by kernel_rfl) (by kernel_rfl) (by kernel_rfl) (by kernel_rfl) (fun _ _ _ h => h) (Or.inl ⟨by kernel_rfl, ?_⟩) ⟨c1_, kz⟩ ?_
      rotate_left
      · rintro w0 ⟨h1_, h2_⟩; go_simp; (try with_reducible rfl)
      try simp only [Act.put, List.getElem_toArray, List.getElem_cons_succ, List.getElem_cons_zero, List.setIfInBounds_toArray, List.set_cons_zero, List.set_cons_succ]
      refine wpAnyL_take (i := 7) (v := ?_) rfl (by kernel_rfl) (by kernel_rfl) (by kernel_rfl) (by kernel_rfl) (by kernel_rfl) (fun _ _ _ h => h) (Or.inl ⟨by kernel_rfl, ?_⟩) ⟨c1_, kz⟩ ?_
      rotate_left
      · rintro w0 ⟨h1_, h2_⟩; go_simp; (try with_reducible rfl)
      try simp only [Act.put, List.getElem_toArray, List.getElem_cons_succ, List.getElem_cons_zero, List.setIfInBounds_toArray, List.set_cons_zero, List.set_cons_succ]
      refine wpAnyL_take (i := 8) (v := ?_) rfl (by kernel_rfl) (by kernel_rfl) (by kernel_rfl) (by kernel_rfl) (by kernel_rfl) (fun _ _ _ h => h) (Or.inl ⟨by kernel_rfl, ?_⟩) ⟨c1_, kz⟩ ?_
      rotate_left
      · rintro w0 ⟨h1_, h2_⟩; go_simp; (try with_reducible rfl)
      try simp only [Act.put, List.getElem_toArray, List.getElem_cons_succ, List.getElem_cons_zero, List.setIfInBounds_toArray, List.set_cons_zero, List.set_cons_succ]
      refine wpAnyL_take (i := 9) (v := ?_) rfl (by kernel_rfl) (by kernel_rfl) (by kernel_rfl) (by kernel_rfl) (by kernel_rfl) (fun _ _ _ h => h) (Or.inl ⟨by kernel_rfl, ?_⟩) ⟨c1_, kz⟩ ?_
      rotate_left
      · rintro w0 ⟨h1_, h2_⟩; go_simp; (try with_reducible rfl)
      try simp only [Act.put, List.getElem_toArray, List.getElem_cons_succ, List.getElem_cons_zero, List.setIfInBounds_toArray, List.set_cons_zero, List.set_cons_succ]
      refine wpAnyL_take (i := 10) (v := ?_) rfl (by kernel_rfl) (by kernel_rfl) (by kernel_rfl) (by kernel_rfl) (by kernel_rfl) (fun _ _ _ h => h) (Or.inl ⟨by kernel_rfl, ?_⟩) ⟨c1_, kz⟩ ?_
      rotate_left
      · rintro w0 ⟨h1_, h2_⟩; go_simp; (try with_reducible rfl)
      try simp only [Act.put, List.getElem_toArray, List.getElem_cons_succ, List.getElem_cons_zero, List.setIfInBounds_toArray, List.set_cons_zero, List.set_cons_succ]
      refine wpAnyL_one (i := 11) (by kernel_rfl) rfl (fun K hK => ?_)
      go_simp
      refine hK.out _ _ (fun h => absurd (by simp) h) ?_
      clear hK K
      try simp only [Act.put, List.getElem_toArray, List.getElem_cons_succ, List.getElem_cons_zero, List.setIfInBounds_toArray, List.set_cons_zero, List.set_cons_succ]
      refine wpAnyL_done (by kernel_rfl) ?_ _
      have hN := hN.set_ 1 (.int .u32 (v' : Int))
      have hB := hB.far (p := ⟨G, 1, none⟩) (show w.heap.size ≠ G by omega) (.int .u32 (v' : Int))
      have hb := hb.setCell (p := ⟨G, 1, none⟩) (show w.heap.size ≤ G by omega) (.int .u32 (v' : Int))
      clear c1_ kz f1
      generalize w6.setCell _ _ = w7 at *
      go_wp2_with fail
      exact ⟨⟨2, by omega, congrArg (Value.int .i64) (by decide), by rw [show (8 - 2 : Nat) = 6 from rfl, show (12 - 2 : Nat) = 10 from rfl, HU.out.1, HU.out.2]; exact hN, hB, hb⟩, by simp [intOf]⟩
    · rw [show (3 - ((2 : Nat) : Int)) = 1 from by decide]
      obtain ⟨y, hy, hyl, ky⟩ := (HR.out.below hb).get' (k := 5) (by omega)
      obtain ⟨z, hz, hzl, kz⟩ := (HR.out.below hb).get' (k := 9) (by omega)
      have hu1 := num_up (k := 2) hy
      have hu2 := num_up (k := 2) hz
      have hg1 := num_take_lt' hlr 6 2 (by omega)
      have hg2 := num_take_lt' hlr 10 2 (by omega)
      simp only [Nat.reduceSub, Nat.reduceAdd, Nat.reduceMul, Nat.reducePow] at hN hu1 hu2 hg1 hg2
      obtain ⟨u, hu⟩ : ∃ u, Crc.num ((l.drop 6).take 2) = u := ⟨_, rfl⟩
      obtain ⟨v, hv⟩ : ∃ v, Crc.num ((l.drop 10).take 2) = v := ⟨_, rfl⟩
      rw [hu] at hN hu1 hg1
      rw [hv] at hN hu2 hg2
      obtain ⟨u', hu'⟩ : ∃ u', y + 256 * u = u' := ⟨_, rfl⟩
      obtain ⟨v', hv'⟩ : ∃ v', z + 256 * v = v' := ⟨_, rfl⟩
      have m1 : IntKind.u32.wrap ((u : Int) * 256) = (u : Int) * 256 := wrap32_in _ (by omega) (by omega)
      have m2 : IntKind.u32.wrap ((u : Int) * 256 + (y : Int)) = (u' : Int) := by rw [wrap32_in _ (by omega) (by omega)]; omega
      have m3 : IntKind.u32.wrap ((v : Int) * 256) = (v : Int) * 256 := wrap32_in _ (by omega) (by omega)
      have m4 : IntKind.u32.wrap ((v : Int) * 256 + (z : Int)) = (v' : Int) := by rw [wrap32_in _ (by omega) (by omega)]; omega
      have hy32 : IntKind.u32.wrap (y : Int) = (y : Int) := wrap32_in _ (by omega) (by omega)
      have hz32 : IntKind.u32.wrap (z : Int) = (z : Int) := wrap32_in _ (by omega) (by omega)
      have lw1 : IntKind.i64.wrap 5 = 5 := by decide
      have lw2 : IntKind.i64.wrap 9 = 9 := by decide
      rw [hu'] at hu1
      rw [hv'] at hu2
      have HU := Lib.hid (And.intro hu1 hu2)
      have hGb : b ≠ G := by omega
      clear hu1 hu2 hu hv hu' hv' hg1 hg2 hy hz
      go_wp2_with fail
      refine wp_region_late [11] (fun w' => w'.cell? ⟨G, 0, none⟩ = some (.int .u32 (u : Int)) ∧ w'.cell? ⟨b, o + 5, none⟩ = some (.int .u8 (y : Int))) (by kernel_rfl) ?_
      have ky : wr.drew.cell? ⟨b, o + 5, none⟩ = some (.int .u8 (y : Int)) := ky
      have kz : wr.drew.cell? ⟨b, o + 9, none⟩ = some (.int .u8 (z : Int)) := kz
      have hN := hN.drew
      have hB := hB.drew
      have hb := hb.drew
      generalize World.drew _ = w4 at *
      have c0 : w4.cell? ⟨G, 0, none⟩ = some (.int .u32 (u : Int)) := hN.cell 0
      have f0 := hN.frozen 0
      refine wpAnyL_take (i := 0) (v := ?_) rfl (by kernel_rfl) (by kernel_rfl) (by kernel_rfl) (by kernel_rfl) (by kernel_rfl) (fun _ _ _ h => h) (Or.inl ⟨by kernel_rfl, ?_⟩) ⟨c0, ky⟩ ?_
      rotate_left
      · rintro w0 ⟨h1_, h2_⟩; go_simp; (try with_reducible rfl)
      try simp only [Act.put, List.getElem_toArray, List.getElem_cons_succ, List.getElem_cons_zero, List.setIfInBounds_toArray, List.set_cons_zero, List.set_cons_succ]
      refine wpAnyL_take (i := 1) (v := ?_) rfl (by kernel_rfl) (by kernel_rfl) (by kernel_rfl) (by kernel_rfl) (by kernel_rfl) (fun _ _ _ h => h) (Or.inl ⟨by kernel_rfl, ?_⟩) ⟨c0, ky⟩ ?_
      rotate_left
      · rintro w0 ⟨h1_, h2_⟩; go_simp; (try with_reducible rfl)
      try simp only [Act.put, List.getElem_toArray, List.getElem_cons_succ, List.getElem_cons_zero, List.setIfInBounds_toArray, List.set_cons_zero, List.set_cons_succ]
      refine wpAnyL_take (i := 2) (v := ?_) rfl (by kernel_rfl) (by kernel_rfl) (by kernel_rfl) (by kernel_rfl) (by kernel_rfl) (fun _ _ _ h => h) (Or.inl ⟨by kernel_rfl, ?_⟩) ⟨c0, ky⟩ ?_
      rotate_left
      · rintro w0 ⟨h1_, h2_⟩; go_simp; (try with_reducible rfl)
      try simp only [Act.put, List.getElem_toArray, List.getElem_cons_succ, List.getElem_cons_zero, List.setIfInBounds_toArray, List.set_cons_zero, List.set_cons_succ]
      refine wpAnyL_take (i := 3) (v := ?_) rfl (by kernel_rfl) (by kernel_rfl) (by kernel_rfl) (by kernel_rfl) (by kernel_rfl) (fun _ _ _ h => h) (Or.inl ⟨by kernel_rfl, ?_⟩) ⟨c0, ky⟩ ?_
      rotate_left
      · rintro w0 ⟨h1_, h2_⟩; go_simp; (try with_reducible rfl)
      try simp only [Act.put, List.getElem_toArray, List.getElem_cons_succ, List.getElem_cons_zero, List.setIfInBounds_toArray, List.set_cons_zero, List.set_cons_succ]
      refine wpAnyL_take (i := 4) (v := ?_) rfl (by kernel_rfl) (by kernel_rfl) (by kernel_rfl) (by kernel_rfl) (by kernel_rfl) (fun _ _ _ h => h) (Or.inl ⟨by kernel_rfl, ?_⟩) ⟨c0, ky⟩ ?_
      rotate_left
      · rintro w0 ⟨h1_, h2_⟩; go_simp; (try with_reducible rfl)
      try simp only [Act.put, List.getElem_toArray, List.getElem_cons_succ, List.getElem_cons_zero, List.setIfInBounds_toArray, List.set_cons_zero, List.set_cons_succ]
      refine wpAnyL_take (i := 5) (v := ?_) rfl (by kernel_rfl) (by kernel_rfl) (by kernel_rfl) (by kernel_rfl) (by kernel_rfl) (fun _ _ _ h => h) (Or.inl ⟨by kernel_rfl, ?_⟩) ⟨c0, ky⟩ ?_
      rotate_left
      · rintro w0 ⟨h1_, h2_⟩; go_simp; (try with_reducible rfl)
      try simp only [Act.put, List.getElem_toArray, List.getElem_cons_succ, List.getElem_cons_zero, List.setIfInBounds_toArray, List.set_cons_zero, List.set_cons_succ]
      refine wpAnyL_take (i := 6) (v := ?_) rfl (by kernel_rfl) (by kernel_rfl) (by kernel_rfl) (by kernel_rfl) (by kernel_rfl) (fun _ _ _ h => h) (Or.inl ⟨by kernel_rfl, ?_⟩) ⟨c0, ky⟩ ?_
      rotate_left
      · rintro w0 ⟨h1_, h2_⟩; go_simp; (try with_reducible rfl)
      try simp only [Act.put, List.getElem_toArray, List.getElem_cons_succ, List.getElem_cons_zero, List.setIfInBounds_toArray, List.set_cons_zero, List.set_cons_succ]
      refine wpAnyL_take (i := 7) (v := ?_) rfl (by kernel_rfl) (by kernel_rfl) (by kernel_rfl) (by kernel_rfl) (by kernel_rfl) (fun _ _ _ h => h) (Or.inl ⟨by kernel_rfl, ?_⟩) ⟨c0, ky⟩ ?_
      rotate_left
      · rintro w0 ⟨h1_, h2_⟩; go_simp; (try with_reducible rfl)
      try simp only [Act.put, List.getElem_toArray, List.getElem_cons_succ, List.getElem_cons_zero, List.setIfInBounds_toArray, List.set_cons_zero, List.set_cons_succ]
      refine wpAnyL_take (i := 8) (v := ?_) rfl (by kernel_rfl) (by kernel_rfl) (by kernel_rfl) (by kernel_rfl) (by kernel_rfl) (fun _ _ _ h => h) (Or.inl ⟨by kernel_rfl, ?_⟩) ⟨c0, ky⟩ ?_
      rotate_left
      · rintro w0 ⟨h1_, h2_⟩; go_simp; (try with_reducible rfl)
      try simp only [Act.put, List.getElem_toArray, List.getElem_cons_succ, List.getElem_cons_zero, List.setIfInBounds_toArray, List.set_cons_zero, List.set_cons_succ]
      refine wpAnyL_take (i := 9) (v := ?_) rfl (by kernel_rfl) (by kernel_rfl) (by kernel_rfl) (by kernel_rfl) (by kernel_rfl) (fun _ _ _ h => h) (Or.inl ⟨by kernel_rfl, ?_⟩) ⟨c0, ky⟩ ?_
      rotate_left
      · rintro w0 ⟨h1_, h2_⟩; go_simp; (try with_reducible rfl)
      try simp only [Act.put, List.getElem_toArray, List.getElem_cons_succ, List.getElem_cons_zero, List.setIfInBounds_toArray, List.set_cons_zero, List.set_cons_succ]
      refine wpAnyL_take (i := 10) (v := ?_) rfl (by kernel_rfl) (by kernel_rfl) (by kernel_rfl) (by kernel_rfl) (by kernel_rfl) (fun _ _ _ h => h) (Or.inl ⟨by kernel_rfl, ?_⟩) ⟨c0, ky⟩ ?_
      rotate_left
      · rintro w0 ⟨h1_, h2_⟩; go_simp; (try with_reducible rfl)
      try simp only [Act.put, List.getElem_toArray, List.getElem_cons_succ, List.getElem_cons_zero, List.setIfInBounds_toArray, List.set_cons_zero, List.set_cons_succ]
      refine wpAnyL_one (i := 11) (by kernel_rfl) rfl (fun K hK => ?_)
      go_simp
      refine hK.out _ _ (fun h => absurd (by simp) h) ?_
      clear hK K
      try simp only [Act.put, List.getElem_toArray, List.getElem_cons_succ, List.getElem_cons_zero, List.setIfInBounds_toArray, List.set_cons_zero, List.set_cons_succ]
      refine wpAnyL_done (by kernel_rfl) ?_ _
      have kz := (World.cell?_setCell_other w4 ⟨G, 0, none⟩ ⟨b, o + 9, none⟩ (.int .u32 (u' : Int)) (by intro e; exact hGb (congrArg Addr.block e).symm)).trans kz
      have hN := hN.set_ 0 (.int .u32 (u' : Int))
      have hB := hB.far (p := ⟨G, 0, none⟩) (show w.heap.size ≠ G by omega) (.int .u32 (u' : Int))
      have hb := hb.setCell (p := ⟨G, 0, none⟩) (show w.heap.size ≤ G by omega) (.int .u32 (u' : Int))
      clear c0 ky f0
      generalize w4.setCell _ _ = w5 at *
      go_wp2_with fail
      refine wp_region_late [11] (fun w' => w'.cell? ⟨G, 1, none⟩ = some (.int .u32 (v : Int)) ∧ w'.cell? ⟨b, o + 9, none⟩ = some (.int .u8 (z : Int))) (by kernel_rfl) ?_
      have kz : w5.drew.cell? ⟨b, o + 9, none⟩ = some (.int .u8 (z : Int)) := kz
      have hN := hN.drew
      have hB := hB.drew
      have hb := hb.drew
      generalize World.drew _ = w6 at *
      have c1_ : w6.cell? ⟨G, 1, none⟩ = some (.int .u32 (v : Int)) := hN.cell 1
      have f1 := hN.frozen 1
      refine wpAnyL_take (i := 0) (v := ?_) rfl (by kernel_rfl) (by kernel_rfl) (by kernel_rfl) (by kernel_rfl) (by kernel_rfl) (fun _ _ _ h => h) (Or.inl ⟨by kernel_rfl, ?_⟩) ⟨c1_, kz⟩ ?_
      rotate_left
      · rintro w0 ⟨h1_, h2_⟩; go_simp; (try with_reducible rfl)
      try simp only [Act.put, List.getElem_toArray, List.getElem_cons_succ, List.getElem_cons_zero, List.setIfInBounds_toArray, List.set_cons_zero, List.set_cons_succ]
      refine wpAnyL_take (i := 1) (v := ?_) rfl (by kernel_rfl) (by kernel_rfl) (by kernel_rfl) (by kernel_rfl) (by kernel_rfl) (fun _ _ _ h => h) (Or.inl ⟨by kernel_rfl, ?_⟩) ⟨c1_, kz⟩ ?_
      rotate_left
      · rintro w0 ⟨h1_, h2_⟩; go_simp; (try with_reducible rfl)
      try simp only [Act.put, List.getElem_toArray, List.getElem_cons_succ, List.getElem_cons_zero, List.setIfInBounds_toArray, List.set_cons_zero, List.set_cons_succ]
      refine wpAnyL_take (i := 2) (v := ?_) rfl (by kernel_rfl) (by kernel_rfl) (by kernel_rfl) (by kernel_rfl) (by kernel_rfl) (fun _ _ _ h => h) (Or.inl ⟨by kernel_rfl, ?_⟩) ⟨c1_, kz⟩ ?_
      rotate_left
      · rintro w0 ⟨h1_, h2_⟩; go_simp; (try with_reducible rfl)
      try simp only [Act.put, List.getElem_toArray, List.getElem_cons_succ, List.getElem_cons_zero, List.setIfInBounds_toArray, List.set_cons_zero, List.set_cons_succ]
      refine wpAnyL_take (i := 3) (v := ?_) rfl (by kernel_rfl) (by kernel_rfl) (by kernel_rfl) (by kernel_rfl) (by kernel_rfl) (fun _ _ _ h => h) (Or.inl ⟨by kernel_rfl, ?_⟩) ⟨c1_, kz⟩ ?_
      rotate_left
      · rintro w0 ⟨h1_, h2_⟩; go_simp; (try with_reducible rfl)
      try simp only [Act.put, List.getElem_toArray, List.getElem_cons_succ, List.getElem_cons_zero, List.setIfInBounds_toArray, List.set_cons_zero, List.set_cons_succ]
      refine wpAnyL_take (i := 4) (v := ?_) rfl (by kernel_rfl) (by kernel_rfl) (by kernel_rfl) (by kernel_rfl) (by kernel_rfl) (fun _ _ _ h => h) (Or.inl ⟨by kernel_rfl, ?_⟩) ⟨c1_, kz⟩ ?_
      rotate_left
      · rintro w0 ⟨h1_, h2_⟩; go_simp; (try with_reducible rfl)
      try simp only [Act.put, List.getElem_toArray, List.getElem_cons_succ, List.getElem_cons_zero, List.setIfInBounds_toArray, List.set_cons_zero, List.set_cons_succ]
      refine wpAnyL_take (i := 5) (v := ?_) rfl (by kernel_rfl) (by kernel_rfl) (by kernel_rfl) (by kernel_rfl) (by kernel_rfl) (fun _ _ _ h => h) (Or.inl ⟨by kernel_rfl, ?_⟩) ⟨c1_, kz⟩ ?_
      rotate_left
      · rintro w0 ⟨h1_, h2_⟩; go_simp; (try with_reducible rfl)
      try simp only [Act.put, List.getElem_toArray, List.getElem_cons_succ, List.getElem_cons_zero, List.setIfInBounds_toArray, List.set_cons_zero, List.set_cons_succ]
      refine wpAnyL_take (i := 6) (v := ?_) rfl (by kernel_rfl) (by kernel_rfl) (by kernel_rfl) (by kernel_rfl) (by kernel_rfl) (fun _ _ _ h => h) (Or.inl ⟨by kernel_rfl, ?_⟩) ⟨c1_, kz⟩ ?_
      rotate_left
      · rintro w0 ⟨h1_, h2_⟩; go_simp; (try with_reducible rfl)
      try simp only [Act.put, List.getElem_toArray, List.getElem_cons_succ, List.getElem_cons_zero, List.setIfInBounds_toArray, List.set_cons_zero, List.set_cons_succ]
      refine wpAnyL_take (i := 7) (v := ?_) rfl (by kernel_rfl) (by kernel_rfl) (by kernel_rfl) (by kernel_rfl) (by kernel_rfl) (fun _ _ _ h => h) (Or.inl ⟨by kernel_rfl, ?_⟩) ⟨c1_, kz⟩ ?_
      rotate_left
      · rintro w0 ⟨h1_, h2_⟩; go_simp; (try with_reducible rfl)
      try simp only [Act.put, List.getElem_toArray, List.getElem_cons_succ, List.getElem_cons_zero, List.setIfInBounds_toArray, List.set_cons_zero, List.set_cons_succ]
      refine wpAnyL_take (i := 8) (v := ?_) rfl (by kernel_rfl) (by kernel_rfl) (by kernel_rfl) (by kernel_rfl) (by kernel_rfl) (fun _ _ _ h => h) (Or.inl ⟨by kernel_rfl, ?_⟩) ⟨c1_, kz⟩ ?_
      rotate_left
      · rintro w0 ⟨h1_, h2_⟩; go_simp; (try with_reducible rfl)
      try simp only [Act.put, List.getElem_toArray, List.getElem_cons_succ, List.getElem_cons_zero, List.setIfInBounds_toArray, List.set_cons_zero, List.set_cons_succ]
      refine wpAnyL_take (i := 9) (v := ?_) rfl (by kernel_rfl) (by kernel_rfl) (by kernel_rfl) (by kernel_rfl) (by kernel_rfl) (fun _ _ _ h => h) (Or.inl ⟨by kernel_rfl, ?_⟩) ⟨c1_, kz⟩ ?_
      rotate_left
      · rintro w0 ⟨h1_, h2_⟩; go_simp; (try with_reducible rfl)
      try simp only [Act.put, List.getElem_toArray, List.getElem_cons_succ, List.getElem_cons_zero, List.setIfInBounds_toArray, List.set_cons_zero, List.set_cons_succ]
      refine wpAnyL_take (i := 10) (v := ?_) rfl (by kernel_rfl) (by kernel_rfl) (by kernel_rfl) (by kernel_rfl) (by kernel_rfl) (fun _ _ _ h => h) (Or.inl ⟨by kernel_rfl, ?_⟩) ⟨c1_, kz⟩ ?_
      rotate_left
      · rintro w0 ⟨h1_, h2_⟩; go_simp; (try with_reducible rfl)
      try simp only [Act.put, List.getElem_toArray, List.getElem_cons_succ, List.getElem_cons_zero, List.setIfInBounds_toArray, List.set_cons_zero, List.set_cons_succ]
      refine wpAnyL_one (i := 11) (by kernel_rfl) rfl (fun K hK => ?_)
      go_simp
      refine hK.out _ _ (fun h => absurd (by simp) h) ?_
      clear hK K
      try simp only [Act.put, List.getElem_toArray, List.getElem_cons_succ, List.getElem_cons_zero, List.setIfInBounds_toArray, List.set_cons_zero, List.set_cons_succ]
      refine wpAnyL_done (by kernel_rfl) ?_ _
      have hN := hN.set_ 1 (.int .u32 (v' : Int))
      have hB := hB.far (p := ⟨G, 1, none⟩) (show w.heap.size ≠ G by omega) (.int .u32 (v' : Int))
      have hb := hb.setCell (p := ⟨G, 1, none⟩) (show w.heap.size ≤ G by omega) (.int .u32 (v' : Int))
      clear c1_ kz f1
      generalize w6.setCell _ _ = w7 at *
      go_wp2_with fail
      exact ⟨⟨3, by omega, congrArg (Value.int .i64) (by decide), by rw [show (8 - 3 : Nat) = 5 from rfl, show (12 - 3 : Nat) = 9 from rfl, HU.out.1, HU.out.2]; exact hN, hB, hb⟩, by simp [intOf]⟩
    · rw [show (3 - ((3 : Nat) : Int)) = 0 from by decide]
      obtain ⟨y, hy, hyl, ky⟩ := (HR.out.below hb).get' (k := 4) (by omega)
      obtain ⟨z, hz, hzl, kz⟩ := (HR.out.below hb).get' (k := 8) (by omega)
      have hu1 := num_up (k := 3) hy
      have hu2 := num_up (k := 3) hz
      have hg1 := num_take_lt' hlr 5 3 (by omega)
      have hg2 := num_take_lt' hlr 9 3 (by omega)
      simp only [Nat.reduceSub, Nat.reduceAdd, Nat.reduceMul, Nat.reducePow] at hN hu1 hu2 hg1 hg2
      obtain ⟨u, hu⟩ : ∃ u, Crc.num ((l.drop 5).take 3) = u := ⟨_, rfl⟩
      obtain ⟨v, hv⟩ : ∃ v, Crc.num ((l.drop 9).take 3) = v := ⟨_, rfl⟩
      rw [hu] at hN hu1 hg1
      rw [hv] at hN hu2 hg2
      obtain ⟨u', hu'⟩ : ∃ u', y + 256 * u = u' := ⟨_, rfl⟩
      obtain ⟨v', hv'⟩ : ∃ v', z + 256 * v = v' := ⟨_, rfl⟩
      have m1 : IntKind.u32.wrap ((u : Int) * 256) = (u : Int) * 256 := wrap32_in _ (by omega) (by omega)
      have m2 : IntKind.u32.wrap ((u : Int) * 256 + (y : Int)) = (u' : Int) := by rw [wrap32_in _ (by omega) (by omega)]; omega
      have m3 : IntKind.u32.wrap ((v : Int) * 256) = (v : Int) * 256 := wrap32_in _ (by omega) (by omega)
      have m4 : IntKind.u32.wrap ((v : Int) * 256 + (z : Int)) = (v' : Int) := by rw [wrap32_in _ (by omega) (by omega)]; omega
      have hy32 : IntKind.u32.wrap (y : Int) = (y : Int) := wrap32_in _ (by omega) (by omega)
      have hz32 : IntKind.u32.wrap (z : Int) = (z : Int) := wrap32_in _ (by omega) (by omega)
      have lw1 : IntKind.i64.wrap 4 = 4 := by decide
      have lw2 : IntKind.i64.wrap 8 = 8 := by decide
      rw [hu'] at hu1
      rw [hv'] at hu2
      have HU := Lib.hid (And.intro hu1 hu2)
      have hGb : b ≠ G := by omega
      clear hu1 hu2 hu hv hu' hv' hg1 hg2 hy hz
      go_wp2_with fail
      refine wp_region_late [11] (fun w' => w'.cell? ⟨G, 0, none⟩ = some (.int .u32 (u : Int)) ∧ w'.cell? ⟨b, o + 4, none⟩ = some (.int .u8 (y : Int))) (by kernel_rfl) ?_
      have ky : wr.drew.cell? ⟨b, o + 4, none⟩ = some (.int .u8 (y : Int)) := ky
      have kz : wr.drew.cell? ⟨b, o + 8, none⟩ = some (.int .u8 (z : Int)) := kz
      have hN := hN.drew
      have hB := hB.drew
      have hb := hb.drew
      generalize World.drew _ = w4 at *
      have c0 : w4.cell? ⟨G, 0, none⟩ = some (.int .u32 (u : Int)) := hN.cell 0
      have f0 := hN.frozen 0
      refine wpAnyL_take (i := 0) (v := ?_) rfl (by kernel_rfl) (by kernel_rfl) (by kernel_rfl) (by kernel_rfl) (by kernel_rfl) (fun _ _ _ h => h) (Or.inl ⟨by kernel_rfl, ?_⟩) ⟨c0, ky⟩ ?_
      rotate_left
      · rintro w0 ⟨h1_, h2_⟩; go_simp; (try with_reducible rfl)
      try simp only [Act.put, List.getElem_toArray, List.getElem_cons_succ, List.getElem_cons_zero, List.setIfInBounds_toArray, List.set_cons_zero, List.set_cons_succ]
      refine wpAnyL_take (i := 1) (v := ?_) rfl (by kernel_rfl) (by kernel_rfl) (by kernel_rfl) (by kernel_rfl) (by kernel_rfl) (fun _ _ _ h => h) (Or.inl ⟨by kernel_rfl, ?_⟩) ⟨c0, ky⟩ ?_
      rotate_left
      · rintro w0 ⟨h1_, h2_⟩; go_simp; (try with_reducible rfl)
      try simp only [Act.put, List.getElem_toArray, List.getElem_cons_succ, List.getElem_cons_zero, List.setIfInBounds_toArray, List.set_cons_zero, List.set_cons_succ]
      refine wpAnyL_take (i := 2) (v := ?_) rfl (by kernel_rfl) (by kernel_rfl) (by kernel_rfl) (by kernel_rfl) (by kernel_rfl) (fun _ _ _ h => h) (Or.inl ⟨by kernel_rfl, ?_⟩) ⟨c0, ky⟩ ?_
      rotate_left
      · rintro w0 ⟨h1_, h2_⟩; go_simp; (try with_reducible rfl)
      try simp only [Act.put, List.getElem_toArray, List.getElem_cons_succ, List.getElem_cons_zero, List.setIfInBounds_toArray, List.set_cons_zero, List.set_cons_succ]
      refine wpAnyL_take (i := 3) (v := ?_) rfl (by kernel_rfl) (by kernel_rfl) (by kernel_rfl) (by kernel_rfl) (by kernel_rfl) (fun _ _ _ h => h) (Or.inl ⟨by kernel_rfl, ?_⟩) ⟨c0, ky⟩ ?_
      rotate_left
      · rintro w0 ⟨h1_, h2_⟩; go_simp; (try with_reducible rfl)
      try simp only [Act.put, List.getElem_toArray, List.getElem_cons_succ, List.getElem_cons_zero, List.setIfInBounds_toArray, List.set_cons_zero, List.set_cons_succ]
      refine wpAnyL_take (i := 4) (v := ?_) rfl (by kernel_rfl) (by kernel_rfl) (by kernel_rfl) (by kernel_rfl) (by kernel_rfl) (fun _ _ _ h => h) (Or.inl ⟨by kernel_rfl, ?_⟩) ⟨c0, ky⟩ ?_
      rotate_left
      · rintro w0 ⟨h1_, h2_⟩; go_simp; (try with_reducible rfl)
      try simp only [Act.put, List.getElem_toArray, List.getElem_cons_succ, List.getElem_cons_zero, List.setIfInBounds_toArray, List.set_cons_zero, List.set_cons_succ]
      refine wpAnyL_take (i := 5) (v := ?_) rfl (by kernel_rfl) (by kernel_rfl) (by kernel_rfl) (by kernel_rfl) (by kernel_rfl) (fun _ _ _ h => h) (Or.inl ⟨by kernel_rfl, ?_⟩) ⟨c0, ky⟩ ?_
      rotate_left
      · rintro w0 ⟨h1_, h2_⟩; go_simp; (try with_reducible rfl)
      try simp only [Act.put, List.getElem_toArray, List.getElem_cons_succ, List.getElem_cons_zero, List.setIfInBounds_toArray, List.set_cons_zero, List.set_cons_succ]
      refine wpAnyL_take (i := 6) (v := ?_) rfl (by kernel_rfl) (by kernel_rfl) (by kernel_rfl) (by kernel_rfl) (by kernel_rfl) (fun _ _ _ h => h) (Or.inl ⟨by kernel_rfl, ?_⟩) ⟨c0, ky⟩ ?_
      rotate_left
      · rintro w0 ⟨h1_, h2_⟩; go_simp; (try with_reducible rfl)
      try simp only [Act.put, List.getElem_toArray, List.getElem_cons_succ, List.getElem_cons_zero, List.setIfInBounds_toArray, List.set_cons_zero, List.set_cons_succ]
      refine wpAnyL_take (i := 7) (v := ?_) rfl (by kernel_rfl) (by kernel_rfl) (by kernel_rfl) (by kernel_rfl) (by kernel_rfl) (fun _ _ _ h => h) (Or.inl ⟨by kernel_rfl, ?_⟩) ⟨c0, ky⟩ ?_
      rotate_left
      · rintro w0 ⟨h1_, h2_⟩; go_simp; (try with_reducible rfl)
      try simp only [Act.put, List.getElem_toArray, List.getElem_cons_succ, List.getElem_cons_zero, List.setIfInBounds_toArray, List.set_cons_zero, List.set_cons_succ]
      refine wpAnyL_take (i := 8) (v := ?_) rfl (by kernel_rfl) (by kernel_rfl) (by kernel_rfl) (by kernel_rfl) (by kernel_rfl) (fun _ _ _ h => h) (Or.inl ⟨by kernel_rfl, ?_⟩) ⟨c0, ky⟩ ?_
      rotate_left
      · rintro w0 ⟨h1_, h2_⟩; go_simp; (try with_reducible rfl)
      try simp only [Act.put, List.getElem_toArray, List.getElem_cons_succ, List.getElem_cons_zero, List.setIfInBounds_toArray, List.set_cons_zero, List.set_cons_succ]
      refine wpAnyL_take (i := 9) (v := ?_) rfl (by kernel_rfl) (by kernel_rfl) (by kernel_rfl) (by kernel_rfl) (by kernel_rfl) (fun _ _ _ h => h) (Or.inl ⟨by kernel_rfl, ?_⟩) ⟨c0, ky⟩ ?_
      rotate_left
      · rintro w0 ⟨h1_, h2_⟩; go_simp; (try with_reducible rfl)
      try simp only [Act.put, List.getElem_toArray, List.getElem_cons_succ, List.getElem_cons_zero, List.setIfInBounds_toArray, List.set_cons_zero, List.set_cons_succ]
      refine wpAnyL_take (i := 10) (v := ?_) rfl (by kernel_rfl) (by kernel_rfl) (by kernel_rfl) (by kernel_rfl) (by kernel_rfl) (fun _ _ _ h => h) (Or.inl ⟨by kernel_rfl, ?_⟩) ⟨c0, ky⟩ ?_
      rotate_left
      · rintro w0 ⟨h1_, h2_⟩; go_simp; (try with_reducible rfl)
      try simp only [Act.put, List.getElem_toArray, List.getElem_cons_succ, List.getElem_cons_zero, List.setIfInBounds_toArray, List.set_cons_zero, List.set_cons_succ]
      refine wpAnyL_one (i := 11) (by kernel_rfl) rfl (fun K hK => ?_)
      go_simp
      refine hK.out _ _ (fun h => absurd (by simp) h) ?_
      clear hK K
      try simp only [Act.put, List.getElem_toArray, List.getElem_cons_succ, List.getElem_cons_zero, List.setIfInBounds_toArray, List.set_cons_zero, List.set_cons_succ]
      refine wpAnyL_done (by kernel_rfl) ?_ _
      have kz := (World.cell?_setCell_other w4 ⟨G, 0, none⟩ ⟨b, o + 8, none⟩ (.int .u32 (u' : Int)) (by intro e; exact hGb (congrArg Addr.block e).symm)).trans kz
      have hN := hN.set_ 0 (.int .u32 (u' : Int))
      have hB := hB.far (p := ⟨G, 0, none⟩) (show w.heap.size ≠ G by omega) (.int .u32 (u' : Int))
      have hb := hb.setCell (p := ⟨G, 0, none⟩) (show w.heap.size ≤ G by omega) (.int .u32 (u' : Int))
      clear c0 ky f0
      generalize w4.setCell _ _ = w5 at *
      go_wp2_with fail
      refine wp_region_late [11] (fun w' => w'.cell? ⟨G, 1, none⟩ = some (.int .u32 (v : Int)) ∧ w'.cell? ⟨b, o + 8, none⟩ = some (.int .u8 (z : Int))) (by kernel_rfl) ?_
      have kz : w5.drew.cell? ⟨b, o + 8, none⟩ = some (.int .u8 (z : Int)) := kz
      have hN := hN.drew
      have hB := hB.drew
      have hb := hb.drew
      generalize World.drew _ = w6 at *
      have c1_ : w6.cell? ⟨G, 1, none⟩ = some (.int .u32 (v : Int)) := hN.cell 1
      have f1 := hN.frozen 1
      refine wpAnyL_take (i := 0) (v := ?_) rfl (by kernel_rfl) (by kernel_rfl) (by kernel_rfl) (by kernel_rfl) (by kernel_rfl) (fun _ _ _ h => h) (Or.inl ⟨by kernel_rfl, ?_⟩) ⟨c1_, kz⟩ ?_
      rotate_left
      · rintro w0 ⟨h1_, h2_⟩; go_simp; (try with_reducible rfl)
      try simp only [Act.put, List.getElem_toArray, List.getElem_cons_succ, List.getElem_cons_zero, List.setIfInBounds_toArray, List.set_cons_zero, List.set_cons_succ]
      refine wpAnyL_take (i := 1) (v := ?_) rfl (by kernel_rfl) (by kernel_rfl) (by kernel_rfl) (by kernel_rfl) (by kernel_rfl) (fun _ _ _ h => h) (Or.inl ⟨by kernel_rfl, ?_⟩) ⟨c1_, kz⟩ ?_
      rotate_left
      · rintro w0 ⟨h1_, h2_⟩; go_simp; (try with_reducible rfl)
      try simp only [Act.put, List.getElem_toArray, List.getElem_cons_succ, List.getElem_cons_zero, List.setIfInBounds_toArray, List.set_cons_zero, List.set_cons_succ]
      refine wpAnyL_take (i := 2) (v := ?_) rfl (by kernel_rfl) (by kernel_rfl) (by kernel_rfl) (by kernel_rfl) (by kernel_rfl) (fun _ _ _ h => h) (Or.inl ⟨by kernel_rfl, ?_⟩) ⟨c1_, kz⟩ ?_
      rotate_left
      · rintro w0 ⟨h1_, h2_⟩; go_simp; (try with_reducible rfl)
      try simp only [Act.put, List.getElem_toArray, List.getElem_cons_succ, List.getElem_cons_zero, List.setIfInBounds_toArray, List.set_cons_zero, List.set_cons_succ]
      refine wpAnyL_take (i := 3) (v := ?_) rfl (by kernel_rfl) (by kernel_rfl) (by kernel_rfl) (by kernel_rfl) (by kernel_rfl) (fun _ _ _ h => h) (Or.inl ⟨by kernel_rfl, ?_⟩) ⟨c1_, kz⟩ ?_
      rotate_left
      · rintro w0 ⟨h1_, h2_⟩; go_simp; (try with_reducible rfl)
      try simp only [Act.put, List.getElem_toArray, List.getElem_cons_succ, List.getElem_cons_zero, List.setIfInBounds_toArray, List.set_cons_zero, List.set_cons_succ]
      refine wpAnyL_take (i := 4) (v := ?_) rfl (by kernel_rfl) (by kernel_rfl) (by kernel_rfl) (by kernel_rfl) (by kernel_rfl) (fun _ _ _ h => h) (Or.inl ⟨by kernel_rfl, ?_⟩) ⟨c1_, kz⟩ ?_
      rotate_left
      · rintro w0 ⟨h1_, h2_⟩; go_simp; (try with_reducible rfl)
      try simp only [Act.put, List.getElem_toArray, List.getElem_cons_succ, List.getElem_cons_zero, List.setIfInBounds_toArray, List.set_cons_zero, List.set_cons_succ]
      refine wpAnyL_take (i := 5) (v := ?_) rfl (by kernel_rfl) (by kernel_rfl) (by kernel_rfl) (by kernel_rfl) (by kernel_rfl) (fun _ _ _ h => h) (Or.inl ⟨by kernel_rfl, ?_⟩) ⟨c1_, kz⟩ ?_
      rotate_left
      · rintro w0 ⟨h1_, h2_⟩; go_simp; (try with_reducible rfl)
      try simp only [Act.put, List.getElem_toArray, List.getElem_cons_succ, List.getElem_cons_zero, List.setIfInBounds_toArray, List.set_cons_zero, List.set_cons_succ]
      refine wpAnyL_take (i := 6) (v := ?_) rfl (by kernel_rfl) (by kernel_rfl) (by kernel_rfl) (by kernel_rfl) (by kernel_rfl) (fun _ _ _ h => h) (Or.inl ⟨by kernel_rfl, ?_⟩) ⟨c1_, kz⟩ ?_
      rotate_left
      · rintro w0 ⟨h1_, h2_⟩; go_simp; (try with_reducible rfl)
      try simp only [Act.put, List.getElem_toArray, List.getElem_cons_succ, List.getElem_cons_zero, List.setIfInBounds_toArray, List.set_cons_zero, List.set_cons_succ]
      refine wpAnyL_take (i := 7) (v := ?_) rfl (by kernel_rfl) (by kernel_rfl) (by kernel_rfl) (by kernel_rfl) (by kernel_rfl) (fun _ _ _ h => h) (Or.inl ⟨by kernel_rfl, ?_⟩) ⟨c1_, kz⟩ ?_
      rotate_left
      · rintro w0 ⟨h1_, h2_⟩; go_simp; (try with_reducible rfl)
      try simp only [Act.put, List.getElem_toArray, List.getElem_cons_succ, List.getElem_cons_zero, List.setIfInBounds_toArray, List.set_cons_zero, List.set_cons_succ]
      refine wpAnyL_take (i := 8) (v := ?_) rfl (by kernel_rfl) (by kernel_rfl) (by kernel_rfl) (by kernel_rfl) (by kernel_rfl) (fun _ _ _ h => h) (Or.inl ⟨by kernel_rfl, ?_⟩) ⟨c1_, kz⟩ ?_
      rotate_left
      · rintro w0 ⟨h1_, h2_⟩; go_simp; (try with_reducible rfl)
      try simp only [Act.put, List.getElem_toArray, List.getElem_cons_succ, List.getElem_cons_zero, List.setIfInBounds_toArray, List.set_cons_zero, List.set_cons_succ]
      refine wpAnyL_take (i := 9) (v := ?_) rfl (by kernel_rfl) (by kernel_rfl) (by kernel_rfl) (by kernel_rfl) (by kernel_rfl) (fun _ _ _ h => h) (Or.inl ⟨by kernel_rfl, ?_⟩) ⟨c1_, kz⟩ ?_
      rotate_left
      · rintro w0 ⟨h1_, h2_⟩; go_simp; (try with_reducible rfl)
      try simp only [Act.put, List.getElem_toArray, List.getElem_cons_succ, List.getElem_cons_zero, List.setIfInBounds_toArray, List.set_cons_zero, List.set_cons_succ]
      refine wpAnyL_take (i := 10) (v := ?_) rfl (by kernel_rfl) (by kernel_rfl) (by kernel_rfl) (by kernel_rfl) (by kernel_rfl) (fun _ _ _ h => h) (Or.inl ⟨by kernel_rfl, ?_⟩) ⟨c1_, kz⟩ ?_
      rotate_left
      · rintro w0 ⟨h1_, h2_⟩; go_simp; (try with_reducible rfl)
      try simp only [Act.put, List.getElem_toArray, List.getElem_cons_succ, List.getElem_cons_zero, List.setIfInBounds_toArray, List.set_cons_zero, List.set_cons_succ]
      refine wpAnyL_one (i := 11) (by kernel_rfl) rfl (fun K hK => ?_)
      go_simp
      refine hK.out _ _ (fun h => absurd (by simp) h) ?_
      clear hK K
      try simp only [Act.put, List.getElem_toArray, List.getElem_cons_succ, List.getElem_cons_zero, List.setIfInBounds_toArray, List.set_cons_zero, List.set_cons_succ]
      refine wpAnyL_done (by kernel_rfl) ?_ _
      have hN := hN.set_ 1 (.int .u32 (v' : Int))
      have hB := hB.far (p := ⟨G, 1, none⟩) (show w.heap.size ≠ G by omega) (.int .u32 (v' : Int))
      have hb := hb.setCell (p := ⟨G, 1, none⟩) (show w.heap.size ≤ G by omega) (.int .u32 (v' : Int))
      clear c1_ kz f1
      generalize w6.setCell _ _ = w7 at *
      go_wp2_with fail
      exact ⟨⟨4, by omega, congrArg (Value.int .i64) (by decide), by rw [show (8 - 4 : Nat) = 4 from rfl, show (12 - 4 : Nat) = 8 from rfl, HU.out.1, HU.out.2]; exact hN, hB, hb⟩, by simp [intOf]⟩
    · rw [show (3 - ((4 : Nat) : Int)) = -1 from by decide]
      simp only [Nat.reduceSub] at hN
      have hraw : Cl.raw l = ⟨Crc.num ((l.drop 4).take 4), Crc.num ((l.drop 8).take 4), (x12 : Int), (x13 : Int), (l.drop 15).take x14⟩ := by
        unfold Cl.raw
        rw [HX.out.1, HX.out.2.1, HX.out.2.2.1]
      have hk1 := (Cl.raw_ok hlr).gen
      have hk2 := (Cl.raw_ok hlr).seq
      rw [hraw] at hk1 hk2
      dsimp only at hk1 hk2
      obtain ⟨g1, hg1⟩ : ∃ g1, Crc.num ((l.drop 4).take 4) = g1 := ⟨_, rfl⟩
      obtain ⟨g2, hg2⟩ : ∃ g2, Crc.num ((l.drop 8).take 4) = g2 := ⟨_, rfl⟩
      rw [hg1] at hraw hk1 hN
      rw [hg2] at hraw hk2 hN
      have hI := HI.out.below hb
      have hmay : (Cl.raw l).may = mayN (x12 : Int) (x13 : Int) x14 := by rw [hraw, may_eq, hI.len]
      have hE : Cl.isEnc l = (mayN (x12 : Int) (x13 : Int) x14 && decide (Cl.enc ⟨g1, g2, (x12 : Int), (x13 : Int), (l.drop 15).take x14⟩ = l)) := by
        unfold Cl.isEnc
        rw [decide_eq_true HX.out.2.2.2.1, Bool.true_and, hmay, hraw]
      have c0 := hN.cell 0
      have c1_ := hN.cell 1
      have c2 := hN.cell 2
      have c3 := hN.cell 3
      have c4 := hN.cell 4
      simp only [List.getElem?_toArray, List.getElem?_cons_zero, List.getElem?_cons_succ] at c0 c1_ c2 c3 c4
      have hltG := hN.lt
      have hltg := hB.lt
      have HS := Lib.hid (And.intro hN (And.intro hB (And.intro hb (And.intro hI (HR.out.below hb)))))
      have HW := Lib.hid (And.intro hraw hE)
      clear hN hB hb hI hraw hE hmay hg1 hg2 hlr
      go_wp2_with fail
      refine (rmay_any g1 g2 (x12 : Int) (x13 : Int) _ x14 _ _ (by omega)).mono ?_; rintro e w6 ⟨rfl, hb6⟩
      have hN6 := HS.out.1.below hb6 hltG
      have hB6 := HS.out.2.1.below hb6 hltg
      have hb6' := below_step HS.out.2.2.1 hb6 HS.out.2.2.1.size
      have hI6 := HS.out.2.2.2.1.below hb6
      have hr6 := HS.out.2.2.2.2.below hb6
      have hs6 := hb6.size
      have HS6 := Lib.hid (And.intro hN6 (And.intro hB6 (And.intro hb6' (And.intro hI6 hr6))))
      clear c0 c1_ c2 c3 c4 hN6 hB6 hb6' hI6 hr6 hb6
      obtain ⟨mb, hmb⟩ : ∃ mb, mayN (x12 : Int) (x13 : Int) x14 = mb := ⟨_, rfl⟩
      have hE := HW.out.2
      rw [hmb] at hE ⊢
      cases mb with
      | false =>
        rw [Bool.false_and] at hE
        have HN := Lib.hid hE
        clear hE hmb
        go_wp2_with (refine wpList_store_blk rfl 25 (.tmp 2) (.tmp 68) rfl w.heap.size rfl 25 #[.int .u32 0, .int .u32 0, .int .i64 0, .int .i64 0, .slice none 0 0] #[.int .u32 0, .int .u32 0, .int .i64 0, .int .i64 0, .slice none 0 0] rfl HS6.out.2.1 (by kernel_rfl) rfl (by simp [Value.oneCell']) ?_; intro w8 hB8 hg8)
        refine bodyPost_ret (results_row_tmp rfl _ _ w.heap.size 25 #[.int .u32 0, .int .u32 0, .int .i64 0, .int .i64 0, .slice none 0 0] (0, 0) _ rfl hB8.is Tryd.underlying25 rfl (by kernel_rfl)) rfl ?_
        exact dec_no HN.out (HS6.out.2.2.1.grown hg8 HS6.out.2.2.1.size (fun k e => by cases e; exact Nat.le_refl _))
      | true =>
        rw [Bool.true_and] at hE
        have HE := Lib.hid hE
        have HMB := Lib.hid hmb
        clear hE hmb
        have c0 := HS6.out.1.cell 0
        have c1_ := HS6.out.1.cell 1
        have c2 := HS6.out.1.cell 2
        have c3 := HS6.out.1.cell 3
        have c4 := HS6.out.1.cell 4
        simp only [List.getElem?_toArray, List.getElem?_cons_zero, List.getElem?_cons_succ] at c0 c1_ c2 c3 c4
        go_wp2_with fail
        refine (rwrite_any g1 g2 hk1 hk2 x12 x13 _ x14 _ _ _ HS6.out.2.2.2.1 HMB.out).mono ?_; rintro e w7 ⟨A7, c7, rfl, ho7, hb7⟩
        have hN7 := HS6.out.1.below hb7 (by omega)
        have hB7 := HS6.out.2.1.below hb7 (by omega)
        have hb7' := below_step HS6.out.2.2.1 hb7 HS6.out.2.2.1.size
        have hI7 := HS6.out.2.2.2.1.below hb7
        have hr7 := HS6.out.2.2.2.2.below hb7
        have HS7 := Lib.hid (And.intro hN7 (And.intro hB7 (And.intro hb7' (And.intro hI7 hr7))))
        have HO := Lib.hid ho7
        clear c0 c1_ c2 c3 c4 hN7 hB7 hb7' hI7 hr7 hb7 ho7
        go_wp2_with fail
        refine (rows_any _ _ _ _ _ _ _ _ _ HO.out.ints HS7.out.2.2.2.2 (by omega) (by omega)).mono ?_; rintro e w8 ⟨⟨q8, rfl⟩, rfl⟩
        have hN8 := HS7.out.1.drewN q8
        have hB8 := HS7.out.2.1.drewN q8
        have hb8 : Below w.heap.size w (w7.drewN q8) := below_drewN HS7.out.2.2.1 q8
        have hI8 := HS7.out.2.2.2.1.drewN q8
        have HS8 := Lib.hid (And.intro hN8 (And.intro hB8 (And.intro hb8 hI8)))
        obtain ⟨zb, hzb⟩ : ∃ zb, decide (Cl.enc ⟨g1, g2, (x12 : Int), (x13 : Int), (l.drop 15).take x14⟩ = l) = zb := ⟨_, rfl⟩
        have hE := HE.out
        rw [hzb] at hE ⊢
        have HE2 := Lib.hid hE
        generalize w7.drewN q8 = w9 at *
        clear hN8 hB8 hb8 hI8 hE hzb HS7 HO HE
        cases zb with
        | false =>
          go_wp2_with (refine wpList_store_blk rfl 25 (.tmp 2) (.tmp 68) rfl w.heap.size rfl 25 #[.int .u32 0, .int .u32 0, .int .i64 0, .int .i64 0, .slice none 0 0] #[.int .u32 0, .int .u32 0, .int .i64 0, .int .i64 0, .slice none 0 0] rfl HS8.out.2.1 (by kernel_rfl) rfl (by simp [Value.oneCell']) ?_; intro w11 hB11 hg11)
          refine bodyPost_ret (results_row_tmp rfl _ _ w.heap.size 25 #[.int .u32 0, .int .u32 0, .int .i64 0, .int .i64 0, .slice none 0 0] (0, 0) _ rfl hB11.is Tryd.underlying25 rfl (by kernel_rfl)) rfl ?_
          exact dec_no HE2.out (HS8.out.2.2.1.grown hg11 HS8.out.2.2.1.size (fun k e => by cases e; exact Nat.le_refl _))
        | true =>
          have c0 := HS8.out.1.cell 0
          have c1_ := HS8.out.1.cell 1
          have c2 := HS8.out.1.cell 2
          have c3 := HS8.out.1.cell 3
          have c4 := HS8.out.1.cell 4
          simp only [List.getElem?_toArray, List.getElem?_cons_zero, List.getElem?_cons_succ] at c0 c1_ c2 c3 c4
          go_wp2_with (refine wpList_store_blk rfl 25 (.tmp 2) (.tmp 69) rfl w.heap.size rfl 25 #[.int .u32 0, .int .u32 0, .int .i64 0, .int .i64 0, .slice none 0 0] #[.int .u32 (g1 : Int), .int .u32 (g2 : Int), .int .i64 (x12 : Int), .int .i64 (x13 : Int), .slice (some ⟨b, o + 15, none⟩) x14 (c - 15)] rfl HS8.out.2.1 cell_size5 rfl (by simp [Value.oneCell']) ?_; intro w10 hB10 hg10; clear c0 c1_ c2 c3 c4)
          refine bodyPost_ret (results_row_tmp rfl _ _ w.heap.size 25 #[.int .u32 (g1 : Int), .int .u32 (g2 : Int), .int .i64 (x12 : Int), .int .i64 (x13 : Int), .slice (some ⟨b, o + 15, none⟩) x14 (c - 15)] (0, 0) _ rfl hB10.is Tryd.underlying25 rfl cell_size5) rfl ?_
          exact dec_yes HE2.out HW.out.1 (HS8.out.2.2.2.grown hg10 (fun ad e h => by cases e; injection h with h; simp at h; omega)) (HS8.out.2.2.1.grown hg10 HS8.out.2.2.1.size (fun k e => by cases e; exact Nat.le_refl _))
theorem rdecode_any {A : Option Addr} {n c : Nat} {l : List Nat} {w : World} (hr : Ints w .u8 256 A n c l) (hn : n ≤ 70368744177664) :
    Calls Tryd.prog 19 #[.slice A n c] w (DecPost w l) := by
  by_cases h : n = 64
  · subst h; exact rdecode_full hr
  · exact rdecode_short hr.len h hn
end Go.Proofs.YtfoeapjlklfjgaaDoor
