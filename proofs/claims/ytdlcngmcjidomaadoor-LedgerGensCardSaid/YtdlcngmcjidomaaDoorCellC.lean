/- The contract of cell.Encode. No condition but the reach of a slice. -/
import Derived.Test.YtdlcngmcjidomaaDoorCellB
import Derived.Test.YtdlcngmcjidomaaDoorAppZ
namespace Go.Proofs.YtdlcngmcjidomaaDoor
set_option linter.unusedSimpArgs false
set_option linter.unusedVariables false
open Go.RowKit

def Cl.encL (x : Cl) : List Nat := if x.may then x.enc else []
def Cl.encCode (x : Cl) : Int := if x.may then 0 else 1
theorem mayN_iff {pt ps : Int} {n : Nat} : mayN pt ps n = true ↔ (1 ≤ ps ∧ ps ≤ 8 ∧ 0 ≤ pt ∧ pt < ps ∧ 1 ≤ n ∧ n ≤ 49 ∧ (n = 49 ∨ pt = ps - 1)) := by unfold mayN; exact decide_eq_true_iff
theorem cinfo : (Tryd.prog.info? 5).map (fun i => (i.zero, i.size, i.bytes)) = some (some (.int .u8 0), 1, 1) := by kernel_rfl

set_option maxRecDepth 100000 in
set_option maxHeartbeats 1600000 in
theorem encode_no (gs sq : Nat) (pt ps : Int) (A : Option Addr) (n c : Nat) (w : World) (hp : -9223372036854775808 ≤ ps ∧ ps ≤ 9223372036854775807) (hm : mayN pt ps n = false) :
    Calls Tryd.prog 37 #[.agg #[.int .u32 (gs : Int), .int .u32 (sq : Int), .int .i64 pt, .int .i64 ps, .slice A n c]] w fun e w' => e = .returned (.tuple #[.slice none 0 0, .int .i64 1]) ∧ Below w.heap.size w w' := by
  have hb : Below w.heap.size w (w.alloc (.cells #[.int .u32 (gs : Int), .int .u32 (sq : Int), .int .i64 pt, .int .i64 ps, .slice A n c] 73)) := (Below.refl _ _).alloc (Nat.le_refl _) _
  have HB := Lib.hid hb
  clear hb
  go_enter Tryd.func37, Tryd.ntmps37
  go_wp2_with fail
  refine (cmay_any gs sq pt ps A n c _ hp).mono ?_; rintro e w1 ⟨rfl, hb1⟩
  rw [hm]
  have HB1 := Lib.hid (below_step HB.out hb1 (by simp))
  clear hb1
  go_wp2_with fail
  go_ret2
  exact ⟨rfl, HB1.out⟩
set_option maxRecDepth 100000 in
set_option maxHeartbeats 3200000 in
theorem encode_yes (gs sq : Nat) (hgs : gs < 4294967296) (hsq : sq < 4294967296) (p q : Nat) (A : Option Addr) (n c : Nat) (l : List Nat) (w : World) (hr : Ints w .u8 256 A n c l) (hm : mayN (p : Int) (q : Int) n = true) :
    Calls Tryd.prog 37 #[.agg #[.int .u32 (gs : Int), .int .u32 (sq : Int), .int .i64 (p : Int), .int .i64 (q : Int), .slice A n c]] w fun e w' => ∃ A' c', e = .returned (.tuple #[.slice A' 64 c', .int .i64 0]) ∧ OwnI w' w.heap.size .u8 256 5 A' 64 c' (Cl.enc ⟨gs, sq, p, q, l⟩) ∧ Below w.heap.size w w' := by
  obtain ⟨h1, h2, h3, h4, h5, h6, _⟩ := mayN_iff.1 hm
  have hq8 : q ≤ 8 := by omega
  have hp8 : p < 8 := by omega
  have hln := hr.len
  have hbody : Cl.body ⟨gs, sq, p, q, l⟩ = (((four gs ++ four sq) ++ [p, q, n]) ++ l) ++ List.replicate (60 - (11 + n)) 0 := by
    unfold Cl.body
    dsimp only
    rw [Int.toNat_natCast, Int.toNat_natCast, hln, show 60 - (11 + n) = 49 - n by omega]
    simp only [List.append_assoc]
  have hb : Below w.heap.size w (w.alloc (.cells #[.int .u32 (gs : Int), .int .u32 (sq : Int), .int .i64 (p : Int), .int .i64 (q : Int), .slice A n c] 73)) := (Below.refl _ _).alloc (Nat.le_refl _) _
  have hB := Blk.new w 73 #[.int .u32 (gs : Int), .int .u32 (sq : Int), .int .i64 (p : Int), .int .i64 (q : Int), .slice A n c]
  have HB := Lib.hid (And.intro hb (And.intro hB (And.intro hr hbody)))
  have hq : -9223372036854775808 ≤ (q : Int) ∧ (q : Int) ≤ 9223372036854775807 := by omega
  have hc0 := hr.rd.cap
  have HR := Lib.hid hr
  clear hb hB hr hbody h1 h2 h3 h4 hln
  go_enter Tryd.func37, Tryd.ntmps37
  go_wp2_with fail
  refine (cmay_any gs sq p q A n c _ hq).mono ?_; rintro e w1 ⟨rfl, hb1⟩
  rw [hm]
  have hb := below_step HB.out.1 hb1 (by simp)
  have hB := HB.out.2.1.below hb1 (by simp)
  have HY := Lib.hid HB.out.2.2.2
  clear hb1 HB
  go_wp2_with fail
  refine wp_region_late [] (fun w' => w'.cell? ⟨w.heap.size, 0, none⟩ = some (.int .u32 (gs : Int)) ∧ w'.cell? ⟨w.heap.size, 1, none⟩ = some (.int .u32 (sq : Int))) (by kernel_rfl) ?_
  have hb := hb.drew
  have hB := hB.drew
  generalize World.drew _ = w2 at *
  have hs2 := hB.lt
  have k0 := hB.cell 0
  have k1 := hB.cell 1
  simp only [List.getElem?_toArray, List.getElem?_cons_zero, List.getElem?_cons_succ] at k0 k1
  refine wpAnyL_take (i := 0) (v := ?_) rfl (by kernel_rfl) (by kernel_rfl) (by kernel_rfl) (by kernel_rfl) (by kernel_rfl) (fun _ _ _ h => h) (Or.inl ⟨by kernel_rfl, ?_⟩) ⟨k0, k1⟩ ?_
  rotate_left
  · rintro w0 ⟨h1_, h2_⟩; go_simp; (try with_reducible rfl)
  try simp only [Act.put, List.getElem_toArray, List.getElem_cons_succ, List.getElem_cons_zero, List.setIfInBounds_toArray, List.set_cons_zero, List.set_cons_succ]
  refine wpAnyL_take (i := 1) (v := ?_) rfl (by kernel_rfl) (by kernel_rfl) (by kernel_rfl) (by kernel_rfl) (by kernel_rfl) (fun _ _ _ h => h) (Or.inl ⟨by kernel_rfl, ?_⟩) ⟨k0, k1⟩ ?_
  rotate_left
  · rintro w0 ⟨h1_, h2_⟩; go_simp; (try with_reducible rfl)
  try simp only [Act.put, List.getElem_toArray, List.getElem_cons_succ, List.getElem_cons_zero, List.setIfInBounds_toArray, List.set_cons_zero, List.set_cons_succ]
  refine wpAnyL_take (i := 3) (v := ?_) rfl (by kernel_rfl) (by kernel_rfl) (by kernel_rfl) (by kernel_rfl) (by kernel_rfl) (fun _ _ _ h => h) (Or.inl ⟨by kernel_rfl, ?_⟩) ⟨k0, k1⟩ ?_
  rotate_left
  · rintro w0 ⟨h1_, h2_⟩; go_simp; (try with_reducible rfl)
  try simp only [Act.put, List.getElem_toArray, List.getElem_cons_succ, List.getElem_cons_zero, List.setIfInBounds_toArray, List.set_cons_zero, List.set_cons_succ]
  refine wpAnyL_take (i := 4) (v := ?_) rfl (by kernel_rfl) (by kernel_rfl) (by kernel_rfl) (by kernel_rfl) (by kernel_rfl) (fun _ _ _ h => h) (Or.inl ⟨by kernel_rfl, ?_⟩) ⟨k0, k1⟩ ?_
  rotate_left
  · rintro w0 ⟨h1_, h2_⟩; go_simp; (try with_reducible rfl)
  try simp only [Act.put, List.getElem_toArray, List.getElem_cons_succ, List.getElem_cons_zero, List.setIfInBounds_toArray, List.set_cons_zero, List.set_cons_succ]
  refine wpAnyL_one (i := 2) (by kernel_rfl) rfl (fun K hK => ?_)
  go_simp
  refine (word_any gs hgs _).mono ?_; rintro e w3 ⟨A3, rfl, ho3, hb3⟩
  have hs3 := hB.lt
  have hb := below_step hb hb3 (by have := hb.size; omega)
  have hB := hB.below hb3 (by have := hB.lt; omega)
  clear k0 k1
  have k0 := hB.cell 0
  have k1 := hB.cell 1
  simp only [List.getElem?_toArray, List.getElem?_cons_zero, List.getElem?_cons_succ] at k0 k1
  go_wp2_with fail
  refine hK.out _ _ (fun _ => ⟨k0, k1⟩) ?_
  clear hK K
  try simp only [Act.put, List.getElem_toArray, List.getElem_cons_succ, List.getElem_cons_zero, List.setIfInBounds_toArray, List.set_cons_zero, List.set_cons_succ]
  refine wpAnyL_one (i := 5) (by kernel_rfl) rfl (fun K hK => ?_)
  go_simp
  refine (word_any sq hsq _).mono ?_; rintro e w4 ⟨A4, rfl, ho4, hb4⟩
  have ho3 := ho3.below hb4
  have hb := below_step hb hb4 (by have := hb.size; omega)
  have hB := hB.below hb4 (by have := hB.lt; omega)
  clear k0 k1
  have k0 := hB.cell 0
  have k1 := hB.cell 1
  simp only [List.getElem?_toArray, List.getElem?_cons_zero, List.getElem?_cons_succ] at k0 k1
  go_wp2_with fail
  refine hK.out _ _ (fun _ => ⟨k0, k1⟩) ?_
  clear hK K
  try simp only [Act.put, List.getElem_toArray, List.getElem_cons_succ, List.getElem_cons_zero, List.setIfInBounds_toArray, List.set_cons_zero, List.set_cons_succ]
  refine wpAnyL_one (i := 6) (by kernel_rfl) rfl (fun K hK => ?_)
  refine step_appI _ rfl (.tmp 10) (.tmp 13) 22 rfl 5 1 Tryd.underlying22 cinfo (by omega) ho3 rfl ho4.ints rfl (by omega) (by have := hb4.size; have := hb3.size; omega) ?_
  intro A5 c5 w5 ho5 hg5 ha5
  have hbs := hb.size
  have hb := below_own hb hg5 (by omega) (fun ad e => by have := (ho3.lt_ ad e).1; omega)
  have hB := hB.grown hg5 (fun e => by cases A3 with | none => cases e | some ad => (have := (ho3.lt_ ad rfl).1; injection e with e; dsimp only at e; omega))
  clear k0 k1
  have k0 := hB.cell 0
  have k1 := hB.cell 1
  simp only [List.getElem?_toArray, List.getElem?_cons_zero, List.getElem?_cons_succ] at k0 k1
  refine hK.out _ _ (fun _ => ⟨k0, k1⟩) ?_
  clear hK K
  try simp only [Act.put, List.getElem_toArray, List.getElem_cons_succ, List.getElem_cons_zero, List.setIfInBounds_toArray, List.set_cons_zero, List.set_cons_succ]
  refine wpAnyL_take (i := 7) (v := ?_) rfl (by kernel_rfl) (by kernel_rfl) (by kernel_rfl) (by kernel_rfl) (by kernel_rfl) (fun _ _ _ h => h) (Or.inl ⟨by kernel_rfl, ?_⟩) ⟨k0, k1⟩ ?_
  rotate_left
  · rintro w0 ⟨h1_, h2_⟩; go_simp; (try with_reducible rfl)
  try simp only [Act.put, List.getElem_toArray, List.getElem_cons_succ, List.getElem_cons_zero, List.setIfInBounds_toArray, List.set_cons_zero, List.set_cons_succ]
  refine wpAnyL_done (by kernel_rfl) ?_ _
  have hs5 := hb.size
  have HO := Lib.hid ho5
  have HG := Lib.hid (show w2.heap.size ≤ w5.heap.size by have := hg5.size; have := hb4.size; have := hb3.size; omega)
  clear ho3 ho4 hb3 hb4 ho5 hg5 ha5 hs3 hbs
  have k2 := hB.cell 2
  have k3 := hB.cell 3
  have k4 := hB.cell 4
  simp only [List.getElem?_toArray, List.getElem?_cons_zero, List.getElem?_cons_succ] at k2 k3 k4
  have ep : (p : Int) % 256 = (p : Int) := by omega
  have eq_ : (q : Int) % 256 = (q : Int) := by omega
  have en : (n : Int) % 256 = (n : Int) := by omega
  have hlit := (OwnI.lit (w := w5) .u8 256 5 (n := 3) (cs := #[.int .u8 (p : Int), .int .u8 (q : Int), .int .u8 (n : Int)]) [p, q, n] (base := w.heap.size) (g := w5.heap.size) rfl rfl rfl (by intro x hx; simp only [List.mem_cons, List.not_mem_nil, or_false] at hx; rcases hx with rfl | rfl | rfl <;> omega) (by omega) hs5).ints
  have hB6 := hB.alloc (.cells #[.int .u8 (p : Int), .int .u8 (q : Int), .int .u8 (n : Int)] 5)
  have HL := Lib.hid (And.intro hlit (And.intro hb (And.intro hB6 hs2)))
  clear hlit hb hB6 hs2 hs5
  have hs5g := HG.out
  go_wp2_with (first
    | (at_builtin; refine wpList_appI _ rfl (.tmp 15) (.tmp 26) _ rfl 5 1 Tryd.underlying22 cinfo (by omega) (HO.out.alloc _) rfl HL.out.1 rfl (by omega) (by simp; omega) ?_; intro A6 c6 w6 ho6 hg6 ha6; clear k0 k1 k2 k3 k4; have hs6 := hg6.size; rw [World.size_alloc] at hs6; have k4 := ((HL.out.2.2.1).grown hg6 (fun e => by cases A5 with | none => cases e | some ad => (have := (HO.out.lt_ ad rfl).1; have := HL.out.2.2.2; injection e with e; dsimp only at e; omega))).cell 4; simp only [List.getElem?_toArray, List.getElem?_cons_zero, List.getElem?_cons_succ] at k4; have hb6 := below_own (HL.out.2.1.alloc HL.out.2.1.size _) hg6 (by have := HL.out.2.1.size; simp; omega) (fun ad e => by have := (HO.out.lt_ ad e).1; have := HL.out.2.2.2; omega); have H6 := Lib.hid (And.intro ho6 (And.intro hb6 (HR.out.below hb6))); clear ho6 hg6 ha6 hb6)
    | (at_builtin; refine wpList_appI _ rfl (.tmp 28) (.tmp 30) _ rfl 5 1 Tryd.underlying22 cinfo (by omega) H6.out.1 rfl H6.out.2.2 rfl (by omega) (by omega) ?_; intro A7 c7 w7 ho7 hg7 ha7; clear k4; have hs7 := hg7.size; have hb7 := below_own H6.out.2.1 hg7 H6.out.2.1.size (fun ad e => by have := (H6.out.1.lt_ ad e).1; have := HL.out.2.2.2; omega); have H7 := Lib.hid (And.intro ho7 hb7); clear ho7 hg7 ha7 hb7)
    | (at_builtin; refine wpList_appZ _ rfl (.tmp 32) (.tmp 35) 22 3 rfl (by omega) 5 Tryd.underlying22 Tryd.underlying3 cinfo H7.out.1 rfl (m := 60 - (11 + n)) rfl (by omega) (by omega) (by omega) ?_; intro A8 c8 w8 ho8 hg8 ha8; have hb8 := below_own H7.out.2 hg8 H7.out.2.size (fun ad e => by have := (H7.out.1.lt_ ad e).1; have := HL.out.2.2.2; omega); have H8 := Lib.hid (And.intro ho8 hb8); clear ho8 hg8 ha8 hb8)
    | (go_at_call 61; refine (seal_any _ _ _ _ _ H8.out.1.ints (by omega)).mono ?_; rintro e w9 ⟨A9, c9, rfl, ho9, hb9⟩; have H9 := Lib.hid (And.intro ho9 hb9); clear ho9 hb9))
  go_ret2
  have ho := H9.out.1.mono H8.out.2.size
  have e64 : 4 + (4 + 4 + 3 + n + (60 - (11 + n))) = 64 := by omega
  rw [e64] at ho
  refine ⟨A9, c9, ?_, ?_, below_step H8.out.2 H9.out.2 H8.out.2.size⟩
  · rw [e64]; rfl
  · unfold Cl.enc
    rw [HY.out]
    exact ho
end Go.Proofs.YtdlcngmcjidomaaDoor
