/- The law RatioRows, walked. No condition but the reach of a slice. -/
import Derived.Test.YticjhlbmdjijnaaGreatDoorHQAwake
import Derived.Test.YticjhlbmdjijnaaGreatDoorHQFew
import Derived.Test.YticjhlbmdjijnaaGreatDoorHQT
import Derived.Test.YticjhlbmdjijnaaGreatDoorHQU
import Derived.Test.YticjhlbmdjijnaaGreatDoorHQBack
import Derived.Test.YticjhlbmdjijnaaGreatDoorHLawQ
namespace Go.Proofs.YticjhlbmdjijnaaGreatDoor
set_option linter.unusedSimpArgs false
set_option linter.unusedVariables false
open Go.RowKit

theorem qv_ltr {x y : Int} {K : Nat} (h1 : 1 ≤ K) (hx : x.natAbs < 4294967296 ^ K) (hy : y.natAbs < 4294967296 ^ K) : (qv x y).num.natAbs < 4294967296 ^ K ∧ (((qv x y).den : Nat) : Int).natAbs < 4294967296 ^ K := by
  by_cases h : 0 < y
  · rw [qv_pos h]; exact ⟨qnum_lt h hx, qden_lt h hy⟩
  · have e : qv x y = 0 := by unfold qv; exact if_neg h
    rw [e]
    have hk : 4294967296 ^ 1 ≤ 4294967296 ^ K := Nat.pow_le_pow_right (by decide) h1
    exact ⟨Nat.lt_of_lt_of_le (by decide) hk, Nat.lt_of_lt_of_le (by decide) hk⟩
/-- A row's fraction, and its bytes. -/
def QEl.r (x : QEl) : Rat := qv (zv x.b (vl x.l)) (zv x.b' (vl x.l'))
def qbs (xs : List QEl) : List Nat := xs.flatMap (fun x => qenc x.r)
theorem qbs_take {xs : List QEl} {i : Nat} {x : QEl} (hx : xs[i]? = some x) : qbs (xs.take (i + 1)) = qbs (xs.take i) ++ qenc x.r := by
  unfold qbs
  rw [List.take_add_one, hx, List.flatMap_append]
  simp
theorem qbs_drop {xs : List QEl} {i : Nat} {x : QEl} (hx : xs[i]? = some x) : qbs (xs.drop i) = qenc x.r ++ qbs (xs.drop (i + 1)) := by
  unfold qbs
  rw [List.drop_eq_getElem_cons (List.getElem?_eq_some_iff.1 hx).1, List.flatMap_cons, (List.getElem?_eq_some_iff.1 hx).2]
theorem few_take {xs : List QEl} {i : Nat} {x : QEl} (hx : xs[i]? = some x) (h : ∀ y ∈ xs.take i, y.n ≤ 4 ∧ y.n' ≤ 4) (h2 : x.n ≤ 4 ∧ x.n' ≤ 4) : ∀ y ∈ xs.take (i + 1), y.n ≤ 4 ∧ y.n' ≤ 4 := by
  intro y hy
  rw [List.take_add_one, hx] at hy
  rcases List.mem_append.1 hy with hy | hy
  · exact h y hy
  · simp at hy; subst hy; exact h2
theorem q_back {w : World} {x : QEl} (h : Lim w x.A x.n x.c x.l) (h' : Lim w x.A' x.n' x.c' x.l') (hn : x.n ≤ 4) (hn' : x.n' ≤ 4) (R : List Nat) : qrok (qenc x.r ++ R) = true ∧ qrv (qenc x.r ++ R) = x.r ∧ qrl (qenc x.r ++ R) = R := by
  have hlt := qv_ltr (K := 4) (by decide) (ZIs.of_lim (b := x.b) (k := 4) h hn).lt (ZIs.of_lim (b := x.b') (k := 4) h' hn').lt
  exact qread_enc x.r R (Nat.le_trans (Num.dig_len_le (by decide) 4 _ hlt.1) (by decide)) (Nat.le_trans (Num.dig_len_le (by decide) 4 _ hlt.2) (by decide))
theorem cell_lt_ {w : World} {p : Addr} {v : Value} (h : w.cell? p = some v) : p.block < w.heap.size := by
  rcases Nat.lt_or_ge p.block w.heap.size with h1 | h1
  · exact h1
  · have h2 : w.heap[p.block]? = none := Array.getElem?_eq_none h1
    unfold World.cell? at h
    simp [h2] at h
theorem below_cell {w w' : World} {p : Addr} {v : Value} (hb : Below w.heap.size w w') (h : w.cell? p = some v) : w'.cell? p = some v := (hb.cell (cell_lt_ h)).trans h
theorem alloc_cell_ {w : World} {p : Addr} {v : Value} (h : w.cell? p = some v) (o : Obj) : (w.alloc o).cell? p = some v := (World.cell?_alloc_lt w o p (cell_lt_ h)).trans h
theorem qrok_nil : qrok [] = false := by decide

set_option maxRecDepth 100000 in
set_option maxHeartbeats 6400000 in
theorem ratioRows_any (A : Option Addr) (n c : Nat) (xs : List QEl) (w : World) (hr : QRows w A n c xs) (hn : n ≤ maxLen) : Calls Tryz.prog 11 #[.slice A n c] w fun e w' => e = .returned (.bool true) ∧ Below w.heap.size w w' := by
  unfold maxLen at hn
  by_cases h4 : 4 < n
  · have h4i : (4 : Int) < (n : Int) := by omega
    go_enter Tryz.func11, Tryz.ntmps11
    go_wp2_with fail
    refine (qawake_any _).mono ?_; rintro e w1 ⟨rfl, hb1⟩
    go_wp2_with fail
    go_ret
    exact ⟨rfl, hb1⟩
  have h4i : ¬ (4 : Int) < (n : Int) := by omega
  have hL := hr.len
  go_enter Tryz.func11, Tryz.ntmps11
  go_wp2_with fail
  refine (qawake_any _).mono ?_; rintro e w1 ⟨rfl, hb1⟩
  go_wp2_with fail
  go_loopw [3, 4] (fun bv iv wr => ∃ (i : Nat) (A2 : Option Addr) (m c2 : Nat), i ≤ n ∧ iv = .int .i64 (i : Int) ∧ bv = .slice A2 m c2 ∧ m ≤ 40 * i ∧ OwnB wr w.heap.size A2 m c2 (qbs (xs.take i)) ∧ Hid (∀ y ∈ xs.take i, y.n ≤ 4 ∧ y.n' ≤ 4) ∧ Below w.heap.size w wr) (fun _ iv _ => n - (intOf iv).toNat)
  case atStart => exact ⟨0, none, 0, 0, Nat.zero_le _, rfl, rfl, by omega, OwnI.nil_ .., (show ∀ y ∈ xs.take 0, _ from fun y hy => by simp at hy), hb1⟩
  case round =>
    obtain ⟨i, A2, m, c2, hi, rfl, rfl, hm, ho, hf, hb⟩ := hrel
    by_cases hlt : i < n
    · have hlti : (i : Int) < (n : Int) := by omega
      obtain ⟨b, o, x, rfl, hx, ⟨k0, k1, k2, k3⟩, l1, _, l2, _⟩ := (hr.below hb).get hlt
      obtain ⟨xb, xA, xn, xc, xl, yb, yA, yn, yc, yl⟩ := x
      dsimp only at k0 k1 k2 k3 l1 l2
      have HX := Lib.hid hx
      clear hx
      go_wp2_with fail
      refine (qfew _ _ _ _ _ _ _ _ _).mono ?_; rintro e w3 ⟨rfl, hb3⟩
      have hb03 := below_step hb hb3 hb.size
      by_cases h44 : xn ≤ 4 ∧ yn ≤ 4
      · rw [decide_eq_true h44]
        have j0 := (below_cell hb3 k0)
        have j1 := (below_cell hb3 k1)
        have j2 := (below_cell hb3 k2)
        have j3 := (below_cell hb3 k3)
        clear k0 k1 k2 k3
        go_wp2_with fail
        refine (qbytes (k := 4) (ZIs.of_lim (b := xb) (k := 4) (l1.below hb3) h44.1) (ZIs.of_lim (b := yb) (k := 4) (l2.below hb3) h44.2) (Nat.le_refl _) (Nat.le_refl _) (by decide) (by decide) rfl (by decide)).mono ?_; rintro e w4 ⟨A5, m5, c5, rfl, hm5, ho5, hb5⟩
        have hb05 := below_step hb03 hb5 hb03.size
        have ho4 := (ho.below hb3).below hb5
        go_wp2_with (at_builtin; refine wpList_appI _ rfl (.tmp 29) (.tmp 34) _ rfl 5 1 Tryz.underlying38 info_byte (by omega) ho4 rfl ho5.ints rfl (by omega) (by have := hb05.size; omega) ?_; intro A6 c6 w6 ho6 hg6 ha6)
        go_roundw
        case rel =>
          refine ⟨i + 1, A6, m + m5, c6, by omega, by go_num, rfl, by omega, ?_, few_take HX.out hf.out h44, below_own hb05 hg6 hb05.size (fun ad h => (ho4.lt_ ad h).1)⟩
          rw [qbs_take HX.out]
          exact ho6
        case measure => simp [intOf]; omega
      · rw [decide_eq_false h44]
        go_wp2_with fail
        go_ret
        exact ⟨rfl, hb03⟩
    · obtain rfl : n = i := by omega
      rw [List.take_of_length_le (by omega)] at ho hf
      have hy0 := ho.ints
      have HF := Lib.hid hf.out
      clear ho hf
      go_wp2_with fail
      go_loopw [3, 5] (fun bv iv w2 => ∃ (i : Nat) (A2 : Option Addr) (m c2 : Nat), i ≤ n ∧ iv = .int .i64 (i : Int) ∧ bv = .slice A2 m c2 ∧ m ≤ 160 ∧ Byt w2 A2 m c2 (qbs (xs.drop i)) ∧ Below w.heap.size w w2) (fun _ iv _ => n - (intOf iv).toNat)
      case atStart => exact ⟨0, A2, m, c2, Nat.zero_le _, rfl, rfl, by omega, hy0, hb⟩
      case round =>
        obtain ⟨i, A3, m3, c3, hi, rfl, rfl, hm3, hy, hb2⟩ := hrel
        by_cases hlt : i < n
        · have hlti : (i : Int) < (n : Int) := by omega
          obtain ⟨b, o, x, rfl, hx, ⟨k0, k1, k2, k3⟩, l1, _, l2, _⟩ := (hr.below hb2).get hlt
          have h44 := HF.out x (List.mem_of_getElem? hx)
          obtain ⟨q1, q2, q3⟩ := q_back l1 l2 h44.1 h44.2 (qbs (xs.drop (i + 1)))
          rw [← qbs_drop hx] at q1 q2 q3
          have hrd := fun w0 h0 => qread A3 m3 c3 (qbs (xs.drop i)) w0 h0 (by omega)
          simp only [q1, q2, q3] at hrd
          obtain ⟨xb, xA, xn, xc, xl, yb, yA, yn, yc, yl⟩ := x
          obtain ⟨v, hv⟩ : ∃ v, QEl.r ⟨xb, xA, xn, xc, xl, yb, yA, yn, yc, yl⟩ = v := ⟨_, rfl⟩
          rw [hv] at hrd
          dsimp only at k0 k1 k2 k3 l1 l2 h44
          have hv : qv (zv xb (vl xl)) (zv yb (vl yl)) = v := hv
          have HV := Lib.hid hv
          clear hv hx q1 q2 q3
          go_wp2_with fail
          refine (hrd _ hy).mono ?_; rintro e w3 ⟨b3, A3', n3, b4, A4, n4, A5, m5, c5, rfl, hm5, z3, z4, hy5, hb3⟩
          have hb03 := below_step hb2 hb3 hb2.size
          have j0 := (below_cell hb3 k0)
          have j1 := (below_cell hb3 k1)
          have j2 := (below_cell hb3 k2)
          have j3 := (below_cell hb3 k3)
          have E0 := ((((((Env.nil_ w).below hb03).add z3).add z4).add (ZIs.of_lim (b := xb) (k := 4) (l1.below hb3) h44.1)).add (ZIs.of_lim (b := yb) (k := 4) (l2.below hb3) h44.2)).alloc 26 #[.bool b3, .slice A3' n3 n3, .bool b4, .slice A4 n4 n4] (g := w3.heap.size) rfl rfl
          have j0 := alloc_cell_ j0 (.cells #[.bool b3, .slice A3' n3 n3, .bool b4, .slice A4 n4 n4] 26)
          have j1 := alloc_cell_ j1 (.cells #[.bool b3, .slice A3' n3 n3, .bool b4, .slice A4 n4 n4] 26)
          have j2 := alloc_cell_ j2 (.cells #[.bool b3, .slice A3' n3 n3, .bool b4, .slice A4 n4 n4] 26)
          have j3 := alloc_cell_ j3 (.cells #[.bool b3, .slice A3' n3 n3, .bool b4, .slice A4 n4 n4] 26)
          have hy6 := (hy5.alloc (.cells #[.bool b3, .slice A3' n3 n3, .bool b4, .slice A4 n4 n4] 26)).drew
          have E1 := E0.drew
          have s0 := And.intro (E1.cell 0 0 rfl rfl) (And.intro (E1.cell 0 1 rfl rfl) (And.intro (E1.cell 0 2 rfl rfl) (And.intro (E1.cell 0 3 rfl rfl) (And.intro j0 (And.intro j1 (And.intro j2 j3))))))
          clear k0 k1 k2 k3 z3 z4 hrd l1 l2 hy5 hy E0
          go_wp2_with fail
          refine wp_region_late [] (fun w' => w'.cell? ⟨w3.heap.size, 0, none⟩ = some (.bool b3) ∧ w'.cell? ⟨w3.heap.size, 1, none⟩ = some (.slice A3' n3 n3) ∧ w'.cell? ⟨w3.heap.size, 2, none⟩ = some (.bool b4) ∧ w'.cell? ⟨w3.heap.size, 3, none⟩ = some (.slice A4 n4 n4) ∧ w'.cell? ⟨b, o + i * 4, none⟩ = some (.bool xb) ∧ w'.cell? ⟨b, o + i * 4 + 1, none⟩ = some (.slice xA xn xc) ∧ w'.cell? ⟨b, o + i * 4 + 2, none⟩ = some (.bool yb) ∧ w'.cell? ⟨b, o + i * 4 + 3, none⟩ = some (.slice yA yn yc)) (by kernel_rfl) ?_
          refine wpAnyL_take (i := 0) (v := ?_) rfl (by kernel_rfl) (by kernel_rfl) (by kernel_rfl) (by kernel_rfl) (by kernel_rfl) (fun _ _ _ h => h) (Or.inl ⟨by kernel_rfl, ?_⟩) s0 ?_
          rotate_left
          · rintro w0 ⟨h1_, h2_, h3_, h4_, h5_, h6_, h7_, h8_⟩; go_simp; (try with_reducible rfl)
          try simp only [Act.put, List.getElem_toArray, List.getElem_cons_succ, List.getElem_cons_zero, List.setIfInBounds_toArray, List.set_cons_zero, List.set_cons_succ]
          refine wpAnyL_take (i := 1) (v := ?_) rfl (by kernel_rfl) (by kernel_rfl) (by kernel_rfl) (by kernel_rfl) (by kernel_rfl) (fun _ _ _ h => h) (Or.inl ⟨by kernel_rfl, ?_⟩) s0 ?_
          rotate_left
          · rintro w0 ⟨h1_, h2_, h3_, h4_, h5_, h6_, h7_, h8_⟩; go_simp; (try with_reducible rfl)
          try simp only [Act.put, List.getElem_toArray, List.getElem_cons_succ, List.getElem_cons_zero, List.setIfInBounds_toArray, List.set_cons_zero, List.set_cons_succ]
          refine wpAnyL_take (i := 2) (v := ?_) rfl (by kernel_rfl) (by kernel_rfl) (by kernel_rfl) (by kernel_rfl) (by kernel_rfl) (fun _ _ _ h => h) (Or.inl ⟨by kernel_rfl, ?_⟩) s0 ?_
          rotate_left
          · rintro w0 ⟨h1_, h2_, h3_, h4_, h5_, h6_, h7_, h8_⟩; go_simp; (try with_reducible rfl)
          try simp only [Act.put, List.getElem_toArray, List.getElem_cons_succ, List.getElem_cons_zero, List.setIfInBounds_toArray, List.set_cons_zero, List.set_cons_succ]
          refine wpAnyL_take (i := 3) (v := ?_) rfl (by kernel_rfl) (by kernel_rfl) (by kernel_rfl) (by kernel_rfl) (by kernel_rfl) (fun _ _ _ h => h) (Or.inl ⟨by kernel_rfl, ?_⟩) s0 ?_
          rotate_left
          · rintro w0 ⟨h1_, h2_, h3_, h4_, h5_, h6_, h7_, h8_⟩; go_simp; (try with_reducible rfl)
          try simp only [Act.put, List.getElem_toArray, List.getElem_cons_succ, List.getElem_cons_zero, List.setIfInBounds_toArray, List.set_cons_zero, List.set_cons_succ]
          refine wpAnyL_take (i := 4) (v := ?_) rfl (by kernel_rfl) (by kernel_rfl) (by kernel_rfl) (by kernel_rfl) (by kernel_rfl) (fun _ _ _ h => h) (Or.inl ⟨by kernel_rfl, ?_⟩) s0 ?_
          rotate_left
          · rintro w0 ⟨h1_, h2_, h3_, h4_, h5_, h6_, h7_, h8_⟩; go_simp; (try with_reducible rfl)
          try simp only [Act.put, List.getElem_toArray, List.getElem_cons_succ, List.getElem_cons_zero, List.setIfInBounds_toArray, List.set_cons_zero, List.set_cons_succ]
          refine wpAnyL_take (i := 5) (v := ?_) rfl (by kernel_rfl) (by kernel_rfl) (by kernel_rfl) (by kernel_rfl) (by kernel_rfl) (fun _ _ _ h => h) (Or.inl ⟨by kernel_rfl, ?_⟩) s0 ?_
          rotate_left
          · rintro w0 ⟨h1_, h2_, h3_, h4_, h5_, h6_, h7_, h8_⟩; go_simp; (try with_reducible rfl)
          try simp only [Act.put, List.getElem_toArray, List.getElem_cons_succ, List.getElem_cons_zero, List.setIfInBounds_toArray, List.set_cons_zero, List.set_cons_succ]
          refine wpAnyL_take (i := 6) (v := ?_) rfl (by kernel_rfl) (by kernel_rfl) (by kernel_rfl) (by kernel_rfl) (by kernel_rfl) (fun _ _ _ h => h) (Or.inl ⟨by kernel_rfl, ?_⟩) s0 ?_
          rotate_left
          · rintro w0 ⟨h1_, h2_, h3_, h4_, h5_, h6_, h7_, h8_⟩; go_simp; (try with_reducible rfl)
          try simp only [Act.put, List.getElem_toArray, List.getElem_cons_succ, List.getElem_cons_zero, List.setIfInBounds_toArray, List.set_cons_zero, List.set_cons_succ]
          refine wpAnyL_take (i := 7) (v := ?_) rfl (by kernel_rfl) (by kernel_rfl) (by kernel_rfl) (by kernel_rfl) (by kernel_rfl) (fun _ _ _ h => h) (Or.inl ⟨by kernel_rfl, ?_⟩) s0 ?_
          rotate_left
          · rintro w0 ⟨h1_, h2_, h3_, h4_, h5_, h6_, h7_, h8_⟩; go_simp; (try with_reducible rfl)
          try simp only [Act.put, List.getElem_toArray, List.getElem_cons_succ, List.getElem_cons_zero, List.setIfInBounds_toArray, List.set_cons_zero, List.set_cons_succ]
          refine wpAnyL_one (i := 8) (by kernel_rfl) rfl (fun K hK => ?_)
          go_simp
          refine (rqplain (K := 4) (E1.z 1 rfl) (E1.z 0 rfl) (by decide) (by decide) (by decide) (by decide) HV.out).mono ?_; rintro e w5 ⟨b5, A6, n6, c6, b7, A7, n7, c7, rfl, z5, z6, hb5⟩
          have E2 := ((E1.below hb5).add z5).add z6
          have s5 : (fun w' => w'.cell? ⟨w3.heap.size, 0, none⟩ = some (.bool b3) ∧ w'.cell? ⟨w3.heap.size, 1, none⟩ = some (.slice A3' n3 n3) ∧ w'.cell? ⟨w3.heap.size, 2, none⟩ = some (.bool b4) ∧ w'.cell? ⟨w3.heap.size, 3, none⟩ = some (.slice A4 n4 n4) ∧ w'.cell? ⟨b, o + i * 4, none⟩ = some (.bool xb) ∧ w'.cell? ⟨b, o + i * 4 + 1, none⟩ = some (.slice xA xn xc) ∧ w'.cell? ⟨b, o + i * 4 + 2, none⟩ = some (.bool yb) ∧ w'.cell? ⟨b, o + i * 4 + 3, none⟩ = some (.slice yA yn yc)) w5 := ⟨below_cell hb5 s0.1, below_cell hb5 s0.2.1, below_cell hb5 s0.2.2.1, below_cell hb5 s0.2.2.2.1, below_cell hb5 s0.2.2.2.2.1, below_cell hb5 s0.2.2.2.2.2.1, below_cell hb5 s0.2.2.2.2.2.2.1, below_cell hb5 s0.2.2.2.2.2.2.2⟩
          go_wp2_with fail
          refine hK.out _ _ (fun _ => s5) ?_
          clear hK K
          try simp only [Act.put, List.getElem_toArray, List.getElem_cons_succ, List.getElem_cons_zero, List.setIfInBounds_toArray, List.set_cons_zero, List.set_cons_succ]
          refine wpAnyL_one (i := 9) (by kernel_rfl) rfl (fun K hK => ?_)
          go_simp
          refine (rqsame (E2.z 5 rfl) (E2.z 4 rfl) (E2.z 1 rfl) (E2.z 0 rfl) (by decide) (by decide) (by decide) (by decide) (qsame_eq rfl)).mono ?_; rintro e w6 ⟨rfl, hb6⟩
          have E3 := E2.below hb6
          have s6 : (fun w' => w'.cell? ⟨w3.heap.size, 0, none⟩ = some (.bool b3) ∧ w'.cell? ⟨w3.heap.size, 1, none⟩ = some (.slice A3' n3 n3) ∧ w'.cell? ⟨w3.heap.size, 2, none⟩ = some (.bool b4) ∧ w'.cell? ⟨w3.heap.size, 3, none⟩ = some (.slice A4 n4 n4) ∧ w'.cell? ⟨b, o + i * 4, none⟩ = some (.bool xb) ∧ w'.cell? ⟨b, o + i * 4 + 1, none⟩ = some (.slice xA xn xc) ∧ w'.cell? ⟨b, o + i * 4 + 2, none⟩ = some (.bool yb) ∧ w'.cell? ⟨b, o + i * 4 + 3, none⟩ = some (.slice yA yn yc)) w6 := ⟨below_cell hb6 s5.1, below_cell hb6 s5.2.1, below_cell hb6 s5.2.2.1, below_cell hb6 s5.2.2.2.1, below_cell hb6 s5.2.2.2.2.1, below_cell hb6 s5.2.2.2.2.2.1, below_cell hb6 s5.2.2.2.2.2.2.1, below_cell hb6 s5.2.2.2.2.2.2.2⟩
          go_wp2_with fail
          refine hK.out _ _ (fun _ => s6) ?_
          clear hK K
          try simp only [Act.put, List.getElem_toArray, List.getElem_cons_succ, List.getElem_cons_zero, List.setIfInBounds_toArray, List.set_cons_zero, List.set_cons_succ]
          refine wpAnyL_take (i := 10) (v := ?_) rfl (by kernel_rfl) (by kernel_rfl) (by kernel_rfl) (by kernel_rfl) (by kernel_rfl) (fun _ _ _ h => h) (Or.inl ⟨by kernel_rfl, ?_⟩) s6 ?_
          rotate_left
          · rintro w0 ⟨h1_, h2_, h3_, h4_, h5_, h6_, h7_, h8_⟩; go_simp; (try with_reducible rfl)
          try simp only [Act.put, List.getElem_toArray, List.getElem_cons_succ, List.getElem_cons_zero, List.setIfInBounds_toArray, List.set_cons_zero, List.set_cons_succ]
          refine wpAnyL_take (i := 11) (v := ?_) rfl (by kernel_rfl) (by kernel_rfl) (by kernel_rfl) (by kernel_rfl) (by kernel_rfl) (fun _ _ _ h => h) (Or.inl ⟨by kernel_rfl, ?_⟩) s6 ?_
          rotate_left
          · rintro w0 ⟨h1_, h2_, h3_, h4_, h5_, h6_, h7_, h8_⟩; go_simp; (try with_reducible rfl)
          try simp only [Act.put, List.getElem_toArray, List.getElem_cons_succ, List.getElem_cons_zero, List.setIfInBounds_toArray, List.set_cons_zero, List.set_cons_succ]
          refine wpAnyL_done (by kernel_rfl) ?_ _
          have hy7 := (hy6.below hb5).below hb6
          go_wp2_with fail
          go_roundw
          case rel => exact ⟨i + 1, A5, m5, c5, by omega, by go_num, rfl, by omega, hy7, E3.bel⟩
          case measure => simp [intOf]; omega
        · obtain rfl : n = i := by omega
          rw [List.drop_of_length_le (by omega)] at hy
          obtain rfl : 0 = m3 := hy.len
          have hrd := fun w0 h0 => qread A3 0 c3 (qbs []) w0 h0 (by omega)
          rw [show qbs [] = [] from rfl, qrok_nil] at hrd
          rw [show qbs [] = [] from rfl] at hy
          go_wp2_with fail
          refine (hrd _ hy).mono ?_; rintro e w3 ⟨b3, A3', n3, b4, A4, n4, A5, m5, c5, rfl, hm5, z3, z4, hy5, hb3⟩
          have hb03 := below_step hb2 hb3 hb2.size
          have hb04 := hb03.alloc hb03.size (.cells #[.bool b3, .slice A3' n3 n3, .bool b4, .slice A4 n4 n4] 26)
          have hy4 := (hy.below hb3).alloc (.cells #[.bool b3, .slice A3' n3 n3, .bool b4, .slice A4 n4 n4] 26)
          clear z3 z4 hy5
          go_wp2_with fail
          refine (rows_true _ _ _ _ _ _ _ _ _ hy4 (Ints.nil_ _ .u8 256 none 0) (by omega) (by omega) rfl).mono ?_; rintro e w5 ⟨rfl, hb5⟩
          go_wp2_with fail
          go_ret
          exact ⟨rfl, below_step hb04 hb5 hb04.size⟩
end Go.Proofs.YticjhlbmdjijnaaGreatDoor
