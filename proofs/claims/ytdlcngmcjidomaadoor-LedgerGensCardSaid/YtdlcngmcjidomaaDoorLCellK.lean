/- The contract of cell.Join. No condition but the reach of a slice. -/
import Derived.Test.YtdlcngmcjidomaaDoorLCellJ
namespace Go.Proofs.YtdlcngmcjidomaaDoor
set_option linter.unusedSimpArgs false
set_option linter.unusedVariables false
open Go.RowKit

/-- What Join hands back. -/
def JoinPost (w : World) (l : List Cl) (e : Ending) (w' : World) : Prop :=
  ∃ A2 m c2, e = .returned (.tuple #[.slice A2 m c2, .int .i64 (Cl.joinCode l)]) ∧ OwnI w' w.heap.size .u8 256 5 A2 m c2 (Cl.join l) ∧ Below w.heap.size w w'
theorem join_no {w w' : World} {l : List Cl} (h : Cl.joins l = false) (hb : Below w.heap.size w w') : JoinPost w l (.returned (.tuple #[.slice none 0 0, .int .i64 2])) w' := by
  refine ⟨none, 0, 0, ?_, ?_, hb⟩
  · unfold Cl.joinCode; rw [h]; rfl
  · unfold Cl.join; rw [h]; exact OwnI.nil_ ..
theorem join_yes {w w' : World} {l : List Cl} {A : Option Addr} {m c : Nat} (h : Cl.joins l = true) (ho : OwnI w' w.heap.size .u8 256 5 A m c (Cl.flat l)) (hb : Below w.heap.size w w') : JoinPost w l (.returned (.tuple #[.slice A m c, .int .i64 0])) w' := by
  refine ⟨A, m, c, ?_, ?_, hb⟩
  · unfold Cl.joinCode; rw [h]; rfl
  · unfold Cl.join; rw [h]; exact ho
theorem cell_lt_ {w : World} {p : Addr} {v : Value} (h : w.cell? p = some v) : p.block < w.heap.size := by
  rcases Nat.lt_or_ge p.block w.heap.size with h1 | h1
  · exact h1
  · have h2 : w.heap[p.block]? = none := Array.getElem?_eq_none h1
    unfold World.cell? at h
    simp [h2] at h
theorem below_cell {w w' : World} {p : Addr} {v : Value} (hb : Below w.heap.size w w') (h : w.cell? p = some v) : w'.cell? p = some v := (hb.cell (cell_lt_ h)).trans h
theorem alloc_cell_ {w : World} {p : Addr} {v : Value} (h : w.cell? p = some v) (o : Obj) : (w.alloc o).cell? p = some v := (World.cell?_alloc_lt w o p (cell_lt_ h)).trans h
theorem not_right {l : List Cl} {i : Nat} {x : Cl} (hx : l[i]? = some x) (h : ¬ Cl.Right l i x) : Cl.joins l = false := by
  cases hj : Cl.joins l with
  | false => rfl
  | true => exact absurd ((Cl.joins_right hj).2 i x hx) h
theorem flat_take {l : List Cl} {i : Nat} {x : Cl} (hx : l[i]? = some x) : Cl.flat (l.take (i + 1)) = Cl.flat (l.take i) ++ x.data := by
  unfold Cl.flat
  rw [List.take_add_one, hx, List.flatMap_append]
  simp

set_option maxRecDepth 100000 in
set_option maxHeartbeats 6400000 in
theorem cjoin_any {A : Option Addr} {n c : Nat} {xs : List CEl} {w : World} (hr : CRd w A n c xs) (hn : (n : Int) ≤ 9223372036854775807) :
    Calls Tryd.prog 35 #[.slice A n c] w (JoinPost w (xs.map (·.x))) := by
  have hL := hr.len
  obtain ⟨L, hLL⟩ : ∃ L, xs.map (·.x) = L := ⟨_, rfl⟩
  have hLn : L.length = n := by rw [← hLL, List.length_map, hL]
  rw [hLL]
  go_enter Tryd.func35, Tryd.ntmps35
  go_wp2_with fail
  go_loopw [4, 9] (fun bv iv wr => ∃ (i : Nat) (A2 : Option Addr) (m c2 : Nat), i ≤ n ∧ iv = .int .i64 (i : Int) ∧ bv = .slice A2 m c2 ∧ m ≤ 49 * i ∧ (0 < i → n ≤ 8) ∧ OwnI wr w.heap.size .u8 256 5 A2 m c2 (Cl.flat (L.take i)) ∧ Hid (∀ (j : Nat) (x : Cl), j < i → L[j]? = some x → Cl.Right L j x) ∧ Below w.heap.size w wr) (fun _ iv _ => n - (intOf iv).toNat)
  case atStart => exact ⟨0, none, 0, 0, Nat.zero_le _, rfl, rfl, by omega, by omega, OwnI.nil_ .., (show ∀ (j : Nat) (x : Cl), j < 0 → L[j]? = some x → Cl.Right L j x from fun j x h => by omega), Below.refl _ _⟩
  case round =>
    obtain ⟨i, A2, m, c2, hi, rfl, rfl, hm, h8, ho, hR, hb⟩ := hrel
    by_cases hlt : i < n
    · have hlti : (i : Int) < (n : Int) := by omega
      obtain ⟨b, o, e, hA, hbl, hx, he, k0, k1, k2, k3, k4⟩ := (hr.below hb).get hlt
      obtain ⟨b', o', e0, hA', hbl', hx0, he0, z0, z1, _, _, _⟩ := (hr.below hb).get (k := 0) (by omega)
      subst hA
      cases hA'
      rw [Nat.zero_mul, Nat.add_zero] at z0 z1
      have hLx : L[i]? = some e.x := by rw [← hLL, List.getElem?_map, hx]; rfl
      have hL0 : L.headD Cl.zero = e0.x := by
        have h1 : L[0]? = some e0.x := by rw [← hLL, List.getElem?_map, hx0]; rfl
        cases L with
        | nil => simp at h1
        | cons y ys => simpa using h1
      obtain ⟨⟨gs, sq, pt, ps, dt⟩, eA, en, ec⟩ := e
      obtain ⟨⟨g0, s0, p0, r0, d0⟩, fA, fn, fc⟩ := e0
      have hp := he.parts
      have hdl := he.ints.len
      have hie := he.ints
      dsimp only at k0 k1 k2 k3 k4 z0 z1 hp hdl hie
      have HX := Lib.hid (And.intro hLx hL0)
      clear hx hx0 he he0 hLx hL0
      go_wp2_with fail
      have hn0 : 0 < n := by omega
      have B := Blk.new wr 73 #[.int .u32 (gs : Int), .int .u32 (sq : Int), .int .i64 pt, .int .i64 ps, .slice eA en ec]
      have t0 : (fun w' => w'.cell? ⟨wr.heap.size, 0, none⟩ = some (.int .u32 (gs : Int)) ∧ w'.cell? ⟨wr.heap.size, 1, none⟩ = some (.int .u32 (sq : Int)) ∧ w'.cell? ⟨wr.heap.size, 2, none⟩ = some (.int .i64 pt) ∧ w'.cell? ⟨wr.heap.size, 3, none⟩ = some (.int .i64 ps) ∧ w'.cell? ⟨wr.heap.size, 4, none⟩ = some (.slice eA en ec) ∧ w'.cell? ⟨b, o, none⟩ = some (.int .u32 (g0 : Int)) ∧ w'.cell? ⟨b, o + 1, none⟩ = some (.int .u32 (s0 : Int))) (wr.alloc (.cells #[.int .u32 (gs : Int), .int .u32 (sq : Int), .int .i64 pt, .int .i64 ps, .slice eA en ec] 73)).drew := ⟨B.cell 0, B.cell 1, B.cell 2, B.cell 3, B.cell 4, alloc_cell_ z0 _, alloc_cell_ z1 _⟩
      have hb0 := (hb.alloc hb.size (.cells #[.int .u32 (gs : Int), .int .u32 (sq : Int), .int .i64 pt, .int .i64 ps, .slice eA en ec] 73)).drew
      clear k0 k1 k2 k3 k4 z0 z1 B
      by_cases hmv : mayN pt ps en = true
      case neg =>
        have hmv : mayN pt ps en = false := by cases h : mayN pt ps en with | true => exact absurd h hmv | false => rfl
        have HH := Lib.hid (And.intro hL (And.intro hLL (And.intro hLn (And.intro hm (And.intro h8 (And.intro ho (And.intro hR (And.intro hb (And.intro hbl (And.intro hbl' (And.intro hdl (hie))))))))))))
        clear hL hLL hLn hm h8 ho hR hb hbl hbl' hdl hie
        refine wp_region_late [] (fun w' => w'.cell? ⟨wr.heap.size, 0, none⟩ = some (.int .u32 (gs : Int)) ∧ w'.cell? ⟨wr.heap.size, 1, none⟩ = some (.int .u32 (sq : Int)) ∧ w'.cell? ⟨wr.heap.size, 2, none⟩ = some (.int .i64 pt) ∧ w'.cell? ⟨wr.heap.size, 3, none⟩ = some (.int .i64 ps) ∧ w'.cell? ⟨wr.heap.size, 4, none⟩ = some (.slice eA en ec) ∧ w'.cell? ⟨b, o, none⟩ = some (.int .u32 (g0 : Int)) ∧ w'.cell? ⟨b, o + 1, none⟩ = some (.int .u32 (s0 : Int))) (by kernel_rfl) ?_
        refine wpAnyL_take (i := 0) (v := ?_) rfl (by kernel_rfl) (by kernel_rfl) (by kernel_rfl) (by kernel_rfl) (by kernel_rfl) (fun _ _ _ h => h) (Or.inl ⟨by kernel_rfl, ?_⟩) t0 ?_
        rotate_left
        · rintro w0 ⟨h1_, h2_, h3_, h4_, h5_, h6_, h7_⟩; go_simp; (try with_reducible rfl)
        try simp only [Act.put, List.getElem_toArray, List.getElem_cons_succ, List.getElem_cons_zero, List.setIfInBounds_toArray, List.set_cons_zero, List.set_cons_succ]
        refine wpAnyL_one (i := 1) (by kernel_rfl) rfl (fun K hK => ?_)
        go_simp
        refine (cmay_any gs sq pt ps eA en ec _ hp).mono ?_; rintro e w3 ⟨rfl, hb3⟩
        have t3 : (fun w' => w'.cell? ⟨wr.heap.size, 0, none⟩ = some (.int .u32 (gs : Int)) ∧ w'.cell? ⟨wr.heap.size, 1, none⟩ = some (.int .u32 (sq : Int)) ∧ w'.cell? ⟨wr.heap.size, 2, none⟩ = some (.int .i64 pt) ∧ w'.cell? ⟨wr.heap.size, 3, none⟩ = some (.int .i64 ps) ∧ w'.cell? ⟨wr.heap.size, 4, none⟩ = some (.slice eA en ec) ∧ w'.cell? ⟨b, o, none⟩ = some (.int .u32 (g0 : Int)) ∧ w'.cell? ⟨b, o + 1, none⟩ = some (.int .u32 (s0 : Int))) w3 := ⟨below_cell hb3 t0.1, below_cell hb3 t0.2.1, below_cell hb3 t0.2.2.1, below_cell hb3 t0.2.2.2.1, below_cell hb3 t0.2.2.2.2.1, below_cell hb3 t0.2.2.2.2.2.1, below_cell hb3 t0.2.2.2.2.2.2⟩
        rw [hmv]
        go_wp2_with fail
        refine hK.out _ _ (fun _ => t3) ?_
        clear hK K
        try simp only [Act.put, List.getElem_toArray, List.getElem_cons_succ, List.getElem_cons_zero, List.setIfInBounds_toArray, List.set_cons_zero, List.set_cons_succ]
        refine wpAnyL_take (i := 2) (v := ?_) rfl (by kernel_rfl) (by kernel_rfl) (by kernel_rfl) (by kernel_rfl) (by kernel_rfl) (fun _ _ _ h => h) (Or.inl ⟨by kernel_rfl, ?_⟩) t3 ?_
        rotate_left
        · rintro w0 ⟨h1_, h2_, h3_, h4_, h5_, h6_, h7_⟩; go_simp; (try with_reducible rfl)
        try simp only [Act.put, List.getElem_toArray, List.getElem_cons_succ, List.getElem_cons_zero, List.setIfInBounds_toArray, List.set_cons_zero, List.set_cons_succ]
        refine wpAnyL_take (i := 3) (v := ?_) rfl (by kernel_rfl) (by kernel_rfl) (by kernel_rfl) (by kernel_rfl) (by kernel_rfl) (fun _ _ _ h => h) (Or.inl ⟨by kernel_rfl, ?_⟩) t3 ?_
        rotate_left
        · rintro w0 ⟨h1_, h2_, h3_, h4_, h5_, h6_, h7_⟩; go_simp; (try with_reducible rfl)
        try simp only [Act.put, List.getElem_toArray, List.getElem_cons_succ, List.getElem_cons_zero, List.setIfInBounds_toArray, List.set_cons_zero, List.set_cons_succ]
        refine wpAnyL_take (i := 4) (v := undef) rfl (by kernel_rfl) (by kernel_rfl) (by kernel_rfl) (by kernel_rfl) (by kernel_rfl) (fun _ _ _ h => h) (Or.inr ⟨by kernel_rfl, rfl⟩) t3 ?_
        try simp only [Act.put, List.getElem_toArray, List.getElem_cons_succ, List.getElem_cons_zero, List.setIfInBounds_toArray, List.set_cons_zero, List.set_cons_succ]
        refine wpAnyL_take (i := 5) (v := undef) rfl (by kernel_rfl) (by kernel_rfl) (by kernel_rfl) (by kernel_rfl) (by kernel_rfl) (fun _ _ _ h => h) (Or.inr ⟨by kernel_rfl, rfl⟩) t3 ?_
        try simp only [Act.put, List.getElem_toArray, List.getElem_cons_succ, List.getElem_cons_zero, List.setIfInBounds_toArray, List.set_cons_zero, List.set_cons_succ]
        refine wpAnyL_take (i := 6) (v := undef) rfl (by kernel_rfl) (by kernel_rfl) (by kernel_rfl) (by kernel_rfl) (by kernel_rfl) (fun _ _ _ h => h) (Or.inr ⟨by kernel_rfl, rfl⟩) t3 ?_
        try simp only [Act.put, List.getElem_toArray, List.getElem_cons_succ, List.getElem_cons_zero, List.setIfInBounds_toArray, List.set_cons_zero, List.set_cons_succ]
        refine wpAnyL_take (i := 7) (v := undef) rfl (by kernel_rfl) (by kernel_rfl) (by kernel_rfl) (by kernel_rfl) (by kernel_rfl) (fun _ _ _ h => h) (Or.inr ⟨by kernel_rfl, rfl⟩) t3 ?_
        try simp only [Act.put, List.getElem_toArray, List.getElem_cons_succ, List.getElem_cons_zero, List.setIfInBounds_toArray, List.set_cons_zero, List.set_cons_succ]
        refine wpAnyL_take (i := 8) (v := ?_) rfl (by kernel_rfl) (by kernel_rfl) (by kernel_rfl) (by kernel_rfl) (by kernel_rfl) (fun _ _ _ h => h) (Or.inl ⟨by kernel_rfl, ?_⟩) t3 ?_
        rotate_left
        · rintro w0 ⟨h1_, h2_, h3_, h4_, h5_, h6_, h7_⟩; go_simp; (try with_reducible rfl)
        try simp only [Act.put, List.getElem_toArray, List.getElem_cons_succ, List.getElem_cons_zero, List.setIfInBounds_toArray, List.set_cons_zero, List.set_cons_succ]
        refine wpAnyL_take (i := 9) (v := ?_) rfl (by kernel_rfl) (by kernel_rfl) (by kernel_rfl) (by kernel_rfl) (by kernel_rfl) (fun _ _ _ h => h) (Or.inl ⟨by kernel_rfl, ?_⟩) t3 ?_
        rotate_left
        · rintro w0 ⟨h1_, h2_, h3_, h4_, h5_, h6_, h7_⟩; go_simp; (try with_reducible rfl)
        try simp only [Act.put, List.getElem_toArray, List.getElem_cons_succ, List.getElem_cons_zero, List.setIfInBounds_toArray, List.set_cons_zero, List.set_cons_succ]
        refine wpAnyL_take (i := 10) (v := undef) rfl (by kernel_rfl) (by kernel_rfl) (by kernel_rfl) (by kernel_rfl) (by kernel_rfl) (fun _ _ _ h => h) (Or.inr ⟨by kernel_rfl, rfl⟩) t3 ?_
        try simp only [Act.put, List.getElem_toArray, List.getElem_cons_succ, List.getElem_cons_zero, List.setIfInBounds_toArray, List.set_cons_zero, List.set_cons_succ]
        refine wpAnyL_take (i := 11) (v := undef) rfl (by kernel_rfl) (by kernel_rfl) (by kernel_rfl) (by kernel_rfl) (by kernel_rfl) (fun _ _ _ h => h) (Or.inr ⟨by kernel_rfl, rfl⟩) t3 ?_
        try simp only [Act.put, List.getElem_toArray, List.getElem_cons_succ, List.getElem_cons_zero, List.setIfInBounds_toArray, List.set_cons_zero, List.set_cons_succ]
        refine wpAnyL_take (i := 12) (v := undef) rfl (by kernel_rfl) (by kernel_rfl) (by kernel_rfl) (by kernel_rfl) (by kernel_rfl) (fun _ _ _ h => h) (Or.inr ⟨by kernel_rfl, rfl⟩) t3 ?_
        try simp only [Act.put, List.getElem_toArray, List.getElem_cons_succ, List.getElem_cons_zero, List.setIfInBounds_toArray, List.set_cons_zero, List.set_cons_succ]
        refine wpAnyL_take (i := 13) (v := undef) rfl (by kernel_rfl) (by kernel_rfl) (by kernel_rfl) (by kernel_rfl) (by kernel_rfl) (fun _ _ _ h => h) (Or.inr ⟨by kernel_rfl, rfl⟩) t3 ?_
        try simp only [Act.put, List.getElem_toArray, List.getElem_cons_succ, List.getElem_cons_zero, List.setIfInBounds_toArray, List.set_cons_zero, List.set_cons_succ]
        refine wpAnyL_take (i := 14) (v := undef) rfl (by kernel_rfl) (by kernel_rfl) (by kernel_rfl) (by kernel_rfl) (by kernel_rfl) (fun _ _ _ h => h) (Or.inr ⟨by kernel_rfl, rfl⟩) t3 ?_
        try simp only [Act.put, List.getElem_toArray, List.getElem_cons_succ, List.getElem_cons_zero, List.setIfInBounds_toArray, List.set_cons_zero, List.set_cons_succ]
        refine wpAnyL_take (i := 15) (v := ?_) rfl (by kernel_rfl) (by kernel_rfl) (by kernel_rfl) (by kernel_rfl) (by kernel_rfl) (fun _ _ _ h => h) (Or.inl ⟨by kernel_rfl, ?_⟩) t3 ?_
        rotate_left
        · rintro w0 ⟨h1_, h2_, h3_, h4_, h5_, h6_, h7_⟩; go_simp; (try with_reducible rfl)
        try simp only [Act.put, List.getElem_toArray, List.getElem_cons_succ, List.getElem_cons_zero, List.setIfInBounds_toArray, List.set_cons_zero, List.set_cons_succ]
        refine wpAnyL_take (i := 16) (v := ?_) rfl (by kernel_rfl) (by kernel_rfl) (by kernel_rfl) (by kernel_rfl) (by kernel_rfl) (fun _ _ _ h => h) (Or.inl ⟨by kernel_rfl, ?_⟩) t3 ?_
        rotate_left
        · rintro w0 ⟨h1_, h2_, h3_, h4_, h5_, h6_, h7_⟩; go_simp; (try with_reducible rfl)
        try simp only [Act.put, List.getElem_toArray, List.getElem_cons_succ, List.getElem_cons_zero, List.setIfInBounds_toArray, List.set_cons_zero, List.set_cons_succ]
        refine wpAnyL_take (i := 17) (v := undef) rfl (by kernel_rfl) (by kernel_rfl) (by kernel_rfl) (by kernel_rfl) (by kernel_rfl) (fun _ _ _ h => h) (Or.inr ⟨by kernel_rfl, rfl⟩) t3 ?_
        try simp only [Act.put, List.getElem_toArray, List.getElem_cons_succ, List.getElem_cons_zero, List.setIfInBounds_toArray, List.set_cons_zero, List.set_cons_succ]
        refine wpAnyL_take (i := 18) (v := undef) rfl (by kernel_rfl) (by kernel_rfl) (by kernel_rfl) (by kernel_rfl) (by kernel_rfl) (fun _ _ _ h => h) (Or.inr ⟨by kernel_rfl, rfl⟩) t3 ?_
        try simp only [Act.put, List.getElem_toArray, List.getElem_cons_succ, List.getElem_cons_zero, List.setIfInBounds_toArray, List.set_cons_zero, List.set_cons_succ]
        refine wpAnyL_take (i := 19) (v := undef) rfl (by kernel_rfl) (by kernel_rfl) (by kernel_rfl) (by kernel_rfl) (by kernel_rfl) (fun _ _ _ h => h) (Or.inr ⟨by kernel_rfl, rfl⟩) t3 ?_
        try simp only [Act.put, List.getElem_toArray, List.getElem_cons_succ, List.getElem_cons_zero, List.setIfInBounds_toArray, List.set_cons_zero, List.set_cons_succ]
        refine wpAnyL_take (i := 20) (v := undef) rfl (by kernel_rfl) (by kernel_rfl) (by kernel_rfl) (by kernel_rfl) (by kernel_rfl) (fun _ _ _ h => h) (Or.inr ⟨by kernel_rfl, rfl⟩) t3 ?_
        try simp only [Act.put, List.getElem_toArray, List.getElem_cons_succ, List.getElem_cons_zero, List.setIfInBounds_toArray, List.set_cons_zero, List.set_cons_succ]
        refine wpAnyL_take (i := 21) (v := undef) rfl (by kernel_rfl) (by kernel_rfl) (by kernel_rfl) (by kernel_rfl) (by kernel_rfl) (fun _ _ _ h => h) (Or.inr ⟨by kernel_rfl, rfl⟩) t3 ?_
        try simp only [Act.put, List.getElem_toArray, List.getElem_cons_succ, List.getElem_cons_zero, List.setIfInBounds_toArray, List.set_cons_zero, List.set_cons_succ]
        refine wpAnyL_take (i := 22) (v := undef) rfl (by kernel_rfl) (by kernel_rfl) (by kernel_rfl) (by kernel_rfl) (by kernel_rfl) (fun _ _ _ h => h) (Or.inr ⟨by kernel_rfl, rfl⟩) t3 ?_
        try simp only [Act.put, List.getElem_toArray, List.getElem_cons_succ, List.getElem_cons_zero, List.setIfInBounds_toArray, List.set_cons_zero, List.set_cons_succ]
        refine wpAnyL_take (i := 23) (v := undef) rfl (by kernel_rfl) (by kernel_rfl) (by kernel_rfl) (by kernel_rfl) (by kernel_rfl) (fun _ _ _ h => h) (Or.inr ⟨by kernel_rfl, rfl⟩) t3 ?_
        try simp only [Act.put, List.getElem_toArray, List.getElem_cons_succ, List.getElem_cons_zero, List.setIfInBounds_toArray, List.set_cons_zero, List.set_cons_succ]
        refine wpAnyL_take (i := 24) (v := ?_) rfl (by kernel_rfl) (by kernel_rfl) (by kernel_rfl) (by kernel_rfl) (by kernel_rfl) (fun _ _ _ h => h) (Or.inl ⟨by kernel_rfl, ?_⟩) t3 ?_
        rotate_left
        · rintro w0 ⟨h1_, h2_, h3_, h4_, h5_, h6_, h7_⟩; go_simp; (try with_reducible rfl)
        try simp only [Act.put, List.getElem_toArray, List.getElem_cons_succ, List.getElem_cons_zero, List.setIfInBounds_toArray, List.set_cons_zero, List.set_cons_succ]
        refine wpAnyL_take (i := 25) (v := ?_) rfl (by kernel_rfl) (by kernel_rfl) (by kernel_rfl) (by kernel_rfl) (by kernel_rfl) (fun _ _ _ h => h) (Or.inl ⟨by kernel_rfl, ?_⟩) t3 ?_
        rotate_left
        · rintro w0 ⟨h1_, h2_, h3_, h4_, h5_, h6_, h7_⟩; go_simp; (try with_reducible rfl)
        try simp only [Act.put, List.getElem_toArray, List.getElem_cons_succ, List.getElem_cons_zero, List.setIfInBounds_toArray, List.set_cons_zero, List.set_cons_succ]
        refine wpAnyL_take (i := 26) (v := undef) rfl (by kernel_rfl) (by kernel_rfl) (by kernel_rfl) (by kernel_rfl) (by kernel_rfl) (fun _ _ _ h => h) (Or.inr ⟨by kernel_rfl, rfl⟩) t3 ?_
        try simp only [Act.put, List.getElem_toArray, List.getElem_cons_succ, List.getElem_cons_zero, List.setIfInBounds_toArray, List.set_cons_zero, List.set_cons_succ]
        refine wpAnyL_take (i := 27) (v := undef) rfl (by kernel_rfl) (by kernel_rfl) (by kernel_rfl) (by kernel_rfl) (by kernel_rfl) (fun _ _ _ h => h) (Or.inr ⟨by kernel_rfl, rfl⟩) t3 ?_
        try simp only [Act.put, List.getElem_toArray, List.getElem_cons_succ, List.getElem_cons_zero, List.setIfInBounds_toArray, List.set_cons_zero, List.set_cons_succ]
        refine wpAnyL_take (i := 28) (v := undef) rfl (by kernel_rfl) (by kernel_rfl) (by kernel_rfl) (by kernel_rfl) (by kernel_rfl) (fun _ _ _ h => h) (Or.inr ⟨by kernel_rfl, rfl⟩) t3 ?_
        try simp only [Act.put, List.getElem_toArray, List.getElem_cons_succ, List.getElem_cons_zero, List.setIfInBounds_toArray, List.set_cons_zero, List.set_cons_succ]
        refine wpAnyL_take (i := 29) (v := undef) rfl (by kernel_rfl) (by kernel_rfl) (by kernel_rfl) (by kernel_rfl) (by kernel_rfl) (fun _ _ _ h => h) (Or.inr ⟨by kernel_rfl, rfl⟩) t3 ?_
        try simp only [Act.put, List.getElem_toArray, List.getElem_cons_succ, List.getElem_cons_zero, List.setIfInBounds_toArray, List.set_cons_zero, List.set_cons_succ]
        refine wpAnyL_take (i := 30) (v := undef) rfl (by kernel_rfl) (by kernel_rfl) (by kernel_rfl) (by kernel_rfl) (by kernel_rfl) (fun _ _ _ h => h) (Or.inr ⟨by kernel_rfl, rfl⟩) t3 ?_
        try simp only [Act.put, List.getElem_toArray, List.getElem_cons_succ, List.getElem_cons_zero, List.setIfInBounds_toArray, List.set_cons_zero, List.set_cons_succ]
        refine wpAnyL_take (i := 31) (v := undef) rfl (by kernel_rfl) (by kernel_rfl) (by kernel_rfl) (by kernel_rfl) (by kernel_rfl) (fun _ _ _ h => h) (Or.inr ⟨by kernel_rfl, rfl⟩) t3 ?_
        try simp only [Act.put, List.getElem_toArray, List.getElem_cons_succ, List.getElem_cons_zero, List.setIfInBounds_toArray, List.set_cons_zero, List.set_cons_succ]
        refine wpAnyL_take (i := 32) (v := undef) rfl (by kernel_rfl) (by kernel_rfl) (by kernel_rfl) (by kernel_rfl) (by kernel_rfl) (fun _ _ _ h => h) (Or.inr ⟨by kernel_rfl, rfl⟩) t3 ?_
        try simp only [Act.put, List.getElem_toArray, List.getElem_cons_succ, List.getElem_cons_zero, List.setIfInBounds_toArray, List.set_cons_zero, List.set_cons_succ]
        refine wpAnyL_take (i := 33) (v := ?_) rfl (by kernel_rfl) (by kernel_rfl) (by kernel_rfl) (by kernel_rfl) (by kernel_rfl) (fun _ _ _ h => h) (Or.inl ⟨by kernel_rfl, ?_⟩) t3 ?_
        rotate_left
        · rintro w0 ⟨h1_, h2_, h3_, h4_, h5_, h6_, h7_⟩; go_simp; (try with_reducible rfl)
        try simp only [Act.put, List.getElem_toArray, List.getElem_cons_succ, List.getElem_cons_zero, List.setIfInBounds_toArray, List.set_cons_zero, List.set_cons_succ]
        refine wpAnyL_done (by kernel_rfl) ?_ _
        obtain ⟨hL, hLL, hLn, hm, h8, ho, hR, hb, hbl, hbl', hdl, hie⟩ := HH.out
        have hb4 := below_step hb0 hb3 hb0.size
        go_wp2_with fail
        go_ret2
        exact join_no (not_right HX.out.1 (fun r => by have h := r.may; rw [may_eq, hdl] at h; rw [hmv] at h; cases h)) hb4
      by_cases h1 : pt = (i : Int)
      case neg =>
        have q1 : (pt != (i : Int)) = true := by simp [h1]
        have HH := Lib.hid (And.intro hL (And.intro hLL (And.intro hLn (And.intro hm (And.intro h8 (And.intro ho (And.intro hR (And.intro hb (And.intro hbl (And.intro hbl' (And.intro hdl (And.intro hie (h1)))))))))))))
        clear hL hLL hLn hm h8 ho hR hb hbl hbl' hdl hie h1
        refine wp_region_late [] (fun w' => w'.cell? ⟨wr.heap.size, 0, none⟩ = some (.int .u32 (gs : Int)) ∧ w'.cell? ⟨wr.heap.size, 1, none⟩ = some (.int .u32 (sq : Int)) ∧ w'.cell? ⟨wr.heap.size, 2, none⟩ = some (.int .i64 pt) ∧ w'.cell? ⟨wr.heap.size, 3, none⟩ = some (.int .i64 ps) ∧ w'.cell? ⟨wr.heap.size, 4, none⟩ = some (.slice eA en ec) ∧ w'.cell? ⟨b, o, none⟩ = some (.int .u32 (g0 : Int)) ∧ w'.cell? ⟨b, o + 1, none⟩ = some (.int .u32 (s0 : Int))) (by kernel_rfl) ?_
        refine wpAnyL_take (i := 0) (v := ?_) rfl (by kernel_rfl) (by kernel_rfl) (by kernel_rfl) (by kernel_rfl) (by kernel_rfl) (fun _ _ _ h => h) (Or.inl ⟨by kernel_rfl, ?_⟩) t0 ?_
        rotate_left
        · rintro w0 ⟨h1_, h2_, h3_, h4_, h5_, h6_, h7_⟩; go_simp; (try with_reducible rfl)
        try simp only [Act.put, List.getElem_toArray, List.getElem_cons_succ, List.getElem_cons_zero, List.setIfInBounds_toArray, List.set_cons_zero, List.set_cons_succ]
        refine wpAnyL_one (i := 1) (by kernel_rfl) rfl (fun K hK => ?_)
        go_simp
        refine (cmay_any gs sq pt ps eA en ec _ hp).mono ?_; rintro e w3 ⟨rfl, hb3⟩
        have t3 : (fun w' => w'.cell? ⟨wr.heap.size, 0, none⟩ = some (.int .u32 (gs : Int)) ∧ w'.cell? ⟨wr.heap.size, 1, none⟩ = some (.int .u32 (sq : Int)) ∧ w'.cell? ⟨wr.heap.size, 2, none⟩ = some (.int .i64 pt) ∧ w'.cell? ⟨wr.heap.size, 3, none⟩ = some (.int .i64 ps) ∧ w'.cell? ⟨wr.heap.size, 4, none⟩ = some (.slice eA en ec) ∧ w'.cell? ⟨b, o, none⟩ = some (.int .u32 (g0 : Int)) ∧ w'.cell? ⟨b, o + 1, none⟩ = some (.int .u32 (s0 : Int))) w3 := ⟨below_cell hb3 t0.1, below_cell hb3 t0.2.1, below_cell hb3 t0.2.2.1, below_cell hb3 t0.2.2.2.1, below_cell hb3 t0.2.2.2.2.1, below_cell hb3 t0.2.2.2.2.2.1, below_cell hb3 t0.2.2.2.2.2.2⟩
        rw [hmv]
        go_wp2_with fail
        refine hK.out _ _ (fun _ => t3) ?_
        clear hK K
        try simp only [Act.put, List.getElem_toArray, List.getElem_cons_succ, List.getElem_cons_zero, List.setIfInBounds_toArray, List.set_cons_zero, List.set_cons_succ]
        refine wpAnyL_take (i := 2) (v := ?_) rfl (by kernel_rfl) (by kernel_rfl) (by kernel_rfl) (by kernel_rfl) (by kernel_rfl) (fun _ _ _ h => h) (Or.inl ⟨by kernel_rfl, ?_⟩) t3 ?_
        rotate_left
        · rintro w0 ⟨h1_, h2_, h3_, h4_, h5_, h6_, h7_⟩; go_simp; (try with_reducible rfl)
        try simp only [Act.put, List.getElem_toArray, List.getElem_cons_succ, List.getElem_cons_zero, List.setIfInBounds_toArray, List.set_cons_zero, List.set_cons_succ]
        refine wpAnyL_take (i := 3) (v := ?_) rfl (by kernel_rfl) (by kernel_rfl) (by kernel_rfl) (by kernel_rfl) (by kernel_rfl) (fun _ _ _ h => h) (Or.inl ⟨by kernel_rfl, ?_⟩) t3 ?_
        rotate_left
        · rintro w0 ⟨h1_, h2_, h3_, h4_, h5_, h6_, h7_⟩; go_simp; (try with_reducible rfl)
        try simp only [Act.put, List.getElem_toArray, List.getElem_cons_succ, List.getElem_cons_zero, List.setIfInBounds_toArray, List.set_cons_zero, List.set_cons_succ]
        refine wpAnyL_take (i := 4) (v := ?_) rfl (by kernel_rfl) (by kernel_rfl) (by kernel_rfl) (by kernel_rfl) (by kernel_rfl) (fun _ _ _ h => h) (Or.inl ⟨by kernel_rfl, ?_⟩) t3 ?_
        rotate_left
        · rintro w0 ⟨h1_, h2_, h3_, h4_, h5_, h6_, h7_⟩; go_simp; (try with_reducible rfl)
        try simp only [Act.put, List.getElem_toArray, List.getElem_cons_succ, List.getElem_cons_zero, List.setIfInBounds_toArray, List.set_cons_zero, List.set_cons_succ]
        refine wpAnyL_take (i := 5) (v := ?_) rfl (by kernel_rfl) (by kernel_rfl) (by kernel_rfl) (by kernel_rfl) (by kernel_rfl) (fun _ _ _ h => h) (Or.inl ⟨by kernel_rfl, ?_⟩) t3 ?_
        rotate_left
        · rintro w0 ⟨h1_, h2_, h3_, h4_, h5_, h6_, h7_⟩; go_simp; (try with_reducible rfl)
        try simp only [Act.put, List.getElem_toArray, List.getElem_cons_succ, List.getElem_cons_zero, List.setIfInBounds_toArray, List.set_cons_zero, List.set_cons_succ]
        refine wpAnyL_take (i := 6) (v := ?_) rfl (by kernel_rfl) (by kernel_rfl) (by kernel_rfl) (by kernel_rfl) (by kernel_rfl) (fun _ _ _ h => h) (Or.inl ⟨by kernel_rfl, ?_⟩) t3 ?_
        rotate_left
        · rintro w0 ⟨h1_, h2_, h3_, h4_, h5_, h6_, h7_⟩; go_simp; (try with_reducible rfl)
        try simp only [Act.put, List.getElem_toArray, List.getElem_cons_succ, List.getElem_cons_zero, List.setIfInBounds_toArray, List.set_cons_zero, List.set_cons_succ]
        refine wpAnyL_take (i := 7) (v := ?_) rfl (by kernel_rfl) (by kernel_rfl) (by kernel_rfl) (by kernel_rfl) (by kernel_rfl) (fun _ _ _ h => h) (Or.inl ⟨by kernel_rfl, ?_⟩) t3 ?_
        rotate_left
        · rintro w0 ⟨h1_, h2_, h3_, h4_, h5_, h6_, h7_⟩; go_simp; (try with_reducible rfl)
        try simp only [Act.put, List.getElem_toArray, List.getElem_cons_succ, List.getElem_cons_zero, List.setIfInBounds_toArray, List.set_cons_zero, List.set_cons_succ]
        refine wpAnyL_take (i := 8) (v := ?_) rfl (by kernel_rfl) (by kernel_rfl) (by kernel_rfl) (by kernel_rfl) (by kernel_rfl) (fun _ _ _ h => h) (Or.inl ⟨by kernel_rfl, ?_⟩) t3 ?_
        rotate_left
        · rintro w0 ⟨h1_, h2_, h3_, h4_, h5_, h6_, h7_⟩; go_simp; (try with_reducible rfl)
        try simp only [Act.put, List.getElem_toArray, List.getElem_cons_succ, List.getElem_cons_zero, List.setIfInBounds_toArray, List.set_cons_zero, List.set_cons_succ]
        refine wpAnyL_take (i := 9) (v := ?_) rfl (by kernel_rfl) (by kernel_rfl) (by kernel_rfl) (by kernel_rfl) (by kernel_rfl) (fun _ _ _ h => h) (Or.inl ⟨by kernel_rfl, ?_⟩) t3 ?_
        rotate_left
        · rintro w0 ⟨h1_, h2_, h3_, h4_, h5_, h6_, h7_⟩; go_simp; (try with_reducible rfl)
        try simp only [Act.put, List.getElem_toArray, List.getElem_cons_succ, List.getElem_cons_zero, List.setIfInBounds_toArray, List.set_cons_zero, List.set_cons_succ]
        refine wpAnyL_take (i := 10) (v := undef) rfl (by kernel_rfl) (by kernel_rfl) (by kernel_rfl) (by kernel_rfl) (by kernel_rfl) (fun _ _ _ h => h) (Or.inr ⟨by kernel_rfl, rfl⟩) t3 ?_
        try simp only [Act.put, List.getElem_toArray, List.getElem_cons_succ, List.getElem_cons_zero, List.setIfInBounds_toArray, List.set_cons_zero, List.set_cons_succ]
        refine wpAnyL_take (i := 11) (v := undef) rfl (by kernel_rfl) (by kernel_rfl) (by kernel_rfl) (by kernel_rfl) (by kernel_rfl) (fun _ _ _ h => h) (Or.inr ⟨by kernel_rfl, rfl⟩) t3 ?_
        try simp only [Act.put, List.getElem_toArray, List.getElem_cons_succ, List.getElem_cons_zero, List.setIfInBounds_toArray, List.set_cons_zero, List.set_cons_succ]
        refine wpAnyL_take (i := 12) (v := undef) rfl (by kernel_rfl) (by kernel_rfl) (by kernel_rfl) (by kernel_rfl) (by kernel_rfl) (fun _ _ _ h => h) (Or.inr ⟨by kernel_rfl, rfl⟩) t3 ?_
        try simp only [Act.put, List.getElem_toArray, List.getElem_cons_succ, List.getElem_cons_zero, List.setIfInBounds_toArray, List.set_cons_zero, List.set_cons_succ]
        refine wpAnyL_take (i := 13) (v := undef) rfl (by kernel_rfl) (by kernel_rfl) (by kernel_rfl) (by kernel_rfl) (by kernel_rfl) (fun _ _ _ h => h) (Or.inr ⟨by kernel_rfl, rfl⟩) t3 ?_
        try simp only [Act.put, List.getElem_toArray, List.getElem_cons_succ, List.getElem_cons_zero, List.setIfInBounds_toArray, List.set_cons_zero, List.set_cons_succ]
        refine wpAnyL_take (i := 14) (v := undef) rfl (by kernel_rfl) (by kernel_rfl) (by kernel_rfl) (by kernel_rfl) (by kernel_rfl) (fun _ _ _ h => h) (Or.inr ⟨by kernel_rfl, rfl⟩) t3 ?_
        try simp only [Act.put, List.getElem_toArray, List.getElem_cons_succ, List.getElem_cons_zero, List.setIfInBounds_toArray, List.set_cons_zero, List.set_cons_succ]
        refine wpAnyL_take (i := 15) (v := ?_) rfl (by kernel_rfl) (by kernel_rfl) (by kernel_rfl) (by kernel_rfl) (by kernel_rfl) (fun _ _ _ h => h) (Or.inl ⟨by kernel_rfl, ?_⟩) t3 ?_
        rotate_left
        · rintro w0 ⟨h1_, h2_, h3_, h4_, h5_, h6_, h7_⟩; go_simp; (try with_reducible rfl)
        try simp only [Act.put, List.getElem_toArray, List.getElem_cons_succ, List.getElem_cons_zero, List.setIfInBounds_toArray, List.set_cons_zero, List.set_cons_succ]
        refine wpAnyL_take (i := 16) (v := ?_) rfl (by kernel_rfl) (by kernel_rfl) (by kernel_rfl) (by kernel_rfl) (by kernel_rfl) (fun _ _ _ h => h) (Or.inl ⟨by kernel_rfl, ?_⟩) t3 ?_
        rotate_left
        · rintro w0 ⟨h1_, h2_, h3_, h4_, h5_, h6_, h7_⟩; go_simp; (try with_reducible rfl)
        try simp only [Act.put, List.getElem_toArray, List.getElem_cons_succ, List.getElem_cons_zero, List.setIfInBounds_toArray, List.set_cons_zero, List.set_cons_succ]
        refine wpAnyL_take (i := 17) (v := undef) rfl (by kernel_rfl) (by kernel_rfl) (by kernel_rfl) (by kernel_rfl) (by kernel_rfl) (fun _ _ _ h => h) (Or.inr ⟨by kernel_rfl, rfl⟩) t3 ?_
        try simp only [Act.put, List.getElem_toArray, List.getElem_cons_succ, List.getElem_cons_zero, List.setIfInBounds_toArray, List.set_cons_zero, List.set_cons_succ]
        refine wpAnyL_take (i := 18) (v := undef) rfl (by kernel_rfl) (by kernel_rfl) (by kernel_rfl) (by kernel_rfl) (by kernel_rfl) (fun _ _ _ h => h) (Or.inr ⟨by kernel_rfl, rfl⟩) t3 ?_
        try simp only [Act.put, List.getElem_toArray, List.getElem_cons_succ, List.getElem_cons_zero, List.setIfInBounds_toArray, List.set_cons_zero, List.set_cons_succ]
        refine wpAnyL_take (i := 19) (v := undef) rfl (by kernel_rfl) (by kernel_rfl) (by kernel_rfl) (by kernel_rfl) (by kernel_rfl) (fun _ _ _ h => h) (Or.inr ⟨by kernel_rfl, rfl⟩) t3 ?_
        try simp only [Act.put, List.getElem_toArray, List.getElem_cons_succ, List.getElem_cons_zero, List.setIfInBounds_toArray, List.set_cons_zero, List.set_cons_succ]
        refine wpAnyL_take (i := 20) (v := undef) rfl (by kernel_rfl) (by kernel_rfl) (by kernel_rfl) (by kernel_rfl) (by kernel_rfl) (fun _ _ _ h => h) (Or.inr ⟨by kernel_rfl, rfl⟩) t3 ?_
        try simp only [Act.put, List.getElem_toArray, List.getElem_cons_succ, List.getElem_cons_zero, List.setIfInBounds_toArray, List.set_cons_zero, List.set_cons_succ]
        refine wpAnyL_take (i := 21) (v := undef) rfl (by kernel_rfl) (by kernel_rfl) (by kernel_rfl) (by kernel_rfl) (by kernel_rfl) (fun _ _ _ h => h) (Or.inr ⟨by kernel_rfl, rfl⟩) t3 ?_
        try simp only [Act.put, List.getElem_toArray, List.getElem_cons_succ, List.getElem_cons_zero, List.setIfInBounds_toArray, List.set_cons_zero, List.set_cons_succ]
        refine wpAnyL_take (i := 22) (v := undef) rfl (by kernel_rfl) (by kernel_rfl) (by kernel_rfl) (by kernel_rfl) (by kernel_rfl) (fun _ _ _ h => h) (Or.inr ⟨by kernel_rfl, rfl⟩) t3 ?_
        try simp only [Act.put, List.getElem_toArray, List.getElem_cons_succ, List.getElem_cons_zero, List.setIfInBounds_toArray, List.set_cons_zero, List.set_cons_succ]
        refine wpAnyL_take (i := 23) (v := undef) rfl (by kernel_rfl) (by kernel_rfl) (by kernel_rfl) (by kernel_rfl) (by kernel_rfl) (fun _ _ _ h => h) (Or.inr ⟨by kernel_rfl, rfl⟩) t3 ?_
        try simp only [Act.put, List.getElem_toArray, List.getElem_cons_succ, List.getElem_cons_zero, List.setIfInBounds_toArray, List.set_cons_zero, List.set_cons_succ]
        refine wpAnyL_take (i := 24) (v := ?_) rfl (by kernel_rfl) (by kernel_rfl) (by kernel_rfl) (by kernel_rfl) (by kernel_rfl) (fun _ _ _ h => h) (Or.inl ⟨by kernel_rfl, ?_⟩) t3 ?_
        rotate_left
        · rintro w0 ⟨h1_, h2_, h3_, h4_, h5_, h6_, h7_⟩; go_simp; (try with_reducible rfl)
        try simp only [Act.put, List.getElem_toArray, List.getElem_cons_succ, List.getElem_cons_zero, List.setIfInBounds_toArray, List.set_cons_zero, List.set_cons_succ]
        refine wpAnyL_take (i := 25) (v := ?_) rfl (by kernel_rfl) (by kernel_rfl) (by kernel_rfl) (by kernel_rfl) (by kernel_rfl) (fun _ _ _ h => h) (Or.inl ⟨by kernel_rfl, ?_⟩) t3 ?_
        rotate_left
        · rintro w0 ⟨h1_, h2_, h3_, h4_, h5_, h6_, h7_⟩; go_simp; (try with_reducible rfl)
        try simp only [Act.put, List.getElem_toArray, List.getElem_cons_succ, List.getElem_cons_zero, List.setIfInBounds_toArray, List.set_cons_zero, List.set_cons_succ]
        refine wpAnyL_take (i := 26) (v := undef) rfl (by kernel_rfl) (by kernel_rfl) (by kernel_rfl) (by kernel_rfl) (by kernel_rfl) (fun _ _ _ h => h) (Or.inr ⟨by kernel_rfl, rfl⟩) t3 ?_
        try simp only [Act.put, List.getElem_toArray, List.getElem_cons_succ, List.getElem_cons_zero, List.setIfInBounds_toArray, List.set_cons_zero, List.set_cons_succ]
        refine wpAnyL_take (i := 27) (v := undef) rfl (by kernel_rfl) (by kernel_rfl) (by kernel_rfl) (by kernel_rfl) (by kernel_rfl) (fun _ _ _ h => h) (Or.inr ⟨by kernel_rfl, rfl⟩) t3 ?_
        try simp only [Act.put, List.getElem_toArray, List.getElem_cons_succ, List.getElem_cons_zero, List.setIfInBounds_toArray, List.set_cons_zero, List.set_cons_succ]
        refine wpAnyL_take (i := 28) (v := undef) rfl (by kernel_rfl) (by kernel_rfl) (by kernel_rfl) (by kernel_rfl) (by kernel_rfl) (fun _ _ _ h => h) (Or.inr ⟨by kernel_rfl, rfl⟩) t3 ?_
        try simp only [Act.put, List.getElem_toArray, List.getElem_cons_succ, List.getElem_cons_zero, List.setIfInBounds_toArray, List.set_cons_zero, List.set_cons_succ]
        refine wpAnyL_take (i := 29) (v := undef) rfl (by kernel_rfl) (by kernel_rfl) (by kernel_rfl) (by kernel_rfl) (by kernel_rfl) (fun _ _ _ h => h) (Or.inr ⟨by kernel_rfl, rfl⟩) t3 ?_
        try simp only [Act.put, List.getElem_toArray, List.getElem_cons_succ, List.getElem_cons_zero, List.setIfInBounds_toArray, List.set_cons_zero, List.set_cons_succ]
        refine wpAnyL_take (i := 30) (v := undef) rfl (by kernel_rfl) (by kernel_rfl) (by kernel_rfl) (by kernel_rfl) (by kernel_rfl) (fun _ _ _ h => h) (Or.inr ⟨by kernel_rfl, rfl⟩) t3 ?_
        try simp only [Act.put, List.getElem_toArray, List.getElem_cons_succ, List.getElem_cons_zero, List.setIfInBounds_toArray, List.set_cons_zero, List.set_cons_succ]
        refine wpAnyL_take (i := 31) (v := undef) rfl (by kernel_rfl) (by kernel_rfl) (by kernel_rfl) (by kernel_rfl) (by kernel_rfl) (fun _ _ _ h => h) (Or.inr ⟨by kernel_rfl, rfl⟩) t3 ?_
        try simp only [Act.put, List.getElem_toArray, List.getElem_cons_succ, List.getElem_cons_zero, List.setIfInBounds_toArray, List.set_cons_zero, List.set_cons_succ]
        refine wpAnyL_take (i := 32) (v := undef) rfl (by kernel_rfl) (by kernel_rfl) (by kernel_rfl) (by kernel_rfl) (by kernel_rfl) (fun _ _ _ h => h) (Or.inr ⟨by kernel_rfl, rfl⟩) t3 ?_
        try simp only [Act.put, List.getElem_toArray, List.getElem_cons_succ, List.getElem_cons_zero, List.setIfInBounds_toArray, List.set_cons_zero, List.set_cons_succ]
        refine wpAnyL_take (i := 33) (v := ?_) rfl (by kernel_rfl) (by kernel_rfl) (by kernel_rfl) (by kernel_rfl) (by kernel_rfl) (fun _ _ _ h => h) (Or.inl ⟨by kernel_rfl, ?_⟩) t3 ?_
        rotate_left
        · rintro w0 ⟨h1_, h2_, h3_, h4_, h5_, h6_, h7_⟩; go_simp; (try with_reducible rfl)
        try simp only [Act.put, List.getElem_toArray, List.getElem_cons_succ, List.getElem_cons_zero, List.setIfInBounds_toArray, List.set_cons_zero, List.set_cons_succ]
        refine wpAnyL_done (by kernel_rfl) ?_ _
        obtain ⟨hL, hLL, hLn, hm, h8, ho, hR, hb, hbl, hbl', hdl, hie, h1⟩ := HH.out
        have hb4 := below_step hb0 hb3 hb0.size
        go_wp2_with fail
        go_ret2
        exact join_no (not_right HX.out.1 (fun r => h1 r.part)) hb4
      have q1 : (pt != (i : Int)) = false := by simp [h1]
      by_cases h2 : ps = (n : Int)
      case neg =>
        have q2 : (ps != (n : Int)) = true := by simp [h2]
        have HH := Lib.hid (And.intro hL (And.intro hLL (And.intro hLn (And.intro hm (And.intro h8 (And.intro ho (And.intro hR (And.intro hb (And.intro hbl (And.intro hbl' (And.intro hdl (And.intro hie (And.intro h1 (h2))))))))))))))
        clear hL hLL hLn hm h8 ho hR hb hbl hbl' hdl hie h1 h2
        refine wp_region_late [] (fun w' => w'.cell? ⟨wr.heap.size, 0, none⟩ = some (.int .u32 (gs : Int)) ∧ w'.cell? ⟨wr.heap.size, 1, none⟩ = some (.int .u32 (sq : Int)) ∧ w'.cell? ⟨wr.heap.size, 2, none⟩ = some (.int .i64 pt) ∧ w'.cell? ⟨wr.heap.size, 3, none⟩ = some (.int .i64 ps) ∧ w'.cell? ⟨wr.heap.size, 4, none⟩ = some (.slice eA en ec) ∧ w'.cell? ⟨b, o, none⟩ = some (.int .u32 (g0 : Int)) ∧ w'.cell? ⟨b, o + 1, none⟩ = some (.int .u32 (s0 : Int))) (by kernel_rfl) ?_
        refine wpAnyL_take (i := 0) (v := ?_) rfl (by kernel_rfl) (by kernel_rfl) (by kernel_rfl) (by kernel_rfl) (by kernel_rfl) (fun _ _ _ h => h) (Or.inl ⟨by kernel_rfl, ?_⟩) t0 ?_
        rotate_left
        · rintro w0 ⟨h1_, h2_, h3_, h4_, h5_, h6_, h7_⟩; go_simp; (try with_reducible rfl)
        try simp only [Act.put, List.getElem_toArray, List.getElem_cons_succ, List.getElem_cons_zero, List.setIfInBounds_toArray, List.set_cons_zero, List.set_cons_succ]
        refine wpAnyL_one (i := 1) (by kernel_rfl) rfl (fun K hK => ?_)
        go_simp
        refine (cmay_any gs sq pt ps eA en ec _ hp).mono ?_; rintro e w3 ⟨rfl, hb3⟩
        have t3 : (fun w' => w'.cell? ⟨wr.heap.size, 0, none⟩ = some (.int .u32 (gs : Int)) ∧ w'.cell? ⟨wr.heap.size, 1, none⟩ = some (.int .u32 (sq : Int)) ∧ w'.cell? ⟨wr.heap.size, 2, none⟩ = some (.int .i64 pt) ∧ w'.cell? ⟨wr.heap.size, 3, none⟩ = some (.int .i64 ps) ∧ w'.cell? ⟨wr.heap.size, 4, none⟩ = some (.slice eA en ec) ∧ w'.cell? ⟨b, o, none⟩ = some (.int .u32 (g0 : Int)) ∧ w'.cell? ⟨b, o + 1, none⟩ = some (.int .u32 (s0 : Int))) w3 := ⟨below_cell hb3 t0.1, below_cell hb3 t0.2.1, below_cell hb3 t0.2.2.1, below_cell hb3 t0.2.2.2.1, below_cell hb3 t0.2.2.2.2.1, below_cell hb3 t0.2.2.2.2.2.1, below_cell hb3 t0.2.2.2.2.2.2⟩
        rw [hmv]
        go_wp2_with fail
        refine hK.out _ _ (fun _ => t3) ?_
        clear hK K
        try simp only [Act.put, List.getElem_toArray, List.getElem_cons_succ, List.getElem_cons_zero, List.setIfInBounds_toArray, List.set_cons_zero, List.set_cons_succ]
        refine wpAnyL_take (i := 2) (v := ?_) rfl (by kernel_rfl) (by kernel_rfl) (by kernel_rfl) (by kernel_rfl) (by kernel_rfl) (fun _ _ _ h => h) (Or.inl ⟨by kernel_rfl, ?_⟩) t3 ?_
        rotate_left
        · rintro w0 ⟨h1_, h2_, h3_, h4_, h5_, h6_, h7_⟩; go_simp; (try with_reducible rfl)
        try simp only [Act.put, List.getElem_toArray, List.getElem_cons_succ, List.getElem_cons_zero, List.setIfInBounds_toArray, List.set_cons_zero, List.set_cons_succ]
        refine wpAnyL_take (i := 3) (v := ?_) rfl (by kernel_rfl) (by kernel_rfl) (by kernel_rfl) (by kernel_rfl) (by kernel_rfl) (fun _ _ _ h => h) (Or.inl ⟨by kernel_rfl, ?_⟩) t3 ?_
        rotate_left
        · rintro w0 ⟨h1_, h2_, h3_, h4_, h5_, h6_, h7_⟩; go_simp; (try with_reducible rfl)
        try simp only [Act.put, List.getElem_toArray, List.getElem_cons_succ, List.getElem_cons_zero, List.setIfInBounds_toArray, List.set_cons_zero, List.set_cons_succ]
        refine wpAnyL_take (i := 4) (v := ?_) rfl (by kernel_rfl) (by kernel_rfl) (by kernel_rfl) (by kernel_rfl) (by kernel_rfl) (fun _ _ _ h => h) (Or.inl ⟨by kernel_rfl, ?_⟩) t3 ?_
        rotate_left
        · rintro w0 ⟨h1_, h2_, h3_, h4_, h5_, h6_, h7_⟩; go_simp; (try with_reducible rfl)
        try simp only [Act.put, List.getElem_toArray, List.getElem_cons_succ, List.getElem_cons_zero, List.setIfInBounds_toArray, List.set_cons_zero, List.set_cons_succ]
        refine wpAnyL_take (i := 5) (v := ?_) rfl (by kernel_rfl) (by kernel_rfl) (by kernel_rfl) (by kernel_rfl) (by kernel_rfl) (fun _ _ _ h => h) (Or.inl ⟨by kernel_rfl, ?_⟩) t3 ?_
        rotate_left
        · rintro w0 ⟨h1_, h2_, h3_, h4_, h5_, h6_, h7_⟩; go_simp; (try with_reducible rfl)
        try simp only [Act.put, List.getElem_toArray, List.getElem_cons_succ, List.getElem_cons_zero, List.setIfInBounds_toArray, List.set_cons_zero, List.set_cons_succ]
        refine wpAnyL_take (i := 6) (v := ?_) rfl (by kernel_rfl) (by kernel_rfl) (by kernel_rfl) (by kernel_rfl) (by kernel_rfl) (fun _ _ _ h => h) (Or.inl ⟨by kernel_rfl, ?_⟩) t3 ?_
        rotate_left
        · rintro w0 ⟨h1_, h2_, h3_, h4_, h5_, h6_, h7_⟩; go_simp; (try with_reducible rfl)
        try simp only [Act.put, List.getElem_toArray, List.getElem_cons_succ, List.getElem_cons_zero, List.setIfInBounds_toArray, List.set_cons_zero, List.set_cons_succ]
        refine wpAnyL_take (i := 7) (v := ?_) rfl (by kernel_rfl) (by kernel_rfl) (by kernel_rfl) (by kernel_rfl) (by kernel_rfl) (fun _ _ _ h => h) (Or.inl ⟨by kernel_rfl, ?_⟩) t3 ?_
        rotate_left
        · rintro w0 ⟨h1_, h2_, h3_, h4_, h5_, h6_, h7_⟩; go_simp; (try with_reducible rfl)
        try simp only [Act.put, List.getElem_toArray, List.getElem_cons_succ, List.getElem_cons_zero, List.setIfInBounds_toArray, List.set_cons_zero, List.set_cons_succ]
        refine wpAnyL_take (i := 8) (v := ?_) rfl (by kernel_rfl) (by kernel_rfl) (by kernel_rfl) (by kernel_rfl) (by kernel_rfl) (fun _ _ _ h => h) (Or.inl ⟨by kernel_rfl, ?_⟩) t3 ?_
        rotate_left
        · rintro w0 ⟨h1_, h2_, h3_, h4_, h5_, h6_, h7_⟩; go_simp; (try with_reducible rfl)
        try simp only [Act.put, List.getElem_toArray, List.getElem_cons_succ, List.getElem_cons_zero, List.setIfInBounds_toArray, List.set_cons_zero, List.set_cons_succ]
        refine wpAnyL_take (i := 9) (v := ?_) rfl (by kernel_rfl) (by kernel_rfl) (by kernel_rfl) (by kernel_rfl) (by kernel_rfl) (fun _ _ _ h => h) (Or.inl ⟨by kernel_rfl, ?_⟩) t3 ?_
        rotate_left
        · rintro w0 ⟨h1_, h2_, h3_, h4_, h5_, h6_, h7_⟩; go_simp; (try with_reducible rfl)
        try simp only [Act.put, List.getElem_toArray, List.getElem_cons_succ, List.getElem_cons_zero, List.setIfInBounds_toArray, List.set_cons_zero, List.set_cons_succ]
        refine wpAnyL_take (i := 10) (v := ?_) rfl (by kernel_rfl) (by kernel_rfl) (by kernel_rfl) (by kernel_rfl) (by kernel_rfl) (fun _ _ _ h => h) (Or.inl ⟨by kernel_rfl, ?_⟩) t3 ?_
        rotate_left
        · rintro w0 ⟨h1_, h2_, h3_, h4_, h5_, h6_, h7_⟩; go_simp; (try with_reducible rfl)
        try simp only [Act.put, List.getElem_toArray, List.getElem_cons_succ, List.getElem_cons_zero, List.setIfInBounds_toArray, List.set_cons_zero, List.set_cons_succ]
        refine wpAnyL_take (i := 11) (v := ?_) rfl (by kernel_rfl) (by kernel_rfl) (by kernel_rfl) (by kernel_rfl) (by kernel_rfl) (fun _ _ _ h => h) (Or.inl ⟨by kernel_rfl, ?_⟩) t3 ?_
        rotate_left
        · rintro w0 ⟨h1_, h2_, h3_, h4_, h5_, h6_, h7_⟩; go_simp; (try with_reducible rfl)
        try simp only [Act.put, List.getElem_toArray, List.getElem_cons_succ, List.getElem_cons_zero, List.setIfInBounds_toArray, List.set_cons_zero, List.set_cons_succ]
        refine wpAnyL_take (i := 12) (v := ?_) rfl (by kernel_rfl) (by kernel_rfl) (by kernel_rfl) (by kernel_rfl) (by kernel_rfl) (fun _ _ _ h => h) (Or.inl ⟨by kernel_rfl, ?_⟩) t3 ?_
        rotate_left
        · rintro w0 ⟨h1_, h2_, h3_, h4_, h5_, h6_, h7_⟩; go_simp; (try with_reducible rfl)
        try simp only [Act.put, List.getElem_toArray, List.getElem_cons_succ, List.getElem_cons_zero, List.setIfInBounds_toArray, List.set_cons_zero, List.set_cons_succ]
        refine wpAnyL_take (i := 13) (v := ?_) rfl (by kernel_rfl) (by kernel_rfl) (by kernel_rfl) (by kernel_rfl) (by kernel_rfl) (fun _ _ _ h => h) (Or.inl ⟨by kernel_rfl, ?_⟩) t3 ?_
        rotate_left
        · rintro w0 ⟨h1_, h2_, h3_, h4_, h5_, h6_, h7_⟩; go_simp; (try with_reducible rfl)
        try simp only [Act.put, List.getElem_toArray, List.getElem_cons_succ, List.getElem_cons_zero, List.setIfInBounds_toArray, List.set_cons_zero, List.set_cons_succ]
        refine wpAnyL_take (i := 14) (v := ?_) rfl (by kernel_rfl) (by kernel_rfl) (by kernel_rfl) (by kernel_rfl) (by kernel_rfl) (fun _ _ _ h => h) (Or.inl ⟨by kernel_rfl, ?_⟩) t3 ?_
        rotate_left
        · rintro w0 ⟨h1_, h2_, h3_, h4_, h5_, h6_, h7_⟩; go_simp; (try with_reducible rfl)
        try simp only [Act.put, List.getElem_toArray, List.getElem_cons_succ, List.getElem_cons_zero, List.setIfInBounds_toArray, List.set_cons_zero, List.set_cons_succ]
        refine wpAnyL_take (i := 15) (v := ?_) rfl (by kernel_rfl) (by kernel_rfl) (by kernel_rfl) (by kernel_rfl) (by kernel_rfl) (fun _ _ _ h => h) (Or.inl ⟨by kernel_rfl, ?_⟩) t3 ?_
        rotate_left
        · rintro w0 ⟨h1_, h2_, h3_, h4_, h5_, h6_, h7_⟩; go_simp; (try with_reducible rfl)
        try simp only [Act.put, List.getElem_toArray, List.getElem_cons_succ, List.getElem_cons_zero, List.setIfInBounds_toArray, List.set_cons_zero, List.set_cons_succ]
        refine wpAnyL_take (i := 16) (v := ?_) rfl (by kernel_rfl) (by kernel_rfl) (by kernel_rfl) (by kernel_rfl) (by kernel_rfl) (fun _ _ _ h => h) (Or.inl ⟨by kernel_rfl, ?_⟩) t3 ?_
        rotate_left
        · rintro w0 ⟨h1_, h2_, h3_, h4_, h5_, h6_, h7_⟩; go_simp; (try with_reducible rfl)
        try simp only [Act.put, List.getElem_toArray, List.getElem_cons_succ, List.getElem_cons_zero, List.setIfInBounds_toArray, List.set_cons_zero, List.set_cons_succ]
        refine wpAnyL_take (i := 17) (v := undef) rfl (by kernel_rfl) (by kernel_rfl) (by kernel_rfl) (by kernel_rfl) (by kernel_rfl) (fun _ _ _ h => h) (Or.inr ⟨by kernel_rfl, rfl⟩) t3 ?_
        try simp only [Act.put, List.getElem_toArray, List.getElem_cons_succ, List.getElem_cons_zero, List.setIfInBounds_toArray, List.set_cons_zero, List.set_cons_succ]
        refine wpAnyL_take (i := 18) (v := undef) rfl (by kernel_rfl) (by kernel_rfl) (by kernel_rfl) (by kernel_rfl) (by kernel_rfl) (fun _ _ _ h => h) (Or.inr ⟨by kernel_rfl, rfl⟩) t3 ?_
        try simp only [Act.put, List.getElem_toArray, List.getElem_cons_succ, List.getElem_cons_zero, List.setIfInBounds_toArray, List.set_cons_zero, List.set_cons_succ]
        refine wpAnyL_take (i := 19) (v := undef) rfl (by kernel_rfl) (by kernel_rfl) (by kernel_rfl) (by kernel_rfl) (by kernel_rfl) (fun _ _ _ h => h) (Or.inr ⟨by kernel_rfl, rfl⟩) t3 ?_
        try simp only [Act.put, List.getElem_toArray, List.getElem_cons_succ, List.getElem_cons_zero, List.setIfInBounds_toArray, List.set_cons_zero, List.set_cons_succ]
        refine wpAnyL_take (i := 20) (v := undef) rfl (by kernel_rfl) (by kernel_rfl) (by kernel_rfl) (by kernel_rfl) (by kernel_rfl) (fun _ _ _ h => h) (Or.inr ⟨by kernel_rfl, rfl⟩) t3 ?_
        try simp only [Act.put, List.getElem_toArray, List.getElem_cons_succ, List.getElem_cons_zero, List.setIfInBounds_toArray, List.set_cons_zero, List.set_cons_succ]
        refine wpAnyL_take (i := 21) (v := undef) rfl (by kernel_rfl) (by kernel_rfl) (by kernel_rfl) (by kernel_rfl) (by kernel_rfl) (fun _ _ _ h => h) (Or.inr ⟨by kernel_rfl, rfl⟩) t3 ?_
        try simp only [Act.put, List.getElem_toArray, List.getElem_cons_succ, List.getElem_cons_zero, List.setIfInBounds_toArray, List.set_cons_zero, List.set_cons_succ]
        refine wpAnyL_take (i := 22) (v := undef) rfl (by kernel_rfl) (by kernel_rfl) (by kernel_rfl) (by kernel_rfl) (by kernel_rfl) (fun _ _ _ h => h) (Or.inr ⟨by kernel_rfl, rfl⟩) t3 ?_
        try simp only [Act.put, List.getElem_toArray, List.getElem_cons_succ, List.getElem_cons_zero, List.setIfInBounds_toArray, List.set_cons_zero, List.set_cons_succ]
        refine wpAnyL_take (i := 23) (v := undef) rfl (by kernel_rfl) (by kernel_rfl) (by kernel_rfl) (by kernel_rfl) (by kernel_rfl) (fun _ _ _ h => h) (Or.inr ⟨by kernel_rfl, rfl⟩) t3 ?_
        try simp only [Act.put, List.getElem_toArray, List.getElem_cons_succ, List.getElem_cons_zero, List.setIfInBounds_toArray, List.set_cons_zero, List.set_cons_succ]
        refine wpAnyL_take (i := 24) (v := ?_) rfl (by kernel_rfl) (by kernel_rfl) (by kernel_rfl) (by kernel_rfl) (by kernel_rfl) (fun _ _ _ h => h) (Or.inl ⟨by kernel_rfl, ?_⟩) t3 ?_
        rotate_left
        · rintro w0 ⟨h1_, h2_, h3_, h4_, h5_, h6_, h7_⟩; go_simp; (try with_reducible rfl)
        try simp only [Act.put, List.getElem_toArray, List.getElem_cons_succ, List.getElem_cons_zero, List.setIfInBounds_toArray, List.set_cons_zero, List.set_cons_succ]
        refine wpAnyL_take (i := 25) (v := ?_) rfl (by kernel_rfl) (by kernel_rfl) (by kernel_rfl) (by kernel_rfl) (by kernel_rfl) (fun _ _ _ h => h) (Or.inl ⟨by kernel_rfl, ?_⟩) t3 ?_
        rotate_left
        · rintro w0 ⟨h1_, h2_, h3_, h4_, h5_, h6_, h7_⟩; go_simp; (try with_reducible rfl)
        try simp only [Act.put, List.getElem_toArray, List.getElem_cons_succ, List.getElem_cons_zero, List.setIfInBounds_toArray, List.set_cons_zero, List.set_cons_succ]
        refine wpAnyL_take (i := 26) (v := undef) rfl (by kernel_rfl) (by kernel_rfl) (by kernel_rfl) (by kernel_rfl) (by kernel_rfl) (fun _ _ _ h => h) (Or.inr ⟨by kernel_rfl, rfl⟩) t3 ?_
        try simp only [Act.put, List.getElem_toArray, List.getElem_cons_succ, List.getElem_cons_zero, List.setIfInBounds_toArray, List.set_cons_zero, List.set_cons_succ]
        refine wpAnyL_take (i := 27) (v := undef) rfl (by kernel_rfl) (by kernel_rfl) (by kernel_rfl) (by kernel_rfl) (by kernel_rfl) (fun _ _ _ h => h) (Or.inr ⟨by kernel_rfl, rfl⟩) t3 ?_
        try simp only [Act.put, List.getElem_toArray, List.getElem_cons_succ, List.getElem_cons_zero, List.setIfInBounds_toArray, List.set_cons_zero, List.set_cons_succ]
        refine wpAnyL_take (i := 28) (v := undef) rfl (by kernel_rfl) (by kernel_rfl) (by kernel_rfl) (by kernel_rfl) (by kernel_rfl) (fun _ _ _ h => h) (Or.inr ⟨by kernel_rfl, rfl⟩) t3 ?_
        try simp only [Act.put, List.getElem_toArray, List.getElem_cons_succ, List.getElem_cons_zero, List.setIfInBounds_toArray, List.set_cons_zero, List.set_cons_succ]
        refine wpAnyL_take (i := 29) (v := undef) rfl (by kernel_rfl) (by kernel_rfl) (by kernel_rfl) (by kernel_rfl) (by kernel_rfl) (fun _ _ _ h => h) (Or.inr ⟨by kernel_rfl, rfl⟩) t3 ?_
        try simp only [Act.put, List.getElem_toArray, List.getElem_cons_succ, List.getElem_cons_zero, List.setIfInBounds_toArray, List.set_cons_zero, List.set_cons_succ]
        refine wpAnyL_take (i := 30) (v := undef) rfl (by kernel_rfl) (by kernel_rfl) (by kernel_rfl) (by kernel_rfl) (by kernel_rfl) (fun _ _ _ h => h) (Or.inr ⟨by kernel_rfl, rfl⟩) t3 ?_
        try simp only [Act.put, List.getElem_toArray, List.getElem_cons_succ, List.getElem_cons_zero, List.setIfInBounds_toArray, List.set_cons_zero, List.set_cons_succ]
        refine wpAnyL_take (i := 31) (v := undef) rfl (by kernel_rfl) (by kernel_rfl) (by kernel_rfl) (by kernel_rfl) (by kernel_rfl) (fun _ _ _ h => h) (Or.inr ⟨by kernel_rfl, rfl⟩) t3 ?_
        try simp only [Act.put, List.getElem_toArray, List.getElem_cons_succ, List.getElem_cons_zero, List.setIfInBounds_toArray, List.set_cons_zero, List.set_cons_succ]
        refine wpAnyL_take (i := 32) (v := undef) rfl (by kernel_rfl) (by kernel_rfl) (by kernel_rfl) (by kernel_rfl) (by kernel_rfl) (fun _ _ _ h => h) (Or.inr ⟨by kernel_rfl, rfl⟩) t3 ?_
        try simp only [Act.put, List.getElem_toArray, List.getElem_cons_succ, List.getElem_cons_zero, List.setIfInBounds_toArray, List.set_cons_zero, List.set_cons_succ]
        refine wpAnyL_take (i := 33) (v := ?_) rfl (by kernel_rfl) (by kernel_rfl) (by kernel_rfl) (by kernel_rfl) (by kernel_rfl) (fun _ _ _ h => h) (Or.inl ⟨by kernel_rfl, ?_⟩) t3 ?_
        rotate_left
        · rintro w0 ⟨h1_, h2_, h3_, h4_, h5_, h6_, h7_⟩; go_simp; (try with_reducible rfl)
        try simp only [Act.put, List.getElem_toArray, List.getElem_cons_succ, List.getElem_cons_zero, List.setIfInBounds_toArray, List.set_cons_zero, List.set_cons_succ]
        refine wpAnyL_done (by kernel_rfl) ?_ _
        obtain ⟨hL, hLL, hLn, hm, h8, ho, hR, hb, hbl, hbl', hdl, hie, h1, h2⟩ := HH.out
        have hb4 := below_step hb0 hb3 hb0.size
        go_wp2_with fail
        go_ret2
        exact join_no (not_right HX.out.1 (fun r => h2 (by rw [← hLn]; exact r.parts))) hb4
      have q2 : (ps != (n : Int)) = false := by simp [h2]
      by_cases h3 : gs = g0
      case neg =>
        have q3 : ((gs : Int) != (g0 : Int)) = true := by simp; omega
        have HH := Lib.hid (And.intro hL (And.intro hLL (And.intro hLn (And.intro hm (And.intro h8 (And.intro ho (And.intro hR (And.intro hb (And.intro hbl (And.intro hbl' (And.intro hdl (And.intro hie (And.intro h1 (And.intro h2 (h3)))))))))))))))
        clear hL hLL hLn hm h8 ho hR hb hbl hbl' hdl hie h1 h2 h3
        refine wp_region_late [] (fun w' => w'.cell? ⟨wr.heap.size, 0, none⟩ = some (.int .u32 (gs : Int)) ∧ w'.cell? ⟨wr.heap.size, 1, none⟩ = some (.int .u32 (sq : Int)) ∧ w'.cell? ⟨wr.heap.size, 2, none⟩ = some (.int .i64 pt) ∧ w'.cell? ⟨wr.heap.size, 3, none⟩ = some (.int .i64 ps) ∧ w'.cell? ⟨wr.heap.size, 4, none⟩ = some (.slice eA en ec) ∧ w'.cell? ⟨b, o, none⟩ = some (.int .u32 (g0 : Int)) ∧ w'.cell? ⟨b, o + 1, none⟩ = some (.int .u32 (s0 : Int))) (by kernel_rfl) ?_
        refine wpAnyL_take (i := 0) (v := ?_) rfl (by kernel_rfl) (by kernel_rfl) (by kernel_rfl) (by kernel_rfl) (by kernel_rfl) (fun _ _ _ h => h) (Or.inl ⟨by kernel_rfl, ?_⟩) t0 ?_
        rotate_left
        · rintro w0 ⟨h1_, h2_, h3_, h4_, h5_, h6_, h7_⟩; go_simp; (try with_reducible rfl)
        try simp only [Act.put, List.getElem_toArray, List.getElem_cons_succ, List.getElem_cons_zero, List.setIfInBounds_toArray, List.set_cons_zero, List.set_cons_succ]
        refine wpAnyL_one (i := 1) (by kernel_rfl) rfl (fun K hK => ?_)
        go_simp
        refine (cmay_any gs sq pt ps eA en ec _ hp).mono ?_; rintro e w3 ⟨rfl, hb3⟩
        have t3 : (fun w' => w'.cell? ⟨wr.heap.size, 0, none⟩ = some (.int .u32 (gs : Int)) ∧ w'.cell? ⟨wr.heap.size, 1, none⟩ = some (.int .u32 (sq : Int)) ∧ w'.cell? ⟨wr.heap.size, 2, none⟩ = some (.int .i64 pt) ∧ w'.cell? ⟨wr.heap.size, 3, none⟩ = some (.int .i64 ps) ∧ w'.cell? ⟨wr.heap.size, 4, none⟩ = some (.slice eA en ec) ∧ w'.cell? ⟨b, o, none⟩ = some (.int .u32 (g0 : Int)) ∧ w'.cell? ⟨b, o + 1, none⟩ = some (.int .u32 (s0 : Int))) w3 := ⟨below_cell hb3 t0.1, below_cell hb3 t0.2.1, below_cell hb3 t0.2.2.1, below_cell hb3 t0.2.2.2.1, below_cell hb3 t0.2.2.2.2.1, below_cell hb3 t0.2.2.2.2.2.1, below_cell hb3 t0.2.2.2.2.2.2⟩
        rw [hmv]
        go_wp2_with fail
        refine hK.out _ _ (fun _ => t3) ?_
        clear hK K
        try simp only [Act.put, List.getElem_toArray, List.getElem_cons_succ, List.getElem_cons_zero, List.setIfInBounds_toArray, List.set_cons_zero, List.set_cons_succ]
        refine wpAnyL_take (i := 2) (v := ?_) rfl (by kernel_rfl) (by kernel_rfl) (by kernel_rfl) (by kernel_rfl) (by kernel_rfl) (fun _ _ _ h => h) (Or.inl ⟨by kernel_rfl, ?_⟩) t3 ?_
        rotate_left
        · rintro w0 ⟨h1_, h2_, h3_, h4_, h5_, h6_, h7_⟩; go_simp; (try with_reducible rfl)
        try simp only [Act.put, List.getElem_toArray, List.getElem_cons_succ, List.getElem_cons_zero, List.setIfInBounds_toArray, List.set_cons_zero, List.set_cons_succ]
        refine wpAnyL_take (i := 3) (v := ?_) rfl (by kernel_rfl) (by kernel_rfl) (by kernel_rfl) (by kernel_rfl) (by kernel_rfl) (fun _ _ _ h => h) (Or.inl ⟨by kernel_rfl, ?_⟩) t3 ?_
        rotate_left
        · rintro w0 ⟨h1_, h2_, h3_, h4_, h5_, h6_, h7_⟩; go_simp; (try with_reducible rfl)
        try simp only [Act.put, List.getElem_toArray, List.getElem_cons_succ, List.getElem_cons_zero, List.setIfInBounds_toArray, List.set_cons_zero, List.set_cons_succ]
        refine wpAnyL_take (i := 4) (v := ?_) rfl (by kernel_rfl) (by kernel_rfl) (by kernel_rfl) (by kernel_rfl) (by kernel_rfl) (fun _ _ _ h => h) (Or.inl ⟨by kernel_rfl, ?_⟩) t3 ?_
        rotate_left
        · rintro w0 ⟨h1_, h2_, h3_, h4_, h5_, h6_, h7_⟩; go_simp; (try with_reducible rfl)
        try simp only [Act.put, List.getElem_toArray, List.getElem_cons_succ, List.getElem_cons_zero, List.setIfInBounds_toArray, List.set_cons_zero, List.set_cons_succ]
        refine wpAnyL_take (i := 5) (v := ?_) rfl (by kernel_rfl) (by kernel_rfl) (by kernel_rfl) (by kernel_rfl) (by kernel_rfl) (fun _ _ _ h => h) (Or.inl ⟨by kernel_rfl, ?_⟩) t3 ?_
        rotate_left
        · rintro w0 ⟨h1_, h2_, h3_, h4_, h5_, h6_, h7_⟩; go_simp; (try with_reducible rfl)
        try simp only [Act.put, List.getElem_toArray, List.getElem_cons_succ, List.getElem_cons_zero, List.setIfInBounds_toArray, List.set_cons_zero, List.set_cons_succ]
        refine wpAnyL_take (i := 6) (v := ?_) rfl (by kernel_rfl) (by kernel_rfl) (by kernel_rfl) (by kernel_rfl) (by kernel_rfl) (fun _ _ _ h => h) (Or.inl ⟨by kernel_rfl, ?_⟩) t3 ?_
        rotate_left
        · rintro w0 ⟨h1_, h2_, h3_, h4_, h5_, h6_, h7_⟩; go_simp; (try with_reducible rfl)
        try simp only [Act.put, List.getElem_toArray, List.getElem_cons_succ, List.getElem_cons_zero, List.setIfInBounds_toArray, List.set_cons_zero, List.set_cons_succ]
        refine wpAnyL_take (i := 7) (v := ?_) rfl (by kernel_rfl) (by kernel_rfl) (by kernel_rfl) (by kernel_rfl) (by kernel_rfl) (fun _ _ _ h => h) (Or.inl ⟨by kernel_rfl, ?_⟩) t3 ?_
        rotate_left
        · rintro w0 ⟨h1_, h2_, h3_, h4_, h5_, h6_, h7_⟩; go_simp; (try with_reducible rfl)
        try simp only [Act.put, List.getElem_toArray, List.getElem_cons_succ, List.getElem_cons_zero, List.setIfInBounds_toArray, List.set_cons_zero, List.set_cons_succ]
        refine wpAnyL_take (i := 8) (v := ?_) rfl (by kernel_rfl) (by kernel_rfl) (by kernel_rfl) (by kernel_rfl) (by kernel_rfl) (fun _ _ _ h => h) (Or.inl ⟨by kernel_rfl, ?_⟩) t3 ?_
        rotate_left
        · rintro w0 ⟨h1_, h2_, h3_, h4_, h5_, h6_, h7_⟩; go_simp; (try with_reducible rfl)
        try simp only [Act.put, List.getElem_toArray, List.getElem_cons_succ, List.getElem_cons_zero, List.setIfInBounds_toArray, List.set_cons_zero, List.set_cons_succ]
        refine wpAnyL_take (i := 9) (v := ?_) rfl (by kernel_rfl) (by kernel_rfl) (by kernel_rfl) (by kernel_rfl) (by kernel_rfl) (fun _ _ _ h => h) (Or.inl ⟨by kernel_rfl, ?_⟩) t3 ?_
        rotate_left
        · rintro w0 ⟨h1_, h2_, h3_, h4_, h5_, h6_, h7_⟩; go_simp; (try with_reducible rfl)
        try simp only [Act.put, List.getElem_toArray, List.getElem_cons_succ, List.getElem_cons_zero, List.setIfInBounds_toArray, List.set_cons_zero, List.set_cons_succ]
        refine wpAnyL_take (i := 10) (v := ?_) rfl (by kernel_rfl) (by kernel_rfl) (by kernel_rfl) (by kernel_rfl) (by kernel_rfl) (fun _ _ _ h => h) (Or.inl ⟨by kernel_rfl, ?_⟩) t3 ?_
        rotate_left
        · rintro w0 ⟨h1_, h2_, h3_, h4_, h5_, h6_, h7_⟩; go_simp; (try with_reducible rfl)
        try simp only [Act.put, List.getElem_toArray, List.getElem_cons_succ, List.getElem_cons_zero, List.setIfInBounds_toArray, List.set_cons_zero, List.set_cons_succ]
        refine wpAnyL_take (i := 11) (v := ?_) rfl (by kernel_rfl) (by kernel_rfl) (by kernel_rfl) (by kernel_rfl) (by kernel_rfl) (fun _ _ _ h => h) (Or.inl ⟨by kernel_rfl, ?_⟩) t3 ?_
        rotate_left
        · rintro w0 ⟨h1_, h2_, h3_, h4_, h5_, h6_, h7_⟩; go_simp; (try with_reducible rfl)
        try simp only [Act.put, List.getElem_toArray, List.getElem_cons_succ, List.getElem_cons_zero, List.setIfInBounds_toArray, List.set_cons_zero, List.set_cons_succ]
        refine wpAnyL_take (i := 12) (v := ?_) rfl (by kernel_rfl) (by kernel_rfl) (by kernel_rfl) (by kernel_rfl) (by kernel_rfl) (fun _ _ _ h => h) (Or.inl ⟨by kernel_rfl, ?_⟩) t3 ?_
        rotate_left
        · rintro w0 ⟨h1_, h2_, h3_, h4_, h5_, h6_, h7_⟩; go_simp; (try with_reducible rfl)
        try simp only [Act.put, List.getElem_toArray, List.getElem_cons_succ, List.getElem_cons_zero, List.setIfInBounds_toArray, List.set_cons_zero, List.set_cons_succ]
        refine wpAnyL_take (i := 13) (v := ?_) rfl (by kernel_rfl) (by kernel_rfl) (by kernel_rfl) (by kernel_rfl) (by kernel_rfl) (fun _ _ _ h => h) (Or.inl ⟨by kernel_rfl, ?_⟩) t3 ?_
        rotate_left
        · rintro w0 ⟨h1_, h2_, h3_, h4_, h5_, h6_, h7_⟩; go_simp; (try with_reducible rfl)
        try simp only [Act.put, List.getElem_toArray, List.getElem_cons_succ, List.getElem_cons_zero, List.setIfInBounds_toArray, List.set_cons_zero, List.set_cons_succ]
        refine wpAnyL_take (i := 14) (v := ?_) rfl (by kernel_rfl) (by kernel_rfl) (by kernel_rfl) (by kernel_rfl) (by kernel_rfl) (fun _ _ _ h => h) (Or.inl ⟨by kernel_rfl, ?_⟩) t3 ?_
        rotate_left
        · rintro w0 ⟨h1_, h2_, h3_, h4_, h5_, h6_, h7_⟩; go_simp; (try with_reducible rfl)
        try simp only [Act.put, List.getElem_toArray, List.getElem_cons_succ, List.getElem_cons_zero, List.setIfInBounds_toArray, List.set_cons_zero, List.set_cons_succ]
        refine wpAnyL_take (i := 15) (v := ?_) rfl (by kernel_rfl) (by kernel_rfl) (by kernel_rfl) (by kernel_rfl) (by kernel_rfl) (fun _ _ _ h => h) (Or.inl ⟨by kernel_rfl, ?_⟩) t3 ?_
        rotate_left
        · rintro w0 ⟨h1_, h2_, h3_, h4_, h5_, h6_, h7_⟩; go_simp; (try with_reducible rfl)
        try simp only [Act.put, List.getElem_toArray, List.getElem_cons_succ, List.getElem_cons_zero, List.setIfInBounds_toArray, List.set_cons_zero, List.set_cons_succ]
        refine wpAnyL_take (i := 16) (v := ?_) rfl (by kernel_rfl) (by kernel_rfl) (by kernel_rfl) (by kernel_rfl) (by kernel_rfl) (fun _ _ _ h => h) (Or.inl ⟨by kernel_rfl, ?_⟩) t3 ?_
        rotate_left
        · rintro w0 ⟨h1_, h2_, h3_, h4_, h5_, h6_, h7_⟩; go_simp; (try with_reducible rfl)
        try simp only [Act.put, List.getElem_toArray, List.getElem_cons_succ, List.getElem_cons_zero, List.setIfInBounds_toArray, List.set_cons_zero, List.set_cons_succ]
        refine wpAnyL_take (i := 17) (v := ?_) rfl (by kernel_rfl) (by kernel_rfl) (by kernel_rfl) (by kernel_rfl) (by kernel_rfl) (fun _ _ _ h => h) (Or.inl ⟨by kernel_rfl, ?_⟩) t3 ?_
        rotate_left
        · rintro w0 ⟨h1_, h2_, h3_, h4_, h5_, h6_, h7_⟩; go_simp; (try with_reducible rfl)
        try simp only [Act.put, List.getElem_toArray, List.getElem_cons_succ, List.getElem_cons_zero, List.setIfInBounds_toArray, List.set_cons_zero, List.set_cons_succ]
        refine wpAnyL_take (i := 18) (v := ?_) rfl (by kernel_rfl) (by kernel_rfl) (by kernel_rfl) (by kernel_rfl) (by kernel_rfl) (fun _ _ _ h => h) (Or.inl ⟨by kernel_rfl, ?_⟩) t3 ?_
        rotate_left
        · rintro w0 ⟨h1_, h2_, h3_, h4_, h5_, h6_, h7_⟩; go_simp; (try with_reducible rfl)
        try simp only [Act.put, List.getElem_toArray, List.getElem_cons_succ, List.getElem_cons_zero, List.setIfInBounds_toArray, List.set_cons_zero, List.set_cons_succ]
        refine wpAnyL_take (i := 19) (v := ?_) rfl (by kernel_rfl) (by kernel_rfl) (by kernel_rfl) (by kernel_rfl) (by kernel_rfl) (fun _ _ _ h => h) (Or.inl ⟨by kernel_rfl, ?_⟩) t3 ?_
        rotate_left
        · rintro w0 ⟨h1_, h2_, h3_, h4_, h5_, h6_, h7_⟩; go_simp; (try with_reducible rfl)
        try simp only [Act.put, List.getElem_toArray, List.getElem_cons_succ, List.getElem_cons_zero, List.setIfInBounds_toArray, List.set_cons_zero, List.set_cons_succ]
        refine wpAnyL_take (i := 20) (v := ?_) rfl (by kernel_rfl) (by kernel_rfl) (by kernel_rfl) (by kernel_rfl) (by kernel_rfl) (fun _ _ _ h => h) (Or.inl ⟨by kernel_rfl, ?_⟩) t3 ?_
        rotate_left
        · rintro w0 ⟨h1_, h2_, h3_, h4_, h5_, h6_, h7_⟩; go_simp; (try with_reducible rfl)
        try simp only [Act.put, List.getElem_toArray, List.getElem_cons_succ, List.getElem_cons_zero, List.setIfInBounds_toArray, List.set_cons_zero, List.set_cons_succ]
        refine wpAnyL_take (i := 21) (v := ?_) rfl (by kernel_rfl) (by kernel_rfl) (by kernel_rfl) (by kernel_rfl) (by kernel_rfl) (fun _ _ _ h => h) (Or.inl ⟨by kernel_rfl, ?_⟩) t3 ?_
        rotate_left
        · rintro w0 ⟨h1_, h2_, h3_, h4_, h5_, h6_, h7_⟩; go_simp; (try with_reducible rfl)
        try simp only [Act.put, List.getElem_toArray, List.getElem_cons_succ, List.getElem_cons_zero, List.setIfInBounds_toArray, List.set_cons_zero, List.set_cons_succ]
        refine wpAnyL_take (i := 22) (v := ?_) rfl (by kernel_rfl) (by kernel_rfl) (by kernel_rfl) (by kernel_rfl) (by kernel_rfl) (fun _ _ _ h => h) (Or.inl ⟨by kernel_rfl, ?_⟩) t3 ?_
        rotate_left
        · rintro w0 ⟨h1_, h2_, h3_, h4_, h5_, h6_, h7_⟩; go_simp; (try with_reducible rfl)
        try simp only [Act.put, List.getElem_toArray, List.getElem_cons_succ, List.getElem_cons_zero, List.setIfInBounds_toArray, List.set_cons_zero, List.set_cons_succ]
        refine wpAnyL_take (i := 23) (v := ?_) rfl (by kernel_rfl) (by kernel_rfl) (by kernel_rfl) (by kernel_rfl) (by kernel_rfl) (fun _ _ _ h => h) (Or.inl ⟨by kernel_rfl, ?_⟩) t3 ?_
        rotate_left
        · rintro w0 ⟨h1_, h2_, h3_, h4_, h5_, h6_, h7_⟩; go_simp; (try with_reducible rfl)
        try simp only [Act.put, List.getElem_toArray, List.getElem_cons_succ, List.getElem_cons_zero, List.setIfInBounds_toArray, List.set_cons_zero, List.set_cons_succ]
        refine wpAnyL_take (i := 24) (v := ?_) rfl (by kernel_rfl) (by kernel_rfl) (by kernel_rfl) (by kernel_rfl) (by kernel_rfl) (fun _ _ _ h => h) (Or.inl ⟨by kernel_rfl, ?_⟩) t3 ?_
        rotate_left
        · rintro w0 ⟨h1_, h2_, h3_, h4_, h5_, h6_, h7_⟩; go_simp; (try with_reducible rfl)
        try simp only [Act.put, List.getElem_toArray, List.getElem_cons_succ, List.getElem_cons_zero, List.setIfInBounds_toArray, List.set_cons_zero, List.set_cons_succ]
        refine wpAnyL_take (i := 25) (v := ?_) rfl (by kernel_rfl) (by kernel_rfl) (by kernel_rfl) (by kernel_rfl) (by kernel_rfl) (fun _ _ _ h => h) (Or.inl ⟨by kernel_rfl, ?_⟩) t3 ?_
        rotate_left
        · rintro w0 ⟨h1_, h2_, h3_, h4_, h5_, h6_, h7_⟩; go_simp; (try with_reducible rfl)
        try simp only [Act.put, List.getElem_toArray, List.getElem_cons_succ, List.getElem_cons_zero, List.setIfInBounds_toArray, List.set_cons_zero, List.set_cons_succ]
        refine wpAnyL_take (i := 26) (v := undef) rfl (by kernel_rfl) (by kernel_rfl) (by kernel_rfl) (by kernel_rfl) (by kernel_rfl) (fun _ _ _ h => h) (Or.inr ⟨by kernel_rfl, rfl⟩) t3 ?_
        try simp only [Act.put, List.getElem_toArray, List.getElem_cons_succ, List.getElem_cons_zero, List.setIfInBounds_toArray, List.set_cons_zero, List.set_cons_succ]
        refine wpAnyL_take (i := 27) (v := undef) rfl (by kernel_rfl) (by kernel_rfl) (by kernel_rfl) (by kernel_rfl) (by kernel_rfl) (fun _ _ _ h => h) (Or.inr ⟨by kernel_rfl, rfl⟩) t3 ?_
        try simp only [Act.put, List.getElem_toArray, List.getElem_cons_succ, List.getElem_cons_zero, List.setIfInBounds_toArray, List.set_cons_zero, List.set_cons_succ]
        refine wpAnyL_take (i := 28) (v := undef) rfl (by kernel_rfl) (by kernel_rfl) (by kernel_rfl) (by kernel_rfl) (by kernel_rfl) (fun _ _ _ h => h) (Or.inr ⟨by kernel_rfl, rfl⟩) t3 ?_
        try simp only [Act.put, List.getElem_toArray, List.getElem_cons_succ, List.getElem_cons_zero, List.setIfInBounds_toArray, List.set_cons_zero, List.set_cons_succ]
        refine wpAnyL_take (i := 29) (v := undef) rfl (by kernel_rfl) (by kernel_rfl) (by kernel_rfl) (by kernel_rfl) (by kernel_rfl) (fun _ _ _ h => h) (Or.inr ⟨by kernel_rfl, rfl⟩) t3 ?_
        try simp only [Act.put, List.getElem_toArray, List.getElem_cons_succ, List.getElem_cons_zero, List.setIfInBounds_toArray, List.set_cons_zero, List.set_cons_succ]
        refine wpAnyL_take (i := 30) (v := undef) rfl (by kernel_rfl) (by kernel_rfl) (by kernel_rfl) (by kernel_rfl) (by kernel_rfl) (fun _ _ _ h => h) (Or.inr ⟨by kernel_rfl, rfl⟩) t3 ?_
        try simp only [Act.put, List.getElem_toArray, List.getElem_cons_succ, List.getElem_cons_zero, List.setIfInBounds_toArray, List.set_cons_zero, List.set_cons_succ]
        refine wpAnyL_take (i := 31) (v := undef) rfl (by kernel_rfl) (by kernel_rfl) (by kernel_rfl) (by kernel_rfl) (by kernel_rfl) (fun _ _ _ h => h) (Or.inr ⟨by kernel_rfl, rfl⟩) t3 ?_
        try simp only [Act.put, List.getElem_toArray, List.getElem_cons_succ, List.getElem_cons_zero, List.setIfInBounds_toArray, List.set_cons_zero, List.set_cons_succ]
        refine wpAnyL_take (i := 32) (v := undef) rfl (by kernel_rfl) (by kernel_rfl) (by kernel_rfl) (by kernel_rfl) (by kernel_rfl) (fun _ _ _ h => h) (Or.inr ⟨by kernel_rfl, rfl⟩) t3 ?_
        try simp only [Act.put, List.getElem_toArray, List.getElem_cons_succ, List.getElem_cons_zero, List.setIfInBounds_toArray, List.set_cons_zero, List.set_cons_succ]
        refine wpAnyL_take (i := 33) (v := ?_) rfl (by kernel_rfl) (by kernel_rfl) (by kernel_rfl) (by kernel_rfl) (by kernel_rfl) (fun _ _ _ h => h) (Or.inl ⟨by kernel_rfl, ?_⟩) t3 ?_
        rotate_left
        · rintro w0 ⟨h1_, h2_, h3_, h4_, h5_, h6_, h7_⟩; go_simp; (try with_reducible rfl)
        try simp only [Act.put, List.getElem_toArray, List.getElem_cons_succ, List.getElem_cons_zero, List.setIfInBounds_toArray, List.set_cons_zero, List.set_cons_succ]
        refine wpAnyL_done (by kernel_rfl) ?_ _
        obtain ⟨hL, hLL, hLn, hm, h8, ho, hR, hb, hbl, hbl', hdl, hie, h1, h2, h3⟩ := HH.out
        have hb4 := below_step hb0 hb3 hb0.size
        go_wp2_with fail
        go_ret2
        exact join_no (not_right HX.out.1 (fun r => h3 (by have h := r.gen; rw [HX.out.2] at h; exact h))) hb4
      have q3 : ((gs : Int) != (g0 : Int)) = false := by simp [h3]
      by_cases h4 : sq = s0
      case neg =>
        have q4 : ((sq : Int) != (s0 : Int)) = true := by simp; omega
        have HH := Lib.hid (And.intro hL (And.intro hLL (And.intro hLn (And.intro hm (And.intro h8 (And.intro ho (And.intro hR (And.intro hb (And.intro hbl (And.intro hbl' (And.intro hdl (And.intro hie (And.intro h1 (And.intro h2 (And.intro h3 (h4))))))))))))))))
        clear hL hLL hLn hm h8 ho hR hb hbl hbl' hdl hie h1 h2 h3 h4
        refine wp_region_late [] (fun w' => w'.cell? ⟨wr.heap.size, 0, none⟩ = some (.int .u32 (gs : Int)) ∧ w'.cell? ⟨wr.heap.size, 1, none⟩ = some (.int .u32 (sq : Int)) ∧ w'.cell? ⟨wr.heap.size, 2, none⟩ = some (.int .i64 pt) ∧ w'.cell? ⟨wr.heap.size, 3, none⟩ = some (.int .i64 ps) ∧ w'.cell? ⟨wr.heap.size, 4, none⟩ = some (.slice eA en ec) ∧ w'.cell? ⟨b, o, none⟩ = some (.int .u32 (g0 : Int)) ∧ w'.cell? ⟨b, o + 1, none⟩ = some (.int .u32 (s0 : Int))) (by kernel_rfl) ?_
        refine wpAnyL_take (i := 0) (v := ?_) rfl (by kernel_rfl) (by kernel_rfl) (by kernel_rfl) (by kernel_rfl) (by kernel_rfl) (fun _ _ _ h => h) (Or.inl ⟨by kernel_rfl, ?_⟩) t0 ?_
        rotate_left
        · rintro w0 ⟨h1_, h2_, h3_, h4_, h5_, h6_, h7_⟩; go_simp; (try with_reducible rfl)
        try simp only [Act.put, List.getElem_toArray, List.getElem_cons_succ, List.getElem_cons_zero, List.setIfInBounds_toArray, List.set_cons_zero, List.set_cons_succ]
        refine wpAnyL_one (i := 1) (by kernel_rfl) rfl (fun K hK => ?_)
        go_simp
        refine (cmay_any gs sq pt ps eA en ec _ hp).mono ?_; rintro e w3 ⟨rfl, hb3⟩
        have t3 : (fun w' => w'.cell? ⟨wr.heap.size, 0, none⟩ = some (.int .u32 (gs : Int)) ∧ w'.cell? ⟨wr.heap.size, 1, none⟩ = some (.int .u32 (sq : Int)) ∧ w'.cell? ⟨wr.heap.size, 2, none⟩ = some (.int .i64 pt) ∧ w'.cell? ⟨wr.heap.size, 3, none⟩ = some (.int .i64 ps) ∧ w'.cell? ⟨wr.heap.size, 4, none⟩ = some (.slice eA en ec) ∧ w'.cell? ⟨b, o, none⟩ = some (.int .u32 (g0 : Int)) ∧ w'.cell? ⟨b, o + 1, none⟩ = some (.int .u32 (s0 : Int))) w3 := ⟨below_cell hb3 t0.1, below_cell hb3 t0.2.1, below_cell hb3 t0.2.2.1, below_cell hb3 t0.2.2.2.1, below_cell hb3 t0.2.2.2.2.1, below_cell hb3 t0.2.2.2.2.2.1, below_cell hb3 t0.2.2.2.2.2.2⟩
        rw [hmv]
        go_wp2_with fail
        refine hK.out _ _ (fun _ => t3) ?_
        clear hK K
        try simp only [Act.put, List.getElem_toArray, List.getElem_cons_succ, List.getElem_cons_zero, List.setIfInBounds_toArray, List.set_cons_zero, List.set_cons_succ]
        refine wpAnyL_take (i := 2) (v := ?_) rfl (by kernel_rfl) (by kernel_rfl) (by kernel_rfl) (by kernel_rfl) (by kernel_rfl) (fun _ _ _ h => h) (Or.inl ⟨by kernel_rfl, ?_⟩) t3 ?_
        rotate_left
        · rintro w0 ⟨h1_, h2_, h3_, h4_, h5_, h6_, h7_⟩; go_simp; (try with_reducible rfl)
        try simp only [Act.put, List.getElem_toArray, List.getElem_cons_succ, List.getElem_cons_zero, List.setIfInBounds_toArray, List.set_cons_zero, List.set_cons_succ]
        refine wpAnyL_take (i := 3) (v := ?_) rfl (by kernel_rfl) (by kernel_rfl) (by kernel_rfl) (by kernel_rfl) (by kernel_rfl) (fun _ _ _ h => h) (Or.inl ⟨by kernel_rfl, ?_⟩) t3 ?_
        rotate_left
        · rintro w0 ⟨h1_, h2_, h3_, h4_, h5_, h6_, h7_⟩; go_simp; (try with_reducible rfl)
        try simp only [Act.put, List.getElem_toArray, List.getElem_cons_succ, List.getElem_cons_zero, List.setIfInBounds_toArray, List.set_cons_zero, List.set_cons_succ]
        refine wpAnyL_take (i := 4) (v := ?_) rfl (by kernel_rfl) (by kernel_rfl) (by kernel_rfl) (by kernel_rfl) (by kernel_rfl) (fun _ _ _ h => h) (Or.inl ⟨by kernel_rfl, ?_⟩) t3 ?_
        rotate_left
        · rintro w0 ⟨h1_, h2_, h3_, h4_, h5_, h6_, h7_⟩; go_simp; (try with_reducible rfl)
        try simp only [Act.put, List.getElem_toArray, List.getElem_cons_succ, List.getElem_cons_zero, List.setIfInBounds_toArray, List.set_cons_zero, List.set_cons_succ]
        refine wpAnyL_take (i := 5) (v := ?_) rfl (by kernel_rfl) (by kernel_rfl) (by kernel_rfl) (by kernel_rfl) (by kernel_rfl) (fun _ _ _ h => h) (Or.inl ⟨by kernel_rfl, ?_⟩) t3 ?_
        rotate_left
        · rintro w0 ⟨h1_, h2_, h3_, h4_, h5_, h6_, h7_⟩; go_simp; (try with_reducible rfl)
        try simp only [Act.put, List.getElem_toArray, List.getElem_cons_succ, List.getElem_cons_zero, List.setIfInBounds_toArray, List.set_cons_zero, List.set_cons_succ]
        refine wpAnyL_take (i := 6) (v := ?_) rfl (by kernel_rfl) (by kernel_rfl) (by kernel_rfl) (by kernel_rfl) (by kernel_rfl) (fun _ _ _ h => h) (Or.inl ⟨by kernel_rfl, ?_⟩) t3 ?_
        rotate_left
        · rintro w0 ⟨h1_, h2_, h3_, h4_, h5_, h6_, h7_⟩; go_simp; (try with_reducible rfl)
        try simp only [Act.put, List.getElem_toArray, List.getElem_cons_succ, List.getElem_cons_zero, List.setIfInBounds_toArray, List.set_cons_zero, List.set_cons_succ]
        refine wpAnyL_take (i := 7) (v := ?_) rfl (by kernel_rfl) (by kernel_rfl) (by kernel_rfl) (by kernel_rfl) (by kernel_rfl) (fun _ _ _ h => h) (Or.inl ⟨by kernel_rfl, ?_⟩) t3 ?_
        rotate_left
        · rintro w0 ⟨h1_, h2_, h3_, h4_, h5_, h6_, h7_⟩; go_simp; (try with_reducible rfl)
        try simp only [Act.put, List.getElem_toArray, List.getElem_cons_succ, List.getElem_cons_zero, List.setIfInBounds_toArray, List.set_cons_zero, List.set_cons_succ]
        refine wpAnyL_take (i := 8) (v := ?_) rfl (by kernel_rfl) (by kernel_rfl) (by kernel_rfl) (by kernel_rfl) (by kernel_rfl) (fun _ _ _ h => h) (Or.inl ⟨by kernel_rfl, ?_⟩) t3 ?_
        rotate_left
        · rintro w0 ⟨h1_, h2_, h3_, h4_, h5_, h6_, h7_⟩; go_simp; (try with_reducible rfl)
        try simp only [Act.put, List.getElem_toArray, List.getElem_cons_succ, List.getElem_cons_zero, List.setIfInBounds_toArray, List.set_cons_zero, List.set_cons_succ]
        refine wpAnyL_take (i := 9) (v := ?_) rfl (by kernel_rfl) (by kernel_rfl) (by kernel_rfl) (by kernel_rfl) (by kernel_rfl) (fun _ _ _ h => h) (Or.inl ⟨by kernel_rfl, ?_⟩) t3 ?_
        rotate_left
        · rintro w0 ⟨h1_, h2_, h3_, h4_, h5_, h6_, h7_⟩; go_simp; (try with_reducible rfl)
        try simp only [Act.put, List.getElem_toArray, List.getElem_cons_succ, List.getElem_cons_zero, List.setIfInBounds_toArray, List.set_cons_zero, List.set_cons_succ]
        refine wpAnyL_take (i := 10) (v := ?_) rfl (by kernel_rfl) (by kernel_rfl) (by kernel_rfl) (by kernel_rfl) (by kernel_rfl) (fun _ _ _ h => h) (Or.inl ⟨by kernel_rfl, ?_⟩) t3 ?_
        rotate_left
        · rintro w0 ⟨h1_, h2_, h3_, h4_, h5_, h6_, h7_⟩; go_simp; (try with_reducible rfl)
        try simp only [Act.put, List.getElem_toArray, List.getElem_cons_succ, List.getElem_cons_zero, List.setIfInBounds_toArray, List.set_cons_zero, List.set_cons_succ]
        refine wpAnyL_take (i := 11) (v := ?_) rfl (by kernel_rfl) (by kernel_rfl) (by kernel_rfl) (by kernel_rfl) (by kernel_rfl) (fun _ _ _ h => h) (Or.inl ⟨by kernel_rfl, ?_⟩) t3 ?_
        rotate_left
        · rintro w0 ⟨h1_, h2_, h3_, h4_, h5_, h6_, h7_⟩; go_simp; (try with_reducible rfl)
        try simp only [Act.put, List.getElem_toArray, List.getElem_cons_succ, List.getElem_cons_zero, List.setIfInBounds_toArray, List.set_cons_zero, List.set_cons_succ]
        refine wpAnyL_take (i := 12) (v := ?_) rfl (by kernel_rfl) (by kernel_rfl) (by kernel_rfl) (by kernel_rfl) (by kernel_rfl) (fun _ _ _ h => h) (Or.inl ⟨by kernel_rfl, ?_⟩) t3 ?_
        rotate_left
        · rintro w0 ⟨h1_, h2_, h3_, h4_, h5_, h6_, h7_⟩; go_simp; (try with_reducible rfl)
        try simp only [Act.put, List.getElem_toArray, List.getElem_cons_succ, List.getElem_cons_zero, List.setIfInBounds_toArray, List.set_cons_zero, List.set_cons_succ]
        refine wpAnyL_take (i := 13) (v := ?_) rfl (by kernel_rfl) (by kernel_rfl) (by kernel_rfl) (by kernel_rfl) (by kernel_rfl) (fun _ _ _ h => h) (Or.inl ⟨by kernel_rfl, ?_⟩) t3 ?_
        rotate_left
        · rintro w0 ⟨h1_, h2_, h3_, h4_, h5_, h6_, h7_⟩; go_simp; (try with_reducible rfl)
        try simp only [Act.put, List.getElem_toArray, List.getElem_cons_succ, List.getElem_cons_zero, List.setIfInBounds_toArray, List.set_cons_zero, List.set_cons_succ]
        refine wpAnyL_take (i := 14) (v := ?_) rfl (by kernel_rfl) (by kernel_rfl) (by kernel_rfl) (by kernel_rfl) (by kernel_rfl) (fun _ _ _ h => h) (Or.inl ⟨by kernel_rfl, ?_⟩) t3 ?_
        rotate_left
        · rintro w0 ⟨h1_, h2_, h3_, h4_, h5_, h6_, h7_⟩; go_simp; (try with_reducible rfl)
        try simp only [Act.put, List.getElem_toArray, List.getElem_cons_succ, List.getElem_cons_zero, List.setIfInBounds_toArray, List.set_cons_zero, List.set_cons_succ]
        refine wpAnyL_take (i := 15) (v := ?_) rfl (by kernel_rfl) (by kernel_rfl) (by kernel_rfl) (by kernel_rfl) (by kernel_rfl) (fun _ _ _ h => h) (Or.inl ⟨by kernel_rfl, ?_⟩) t3 ?_
        rotate_left
        · rintro w0 ⟨h1_, h2_, h3_, h4_, h5_, h6_, h7_⟩; go_simp; (try with_reducible rfl)
        try simp only [Act.put, List.getElem_toArray, List.getElem_cons_succ, List.getElem_cons_zero, List.setIfInBounds_toArray, List.set_cons_zero, List.set_cons_succ]
        refine wpAnyL_take (i := 16) (v := ?_) rfl (by kernel_rfl) (by kernel_rfl) (by kernel_rfl) (by kernel_rfl) (by kernel_rfl) (fun _ _ _ h => h) (Or.inl ⟨by kernel_rfl, ?_⟩) t3 ?_
        rotate_left
        · rintro w0 ⟨h1_, h2_, h3_, h4_, h5_, h6_, h7_⟩; go_simp; (try with_reducible rfl)
        try simp only [Act.put, List.getElem_toArray, List.getElem_cons_succ, List.getElem_cons_zero, List.setIfInBounds_toArray, List.set_cons_zero, List.set_cons_succ]
        refine wpAnyL_take (i := 17) (v := ?_) rfl (by kernel_rfl) (by kernel_rfl) (by kernel_rfl) (by kernel_rfl) (by kernel_rfl) (fun _ _ _ h => h) (Or.inl ⟨by kernel_rfl, ?_⟩) t3 ?_
        rotate_left
        · rintro w0 ⟨h1_, h2_, h3_, h4_, h5_, h6_, h7_⟩; go_simp; (try with_reducible rfl)
        try simp only [Act.put, List.getElem_toArray, List.getElem_cons_succ, List.getElem_cons_zero, List.setIfInBounds_toArray, List.set_cons_zero, List.set_cons_succ]
        refine wpAnyL_take (i := 18) (v := ?_) rfl (by kernel_rfl) (by kernel_rfl) (by kernel_rfl) (by kernel_rfl) (by kernel_rfl) (fun _ _ _ h => h) (Or.inl ⟨by kernel_rfl, ?_⟩) t3 ?_
        rotate_left
        · rintro w0 ⟨h1_, h2_, h3_, h4_, h5_, h6_, h7_⟩; go_simp; (try with_reducible rfl)
        try simp only [Act.put, List.getElem_toArray, List.getElem_cons_succ, List.getElem_cons_zero, List.setIfInBounds_toArray, List.set_cons_zero, List.set_cons_succ]
        refine wpAnyL_take (i := 19) (v := ?_) rfl (by kernel_rfl) (by kernel_rfl) (by kernel_rfl) (by kernel_rfl) (by kernel_rfl) (fun _ _ _ h => h) (Or.inl ⟨by kernel_rfl, ?_⟩) t3 ?_
        rotate_left
        · rintro w0 ⟨h1_, h2_, h3_, h4_, h5_, h6_, h7_⟩; go_simp; (try with_reducible rfl)
        try simp only [Act.put, List.getElem_toArray, List.getElem_cons_succ, List.getElem_cons_zero, List.setIfInBounds_toArray, List.set_cons_zero, List.set_cons_succ]
        refine wpAnyL_take (i := 20) (v := ?_) rfl (by kernel_rfl) (by kernel_rfl) (by kernel_rfl) (by kernel_rfl) (by kernel_rfl) (fun _ _ _ h => h) (Or.inl ⟨by kernel_rfl, ?_⟩) t3 ?_
        rotate_left
        · rintro w0 ⟨h1_, h2_, h3_, h4_, h5_, h6_, h7_⟩; go_simp; (try with_reducible rfl)
        try simp only [Act.put, List.getElem_toArray, List.getElem_cons_succ, List.getElem_cons_zero, List.setIfInBounds_toArray, List.set_cons_zero, List.set_cons_succ]
        refine wpAnyL_take (i := 21) (v := ?_) rfl (by kernel_rfl) (by kernel_rfl) (by kernel_rfl) (by kernel_rfl) (by kernel_rfl) (fun _ _ _ h => h) (Or.inl ⟨by kernel_rfl, ?_⟩) t3 ?_
        rotate_left
        · rintro w0 ⟨h1_, h2_, h3_, h4_, h5_, h6_, h7_⟩; go_simp; (try with_reducible rfl)
        try simp only [Act.put, List.getElem_toArray, List.getElem_cons_succ, List.getElem_cons_zero, List.setIfInBounds_toArray, List.set_cons_zero, List.set_cons_succ]
        refine wpAnyL_take (i := 22) (v := ?_) rfl (by kernel_rfl) (by kernel_rfl) (by kernel_rfl) (by kernel_rfl) (by kernel_rfl) (fun _ _ _ h => h) (Or.inl ⟨by kernel_rfl, ?_⟩) t3 ?_
        rotate_left
        · rintro w0 ⟨h1_, h2_, h3_, h4_, h5_, h6_, h7_⟩; go_simp; (try with_reducible rfl)
        try simp only [Act.put, List.getElem_toArray, List.getElem_cons_succ, List.getElem_cons_zero, List.setIfInBounds_toArray, List.set_cons_zero, List.set_cons_succ]
        refine wpAnyL_take (i := 23) (v := ?_) rfl (by kernel_rfl) (by kernel_rfl) (by kernel_rfl) (by kernel_rfl) (by kernel_rfl) (fun _ _ _ h => h) (Or.inl ⟨by kernel_rfl, ?_⟩) t3 ?_
        rotate_left
        · rintro w0 ⟨h1_, h2_, h3_, h4_, h5_, h6_, h7_⟩; go_simp; (try with_reducible rfl)
        try simp only [Act.put, List.getElem_toArray, List.getElem_cons_succ, List.getElem_cons_zero, List.setIfInBounds_toArray, List.set_cons_zero, List.set_cons_succ]
        refine wpAnyL_take (i := 24) (v := ?_) rfl (by kernel_rfl) (by kernel_rfl) (by kernel_rfl) (by kernel_rfl) (by kernel_rfl) (fun _ _ _ h => h) (Or.inl ⟨by kernel_rfl, ?_⟩) t3 ?_
        rotate_left
        · rintro w0 ⟨h1_, h2_, h3_, h4_, h5_, h6_, h7_⟩; go_simp; (try with_reducible rfl)
        try simp only [Act.put, List.getElem_toArray, List.getElem_cons_succ, List.getElem_cons_zero, List.setIfInBounds_toArray, List.set_cons_zero, List.set_cons_succ]
        refine wpAnyL_take (i := 25) (v := ?_) rfl (by kernel_rfl) (by kernel_rfl) (by kernel_rfl) (by kernel_rfl) (by kernel_rfl) (fun _ _ _ h => h) (Or.inl ⟨by kernel_rfl, ?_⟩) t3 ?_
        rotate_left
        · rintro w0 ⟨h1_, h2_, h3_, h4_, h5_, h6_, h7_⟩; go_simp; (try with_reducible rfl)
        try simp only [Act.put, List.getElem_toArray, List.getElem_cons_succ, List.getElem_cons_zero, List.setIfInBounds_toArray, List.set_cons_zero, List.set_cons_succ]
        refine wpAnyL_take (i := 26) (v := ?_) rfl (by kernel_rfl) (by kernel_rfl) (by kernel_rfl) (by kernel_rfl) (by kernel_rfl) (fun _ _ _ h => h) (Or.inl ⟨by kernel_rfl, ?_⟩) t3 ?_
        rotate_left
        · rintro w0 ⟨h1_, h2_, h3_, h4_, h5_, h6_, h7_⟩; go_simp; (try with_reducible rfl)
        try simp only [Act.put, List.getElem_toArray, List.getElem_cons_succ, List.getElem_cons_zero, List.setIfInBounds_toArray, List.set_cons_zero, List.set_cons_succ]
        refine wpAnyL_take (i := 27) (v := ?_) rfl (by kernel_rfl) (by kernel_rfl) (by kernel_rfl) (by kernel_rfl) (by kernel_rfl) (fun _ _ _ h => h) (Or.inl ⟨by kernel_rfl, ?_⟩) t3 ?_
        rotate_left
        · rintro w0 ⟨h1_, h2_, h3_, h4_, h5_, h6_, h7_⟩; go_simp; (try with_reducible rfl)
        try simp only [Act.put, List.getElem_toArray, List.getElem_cons_succ, List.getElem_cons_zero, List.setIfInBounds_toArray, List.set_cons_zero, List.set_cons_succ]
        refine wpAnyL_take (i := 28) (v := ?_) rfl (by kernel_rfl) (by kernel_rfl) (by kernel_rfl) (by kernel_rfl) (by kernel_rfl) (fun _ _ _ h => h) (Or.inl ⟨by kernel_rfl, ?_⟩) t3 ?_
        rotate_left
        · rintro w0 ⟨h1_, h2_, h3_, h4_, h5_, h6_, h7_⟩; go_simp; (try with_reducible rfl)
        try simp only [Act.put, List.getElem_toArray, List.getElem_cons_succ, List.getElem_cons_zero, List.setIfInBounds_toArray, List.set_cons_zero, List.set_cons_succ]
        refine wpAnyL_take (i := 29) (v := ?_) rfl (by kernel_rfl) (by kernel_rfl) (by kernel_rfl) (by kernel_rfl) (by kernel_rfl) (fun _ _ _ h => h) (Or.inl ⟨by kernel_rfl, ?_⟩) t3 ?_
        rotate_left
        · rintro w0 ⟨h1_, h2_, h3_, h4_, h5_, h6_, h7_⟩; go_simp; (try with_reducible rfl)
        try simp only [Act.put, List.getElem_toArray, List.getElem_cons_succ, List.getElem_cons_zero, List.setIfInBounds_toArray, List.set_cons_zero, List.set_cons_succ]
        refine wpAnyL_take (i := 30) (v := ?_) rfl (by kernel_rfl) (by kernel_rfl) (by kernel_rfl) (by kernel_rfl) (by kernel_rfl) (fun _ _ _ h => h) (Or.inl ⟨by kernel_rfl, ?_⟩) t3 ?_
        rotate_left
        · rintro w0 ⟨h1_, h2_, h3_, h4_, h5_, h6_, h7_⟩; go_simp; (try with_reducible rfl)
        try simp only [Act.put, List.getElem_toArray, List.getElem_cons_succ, List.getElem_cons_zero, List.setIfInBounds_toArray, List.set_cons_zero, List.set_cons_succ]
        refine wpAnyL_take (i := 31) (v := ?_) rfl (by kernel_rfl) (by kernel_rfl) (by kernel_rfl) (by kernel_rfl) (by kernel_rfl) (fun _ _ _ h => h) (Or.inl ⟨by kernel_rfl, ?_⟩) t3 ?_
        rotate_left
        · rintro w0 ⟨h1_, h2_, h3_, h4_, h5_, h6_, h7_⟩; go_simp; (try with_reducible rfl)
        try simp only [Act.put, List.getElem_toArray, List.getElem_cons_succ, List.getElem_cons_zero, List.setIfInBounds_toArray, List.set_cons_zero, List.set_cons_succ]
        refine wpAnyL_take (i := 32) (v := ?_) rfl (by kernel_rfl) (by kernel_rfl) (by kernel_rfl) (by kernel_rfl) (by kernel_rfl) (fun _ _ _ h => h) (Or.inl ⟨by kernel_rfl, ?_⟩) t3 ?_
        rotate_left
        · rintro w0 ⟨h1_, h2_, h3_, h4_, h5_, h6_, h7_⟩; go_simp; (try with_reducible rfl)
        try simp only [Act.put, List.getElem_toArray, List.getElem_cons_succ, List.getElem_cons_zero, List.setIfInBounds_toArray, List.set_cons_zero, List.set_cons_succ]
        refine wpAnyL_take (i := 33) (v := ?_) rfl (by kernel_rfl) (by kernel_rfl) (by kernel_rfl) (by kernel_rfl) (by kernel_rfl) (fun _ _ _ h => h) (Or.inl ⟨by kernel_rfl, ?_⟩) t3 ?_
        rotate_left
        · rintro w0 ⟨h1_, h2_, h3_, h4_, h5_, h6_, h7_⟩; go_simp; (try with_reducible rfl)
        try simp only [Act.put, List.getElem_toArray, List.getElem_cons_succ, List.getElem_cons_zero, List.setIfInBounds_toArray, List.set_cons_zero, List.set_cons_succ]
        refine wpAnyL_done (by kernel_rfl) ?_ _
        obtain ⟨hL, hLL, hLn, hm, h8, ho, hR, hb, hbl, hbl', hdl, hie, h1, h2, h3, h4⟩ := HH.out
        have hb4 := below_step hb0 hb3 hb0.size
        go_wp2_with fail
        go_ret2
        exact join_no (not_right HX.out.1 (fun r => h4 (by have h := r.seq; rw [HX.out.2] at h; exact h))) hb4
      have q4 : ((sq : Int) != (s0 : Int)) = false := by simp [h4]
      have HH := Lib.hid (And.intro hL (And.intro hLL (And.intro hLn (And.intro hm (And.intro h8 (And.intro ho (And.intro hR (And.intro hb (And.intro hbl (And.intro hbl' (And.intro hdl (And.intro hie (And.intro h1 (And.intro h2 (And.intro h3 (h4))))))))))))))))
      clear hL hLL hLn hm h8 ho hR hb hbl hbl' hdl hie h1 h2 h3 h4
      refine wp_region_late [] (fun w' => w'.cell? ⟨wr.heap.size, 0, none⟩ = some (.int .u32 (gs : Int)) ∧ w'.cell? ⟨wr.heap.size, 1, none⟩ = some (.int .u32 (sq : Int)) ∧ w'.cell? ⟨wr.heap.size, 2, none⟩ = some (.int .i64 pt) ∧ w'.cell? ⟨wr.heap.size, 3, none⟩ = some (.int .i64 ps) ∧ w'.cell? ⟨wr.heap.size, 4, none⟩ = some (.slice eA en ec) ∧ w'.cell? ⟨b, o, none⟩ = some (.int .u32 (g0 : Int)) ∧ w'.cell? ⟨b, o + 1, none⟩ = some (.int .u32 (s0 : Int))) (by kernel_rfl) ?_
      refine wpAnyL_take (i := 0) (v := ?_) rfl (by kernel_rfl) (by kernel_rfl) (by kernel_rfl) (by kernel_rfl) (by kernel_rfl) (fun _ _ _ h => h) (Or.inl ⟨by kernel_rfl, ?_⟩) t0 ?_
      rotate_left
      · rintro w0 ⟨h1_, h2_, h3_, h4_, h5_, h6_, h7_⟩; go_simp; (try with_reducible rfl)
      try simp only [Act.put, List.getElem_toArray, List.getElem_cons_succ, List.getElem_cons_zero, List.setIfInBounds_toArray, List.set_cons_zero, List.set_cons_succ]
      refine wpAnyL_one (i := 1) (by kernel_rfl) rfl (fun K hK => ?_)
      go_simp
      refine (cmay_any gs sq pt ps eA en ec _ hp).mono ?_; rintro e w3 ⟨rfl, hb3⟩
      have t3 : (fun w' => w'.cell? ⟨wr.heap.size, 0, none⟩ = some (.int .u32 (gs : Int)) ∧ w'.cell? ⟨wr.heap.size, 1, none⟩ = some (.int .u32 (sq : Int)) ∧ w'.cell? ⟨wr.heap.size, 2, none⟩ = some (.int .i64 pt) ∧ w'.cell? ⟨wr.heap.size, 3, none⟩ = some (.int .i64 ps) ∧ w'.cell? ⟨wr.heap.size, 4, none⟩ = some (.slice eA en ec) ∧ w'.cell? ⟨b, o, none⟩ = some (.int .u32 (g0 : Int)) ∧ w'.cell? ⟨b, o + 1, none⟩ = some (.int .u32 (s0 : Int))) w3 := ⟨below_cell hb3 t0.1, below_cell hb3 t0.2.1, below_cell hb3 t0.2.2.1, below_cell hb3 t0.2.2.2.1, below_cell hb3 t0.2.2.2.2.1, below_cell hb3 t0.2.2.2.2.2.1, below_cell hb3 t0.2.2.2.2.2.2⟩
      rw [hmv]
      go_wp2_with fail
      refine hK.out _ _ (fun _ => t3) ?_
      clear hK K
      try simp only [Act.put, List.getElem_toArray, List.getElem_cons_succ, List.getElem_cons_zero, List.setIfInBounds_toArray, List.set_cons_zero, List.set_cons_succ]
      refine wpAnyL_take (i := 2) (v := ?_) rfl (by kernel_rfl) (by kernel_rfl) (by kernel_rfl) (by kernel_rfl) (by kernel_rfl) (fun _ _ _ h => h) (Or.inl ⟨by kernel_rfl, ?_⟩) t3 ?_
      rotate_left
      · rintro w0 ⟨h1_, h2_, h3_, h4_, h5_, h6_, h7_⟩; go_simp; (try with_reducible rfl)
      try simp only [Act.put, List.getElem_toArray, List.getElem_cons_succ, List.getElem_cons_zero, List.setIfInBounds_toArray, List.set_cons_zero, List.set_cons_succ]
      refine wpAnyL_take (i := 3) (v := ?_) rfl (by kernel_rfl) (by kernel_rfl) (by kernel_rfl) (by kernel_rfl) (by kernel_rfl) (fun _ _ _ h => h) (Or.inl ⟨by kernel_rfl, ?_⟩) t3 ?_
      rotate_left
      · rintro w0 ⟨h1_, h2_, h3_, h4_, h5_, h6_, h7_⟩; go_simp; (try with_reducible rfl)
      try simp only [Act.put, List.getElem_toArray, List.getElem_cons_succ, List.getElem_cons_zero, List.setIfInBounds_toArray, List.set_cons_zero, List.set_cons_succ]
      refine wpAnyL_take (i := 4) (v := ?_) rfl (by kernel_rfl) (by kernel_rfl) (by kernel_rfl) (by kernel_rfl) (by kernel_rfl) (fun _ _ _ h => h) (Or.inl ⟨by kernel_rfl, ?_⟩) t3 ?_
      rotate_left
      · rintro w0 ⟨h1_, h2_, h3_, h4_, h5_, h6_, h7_⟩; go_simp; (try with_reducible rfl)
      try simp only [Act.put, List.getElem_toArray, List.getElem_cons_succ, List.getElem_cons_zero, List.setIfInBounds_toArray, List.set_cons_zero, List.set_cons_succ]
      refine wpAnyL_take (i := 5) (v := ?_) rfl (by kernel_rfl) (by kernel_rfl) (by kernel_rfl) (by kernel_rfl) (by kernel_rfl) (fun _ _ _ h => h) (Or.inl ⟨by kernel_rfl, ?_⟩) t3 ?_
      rotate_left
      · rintro w0 ⟨h1_, h2_, h3_, h4_, h5_, h6_, h7_⟩; go_simp; (try with_reducible rfl)
      try simp only [Act.put, List.getElem_toArray, List.getElem_cons_succ, List.getElem_cons_zero, List.setIfInBounds_toArray, List.set_cons_zero, List.set_cons_succ]
      refine wpAnyL_take (i := 6) (v := ?_) rfl (by kernel_rfl) (by kernel_rfl) (by kernel_rfl) (by kernel_rfl) (by kernel_rfl) (fun _ _ _ h => h) (Or.inl ⟨by kernel_rfl, ?_⟩) t3 ?_
      rotate_left
      · rintro w0 ⟨h1_, h2_, h3_, h4_, h5_, h6_, h7_⟩; go_simp; (try with_reducible rfl)
      try simp only [Act.put, List.getElem_toArray, List.getElem_cons_succ, List.getElem_cons_zero, List.setIfInBounds_toArray, List.set_cons_zero, List.set_cons_succ]
      refine wpAnyL_take (i := 7) (v := ?_) rfl (by kernel_rfl) (by kernel_rfl) (by kernel_rfl) (by kernel_rfl) (by kernel_rfl) (fun _ _ _ h => h) (Or.inl ⟨by kernel_rfl, ?_⟩) t3 ?_
      rotate_left
      · rintro w0 ⟨h1_, h2_, h3_, h4_, h5_, h6_, h7_⟩; go_simp; (try with_reducible rfl)
      try simp only [Act.put, List.getElem_toArray, List.getElem_cons_succ, List.getElem_cons_zero, List.setIfInBounds_toArray, List.set_cons_zero, List.set_cons_succ]
      refine wpAnyL_take (i := 8) (v := ?_) rfl (by kernel_rfl) (by kernel_rfl) (by kernel_rfl) (by kernel_rfl) (by kernel_rfl) (fun _ _ _ h => h) (Or.inl ⟨by kernel_rfl, ?_⟩) t3 ?_
      rotate_left
      · rintro w0 ⟨h1_, h2_, h3_, h4_, h5_, h6_, h7_⟩; go_simp; (try with_reducible rfl)
      try simp only [Act.put, List.getElem_toArray, List.getElem_cons_succ, List.getElem_cons_zero, List.setIfInBounds_toArray, List.set_cons_zero, List.set_cons_succ]
      refine wpAnyL_take (i := 9) (v := ?_) rfl (by kernel_rfl) (by kernel_rfl) (by kernel_rfl) (by kernel_rfl) (by kernel_rfl) (fun _ _ _ h => h) (Or.inl ⟨by kernel_rfl, ?_⟩) t3 ?_
      rotate_left
      · rintro w0 ⟨h1_, h2_, h3_, h4_, h5_, h6_, h7_⟩; go_simp; (try with_reducible rfl)
      try simp only [Act.put, List.getElem_toArray, List.getElem_cons_succ, List.getElem_cons_zero, List.setIfInBounds_toArray, List.set_cons_zero, List.set_cons_succ]
      refine wpAnyL_take (i := 10) (v := ?_) rfl (by kernel_rfl) (by kernel_rfl) (by kernel_rfl) (by kernel_rfl) (by kernel_rfl) (fun _ _ _ h => h) (Or.inl ⟨by kernel_rfl, ?_⟩) t3 ?_
      rotate_left
      · rintro w0 ⟨h1_, h2_, h3_, h4_, h5_, h6_, h7_⟩; go_simp; (try with_reducible rfl)
      try simp only [Act.put, List.getElem_toArray, List.getElem_cons_succ, List.getElem_cons_zero, List.setIfInBounds_toArray, List.set_cons_zero, List.set_cons_succ]
      refine wpAnyL_take (i := 11) (v := ?_) rfl (by kernel_rfl) (by kernel_rfl) (by kernel_rfl) (by kernel_rfl) (by kernel_rfl) (fun _ _ _ h => h) (Or.inl ⟨by kernel_rfl, ?_⟩) t3 ?_
      rotate_left
      · rintro w0 ⟨h1_, h2_, h3_, h4_, h5_, h6_, h7_⟩; go_simp; (try with_reducible rfl)
      try simp only [Act.put, List.getElem_toArray, List.getElem_cons_succ, List.getElem_cons_zero, List.setIfInBounds_toArray, List.set_cons_zero, List.set_cons_succ]
      refine wpAnyL_take (i := 12) (v := ?_) rfl (by kernel_rfl) (by kernel_rfl) (by kernel_rfl) (by kernel_rfl) (by kernel_rfl) (fun _ _ _ h => h) (Or.inl ⟨by kernel_rfl, ?_⟩) t3 ?_
      rotate_left
      · rintro w0 ⟨h1_, h2_, h3_, h4_, h5_, h6_, h7_⟩; go_simp; (try with_reducible rfl)
      try simp only [Act.put, List.getElem_toArray, List.getElem_cons_succ, List.getElem_cons_zero, List.setIfInBounds_toArray, List.set_cons_zero, List.set_cons_succ]
      refine wpAnyL_take (i := 13) (v := ?_) rfl (by kernel_rfl) (by kernel_rfl) (by kernel_rfl) (by kernel_rfl) (by kernel_rfl) (fun _ _ _ h => h) (Or.inl ⟨by kernel_rfl, ?_⟩) t3 ?_
      rotate_left
      · rintro w0 ⟨h1_, h2_, h3_, h4_, h5_, h6_, h7_⟩; go_simp; (try with_reducible rfl)
      try simp only [Act.put, List.getElem_toArray, List.getElem_cons_succ, List.getElem_cons_zero, List.setIfInBounds_toArray, List.set_cons_zero, List.set_cons_succ]
      refine wpAnyL_take (i := 14) (v := ?_) rfl (by kernel_rfl) (by kernel_rfl) (by kernel_rfl) (by kernel_rfl) (by kernel_rfl) (fun _ _ _ h => h) (Or.inl ⟨by kernel_rfl, ?_⟩) t3 ?_
      rotate_left
      · rintro w0 ⟨h1_, h2_, h3_, h4_, h5_, h6_, h7_⟩; go_simp; (try with_reducible rfl)
      try simp only [Act.put, List.getElem_toArray, List.getElem_cons_succ, List.getElem_cons_zero, List.setIfInBounds_toArray, List.set_cons_zero, List.set_cons_succ]
      refine wpAnyL_take (i := 15) (v := ?_) rfl (by kernel_rfl) (by kernel_rfl) (by kernel_rfl) (by kernel_rfl) (by kernel_rfl) (fun _ _ _ h => h) (Or.inl ⟨by kernel_rfl, ?_⟩) t3 ?_
      rotate_left
      · rintro w0 ⟨h1_, h2_, h3_, h4_, h5_, h6_, h7_⟩; go_simp; (try with_reducible rfl)
      try simp only [Act.put, List.getElem_toArray, List.getElem_cons_succ, List.getElem_cons_zero, List.setIfInBounds_toArray, List.set_cons_zero, List.set_cons_succ]
      refine wpAnyL_take (i := 16) (v := ?_) rfl (by kernel_rfl) (by kernel_rfl) (by kernel_rfl) (by kernel_rfl) (by kernel_rfl) (fun _ _ _ h => h) (Or.inl ⟨by kernel_rfl, ?_⟩) t3 ?_
      rotate_left
      · rintro w0 ⟨h1_, h2_, h3_, h4_, h5_, h6_, h7_⟩; go_simp; (try with_reducible rfl)
      try simp only [Act.put, List.getElem_toArray, List.getElem_cons_succ, List.getElem_cons_zero, List.setIfInBounds_toArray, List.set_cons_zero, List.set_cons_succ]
      refine wpAnyL_take (i := 17) (v := ?_) rfl (by kernel_rfl) (by kernel_rfl) (by kernel_rfl) (by kernel_rfl) (by kernel_rfl) (fun _ _ _ h => h) (Or.inl ⟨by kernel_rfl, ?_⟩) t3 ?_
      rotate_left
      · rintro w0 ⟨h1_, h2_, h3_, h4_, h5_, h6_, h7_⟩; go_simp; (try with_reducible rfl)
      try simp only [Act.put, List.getElem_toArray, List.getElem_cons_succ, List.getElem_cons_zero, List.setIfInBounds_toArray, List.set_cons_zero, List.set_cons_succ]
      refine wpAnyL_take (i := 18) (v := ?_) rfl (by kernel_rfl) (by kernel_rfl) (by kernel_rfl) (by kernel_rfl) (by kernel_rfl) (fun _ _ _ h => h) (Or.inl ⟨by kernel_rfl, ?_⟩) t3 ?_
      rotate_left
      · rintro w0 ⟨h1_, h2_, h3_, h4_, h5_, h6_, h7_⟩; go_simp; (try with_reducible rfl)
      try simp only [Act.put, List.getElem_toArray, List.getElem_cons_succ, List.getElem_cons_zero, List.setIfInBounds_toArray, List.set_cons_zero, List.set_cons_succ]
      refine wpAnyL_take (i := 19) (v := ?_) rfl (by kernel_rfl) (by kernel_rfl) (by kernel_rfl) (by kernel_rfl) (by kernel_rfl) (fun _ _ _ h => h) (Or.inl ⟨by kernel_rfl, ?_⟩) t3 ?_
      rotate_left
      · rintro w0 ⟨h1_, h2_, h3_, h4_, h5_, h6_, h7_⟩; go_simp; (try with_reducible rfl)
      try simp only [Act.put, List.getElem_toArray, List.getElem_cons_succ, List.getElem_cons_zero, List.setIfInBounds_toArray, List.set_cons_zero, List.set_cons_succ]
      refine wpAnyL_take (i := 20) (v := ?_) rfl (by kernel_rfl) (by kernel_rfl) (by kernel_rfl) (by kernel_rfl) (by kernel_rfl) (fun _ _ _ h => h) (Or.inl ⟨by kernel_rfl, ?_⟩) t3 ?_
      rotate_left
      · rintro w0 ⟨h1_, h2_, h3_, h4_, h5_, h6_, h7_⟩; go_simp; (try with_reducible rfl)
      try simp only [Act.put, List.getElem_toArray, List.getElem_cons_succ, List.getElem_cons_zero, List.setIfInBounds_toArray, List.set_cons_zero, List.set_cons_succ]
      refine wpAnyL_take (i := 21) (v := ?_) rfl (by kernel_rfl) (by kernel_rfl) (by kernel_rfl) (by kernel_rfl) (by kernel_rfl) (fun _ _ _ h => h) (Or.inl ⟨by kernel_rfl, ?_⟩) t3 ?_
      rotate_left
      · rintro w0 ⟨h1_, h2_, h3_, h4_, h5_, h6_, h7_⟩; go_simp; (try with_reducible rfl)
      try simp only [Act.put, List.getElem_toArray, List.getElem_cons_succ, List.getElem_cons_zero, List.setIfInBounds_toArray, List.set_cons_zero, List.set_cons_succ]
      refine wpAnyL_take (i := 22) (v := ?_) rfl (by kernel_rfl) (by kernel_rfl) (by kernel_rfl) (by kernel_rfl) (by kernel_rfl) (fun _ _ _ h => h) (Or.inl ⟨by kernel_rfl, ?_⟩) t3 ?_
      rotate_left
      · rintro w0 ⟨h1_, h2_, h3_, h4_, h5_, h6_, h7_⟩; go_simp; (try with_reducible rfl)
      try simp only [Act.put, List.getElem_toArray, List.getElem_cons_succ, List.getElem_cons_zero, List.setIfInBounds_toArray, List.set_cons_zero, List.set_cons_succ]
      refine wpAnyL_take (i := 23) (v := ?_) rfl (by kernel_rfl) (by kernel_rfl) (by kernel_rfl) (by kernel_rfl) (by kernel_rfl) (fun _ _ _ h => h) (Or.inl ⟨by kernel_rfl, ?_⟩) t3 ?_
      rotate_left
      · rintro w0 ⟨h1_, h2_, h3_, h4_, h5_, h6_, h7_⟩; go_simp; (try with_reducible rfl)
      try simp only [Act.put, List.getElem_toArray, List.getElem_cons_succ, List.getElem_cons_zero, List.setIfInBounds_toArray, List.set_cons_zero, List.set_cons_succ]
      refine wpAnyL_take (i := 24) (v := ?_) rfl (by kernel_rfl) (by kernel_rfl) (by kernel_rfl) (by kernel_rfl) (by kernel_rfl) (fun _ _ _ h => h) (Or.inl ⟨by kernel_rfl, ?_⟩) t3 ?_
      rotate_left
      · rintro w0 ⟨h1_, h2_, h3_, h4_, h5_, h6_, h7_⟩; go_simp; (try with_reducible rfl)
      try simp only [Act.put, List.getElem_toArray, List.getElem_cons_succ, List.getElem_cons_zero, List.setIfInBounds_toArray, List.set_cons_zero, List.set_cons_succ]
      refine wpAnyL_take (i := 25) (v := ?_) rfl (by kernel_rfl) (by kernel_rfl) (by kernel_rfl) (by kernel_rfl) (by kernel_rfl) (fun _ _ _ h => h) (Or.inl ⟨by kernel_rfl, ?_⟩) t3 ?_
      rotate_left
      · rintro w0 ⟨h1_, h2_, h3_, h4_, h5_, h6_, h7_⟩; go_simp; (try with_reducible rfl)
      try simp only [Act.put, List.getElem_toArray, List.getElem_cons_succ, List.getElem_cons_zero, List.setIfInBounds_toArray, List.set_cons_zero, List.set_cons_succ]
      refine wpAnyL_take (i := 26) (v := ?_) rfl (by kernel_rfl) (by kernel_rfl) (by kernel_rfl) (by kernel_rfl) (by kernel_rfl) (fun _ _ _ h => h) (Or.inl ⟨by kernel_rfl, ?_⟩) t3 ?_
      rotate_left
      · rintro w0 ⟨h1_, h2_, h3_, h4_, h5_, h6_, h7_⟩; go_simp; (try with_reducible rfl)
      try simp only [Act.put, List.getElem_toArray, List.getElem_cons_succ, List.getElem_cons_zero, List.setIfInBounds_toArray, List.set_cons_zero, List.set_cons_succ]
      refine wpAnyL_take (i := 27) (v := ?_) rfl (by kernel_rfl) (by kernel_rfl) (by kernel_rfl) (by kernel_rfl) (by kernel_rfl) (fun _ _ _ h => h) (Or.inl ⟨by kernel_rfl, ?_⟩) t3 ?_
      rotate_left
      · rintro w0 ⟨h1_, h2_, h3_, h4_, h5_, h6_, h7_⟩; go_simp; (try with_reducible rfl)
      try simp only [Act.put, List.getElem_toArray, List.getElem_cons_succ, List.getElem_cons_zero, List.setIfInBounds_toArray, List.set_cons_zero, List.set_cons_succ]
      refine wpAnyL_take (i := 28) (v := ?_) rfl (by kernel_rfl) (by kernel_rfl) (by kernel_rfl) (by kernel_rfl) (by kernel_rfl) (fun _ _ _ h => h) (Or.inl ⟨by kernel_rfl, ?_⟩) t3 ?_
      rotate_left
      · rintro w0 ⟨h1_, h2_, h3_, h4_, h5_, h6_, h7_⟩; go_simp; (try with_reducible rfl)
      try simp only [Act.put, List.getElem_toArray, List.getElem_cons_succ, List.getElem_cons_zero, List.setIfInBounds_toArray, List.set_cons_zero, List.set_cons_succ]
      refine wpAnyL_take (i := 29) (v := ?_) rfl (by kernel_rfl) (by kernel_rfl) (by kernel_rfl) (by kernel_rfl) (by kernel_rfl) (fun _ _ _ h => h) (Or.inl ⟨by kernel_rfl, ?_⟩) t3 ?_
      rotate_left
      · rintro w0 ⟨h1_, h2_, h3_, h4_, h5_, h6_, h7_⟩; go_simp; (try with_reducible rfl)
      try simp only [Act.put, List.getElem_toArray, List.getElem_cons_succ, List.getElem_cons_zero, List.setIfInBounds_toArray, List.set_cons_zero, List.set_cons_succ]
      refine wpAnyL_take (i := 30) (v := ?_) rfl (by kernel_rfl) (by kernel_rfl) (by kernel_rfl) (by kernel_rfl) (by kernel_rfl) (fun _ _ _ h => h) (Or.inl ⟨by kernel_rfl, ?_⟩) t3 ?_
      rotate_left
      · rintro w0 ⟨h1_, h2_, h3_, h4_, h5_, h6_, h7_⟩; go_simp; (try with_reducible rfl)
      try simp only [Act.put, List.getElem_toArray, List.getElem_cons_succ, List.getElem_cons_zero, List.setIfInBounds_toArray, List.set_cons_zero, List.set_cons_succ]
      refine wpAnyL_take (i := 31) (v := ?_) rfl (by kernel_rfl) (by kernel_rfl) (by kernel_rfl) (by kernel_rfl) (by kernel_rfl) (fun _ _ _ h => h) (Or.inl ⟨by kernel_rfl, ?_⟩) t3 ?_
      rotate_left
      · rintro w0 ⟨h1_, h2_, h3_, h4_, h5_, h6_, h7_⟩; go_simp; (try with_reducible rfl)
      try simp only [Act.put, List.getElem_toArray, List.getElem_cons_succ, List.getElem_cons_zero, List.setIfInBounds_toArray, List.set_cons_zero, List.set_cons_succ]
      refine wpAnyL_take (i := 32) (v := ?_) rfl (by kernel_rfl) (by kernel_rfl) (by kernel_rfl) (by kernel_rfl) (by kernel_rfl) (fun _ _ _ h => h) (Or.inl ⟨by kernel_rfl, ?_⟩) t3 ?_
      rotate_left
      · rintro w0 ⟨h1_, h2_, h3_, h4_, h5_, h6_, h7_⟩; go_simp; (try with_reducible rfl)
      try simp only [Act.put, List.getElem_toArray, List.getElem_cons_succ, List.getElem_cons_zero, List.setIfInBounds_toArray, List.set_cons_zero, List.set_cons_succ]
      refine wpAnyL_take (i := 33) (v := ?_) rfl (by kernel_rfl) (by kernel_rfl) (by kernel_rfl) (by kernel_rfl) (by kernel_rfl) (fun _ _ _ h => h) (Or.inl ⟨by kernel_rfl, ?_⟩) t3 ?_
      rotate_left
      · rintro w0 ⟨h1_, h2_, h3_, h4_, h5_, h6_, h7_⟩; go_simp; (try with_reducible rfl)
      try simp only [Act.put, List.getElem_toArray, List.getElem_cons_succ, List.getElem_cons_zero, List.setIfInBounds_toArray, List.set_cons_zero, List.set_cons_succ]
      refine wpAnyL_done (by kernel_rfl) ?_ _
      obtain ⟨hL, hLL, hLn, hm, h8, ho, hR, hb, hbl, hbl', hdl, hie, h1, h2, h3, h4⟩ := HH.out
      have hb4 := below_step hb0 hb3 hb0.size
      have hm1 := hmv
      unfold mayN at hm1
      have hm1 := of_decide_eq_true hm1
      have ho4 := ((ho.alloc (.cells #[.int .u32 (gs : Int), .int .u32 (sq : Int), .int .i64 pt, .int .i64 ps, .slice eA en ec] 73)).drew).below hb3
      have hi4 := ((hie.alloc (.cells #[.int .u32 (gs : Int), .int .u32 (sq : Int), .int .i64 pt, .int .i64 ps, .slice eA en ec] 73)).drew).below hb3
      have c4 := t3.2.2.2.2.1
      have hRi : Cl.Right L i ⟨gs, sq, pt, ps, dt⟩ := ⟨by rw [may_eq, hdl]; exact hmv, h1, by rw [hLn]; exact h2, by rw [HX.out.2]; exact h3, by rw [HX.out.2]; exact h4⟩
      have hR2 : Hid (∀ (j : Nat) (x : Cl), j < i + 1 → L[j]? = some x → Cl.Right L j x) := (show ∀ (j : Nat) (x : Cl), j < i + 1 → L[j]? = some x → Cl.Right L j x from fun j x hj hx => by
        rcases Nat.lt_or_ge j i with h | h
        · exact hR.out j x h hx
        · obtain rfl : j = i := by omega
          rw [HX.out.1] at hx; cases hx; exact hRi)
      go_wp2_with (at_builtin; refine wpList_appI _ rfl (.tmp 48) (.tmp 50) _ rfl 5 1 Tryd.underlying22 dinfo_u8 (by omega) ho4 rfl hi4 rfl (by omega) (by have := hb4.size; omega) ?_; intro A6 c6 w6 ho6 hg6 ha6)
      go_roundw
      case rel =>
        refine ⟨i + 1, A6, m + en, c6, by omega, by go_num, rfl, by omega, by omega, ?_, hR2, below_own hb4 hg6 hb4.size (fun ad h => (ho4.lt_ ad h).1)⟩
        rw [flat_take HX.out.1]
        exact ho6
      case measure => simp [intOf]; omega
    · obtain rfl : n = i := by omega
      have HR := Lib.hid hR.out
      rw [List.take_of_length_le (by omega)] at ho
      have HO := Lib.hid (And.intro ho hb)
      clear ho hb hR
      by_cases h0 : n = 0
      · subst h0
        go_wp2_with fail
        go_ret2
        exact join_no (by rw [List.eq_nil_of_length_eq_zero hLn]; rfl) HO.out.2
      · have h0i : ((n : Int) == 0) = false := by simp; omega
        go_wp2_with fail
        go_ret2
        exact join_yes (Cl.right_joins (fun e => h0 (by rw [← hLn, e]; rfl)) (fun j x hx => HR.out j x (by have := (List.getElem?_eq_some_iff.1 hx).1; omega) hx)) HO.out.1 HO.out.2
end Go.Proofs.YtdlcngmcjidomaaDoor
