/- Texts of several parts in one: SegE, SegF, SegG, SegH. Each says what it proves; no condition but those named there. -/
import Derived.Test.YtdlcngmcjidomaaDoorLSegD
import Derived.Test.YtdlcngmcjidomaaDoorGSM
/- The contract of Seg.sectors: all cells of records. No condition but the reach of a slice. -/
namespace Go.Proofs.YtdlcngmcjidomaaDoor
set_option linter.unusedSimpArgs false
set_option linter.unusedVariables false
open Go.RowKit Go.Shelf

/-- Records' cells, as the program numbers them. -/
def cellsW (gen : Nat) : Nat → List (List Nat) → List Cl
  | _, [] => []
  | q, r :: rs => Cl.split gen ((q + 1) % 4294967296) r ++ cellsW gen (q + 1) rs
theorem cellsW_snoc (gen : Nat) : ∀ (rs : List (List Nat)) (q : Nat) (r : List Nat), cellsW gen q (rs ++ [r]) = cellsW gen q rs ++ Cl.split gen ((q + rs.length + 1) % 4294967296) r
  | [], q, r => by simp [cellsW]
  | a :: rs, q, r => by
    rw [List.cons_append, cellsW, cellsW_snoc gen rs, cellsW, List.append_assoc, List.length_cons]
    congr 4
    omega
theorem cellsW_eq (gen : Nat) : ∀ (rs : List (List Nat)) (q : Nat), q + rs.length < 4294967296 → cellsW gen q rs = Sc.cellsOf gen q rs
  | [], _, _ => rfl
  | a :: rs, q, h => by
    rw [List.length_cons] at h
    rw [cellsW, Sc.cellsOf, cellsW_eq gen rs (q + 1) (by omega), Nat.mod_eq_of_lt (by omega)]
theorem cellsW_len (gen : Nat) : ∀ (rs : List (List Nat)) (q : Nat), (cellsW gen q rs).length = SegSt.total rs
  | [], _ => rfl
  | a :: rs, q => by
    rw [cellsW, List.length_append, Cl.split_len, cellsW_len gen rs]
    unfold SegSt.total
    rw [List.map_cons, List.sum_cons]
theorem total_le (rs : List (List Nat)) : SegSt.total rs ≤ 8 * rs.length := by
  unfold SegSt.total
  induction rs with
  | nil => exact Nat.le_refl _
  | cons a l ih => rw [List.map_cons, List.sum_cons, List.length_cons]; have := Cl.need_le a.length; omega
theorem good_take {rs : List (List Nat)} {k : Nat} {r : List Nat} (h : SegSt.good (rs.take k) = true) (hr : rs[k]? = some r) (hn : Cl.need r.length ≠ 0) : SegSt.good (rs.take (k + 1)) = true := by
  rw [SegSt.good_iff] at *
  intro x hx
  rw [List.take_add_one, hr] at hx
  rcases List.mem_append.1 hx with hx | hx
  · exact h x hx
  · have : x = r := by simpa using hx
    subst this; exact hn
theorem CEl.Own.num {w : World} {b : Nat} {e : CEl} (h : e.Own w b) : e.Num := ⟨h.gen, h.seq, h.part, h.parts, h.most⟩

/-- What sectors hands back. -/
def SecPost (w0 w : World) (g : Nat) (s : DSt) (t : SegSt) (bl : List WBk) (ys : List WRow) (rd : List BEl) (rs : List (List Nat)) (e : Ending) (w' : World) : Prop :=
  Below w.heap.size w w' ∧ ((SegSt.good rs = false ∧ e = .returned (.tuple #[.slice none 0 0, .int .i64 1])) ∨
    (SegSt.good rs = true ∧ ∃ A2 c2 es, e = .returned (.tuple #[.slice A2 es.length c2, .int .i64 0]) ∧ WE w0 w' g s bl (⟨73, 5, A2, es.length, c2, cflat es⟩ :: ys) (es.map CEl.bel ++ rd) ∧ es.map (·.x) = cellsW t.gen t.top rs ∧ ∀ e ∈ es, e.Num))

set_option maxRecDepth 100000 in
set_option maxHeartbeats 6400000 in
theorem sectors_we {w0 w : World} {g h : Nat} {s : DSt} {t : SegSt} {bl : List WBk} {ys : List WRow} {rd : List BEl} (E : WE w0 w g s bl ys rd) (i : Nat) (hi : bl[i]? = some (segB h g t)) (hgen : t.gen < 4294967296) (htop : t.top ≤ 4294967295) {A : Option Addr} {n c : Nat} {xs : List BEl} (R : BArg w A n c xs) (hn : n ≤ 1000) (hxs : ∀ x ∈ xs, x.n ≤ 140737488355328) :
    Calls Tryd.prog 36 #[.pointer (some ⟨h, 0, none⟩), .slice A n c] w (SecPost w0 w g s t bl ys rd (xs.map (·.l))) := by
  have hxl := R.len
  obtain ⟨rs, hrs⟩ : ∃ rs, xs.map (·.l) = rs := ⟨_, rfl⟩
  have hrl : rs.length = n := by rw [← hrs, List.length_map, hxl]
  have HRS := Lib.hid (And.intro hrs (And.intro hrl hxs))
  rw [hrs]
  clear hrs hrl hxs
  have HR := Lib.hid R
  have E0 := E.nil (ty := 73) 5 (by decide)
  have hlh := (E.b i hi).lt
  have HL0 := Lib.hid hlh
  clear R E hlh
  go_enter Tryd.func36, Tryd.ntmps36
  go_wp2_with fail
  go_loopw [6, 13] (fun ov iv wr => ∃ (k : Nat) (A2 : Option Addr) (c2 : Nat) (es : List CEl), k ≤ n ∧ iv = .int .i64 (k : Int) ∧ ov = .slice A2 es.length c2 ∧ WE w0 wr g s bl (⟨73, 5, A2, es.length, c2, cflat es⟩ :: ys) (es.map CEl.bel ++ rd) ∧ es.map (·.x) = cellsW t.gen t.top (rs.take k) ∧ (∀ e ∈ es, e.Num) ∧ SegSt.good (rs.take k) = true ∧ Below w.heap.size w wr ∧ ∀ ad, A2 = some ad → w.heap.size ≤ ad.block) (fun _ iv _ => n - (intOf iv).toNat)
  case atStart => exact ⟨0, none, 0, [], Nat.zero_le _, rfl, rfl, E0, rfl, fun _ h => (by cases h), rfl, Below.refl _ _, fun _ h => (by cases h)⟩
  case round =>
    obtain ⟨k, A2, c2, es, hk, rfl, rfl, E, hmap, hnum, hgood, hbl, hge⟩ := hrel
    have HG := Lib.hid hge
    clear hge
    clear E0
    have hel : es.length = SegSt.total (rs.take k) := by have := congrArg List.length hmap; rwa [List.length_map, cellsW_len] at this
    have hel8 : es.length ≤ 8 * k := by have h1 := total_le (rs.take k); have h2 : (rs.take k).length ≤ k := by rw [List.length_take]; omega
                                        omega
    have HM := Lib.hid (And.intro hmap (And.intro hnum hgood))
    clear hmap hnum hgood hel
    by_cases hlt : k < n
    · have hlti : (k : Int) < (n : Int) := by omega
      have R := HR.out.below hbl
      obtain ⟨bb, oo, x, rfl, hx, hcx, _⟩ := R.get hlt
      have hxn := HRS.out.2.2 x (List.mem_of_getElem? hx)
      have hrk : rs[k]? = some x.l := by rw [← HRS.out.1, List.getElem?_map, hx]; rfl
      obtain ⟨q, hqd⟩ : ∃ q, (t.top + k + 1) % 4294967296 = q := ⟨_, rfl⟩
      have hq : q < 4294967296 := by omega
      have hv1 : IntKind.u32.wrap (t.top : Int) = (t.top : Int) := by rw [IntKind.wrap_u32]; omega
      have hv2 : IntKind.u32.wrap (k : Int) = (k : Int) := by rw [IntKind.wrap_u32]; omega
      obtain ⟨q0, hq0⟩ : ∃ q0, (t.top + k) % 4294967296 = q0 := ⟨_, rfl⟩
      have hv3 : IntKind.u32.wrap ((t.top : Int) + (k : Int)) = (q0 : Int) := by rw [IntKind.wrap_u32]; omega
      have hv4 : IntKind.u32.wrap ((q0 : Int) + 1) = (q : Int) := by rw [IntKind.wrap_u32]; omega
      have HQ := Lib.hid (And.intro hqd hrk)
      have hhl : h < wr.heap.size := Nat.lt_of_lt_of_le HL0.out hbl.size
      have HL := Lib.hid (show h < (World.drew wr).heap.size from hhl)
      clear hqd hq0 hrk hhl
      go_wp2_with fail
      have E := E.drew
      have R := R.below ((Below.refl _ _).drew)
      have hbl := hbl.drew
      generalize hwd : World.drew _ = w5 at *
      have s0 : (fun w' : World => w'.cell? ⟨h, 3, none⟩ = some (.int .u32 (t.gen : Int)) ∧ w'.cell? ⟨h, 5, none⟩ = some (.int .u64 (t.top : Int))) w5 := ⟨E.cell i 3 hi rfl, E.cell i 5 hi rfl⟩
      have hxi := (R.ok x (List.mem_of_getElem? hx))
      have HC := Lib.hid (And.intro R (And.intro hbl E))
      clear R hbl E
      refine wp_region_late [] (fun w' : World => w'.cell? ⟨h, 3, none⟩ = some (.int .u32 (t.gen : Int)) ∧ w'.cell? ⟨h, 5, none⟩ = some (.int .u64 (t.top : Int))) (by kernel_rfl) ?_
      rw [hwd]
      clear hwd
      refine wpAnyL_take (i := 0) (v := ?_) rfl (by kernel_rfl) (by kernel_rfl) (by kernel_rfl) (by kernel_rfl) (by kernel_rfl) (fun _ _ _ h => h) (Or.inl ⟨by kernel_rfl, ?_⟩) s0 ?_
      rotate_left
      · rintro w0 ⟨h1_, h2_⟩; go_simp; (try with_reducible rfl)
      try simp only [Act.put, List.getElem_toArray, List.getElem_cons_succ, List.getElem_cons_zero, List.setIfInBounds_toArray, List.set_cons_zero, List.set_cons_succ]
      refine wpAnyL_take (i := 1) (v := ?_) rfl (by kernel_rfl) (by kernel_rfl) (by kernel_rfl) (by kernel_rfl) (by kernel_rfl) (fun _ _ _ h => h) (Or.inl ⟨by kernel_rfl, ?_⟩) s0 ?_
      rotate_left
      · rintro w0 ⟨h1_, h2_⟩; go_simp; (try with_reducible rfl)
      try simp only [Act.put, List.getElem_toArray, List.getElem_cons_succ, List.getElem_cons_zero, List.setIfInBounds_toArray, List.set_cons_zero, List.set_cons_succ]
      refine wpAnyL_take (i := 2) (v := ?_) rfl (by kernel_rfl) (by kernel_rfl) (by kernel_rfl) (by kernel_rfl) (by kernel_rfl) (fun _ _ _ h => h) (Or.inl ⟨by kernel_rfl, ?_⟩) s0 ?_
      rotate_left
      · rintro w0 ⟨h1_, h2_⟩; go_simp; (try with_reducible rfl)
      try simp only [Act.put, List.getElem_toArray, List.getElem_cons_succ, List.getElem_cons_zero, List.setIfInBounds_toArray, List.set_cons_zero, List.set_cons_succ]
      refine wpAnyL_take (i := 3) (v := ?_) rfl (by kernel_rfl) (by kernel_rfl) (by kernel_rfl) (by kernel_rfl) (by kernel_rfl) (fun _ _ _ h => h) (Or.inl ⟨by kernel_rfl, ?_⟩) s0 ?_
      rotate_left
      · rintro w0 ⟨h1_, h2_⟩; go_simp; (try with_reducible rfl)
      try simp only [Act.put, List.getElem_toArray, List.getElem_cons_succ, List.getElem_cons_zero, List.setIfInBounds_toArray, List.set_cons_zero, List.set_cons_succ]
      refine wpAnyL_take (i := 4) (v := ?_) rfl (by kernel_rfl) (by kernel_rfl) (by kernel_rfl) (by kernel_rfl) (by kernel_rfl) (fun _ _ _ h => h) (Or.inl ⟨by kernel_rfl, ?_⟩) s0 ?_
      rotate_left
      · rintro w0 ⟨h1_, h2_⟩; go_simp; (try with_reducible rfl)
      try simp only [Act.put, List.getElem_toArray, List.getElem_cons_succ, List.getElem_cons_zero, List.setIfInBounds_toArray, List.set_cons_zero, List.set_cons_succ]
      refine wpAnyL_take (i := 5) (v := ?_) rfl (by kernel_rfl) (by kernel_rfl) (by kernel_rfl) (by kernel_rfl) (by kernel_rfl) (fun _ _ _ h => h) (Or.inl ⟨by kernel_rfl, ?_⟩) s0 ?_
      rotate_left
      · rintro w0 ⟨h1_, h2_⟩; go_simp; (try with_reducible rfl)
      try simp only [Act.put, List.getElem_toArray, List.getElem_cons_succ, List.getElem_cons_zero, List.setIfInBounds_toArray, List.set_cons_zero, List.set_cons_succ]
      refine wpAnyL_take (i := 6) (v := ?_) rfl (by kernel_rfl) (by kernel_rfl) (by kernel_rfl) (by kernel_rfl) (by kernel_rfl) (fun _ _ _ h => h) (Or.inl ⟨by kernel_rfl, ?_⟩) s0 ?_
      rotate_left
      · rintro w0 ⟨h1_, h2_⟩; go_simp; (try with_reducible rfl)
      try simp only [Act.put, List.getElem_toArray, List.getElem_cons_succ, List.getElem_cons_zero, List.setIfInBounds_toArray, List.set_cons_zero, List.set_cons_succ]
      refine wpAnyL_take (i := 7) (v := ?_) rfl (by kernel_rfl) (by kernel_rfl) (by kernel_rfl) (by kernel_rfl) (by kernel_rfl) (fun _ _ _ h => h) (Or.inl ⟨by kernel_rfl, ?_⟩) s0 ?_
      rotate_left
      · rintro w0 ⟨h1_, h2_⟩; go_simp; (try with_reducible rfl)
      try simp only [Act.put, List.getElem_toArray, List.getElem_cons_succ, List.getElem_cons_zero, List.setIfInBounds_toArray, List.set_cons_zero, List.set_cons_succ]
      refine wpAnyL_take (i := 8) (v := ?_) rfl (by kernel_rfl) (by kernel_rfl) (by kernel_rfl) (by kernel_rfl) (by kernel_rfl) (fun _ _ _ h => h) (Or.inl ⟨by kernel_rfl, ?_⟩) s0 ?_
      rotate_left
      · rintro w0 ⟨h1_, h2_⟩; go_simp; (try with_reducible rfl)
      try simp only [Act.put, List.getElem_toArray, List.getElem_cons_succ, List.getElem_cons_zero, List.setIfInBounds_toArray, List.set_cons_zero, List.set_cons_succ]
      refine wpAnyL_take (i := 9) (v := ?_) rfl (by kernel_rfl) (by kernel_rfl) (by kernel_rfl) (by kernel_rfl) (by kernel_rfl) (fun _ _ _ h => h) (Or.inl ⟨by kernel_rfl, ?_⟩) s0 ?_
      rotate_left
      · rintro w0 ⟨h1_, h2_⟩; go_simp; (try with_reducible rfl)
      try simp only [Act.put, List.getElem_toArray, List.getElem_cons_succ, List.getElem_cons_zero, List.setIfInBounds_toArray, List.set_cons_zero, List.set_cons_succ]
      refine wpAnyL_take (i := 10) (v := ?_) rfl (by kernel_rfl) (by kernel_rfl) (by kernel_rfl) (by kernel_rfl) (by kernel_rfl) (fun _ _ _ h => h) (Or.inl ⟨by kernel_rfl, ?_⟩) s0 ?_
      rotate_left
      · rintro w0 ⟨h1_, h2_⟩; go_simp; (try with_reducible rfl)
      try simp only [Act.put, List.getElem_toArray, List.getElem_cons_succ, List.getElem_cons_zero, List.setIfInBounds_toArray, List.set_cons_zero, List.set_cons_succ]
      refine wpAnyL_take (i := 11) (v := ?_) rfl (by kernel_rfl) (by kernel_rfl) (by kernel_rfl) (by kernel_rfl) (by kernel_rfl) (fun _ _ _ h => h) (Or.inl ⟨by kernel_rfl, ?_⟩) s0 ?_
      rotate_left
      · rintro w0 ⟨h1_, h2_⟩; go_simp; (try with_reducible rfl)
      try simp only [Act.put, List.getElem_toArray, List.getElem_cons_succ, List.getElem_cons_zero, List.setIfInBounds_toArray, List.set_cons_zero, List.set_cons_succ]
      refine wpAnyL_take (i := 12) (v := ?_) rfl (by kernel_rfl) (by kernel_rfl) (by kernel_rfl) (by kernel_rfl) (by kernel_rfl) (fun _ _ _ h => h) (Or.inl ⟨by kernel_rfl, ?_⟩) s0 ?_
      rotate_left
      · rintro w0 ⟨h1_, h2_⟩; go_simp; (try with_reducible rfl)
      try simp only [Act.put, List.getElem_toArray, List.getElem_cons_succ, List.getElem_cons_zero, List.setIfInBounds_toArray, List.set_cons_zero, List.set_cons_succ]
      refine wpAnyL_take (i := 13) (v := ?_) rfl (by kernel_rfl) (by kernel_rfl) (by kernel_rfl) (by kernel_rfl) (by kernel_rfl) (fun _ _ _ h => h) (Or.inl ⟨by kernel_rfl, ?_⟩) s0 ?_
      rotate_left
      · rintro w0 ⟨h1_, h2_⟩; go_simp; (try with_reducible rfl)
      try simp only [Act.put, List.getElem_toArray, List.getElem_cons_succ, List.getElem_cons_zero, List.setIfInBounds_toArray, List.set_cons_zero, List.set_cons_succ]
      refine wpAnyL_one (i := 14) (by kernel_rfl) rfl (fun K hK => ?_)
      go_simp
      refine (csplit_any t.gen q hgen hq hxi (by omega)).mono ?_; rintro e w6 ⟨A6, m6, c6, es6, rfl, ho6, hown6, hmap6, hb6⟩
      have s1 : (fun w' : World => w'.cell? ⟨h, 3, none⟩ = some (.int .u32 (t.gen : Int)) ∧ w'.cell? ⟨h, 5, none⟩ = some (.int .u64 (t.top : Int))) w6 := ⟨(hb6.cell (p := ⟨h, 3, none⟩) HL.out).trans s0.1, (hb6.cell (p := ⟨h, 5, none⟩) HL.out).trans s0.2⟩
      go_wp2_with fail
      refine hK.out _ _ (fun _ => s1) ?_
      clear hK K
      try simp only [Act.put, List.getElem_toArray, List.getElem_cons_succ, List.getElem_cons_zero, List.setIfInBounds_toArray, List.set_cons_zero, List.set_cons_succ]
      refine wpAnyL_take (i := 15) (v := ?_) rfl (by kernel_rfl) (by kernel_rfl) (by kernel_rfl) (by kernel_rfl) (by kernel_rfl) (fun _ _ _ h => h) (Or.inl ⟨by kernel_rfl, ?_⟩) s1 ?_
      rotate_left
      · rintro w0 ⟨h1_, h2_⟩; go_simp; (try with_reducible rfl)
      try simp only [Act.put, List.getElem_toArray, List.getElem_cons_succ, List.getElem_cons_zero, List.setIfInBounds_toArray, List.set_cons_zero, List.set_cons_succ]
      refine wpAnyL_take (i := 16) (v := ?_) rfl (by kernel_rfl) (by kernel_rfl) (by kernel_rfl) (by kernel_rfl) (by kernel_rfl) (fun _ _ _ h => h) (Or.inl ⟨by kernel_rfl, ?_⟩) s1 ?_
      rotate_left
      · rintro w0 ⟨h1_, h2_⟩; go_simp; (try with_reducible rfl)
      try simp only [Act.put, List.getElem_toArray, List.getElem_cons_succ, List.getElem_cons_zero, List.setIfInBounds_toArray, List.set_cons_zero, List.set_cons_succ]
      refine wpAnyL_take (i := 17) (v := ?_) rfl (by kernel_rfl) (by kernel_rfl) (by kernel_rfl) (by kernel_rfl) (by kernel_rfl) (fun _ _ _ h => h) (Or.inl ⟨by kernel_rfl, ?_⟩) s1 ?_
      rotate_left
      · rintro w0 ⟨h1_, h2_⟩; go_simp; (try with_reducible rfl)
      try simp only [Act.put, List.getElem_toArray, List.getElem_cons_succ, List.getElem_cons_zero, List.setIfInBounds_toArray, List.set_cons_zero, List.set_cons_succ]
      refine wpAnyL_one (i := 18) (by kernel_rfl) rfl (fun K hK => ?_)
      go_simp
      refine hK.out _ _ (fun _ => s1) ?_
      clear hK K
      try simp only [Act.put, List.getElem_toArray, List.getElem_cons_succ, List.getElem_cons_zero, List.setIfInBounds_toArray, List.set_cons_zero, List.set_cons_succ]
      refine wpAnyL_one (i := 19) (by kernel_rfl) rfl (fun K hK => ?_)
      go_simp
      refine hK.out _ _ (fun _ => s1) ?_
      clear hK K
      try simp only [Act.put, List.getElem_toArray, List.getElem_cons_succ, List.getElem_cons_zero, List.setIfInBounds_toArray, List.set_cons_zero, List.set_cons_succ]
      refine wpAnyL_done (by kernel_rfl) ?_ _
      clear s0 s1 hxi
      have hm6 : es6.length = m6 := by have h1 := ho6.len; rw [cflat_len] at h1; omega
      subst hm6
      by_cases h0 : Cl.need x.l.length = 0
      · have e1 : Cl.splitCode x.l = 1 := by unfold Cl.splitCode; rw [if_pos h0]
        have hng : SegSt.good rs = false := by
          rw [Bool.eq_false_iff]
          intro h1
          exact SegSt.good_iff.1 h1 x.l (List.mem_of_getElem? HQ.out.2) h0
        have HF := Lib.hid (And.intro (below_step HC.out.2.1 hb6 HC.out.2.1.size) hng)
        rw [e1]
        clear h0 e1 hng HC ho6 hown6 hmap6 hb6 HQ
        go_wp2_with fail
        go_ret2
        exact ⟨HF.out.1, .inl ⟨HF.out.2, rfl⟩⟩
      · have e1 : Cl.splitCode x.l = 0 := by unfold Cl.splitCode; rw [if_neg h0]
        rw [e1]
        have hel6 : es6.length ≤ 8 := by have h1 := congrArg List.length hmap6; rw [List.length_map, Cl.split_len] at h1; have h2 := Cl.need_le x.l.length; omega
        have hel61 : 1 ≤ es6.length := by have h1 := congrArg List.length hmap6; rw [List.length_map, Cl.split_len] at h1; omega
        have hbl6 := below_step HC.out.2.1 hb6 HC.out.2.1.size
        have E6 := (HC.out.2.2.below hb6).sees (xs := es6.map CEl.bel) (fun y hy => by
          obtain ⟨e, he, rfl⟩ := List.mem_map.1 hy
          exact FarB.of_own (hown6 e he).own)
        have hrow := E6.row 0 rfl
        dsimp only at hrow
        obtain ⟨g6, rfl, _, _, _⟩ := ho6.get (show (cflat es6)[0]? = some _ from List.getElem?_eq_getElem (by rw [cflat_len]; omega))
        have hcs : ∀ j u, (cflat es6)[j]? = some u → w6.cell? ((⟨g6, 0, none⟩ : Addr).add j) = some u := fun j u hu => by
          rw [add_plain, Nat.zero_add]; exact ho6.get' hu
        have hmap7 : (es ++ es6).map (·.x) = cellsW t.gen t.top (rs.take (k + 1)) := by
          rw [List.map_append, HM.out.1, hmap6, List.take_add_one, HQ.out.2, Option.toList_some, cellsW_snoc, List.length_take]
          congr 2
          have h1 := HRS.out.2.1
          rw [← HQ.out.1, Nat.min_eq_left (by omega)]
        have hnum7 : ∀ e ∈ es ++ es6, e.Num := fun e he => by
          rcases List.mem_append.1 he with he | he
          · exact HM.out.2.1 e he
          · exact (hown6 e he).num
        have hgood7 := good_take HM.out.2.2 HQ.out.2 h0
        have HF := Lib.hid (And.intro hbl6 (And.intro hmap7 (And.intro hnum7 hgood7)))
        have HE6 := Lib.hid E6
        have hbs := E6.size
        have hone : ∀ u ∈ cflat es6, u.oneCell' = true := fun u hu => by
          unfold cflat at hu
          obtain ⟨e, _, he⟩ := List.mem_flatMap.1 hu
          exact vs_one e u he
        have hcl6 : (cflat es6).length = es6.length * 5 := cflat_len es6
        clear h0 e1 HC hbl6 E6 hmap7 hnum7 hgood7 HM HQ hmap6 hown6 hb6 ho6
        go_wp2_with (at_builtin; (refine wpList_appR _ rfl (.tmp 38) (.tmp 39) 68 rfl 73 _ 5 48 Tryd.underlying68 clinfo rfl (by omega) (by omega) rfl hrow (ad := ⟨g6, 0, none⟩) (m := es6.length) (c' := c6) (cflat es6) rfl hcl6 hcs hone (by omega) hbs ?_); intro A7 c7 w7 hown7 hg7 hA7; clear hrow hcs)
        have E7 := HE6.out.app 0 rfl hown7 hg7 hA7
        have hb7 := HF.out.1.grown hg7 HF.out.1.size (fun j e => by
          cases A2 with
          | none => cases e
          | some ad =>
            have h1 := HG.out ad rfl
            injection e with e
            have e : ad.block = j := e
            omega)
        have hge7 : ∀ ad, A7 = some ad → w.heap.size ≤ ad.block := fun ad e => by
          rcases hA7 with h1 | h1
          · exact HG.out ad (h1.symm.trans e)
          · rw [h1] at e; cases e; exact HF.out.1.size
        have E8 : WE w0 w7 g s bl (⟨73, 5, A7, (es ++ es6).length, c7, cflat (es ++ es6)⟩ :: ys) ((es ++ es6).map CEl.bel ++ rd) := by
          rw [List.length_append, cflat_append]
          refine E7.pick (List.Sublist.refl _) (List.Sublist.refl _) fun y hy => ?_
          simp only [List.map_append, List.mem_append] at hy ⊢
          rcases hy with (h | h) | h
          · exact .inr (.inl h)
          · exact .inl h
          · exact .inr (.inr h)
        have HZ := Lib.hid (And.intro E8 (And.intro hb7 hge7))
        clear E7 E8 hb7 hge7 hbs
        have hl9 : es.length + es6.length = (es ++ es6).length := by rw [List.length_append]
        rw [hl9]
        go_wp2_with fail
        go_roundw
        case rel => exact ⟨k + 1, A7, c7, es ++ es6, by omega, by go_num, rfl, HZ.out.1, HF.out.2.1, HF.out.2.2.1, HF.out.2.2.2, HZ.out.2.1, HZ.out.2.2⟩
        case measure => simp [intOf]; omega
    · obtain rfl : k = n := by omega
      have hlti : ¬ (k : Int) < (k : Int) := by omega
      have htk : rs.take k = rs := List.take_of_length_le (by have := HRS.out.2.1; omega)
      have HF := Lib.hid (And.intro hbl E)
      rw [htk] at HM
      clear E hbl htk
      go_wp2_with fail
      go_ret2
      exact ⟨HF.out.1, .inr ⟨HM.out.2.2, A2, c2, es, rfl, HF.out.2, HM.out.1, HM.out.2.1⟩⟩
end Go.Proofs.YtdlcngmcjidomaaDoor

/- The contract of Seg.Add. No condition but the reach of a slice, and that fewer than 2^59 operations were begun. -/
namespace Go.Proofs.YtdlcngmcjidomaaDoor
set_option linter.unusedSimpArgs false
set_option linter.unusedVariables false
open Go.RowKit Go.Shelf

section
variable {w0 w w' : World} {g h : Nat} {s : DSt} {t : SegSt} {bl : List WBk} {ys : List WRow} {rd : List BEl}
theorem dwrite_we (E : WE w0 w g s bl ys rd) (i : Int) {base : Nat} {bA : Option Addr} {bn bc : Nat} {l : List Nat} (hB : OwnI w base .u8 256 5 bA bn bc l) (hbn : (bn : Int) ≤ 9223372036854775807) (hb : s.begun < 1152921504606846976) (hp : s.pend.length < 1099511627776) :
    Calls Tryd.prog 18 #[.pointer (some ⟨g, 0, none⟩), .int .i64 i, .slice bA bn bc] w fun e w' => e = .returned (.int .i64 (s.write i l).2) ∧ WE w0 w' g (s.write i l).1 bl ys rd := by
  obtain ⟨T, D, hT, hb0, hB0, hN, hY, hP, hR⟩ := E.ex
  exact (dwrite_any D i hB.ints (D.no.off hB) hbn hb hp).mono fun _ _ ⟨he, T', D', hm⟩ => ⟨he, WE.disk1 D hT hb0 hB0 hN hY hP hR D' hm⟩
theorem dflush_we (E : WE w0 w g s bl ys rd) (hb : s.begun < 1152921504606846976) :
    Calls Tryd.prog 38 #[.pointer (some ⟨g, 0, none⟩)] w fun e w' => e = .returned (.int .i64 s.flush.2) ∧ WE w0 w' g s.flush.1 bl ys rd := by
  obtain ⟨T, D, hT, hb0, hB0, hN, hY, hP, hR⟩ := E.ex
  exact (dflush_any D hb).mono fun _ _ ⟨he, T', D', hm⟩ => ⟨he, WE.disk1 D hT hb0 hB0 hN hY hP hR D' hm⟩
theorem dplan_we (E : WE w0 w g s bl ys rd) (k : Int) (hk : k < 9223372036854775808) :
    Calls Tryd.prog 21 #[.pointer (some ⟨g, 0, none⟩), .int .i64 k] w fun e w' => (∃ v, e = .returned v) ∧ WE w0 w' g (s.plan k) bl ys rd := by
  obtain ⟨T, D, hT, hb0, hB0, hN, hY, hP, hR⟩ := E.ex
  exact (plan_any D k hk).mono fun _ _ ⟨he, D', hm⟩ => ⟨he, WE.disk1 D hT hb0 hB0 hN hY hP hR D' hm⟩
theorem dup_we (E : WE w0 w g s bl ys rd) {bA : Option Addr} {bn bc : Nat} {l : List Nat} (hB : Ints w .u8 256 bA bn bc l) (hbn : bn ≤ 1099511627776) :
    Calls Tryd.prog 19 #[.pointer (some ⟨g, 0, none⟩), .slice bA bn bc] w fun e w' => (∃ v, e = .returned v) ∧ WE w0 w' g (s.up l) bl ys rd := by
  obtain ⟨T, D, hT, hb0, hB0, hN, hY, hP, hR⟩ := E.ex
  exact (dup_any D hB hbn).mono fun _ _ ⟨he, T', D', hm⟩ => ⟨he, WE.disk1 D hT hb0 hB0 hN hY hP hR D' hm⟩
theorem ddown_we (E : WE w0 w g s bl ys rd) :
    Calls Tryd.prog 33 #[.pointer (some ⟨g, 0, none⟩)] w fun e w' => e = .returned (.bool s.down) ∧ w = w' := by
  obtain ⟨T, D, _⟩ := E.at_
  exact down_any D
theorem wr_more (s : DSt) (i : Int) (l : List Nat) : (s.write i l).1.begun ≤ s.begun + 1 ∧ (s.write i l).1.pend.length ≤ s.pend.length + 1 ∧ (s.write i l).1.sure = s.sure := by
  unfold DSt.write
  split
  · exact ⟨by show s.begun ≤ _; omega, by show s.pend.length ≤ _; omega, rfl⟩
  · split
    · split
      · exact ⟨by show s.begun + 1 ≤ _; omega, by show s.pend.length ≤ _; omega, rfl⟩
      · exact ⟨by show s.begun + 1 ≤ _; omega, by show (s.pend ++ [_]).length ≤ _; rw [List.length_append]; simp, rfl⟩
    · exact ⟨by show s.begun ≤ _; omega, by show s.pend.length ≤ _; omega, rfl⟩
theorem cellsW_ok {gen : Nat} (hg : gen < 4294967296) : ∀ {rs : List (List Nat)} {q : Nat} {x : Cl}, x ∈ cellsW gen q rs → x.may = true
  | [], _, _, h => by cases h
  | r :: rs, q, x, h => by
    rw [cellsW] at h
    rcases List.mem_append.1 h with h | h
    · unfold Cl.split at h
      obtain ⟨k, hk, rfl⟩ := List.mem_map.1 h
      exact Cl.cellAt_may (List.mem_range.1 hk)
    · exact cellsW_ok hg h
/-- What Add comes to, its cells under a name. -/
theorem add_eq {rs : List (List Nat)} {L m : Nat} (hg : SegSt.good rs = true) (hL : L = SegSt.total rs) (h1 : t.fin + L ≤ t.n) (h2 : t.top + rs.length ≤ 4294967295) (hd : s.down = false) (hne : rs ≠ []) {ct : List (List Nat)} (hct : ct = (cellsW t.gen t.top rs).map Cl.enc) :
    SegSt.add s t rs = if (SegSt.writes s (t.first + t.fin) ct).2 ≠ 0 then ((SegSt.writes s (t.first + t.fin) ct).1, t.unknown, (SegSt.writes s (t.first + t.fin) ct).2)
      else if (SegSt.writes s (t.first + t.fin) ct).1.flush.2 ≠ 0 then ((SegSt.writes s (t.first + t.fin) ct).1.flush.1, t.unknown, (SegSt.writes s (t.first + t.fin) ct).1.flush.2)
      else ((SegSt.writes s (t.first + t.fin) ct).1.flush.1, { t with fin := t.fin + L, top := t.top + rs.length }, 0) := by
  subst hL
  have e : ct = (Sc.cellsOf t.gen t.top rs).map Cl.enc := by rw [hct, cellsW_eq _ _ _ (by omega)]
  rw [e]
  unfold SegSt.add
  rw [if_neg (by rw [hg]; decide), if_neg (by omega), if_neg (by rw [hd]; decide), if_neg hne]
end
set_option maxRecDepth 100000 in
set_option maxHeartbeats 12800000 in
theorem add_we {w0 w : World} {g h : Nat} {s : DSt} {t : SegSt} {bl : List WBk} {ys : List WRow} {rd : List BEl} (E : WE w0 w g s bl ys rd) (i : Nat) (hi : bl[i]? = some (segB h g t)) (ok : t.Ok s) {A : Option Addr} {n c : Nat} {xs : List BEl} (R : BArg w A n c xs) (hn : n ≤ 1000) (hxs : ∀ x ∈ xs, x.n ≤ 140737488355328) (hbg : s.begun ≤ 576460752303423488) (hpl : s.pend.length ≤ 549755813888) :
    Calls Tryd.prog 15 #[.pointer (some ⟨h, 0, none⟩), .slice A n c] w fun e w' => e = .returned (.int .i64 (SegSt.add s t (xs.map (·.l))).2.2) ∧ WE w0 w' g (SegSt.add s t (xs.map (·.l))).1 (bl.set i (segB h g (SegSt.add s t (xs.map (·.l))).2.1)) ys rd := by
  have hil := (List.getElem?_eq_some_iff.1 hi).1
  have hset : bl.set i (segB h g t) = bl := by
    refine List.ext_getElem? fun k => ?_
    rw [List.getElem?_set]
    split
    · next hk => subst hk; first | exact hi.symm | rw [if_pos hil, hi]
    · rfl
  have hsl : s.sure.length ≤ 512 := E.wf.most
  have hfit := ok.fits
  have hfin := ok.fin
  have htop := ok.top
  have hrl : (xs.map (·.l)).length = n := by rw [List.length_map, R.len]
  have hsec := sectors_we E i hi ok.gen ok.top R hn hxs
  have hc0 := R
  obtain ⟨rs, hrs⟩ : ∃ rs, xs.map (·.l) = rs := ⟨_, rfl⟩
  rw [hrs] at hrl hsec ⊢
  clear R hxs hrs hc0
  have HE := Lib.hid E
  clear E
  go_enter Tryd.func15, Tryd.ntmps15
  go_wp2_with fail
  refine hsec.mono ?_
  rintro e w1 ⟨hb1, ⟨hng, rfl⟩ | ⟨hgd, A2, c2, es, rfl, E1, hmap, hnum⟩⟩
  · have e1 : SegSt.add s t rs = (s, t, 1) := by unfold SegSt.add; rw [if_pos hng]
    have HF := Lib.hid (And.intro e1 (HE.out.below hb1))
    clear hsec HE hb1 e1 hng
    go_wp2_with fail
    go_ret
    rw [HF.out.1]
    exact ⟨rfl, by rw [hset]; exact HF.out.2⟩
  have hL : es.length = SegSt.total rs := by have := congrArg List.length hmap; rwa [List.length_map, cellsW_len] at this
  have hL8 : es.length ≤ 8 * n := by have := total_le rs; omega
  have HM := Lib.hid (And.intro hmap (And.intro hnum (And.intro hgd hL)))
  clear hsec HE hb1 hmap hnum hgd
  obtain ⟨L, hLL⟩ : ∃ L, es.length = L := ⟨_, rfl⟩
  rw [hLL] at hL8 E1 ⊢
  have HL := Lib.hid hLL
  clear hLL hL
  go_wp2_with fail
  refine (free_any (E1.b i hi) hfin (by omega)).mono ?_; rintro e w2 ⟨rfl, q2, rfl⟩
  have E := E1.drewN q2
  clear E1
  generalize World.drewN _ _ = w2 at *
  obtain ⟨F, hF⟩ : ∃ F, t.n - t.fin = F := ⟨_, rfl⟩
  rw [hF]
  by_cases hfull : F < L
  · have q1 : (F : Int) < (L : Int) := by omega
    have q1d : decide ((F : Int) < (L : Int)) = true := decide_eq_true q1
    have e1 : SegSt.add s t rs = (s, t, 3) := by unfold SegSt.add; rw [if_neg (by rw [HM.out.2.2.1]; decide), if_pos (by left; have := HM.out.2.2.2; have := HL.out; omega)]
    have HF := Lib.hid (And.intro e1 (E.pick (List.Sublist.refl _) (.cons _ (.refl _)) (fun y hy => List.mem_append_right _ hy)))
    clear e1 E hfull
    go_wp2_with fail
    go_ret
    rw [HF.out.1]
    exact ⟨rfl, by rw [hset]; exact HF.out.2⟩
  have q1 : ¬ (F : Int) < (L : Int) := by omega
  have q1d : decide ((F : Int) < (L : Int)) = false := decide_eq_false q1
  have c5 : w2.cell? ⟨h, 5, none⟩ = some (.int .u64 (t.top : Int)) := E.cell i 5 hi rfl
  obtain ⟨m, hm⟩ : ∃ m, t.top + n = m := ⟨_, rfl⟩
  have hv1 : IntKind.u64.wrap (n : Int) = (n : Int) := by rw [IntKind.wrap_u64]; omega
  have hv2 : IntKind.u64.wrap ((t.top : Int) + (n : Int)) = (m : Int) := by rw [IntKind.wrap_u64]; omega
  by_cases hbig : 4294967295 < m
  · have q2 : (4294967295 : Int) < (m : Int) := by omega
    have q2d : decide ((4294967295 : Int) < (m : Int)) = true := decide_eq_true q2
    have e1 : SegSt.add s t rs = (s, t, 3) := by unfold SegSt.add; rw [if_neg (by rw [HM.out.2.2.1]; decide), if_pos (by right; omega)]
    have HF := Lib.hid (And.intro e1 (E.pick (List.Sublist.refl _) (.cons _ (.refl _)) (fun y hy => List.mem_append_right _ hy)))
    clear e1 E hfull hbig hm hF
    go_wp2_with fail
    go_ret
    rw [HF.out.1]
    exact ⟨rfl, by rw [hset]; exact HF.out.2⟩
  have q2 : ¬ (4294967295 : Int) < (m : Int) := by omega
  have q2d : decide ((4294967295 : Int) < (m : Int)) = false := decide_eq_false q2
  have hFL : t.fin + L ≤ t.n := by omega
  have hmn : t.top + rs.length ≤ 4294967295 := by omega
  have hL : L = SegSt.total rs := HL.out.symm.trans HM.out.2.2.2
  have HN := Lib.hid (And.intro hFL (And.intro hmn (And.intro hL hrl)))
  have c0 : w2.cell? ⟨h, 0, none⟩ = some (.pointer (some ⟨g, 0, none⟩)) := E.cell i 0 hi rfl
  have HM2 := Lib.hid hm
  clear hfull hbig hm hF hL hrl hFL hmn
  go_wp2_with fail
  refine (ddown_we E).mono ?_; rintro e w3 ⟨rfl, rfl⟩
  clear q1 q1d q2 q2d hv1 hv2 c0 c5
  cases hd : s.down with
  | true =>
    have e1 : SegSt.add s t rs = (s, t, 4) := by unfold SegSt.add; rw [if_neg (by rw [HM.out.2.2.1]; decide), if_neg (by have := HN.out.1; have := HN.out.2.1; have := HN.out.2.2.1; omega), if_pos hd]
    have HF := Lib.hid (And.intro e1 (E.pick (List.Sublist.refl _) (.cons _ (.refl _)) (fun y hy => List.mem_append_right _ hy)))
    clear e1 E hd
    go_wp2_with fail
    go_ret
    rw [HF.out.1]
    exact ⟨rfl, by rw [hset]; exact HF.out.2⟩
  | false =>
    by_cases hn0 : n = 0
    · have q0 : ((n : Int) == 0) = true := by simp [hn0]
      have e0 : rs = [] := List.eq_nil_of_length_eq_zero (by have := HN.out.2.2.2; omega)
      have e1 : SegSt.add s t rs = (s, t, 0) := by unfold SegSt.add; rw [if_neg (by rw [HM.out.2.2.1]; decide), if_neg (by have := HN.out.1; have := HN.out.2.1; have := HN.out.2.2.1; omega), if_neg (by rw [hd]; decide), if_pos e0]
      have HF := Lib.hid (And.intro e1 (E.pick (List.Sublist.refl _) (.cons _ (.refl _)) (fun y hy => List.mem_append_right _ hy)))
      clear e1 e0 E hd hn0
      go_wp2_with fail
      go_ret
      rw [HF.out.1]
      exact ⟨rfl, by rw [hset]; exact HF.out.2⟩
    have q0 : ((n : Int) == 0) = false := by simp; omega
    have hne : rs ≠ [] := fun e => by have := HN.out.2.2.2; rw [e] at this; simp at this; omega
    obtain ⟨ct, hct⟩ : ∃ ct, (cellsW t.gen t.top rs).map Cl.enc = ct := ⟨_, rfl⟩
    have hadd := add_eq (s := s) (t := t) (m := m) HM.out.2.2.1 HN.out.2.2.1 HN.out.1 HN.out.2.1 hd hne hct.symm
    have hcl : ct.length = L := by rw [← hct, List.length_map, cellsW_len]; exact HN.out.2.2.1.symm
    have HC := Lib.hid (And.intro hct (And.intro hcl hadd))
    clear hadd hct hcl hd hne hn0
    go_wp2_with fail
    have hrow0 := E.row 0 rfl
    dsimp only at hrow0
    have hL1 : 1 ≤ L := by
      have h1 := HN.out.2.2.1
      have h2 : 1 ≤ SegSt.total rs := by
        cases hrs0 : rs with
        | nil => have := HN.out.2.2.2; rw [hrs0] at this; simp at this; have h3 : n ≠ 0 := by simpa using q0
                 omega
        | cons r l =>
          have h4 := SegSt.good_iff.1 HM.out.2.2.1 r (by rw [hrs0]; exact List.mem_cons_self ..)
          unfold SegSt.total
          rw [List.map_cons, List.sum_cons]
          omega
      omega
    obtain ⟨ga, hga, -, -, -, -⟩ := hrow0.get (show (cflat es)[0]? = some _ from List.getElem?_eq_getElem (by rw [cflat_len, HL.out]; omega))
    subst hga
    clear hrow0 q0
    obtain ⟨p, hp⟩ : ∃ p, t.first + t.fin = p := ⟨_, rfl⟩
    have hwp : IntKind.i64.wrap ((t.first : Int) + (t.fin : Int)) = (p : Int) := by rw [IntWalk.i64_in _ (by omega)]; omega
    have hp512 : p ≤ 512 := by omega
    have hadd := HC.out.2.2
    rw [hp] at hadd
    have HA := Lib.hid hadd
    clear hadd hp
    have hL512 : L ≤ 8000 := by omega
    go_loopw [52] (fun iv wr => ∃ (j : Nat) (sj : DSt), j ≤ L ∧ iv = .int .i64 (j : Int) ∧ WE w0 wr g sj bl (⟨73, 5, some ⟨ga, 0, none⟩, L, c2, cflat es⟩ :: ys) (es.map CEl.bel ++ rd) ∧ SegSt.writes s p ct = SegSt.writes sj (p + j) (ct.drop j) ∧ sj.begun ≤ s.begun + j ∧ sj.pend.length ≤ s.pend.length + j) (fun iv _ => L - (intOf iv).toNat)
    case atStart => exact ⟨0, s, Nat.zero_le _, rfl, E, rfl, Nat.le_refl _, Nat.le_refl _⟩
    case round =>
      obtain ⟨j, sj, hj, rfl, E, hwr, hbj, hpj⟩ := hrel
      have HW := Lib.hid hwr
      clear hwr
      by_cases hlt : j < L
      · have hlti : (j : Int) < (L : Int) := by omega
        obtain ⟨⟨⟨eg, esq, ep, eq, ed⟩, eA, en, ec⟩, he⟩ : ∃ e, es[j]? = some e := ⟨_, List.getElem?_eq_getElem (by have := HL.out; omega)⟩
        have hrow := E.row 0 rfl
        dsimp only at hrow
        have y0 := hrow.get' (cflat_get he 0 (by omega))
        have y1 := hrow.get' (cflat_get he 1 (by omega))
        have y2 := hrow.get' (cflat_get he 2 (by omega))
        have y3 := hrow.get' (cflat_get he 3 (by omega))
        have y4 := hrow.get' (cflat_get he 4 (by omega))
        simp only [Nat.add_zero] at y0
        have hnum := HM.out.2.1 _ (List.mem_of_getElem? he)
        have hxj : (cellsW t.gen t.top rs)[j]? = some ⟨eg, esq, ep, eq, ed⟩ := by rw [← HM.out.1, List.getElem?_map, he]; rfl
        have hmay := cellsW_ok ok.gen (List.mem_of_getElem? hxj)
        have hctj : ct.drop j = Cl.enc ⟨eg, esq, ep, eq, ed⟩ :: ct.drop (j + 1) := by
          have h1 : ct[j]? = some (Cl.enc ⟨eg, esq, ep, eq, ed⟩) := by rw [← HC.out.1, List.getElem?_map, hxj]; rfl
          obtain ⟨h2, h3⟩ := List.getElem?_eq_some_iff.1 h1
          rw [List.drop_eq_getElem_cons h2, h3]
        have hencl : Cl.encL ⟨eg, esq, ep, eq, ed⟩ = Cl.enc ⟨eg, esq, ep, eq, ed⟩ := by unfold Cl.encL; rw [if_pos hmay]
        have E1 := E.add 73 #[.int .u32 0, .int .u32 0, .int .i64 0, .int .i64 0, .slice none 0 0] (by decide)
        have hZ := E1.b 0 rfl
        dsimp only at hZ
        have HE1 := Lib.hid (And.intro E1 (And.intro hnum (And.intro hctj (And.intro hencl (List.mem_of_getElem? he)))))
        obtain ⟨pj, hpjd⟩ : ∃ pj, p + j = pj := ⟨_, rfl⟩
        have hwj : IntKind.i64.wrap ((p : Int) + (j : Int)) = (pj : Int) := by rw [IntWalk.i64_in _ (by omega)]; omega
        have HPJ := Lib.hid hpjd
        clear hpjd
        clear hrow E E1 hnum hxj hmay hctj hencl he
        go_wp2_with (refine wpList_store_blk rfl 73 (.tmp 8) (.tmp 56) rfl wr.heap.size rfl 73 #[.int .u32 0, .int .u32 0, .int .i64 0, .int .i64 0, .slice none 0 0] #[.int .u32 (eg : Int), .int .u32 (esq : Int), .int .i64 ep, .int .i64 eq, .slice eA en ec] rfl hZ cell_size5 rfl (by simp [Value.oneCell']) ?_; intro w4 hB4 hg4; have E2 := HE1.out.1.put 0 rfl hB4 hg4; have k0 : w4.cell? ⟨wr.heap.size, 0, none⟩ = some (.int .u32 (eg : Int)) := E2.cell 0 0 rfl rfl; have k1 : w4.cell? ⟨wr.heap.size, 1, none⟩ = some (.int .u32 (esq : Int)) := E2.cell 0 1 rfl rfl; have k2 : w4.cell? ⟨wr.heap.size, 2, none⟩ = some (.int .i64 ep) := E2.cell 0 2 rfl rfl; have k3 : w4.cell? ⟨wr.heap.size, 3, none⟩ = some (.int .i64 eq) := E2.cell 0 3 rfl rfl; have k4 : w4.cell? ⟨wr.heap.size, 4, none⟩ = some (.slice eA en ec) := E2.cell 0 4 rfl rfl; have HE2 := Lib.hid E2; clear E2 hB4 hg4 hZ y0 y1 y2 y3 y4)
        refine (encode_any eg esq HE1.out.2.1.gen HE1.out.2.1.seq ep eq HE1.out.2.1.parts eA en ec ed _ (HE2.out.rdm (x := ⟨eA, en, ec, ed⟩) (List.mem_append_left _ (List.mem_map.2 ⟨_, HE1.out.2.2.2.2, rfl⟩)))).mono ?_
        rintro e w5 ⟨A5, m5, c5, rfl, ho5, hb5⟩
        have E := HE2.out.below hb5
        rw [HE1.out.2.2.2.1] at ho5
        have hm5 : m5 ≤ 64 := by
          have h1 := ho5.len
          have h2 := HE1.out.2.2.2.1
          unfold Cl.encL at h2
          have h3 : (Cl.enc ⟨eg, esq, ep, eq, ed⟩).length ≤ 64 := Nat.le_of_eq (Cl.enc_len (by
            have h4 := HE1.out.2.2.2.2
            obtain ⟨q, hq⟩ := List.mem_iff_getElem?.1 h4
            have h5 : (cellsW t.gen t.top rs)[q]? = some ⟨eg, esq, ep, eq, ed⟩ := by rw [← HM.out.1, List.getElem?_map, hq]; rfl
            exact (Cl.may_iff.1 (cellsW_ok ok.gen (List.mem_of_getElem? h5))).2.2.2.2.2.1))
          omega
        have HB := Lib.hid (And.intro HE1.out.2.2.1 HW.out)
        clear HE1 HE2 hb5 k0 k1 k2 k3 k4 HW
        generalize Cl.encCode _ = cd5 at *
        obtain ⟨b, hb⟩ : ∃ b, Cl.enc ⟨eg, esq, ep, eq, ed⟩ = b := ⟨_, rfl⟩
        rw [hb] at ho5 HB
        clear hb
        go_wp2_with fail
        have E := E.drew
        have ho5 := ho5.drew
        generalize hwd : World.drew _ = w6 at *
        have s0 : (fun w' : World => w'.cell? ⟨h, 0, none⟩ = some (.pointer (some ⟨g, 0, none⟩)) ∧ w'.cell? ⟨h, 1, none⟩ = some (.int .i64 (t.first : Int)) ∧ w'.cell? ⟨h, 4, none⟩ = some (.int .i64 (t.fin : Int))) w6 := ⟨E.cell (i + 1) 0 hi rfl, E.cell (i + 1) 1 hi rfl, E.cell (i + 1) 4 hi rfl⟩
        refine wp_region_late [17] (fun w' : World => w'.cell? ⟨h, 0, none⟩ = some (.pointer (some ⟨g, 0, none⟩)) ∧ w'.cell? ⟨h, 1, none⟩ = some (.int .i64 (t.first : Int)) ∧ w'.cell? ⟨h, 4, none⟩ = some (.int .i64 (t.fin : Int))) (by kernel_rfl) ?_
        rw [hwd]
        clear hwd
        refine wpAnyL_take (i := 0) (v := ?_) rfl (by kernel_rfl) (by kernel_rfl) (by kernel_rfl) (by kernel_rfl) (by kernel_rfl) (fun _ _ _ h => h) (Or.inl ⟨by kernel_rfl, ?_⟩) s0 ?_
        rotate_left
        · rintro w0 ⟨h1_, h2_, h3_⟩; go_simp; (try with_reducible rfl)
        try simp only [Act.put, List.getElem_toArray, List.getElem_cons_succ, List.getElem_cons_zero, List.setIfInBounds_toArray, List.set_cons_zero, List.set_cons_succ]
        refine wpAnyL_take (i := 1) (v := ?_) rfl (by kernel_rfl) (by kernel_rfl) (by kernel_rfl) (by kernel_rfl) (by kernel_rfl) (fun _ _ _ h => h) (Or.inl ⟨by kernel_rfl, ?_⟩) s0 ?_
        rotate_left
        · rintro w0 ⟨h1_, h2_, h3_⟩; go_simp; (try with_reducible rfl)
        try simp only [Act.put, List.getElem_toArray, List.getElem_cons_succ, List.getElem_cons_zero, List.setIfInBounds_toArray, List.set_cons_zero, List.set_cons_succ]
        refine wpAnyL_take (i := 2) (v := ?_) rfl (by kernel_rfl) (by kernel_rfl) (by kernel_rfl) (by kernel_rfl) (by kernel_rfl) (fun _ _ _ h => h) (Or.inl ⟨by kernel_rfl, ?_⟩) s0 ?_
        rotate_left
        · rintro w0 ⟨h1_, h2_, h3_⟩; go_simp; (try with_reducible rfl)
        try simp only [Act.put, List.getElem_toArray, List.getElem_cons_succ, List.getElem_cons_zero, List.setIfInBounds_toArray, List.set_cons_zero, List.set_cons_succ]
        refine wpAnyL_take (i := 3) (v := ?_) rfl (by kernel_rfl) (by kernel_rfl) (by kernel_rfl) (by kernel_rfl) (by kernel_rfl) (fun _ _ _ h => h) (Or.inl ⟨by kernel_rfl, ?_⟩) s0 ?_
        rotate_left
        · rintro w0 ⟨h1_, h2_, h3_⟩; go_simp; (try with_reducible rfl)
        try simp only [Act.put, List.getElem_toArray, List.getElem_cons_succ, List.getElem_cons_zero, List.setIfInBounds_toArray, List.set_cons_zero, List.set_cons_succ]
        refine wpAnyL_take (i := 4) (v := ?_) rfl (by kernel_rfl) (by kernel_rfl) (by kernel_rfl) (by kernel_rfl) (by kernel_rfl) (fun _ _ _ h => h) (Or.inl ⟨by kernel_rfl, ?_⟩) s0 ?_
        rotate_left
        · rintro w0 ⟨h1_, h2_, h3_⟩; go_simp; (try with_reducible rfl)
        try simp only [Act.put, List.getElem_toArray, List.getElem_cons_succ, List.getElem_cons_zero, List.setIfInBounds_toArray, List.set_cons_zero, List.set_cons_succ]
        refine wpAnyL_take (i := 5) (v := ?_) rfl (by kernel_rfl) (by kernel_rfl) (by kernel_rfl) (by kernel_rfl) (by kernel_rfl) (fun _ _ _ h => h) (Or.inl ⟨by kernel_rfl, ?_⟩) s0 ?_
        rotate_left
        · rintro w0 ⟨h1_, h2_, h3_⟩; go_simp; (try with_reducible rfl)
        try simp only [Act.put, List.getElem_toArray, List.getElem_cons_succ, List.getElem_cons_zero, List.setIfInBounds_toArray, List.set_cons_zero, List.set_cons_succ]
        refine wpAnyL_take (i := 6) (v := ?_) rfl (by kernel_rfl) (by kernel_rfl) (by kernel_rfl) (by kernel_rfl) (by kernel_rfl) (fun _ _ _ h => h) (Or.inl ⟨by kernel_rfl, ?_⟩) s0 ?_
        rotate_left
        · rintro w0 ⟨h1_, h2_, h3_⟩; go_simp; (try with_reducible rfl)
        try simp only [Act.put, List.getElem_toArray, List.getElem_cons_succ, List.getElem_cons_zero, List.setIfInBounds_toArray, List.set_cons_zero, List.set_cons_succ]
        refine wpAnyL_take (i := 7) (v := ?_) rfl (by kernel_rfl) (by kernel_rfl) (by kernel_rfl) (by kernel_rfl) (by kernel_rfl) (fun _ _ _ h => h) (Or.inl ⟨by kernel_rfl, ?_⟩) s0 ?_
        rotate_left
        · rintro w0 ⟨h1_, h2_, h3_⟩; go_simp; (try with_reducible rfl)
        try simp only [Act.put, List.getElem_toArray, List.getElem_cons_succ, List.getElem_cons_zero, List.setIfInBounds_toArray, List.set_cons_zero, List.set_cons_succ]
        refine wpAnyL_take (i := 8) (v := ?_) rfl (by kernel_rfl) (by kernel_rfl) (by kernel_rfl) (by kernel_rfl) (by kernel_rfl) (fun _ _ _ h => h) (Or.inl ⟨by kernel_rfl, ?_⟩) s0 ?_
        rotate_left
        · rintro w0 ⟨h1_, h2_, h3_⟩; go_simp; (try with_reducible rfl)
        try simp only [Act.put, List.getElem_toArray, List.getElem_cons_succ, List.getElem_cons_zero, List.setIfInBounds_toArray, List.set_cons_zero, List.set_cons_succ]
        refine wpAnyL_take (i := 9) (v := ?_) rfl (by kernel_rfl) (by kernel_rfl) (by kernel_rfl) (by kernel_rfl) (by kernel_rfl) (fun _ _ _ h => h) (Or.inl ⟨by kernel_rfl, ?_⟩) s0 ?_
        rotate_left
        · rintro w0 ⟨h1_, h2_, h3_⟩; go_simp; (try with_reducible rfl)
        try simp only [Act.put, List.getElem_toArray, List.getElem_cons_succ, List.getElem_cons_zero, List.setIfInBounds_toArray, List.set_cons_zero, List.set_cons_succ]
        refine wpAnyL_take (i := 10) (v := ?_) rfl (by kernel_rfl) (by kernel_rfl) (by kernel_rfl) (by kernel_rfl) (by kernel_rfl) (fun _ _ _ h => h) (Or.inl ⟨by kernel_rfl, ?_⟩) s0 ?_
        rotate_left
        · rintro w0 ⟨h1_, h2_, h3_⟩; go_simp; (try with_reducible rfl)
        try simp only [Act.put, List.getElem_toArray, List.getElem_cons_succ, List.getElem_cons_zero, List.setIfInBounds_toArray, List.set_cons_zero, List.set_cons_succ]
        refine wpAnyL_take (i := 11) (v := ?_) rfl (by kernel_rfl) (by kernel_rfl) (by kernel_rfl) (by kernel_rfl) (by kernel_rfl) (fun _ _ _ h => h) (Or.inl ⟨by kernel_rfl, ?_⟩) s0 ?_
        rotate_left
        · rintro w0 ⟨h1_, h2_, h3_⟩; go_simp; (try with_reducible rfl)
        try simp only [Act.put, List.getElem_toArray, List.getElem_cons_succ, List.getElem_cons_zero, List.setIfInBounds_toArray, List.set_cons_zero, List.set_cons_succ]
        refine wpAnyL_take (i := 12) (v := ?_) rfl (by kernel_rfl) (by kernel_rfl) (by kernel_rfl) (by kernel_rfl) (by kernel_rfl) (fun _ _ _ h => h) (Or.inl ⟨by kernel_rfl, ?_⟩) s0 ?_
        rotate_left
        · rintro w0 ⟨h1_, h2_, h3_⟩; go_simp; (try with_reducible rfl)
        try simp only [Act.put, List.getElem_toArray, List.getElem_cons_succ, List.getElem_cons_zero, List.setIfInBounds_toArray, List.set_cons_zero, List.set_cons_succ]
        refine wpAnyL_take (i := 13) (v := ?_) rfl (by kernel_rfl) (by kernel_rfl) (by kernel_rfl) (by kernel_rfl) (by kernel_rfl) (fun _ _ _ h => h) (Or.inl ⟨by kernel_rfl, ?_⟩) s0 ?_
        rotate_left
        · rintro w0 ⟨h1_, h2_, h3_⟩; go_simp; (try with_reducible rfl)
        try simp only [Act.put, List.getElem_toArray, List.getElem_cons_succ, List.getElem_cons_zero, List.setIfInBounds_toArray, List.set_cons_zero, List.set_cons_succ]
        refine wpAnyL_take (i := 14) (v := ?_) rfl (by kernel_rfl) (by kernel_rfl) (by kernel_rfl) (by kernel_rfl) (by kernel_rfl) (fun _ _ _ h => h) (Or.inl ⟨by kernel_rfl, ?_⟩) s0 ?_
        rotate_left
        · rintro w0 ⟨h1_, h2_, h3_⟩; go_simp; (try with_reducible rfl)
        try simp only [Act.put, List.getElem_toArray, List.getElem_cons_succ, List.getElem_cons_zero, List.setIfInBounds_toArray, List.set_cons_zero, List.set_cons_succ]
        refine wpAnyL_take (i := 15) (v := ?_) rfl (by kernel_rfl) (by kernel_rfl) (by kernel_rfl) (by kernel_rfl) (by kernel_rfl) (fun _ _ _ h => h) (Or.inl ⟨by kernel_rfl, ?_⟩) s0 ?_
        rotate_left
        · rintro w0 ⟨h1_, h2_, h3_⟩; go_simp; (try with_reducible rfl)
        try simp only [Act.put, List.getElem_toArray, List.getElem_cons_succ, List.getElem_cons_zero, List.setIfInBounds_toArray, List.set_cons_zero, List.set_cons_succ]
        refine wpAnyL_one (i := 16) (by kernel_rfl) rfl (fun K hK => ?_)
        go_simp
        refine (dwrite_we E (pj : Int) ho5 (by have := ho5.len; omega) (by omega) (by omega)).mono ?_; rintro e w7 ⟨rfl, E7⟩
        have s1 : (fun w' : World => w'.cell? ⟨h, 0, none⟩ = some (.pointer (some ⟨g, 0, none⟩)) ∧ w'.cell? ⟨h, 1, none⟩ = some (.int .i64 (t.first : Int)) ∧ w'.cell? ⟨h, 4, none⟩ = some (.int .i64 (t.fin : Int))) w7 := ⟨E7.cell (i + 1) 0 hi rfl, E7.cell (i + 1) 1 hi rfl, E7.cell (i + 1) 4 hi rfl⟩
        go_wp2_with fail
        refine hK.out _ _ (fun _ => s1) ?_
        clear hK K
        try simp only [Act.put, List.getElem_toArray, List.getElem_cons_succ, List.getElem_cons_zero, List.setIfInBounds_toArray, List.set_cons_zero, List.set_cons_succ]
        refine wpAnyL_one (i := 17) (by kernel_rfl) rfl (fun K hK => ?_)
        go_simp
        refine hK.out _ _ (fun h => absurd (by simp) h) ?_
        clear hK K
        try simp only [Act.put, List.getElem_toArray, List.getElem_cons_succ, List.getElem_cons_zero, List.setIfInBounds_toArray, List.set_cons_zero, List.set_cons_succ]
        refine wpAnyL_done (by kernel_rfl) ?_ _
        clear E s0 s1 ho5
        obtain ⟨cd, hcd⟩ : ∃ cd, (sj.write (pj : Int) b).2 = cd := ⟨_, rfl⟩
        have hmore := wr_more sj (pj : Int) b
        rw [hcd]
        by_cases hc0 : cd = 0
        · have q0 : (cd != 0) = false := by simp [hc0]
          have hw' : SegSt.writes s p ct = SegSt.writes (sj.write (pj : Int) b).1 (p + (j + 1)) (ct.drop (j + 1)) := by
            rw [HB.out.2, HB.out.1, HPJ.out, SegSt.writes, if_pos (by rw [hcd]; exact hc0), ← HPJ.out]
            rfl
          have HF := Lib.hid (And.intro (E7.pick (bl' := bl) (.cons _ (.refl _)) (List.Sublist.refl _) (fun _ h => h)) (And.intro hw' hmore))
          clear E7 hc0 hw' hmore hcd HB
          go_wp2_with fail
          go_roundw
          case rel => exact ⟨j + 1, _, by omega, by go_num, HF.out.1, HF.out.2.1, by have := HF.out.2.2.1; omega, by have := HF.out.2.2.2.1; omega⟩
          case measure => simp [intOf]; omega
        · have q0 : (cd != 0) = true := by simpa using hc0
          have hw' : SegSt.writes s p ct = sj.write (pj : Int) b := by
            rw [HB.out.2, HB.out.1, HPJ.out, SegSt.writes, if_neg (by rw [hcd]; exact hc0)]
          have hres : SegSt.add s t rs = ((sj.write (pj : Int) b).1, t.unknown, cd) := by
            rw [HA.out, hw', if_pos (by rw [hcd]; exact hc0), hcd]
          have HF := Lib.hid (And.intro E7 hres)
          clear E7 hc0 hw' hmore hcd HB hres
          go_wp2_with fail
          refine (unknown_we HF.out.1 (i + 1) hi).mono ?_; rintro e w8 ⟨⟨v8, rfl⟩, E8⟩
          go_wp2_with fail
          go_ret
          rw [HF.out.2]
          exact ⟨rfl, E8.pick (bl' := bl.set i (segB h g t.unknown)) (.cons _ (.refl _)) (.cons _ (.refl _)) (fun y hy => List.mem_append_right _ hy)⟩
      · obtain rfl : j = L := by omega
        have hlti : ¬ (j : Int) < (j : Int) := by omega
        have hdr : ct.drop j = [] := List.drop_eq_nil_of_le (by rw [HC.out.2.1]; exact Nat.le_refl _)
        have hw' : SegSt.writes s p ct = (sj, 0) := by rw [HW.out, hdr]; rfl
        have hadd := HA.out
        rw [hw', if_neg (fun h => h rfl)] at hadd
        dsimp only at hadd
        have E := E.pick (ys' := ys) (rd' := rd) (List.Sublist.refl _) (.cons _ (.refl _)) (fun y hy => List.mem_append_right _ hy)
        have c0 : wr.cell? ⟨h, 0, none⟩ = some (.pointer (some ⟨g, 0, none⟩)) := E.cell i 0 hi rfl
        have HF := Lib.hid hadd
        clear hdr hw' hadd HW HA HM HC HL
        go_wp2_with fail
        refine (dflush_we E (by omega)).mono ?_; rintro e w6 ⟨rfl, E6⟩
        clear E c0
        have E := E6
        clear E6
        obtain ⟨cd, hcd⟩ : ∃ cd, sj.flush.2 = cd := ⟨_, rfl⟩
        rw [hcd]
        by_cases hc0 : cd = 0
        · have q0 : (cd != 0) = false := by simp [hc0]
          have hres := HF.out
          rw [if_neg (by rw [hcd]; exact fun h => h hc0)] at hres
          have hres2 := hres
          rw [HN.out.2.2.2] at hres2
          obtain ⟨fN, hfn⟩ : ∃ q, t.fin + j = q := ⟨_, rfl⟩
          obtain ⟨tN, htN⟩ : ∃ q, t.top + n = q := ⟨_, rfl⟩
          have hv0 : IntKind.i64.wrap ((t.fin : Int) + (j : Int)) = (fN : Int) := by have := HN.out.1; rw [IntWalk.i64_in _ (by omega)]; omega
          have hv1 : IntKind.u64.wrap (n : Int) = (n : Int) := by rw [IntKind.wrap_u64]; omega
          have hv2 : IntKind.u64.wrap ((t.top : Int) + (n : Int)) = (tN : Int) := by rw [IntKind.wrap_u64]; omega
          rw [hfn, htN] at hres2
          have HG := Lib.hid hres2
          clear hres hres2 hc0 hcd HF hfn htN
          generalize sj.flush.1 = s9 at *
          go_wp2_with fail
          have E := E.drew
          generalize hwd : World.drew _ = w6 at *
          have s0 : (fun w' : World => w'.cell? ⟨h, 5, none⟩ = some (.int .u64 (t.top : Int))) w6 := E.cell i 5 hi rfl
          have k4 : w6.cell? ⟨h, 4, none⟩ = some (.int .i64 (t.fin : Int)) := E.cell i 4 hi rfl
          have f4 : w6.frozen? ⟨h, 4, none⟩ = false := E.frozen i 4 hi
          refine wp_region_late [] (fun _ => True) (by kernel_rfl) ?_
          rw [hwd]
          clear hwd
          refine wpAnyL_take (i := 0) (v := ?_) rfl (by kernel_rfl) (by kernel_rfl) (by kernel_rfl) (by kernel_rfl) (by kernel_rfl) (fun _ _ _ h => h) (Or.inl ⟨by kernel_rfl, ?_⟩) trivial ?_
          rotate_left
          · rintro w0 _; go_simp; (try with_reducible rfl)
          try simp only [Act.put, List.getElem_toArray, List.getElem_cons_succ, List.getElem_cons_zero, List.setIfInBounds_toArray, List.set_cons_zero, List.set_cons_succ]
          refine wpAnyL_take (i := 1) (v := ?_) rfl (by kernel_rfl) (by kernel_rfl) (by kernel_rfl) (by kernel_rfl) (by kernel_rfl) (fun _ _ _ h => h) (Or.inl ⟨by kernel_rfl, ?_⟩) trivial ?_
          rotate_left
          · rintro w0 _; go_simp; (try with_reducible rfl)
          try simp only [Act.put, List.getElem_toArray, List.getElem_cons_succ, List.getElem_cons_zero, List.setIfInBounds_toArray, List.set_cons_zero, List.set_cons_succ]
          refine wpAnyL_take (i := 2) (v := ?_) rfl (by kernel_rfl) (by kernel_rfl) (by kernel_rfl) (by kernel_rfl) (by kernel_rfl) (fun _ _ _ h => h) (Or.inl ⟨by kernel_rfl, ?_⟩) trivial ?_
          rotate_left
          · rintro w0 _; go_simp; (try with_reducible rfl)
          try simp only [Act.put, List.getElem_toArray, List.getElem_cons_succ, List.getElem_cons_zero, List.setIfInBounds_toArray, List.set_cons_zero, List.set_cons_succ]
          refine wpAnyL_take (i := 3) (v := ?_) rfl (by kernel_rfl) (by kernel_rfl) (by kernel_rfl) (by kernel_rfl) (by kernel_rfl) (fun _ _ _ h => h) (Or.inl ⟨by kernel_rfl, ?_⟩) trivial ?_
          rotate_left
          · rintro w0 _; go_simp; (try with_reducible rfl)
          try simp only [Act.put, List.getElem_toArray, List.getElem_cons_succ, List.getElem_cons_zero, List.setIfInBounds_toArray, List.set_cons_zero, List.set_cons_succ]
          refine wpAnyL_take (i := 4) (v := ?_) rfl (by kernel_rfl) (by kernel_rfl) (by kernel_rfl) (by kernel_rfl) (by kernel_rfl) (fun _ _ _ h => h) (Or.inl ⟨by kernel_rfl, ?_⟩) trivial ?_
          rotate_left
          · rintro w0 _; go_simp; (try with_reducible rfl)
          try simp only [Act.put, List.getElem_toArray, List.getElem_cons_succ, List.getElem_cons_zero, List.setIfInBounds_toArray, List.set_cons_zero, List.set_cons_succ]
          refine wpAnyL_take (i := 6) (v := ?_) rfl (by kernel_rfl) (by kernel_rfl) (by kernel_rfl) (by kernel_rfl) (by kernel_rfl) (fun _ _ _ h => h) (Or.inl ⟨by kernel_rfl, ?_⟩) trivial ?_
          rotate_left
          · rintro w0 _; go_simp; (try with_reducible rfl)
          try simp only [Act.put, List.getElem_toArray, List.getElem_cons_succ, List.getElem_cons_zero, List.setIfInBounds_toArray, List.set_cons_zero, List.set_cons_succ]
          refine wpAnyL_take (i := 7) (v := ?_) rfl (by kernel_rfl) (by kernel_rfl) (by kernel_rfl) (by kernel_rfl) (by kernel_rfl) (fun _ _ _ h => h) (Or.inl ⟨by kernel_rfl, ?_⟩) trivial ?_
          rotate_left
          · rintro w0 _; go_simp; (try with_reducible rfl)
          try simp only [Act.put, List.getElem_toArray, List.getElem_cons_succ, List.getElem_cons_zero, List.setIfInBounds_toArray, List.set_cons_zero, List.set_cons_succ]
          refine wpAnyL_take (i := 9) (v := ?_) rfl (by kernel_rfl) (by kernel_rfl) (by kernel_rfl) (by kernel_rfl) (by kernel_rfl) (fun _ _ _ h => h) (Or.inl ⟨by kernel_rfl, ?_⟩) trivial ?_
          rotate_left
          · rintro w0 _; go_simp; (try with_reducible rfl)
          try simp only [Act.put, List.getElem_toArray, List.getElem_cons_succ, List.getElem_cons_zero, List.setIfInBounds_toArray, List.set_cons_zero, List.set_cons_succ]
          refine wpAnyL_take (i := 10) (v := ?_) rfl (by kernel_rfl) (by kernel_rfl) (by kernel_rfl) (by kernel_rfl) (by kernel_rfl) (fun _ _ _ h => h) (Or.inl ⟨by kernel_rfl, ?_⟩) trivial ?_
          rotate_left
          · rintro w0 _; go_simp; (try with_reducible rfl)
          try simp only [Act.put, List.getElem_toArray, List.getElem_cons_succ, List.getElem_cons_zero, List.setIfInBounds_toArray, List.set_cons_zero, List.set_cons_succ]
          refine wpAnyL_take (i := 11) (v := ?_) rfl (by kernel_rfl) (by kernel_rfl) (by kernel_rfl) (by kernel_rfl) (by kernel_rfl) (fun _ _ _ h => h) (Or.inl ⟨by kernel_rfl, ?_⟩) trivial ?_
          rotate_left
          · rintro w0 _; go_simp; (try with_reducible rfl)
          try simp only [Act.put, List.getElem_toArray, List.getElem_cons_succ, List.getElem_cons_zero, List.setIfInBounds_toArray, List.set_cons_zero, List.set_cons_succ]
          refine wpAnyL_take (i := 13) (v := ?_) rfl (by kernel_rfl) (by kernel_rfl) (by kernel_rfl) (by kernel_rfl) (by kernel_rfl) (fun _ _ _ h => h) (Or.inl ⟨by kernel_rfl, ?_⟩) trivial ?_
          rotate_left
          · rintro w0 _; go_simp; (try with_reducible rfl)
          try simp only [Act.put, List.getElem_toArray, List.getElem_cons_succ, List.getElem_cons_zero, List.setIfInBounds_toArray, List.set_cons_zero, List.set_cons_succ]
          refine wpAnyL_take (i := 14) (v := ?_) rfl (by kernel_rfl) (by kernel_rfl) (by kernel_rfl) (by kernel_rfl) (by kernel_rfl) (fun _ _ _ h => h) (Or.inl ⟨by kernel_rfl, ?_⟩) trivial ?_
          rotate_left
          · rintro w0 _; go_simp; (try with_reducible rfl)
          try simp only [Act.put, List.getElem_toArray, List.getElem_cons_succ, List.getElem_cons_zero, List.setIfInBounds_toArray, List.set_cons_zero, List.set_cons_succ]
          refine wpAnyL_take (i := 15) (v := ?_) rfl (by kernel_rfl) (by kernel_rfl) (by kernel_rfl) (by kernel_rfl) (by kernel_rfl) (fun _ _ _ h => h) (Or.inl ⟨by kernel_rfl, ?_⟩) trivial ?_
          rotate_left
          · rintro w0 _; go_simp; (try with_reducible rfl)
          try simp only [Act.put, List.getElem_toArray, List.getElem_cons_succ, List.getElem_cons_zero, List.setIfInBounds_toArray, List.set_cons_zero, List.set_cons_succ]
          refine wpAnyL_sw (D := [22]) (S := (fun w' : World => w'.cell? ⟨h, 5, none⟩ = some (.int .u64 (t.top : Int)))) _ _ _ _ ?_
          refine wpAnyL_take (i := 12) (v := ?_) rfl (by kernel_rfl) (by kernel_rfl) (by kernel_rfl) (by kernel_rfl) (by kernel_rfl) (fun _ _ _ h => h) (Or.inl ⟨by kernel_rfl, ?_⟩) s0 ?_
          rotate_left
          · rintro w0 h1_; go_simp; (try with_reducible rfl)
          try simp only [Act.put, List.getElem_toArray, List.getElem_cons_succ, List.getElem_cons_zero, List.setIfInBounds_toArray, List.set_cons_zero, List.set_cons_succ]
          refine wpAnyL_take (i := 16) (v := ?_) rfl (by kernel_rfl) (by kernel_rfl) (by kernel_rfl) (by kernel_rfl) (by kernel_rfl) (fun _ _ _ h => h) (Or.inl ⟨by kernel_rfl, ?_⟩) s0 ?_
          rotate_left
          · rintro w0 h1_; go_simp; (try with_reducible rfl)
          try simp only [Act.put, List.getElem_toArray, List.getElem_cons_succ, List.getElem_cons_zero, List.setIfInBounds_toArray, List.set_cons_zero, List.set_cons_succ]
          refine wpAnyL_one (i := 5) (by kernel_rfl) rfl (fun K hK => ?_)
          go_simp
          refine hK.out _ _ (fun _ => s0) ?_
          clear hK K
          try simp only [Act.put, List.getElem_toArray, List.getElem_cons_succ, List.getElem_cons_zero, List.setIfInBounds_toArray, List.set_cons_zero, List.set_cons_succ]
          refine wpAnyL_take (i := 8) (v := ?_) rfl (by kernel_rfl) (by kernel_rfl) (by kernel_rfl) (by kernel_rfl) (by kernel_rfl) (fun _ _ _ h => h) (Or.inl ⟨by kernel_rfl, ?_⟩) s0 ?_
          rotate_left
          · rintro w0 h1_; go_simp; (try with_reducible rfl)
          try simp only [Act.put, List.getElem_toArray, List.getElem_cons_succ, List.getElem_cons_zero, List.setIfInBounds_toArray, List.set_cons_zero, List.set_cons_succ]
          refine wpAnyL_take (i := 17) (v := ?_) rfl (by kernel_rfl) (by kernel_rfl) (by kernel_rfl) (by kernel_rfl) (by kernel_rfl) (fun _ _ _ h => h) (Or.inl ⟨by kernel_rfl, ?_⟩) s0 ?_
          rotate_left
          · rintro w0 h1_; go_simp; (try with_reducible rfl)
          try simp only [Act.put, List.getElem_toArray, List.getElem_cons_succ, List.getElem_cons_zero, List.setIfInBounds_toArray, List.set_cons_zero, List.set_cons_succ]
          refine wpAnyL_take (i := 18) (v := ?_) rfl (by kernel_rfl) (by kernel_rfl) (by kernel_rfl) (by kernel_rfl) (by kernel_rfl) (fun _ _ _ h => h) (Or.inl ⟨by kernel_rfl, ?_⟩) s0 ?_
          rotate_left
          · rintro w0 h1_; go_simp; (try with_reducible rfl)
          try simp only [Act.put, List.getElem_toArray, List.getElem_cons_succ, List.getElem_cons_zero, List.setIfInBounds_toArray, List.set_cons_zero, List.set_cons_succ]
          refine wpAnyL_one (i := 19) (by kernel_rfl) rfl (fun K hK => ?_)
          go_simp
          have E8 := E.set i 4 hi (.int .i64 (fN : Int))
          rw [segV4] at E8
          have hi8 : (bl.set i (segB h g { t with fin := fN }))[i]? = some (segB h g { t with fin := fN }) := List.getElem?_set_self hil
          have s1 : (fun w' : World => w'.cell? ⟨h, 5, none⟩ = some (.int .u64 (t.top : Int))) _ := E8.cell i 5 hi8 rfl
          clear E k4 f4
          refine hK.out _ _ (fun _ => s1) ?_
          clear hK K
          try simp only [Act.put, List.getElem_toArray, List.getElem_cons_succ, List.getElem_cons_zero, List.setIfInBounds_toArray, List.set_cons_zero, List.set_cons_succ]
          refine wpAnyL_take (i := 20) (v := ?_) rfl (by kernel_rfl) (by kernel_rfl) (by kernel_rfl) (by kernel_rfl) (by kernel_rfl) (fun _ _ _ h => h) (Or.inl ⟨by kernel_rfl, ?_⟩) s1 ?_
          rotate_left
          · rintro w0 h1_; go_simp; (try with_reducible rfl)
          try simp only [Act.put, List.getElem_toArray, List.getElem_cons_succ, List.getElem_cons_zero, List.setIfInBounds_toArray, List.set_cons_zero, List.set_cons_succ]
          refine wpAnyL_take (i := 21) (v := ?_) rfl (by kernel_rfl) (by kernel_rfl) (by kernel_rfl) (by kernel_rfl) (by kernel_rfl) (fun _ _ _ h => h) (Or.inl ⟨by kernel_rfl, ?_⟩) s1 ?_
          rotate_left
          · rintro w0 h1_; go_simp; (try with_reducible rfl)
          try simp only [Act.put, List.getElem_toArray, List.getElem_cons_succ, List.getElem_cons_zero, List.setIfInBounds_toArray, List.set_cons_zero, List.set_cons_succ]
          have f5 : (w6.setCell ⟨h, 4, none⟩ (.int .i64 (fN : Int))).frozen? ⟨h, 5, none⟩ = false := E8.frozen i 5 hi8
          refine wpAnyL_one (i := 22) (by kernel_rfl) rfl (fun K hK => ?_)
          go_simp
          have E9 := E8.set i 5 hi8 (.int .u64 (tN : Int))
          rw [segV5, List.set_set] at E9
          clear E8 f5 s1 s0
          refine hK.out _ _ (fun h => absurd (by simp) h) ?_
          clear hK K
          try simp only [Act.put, List.getElem_toArray, List.getElem_cons_succ, List.getElem_cons_zero, List.setIfInBounds_toArray, List.set_cons_zero, List.set_cons_succ]
          refine wpAnyL_done (by kernel_rfl) ?_ _
          have HZ := Lib.hid E9
          clear E9
          go_wp2_with fail
          go_ret
          rw [HG.out]
          exact ⟨rfl, HZ.out⟩
        · have q0 : (cd != 0) = true := by simpa using hc0
          have hres := HF.out
          rw [if_pos (by rw [hcd]; exact hc0), hcd] at hres
          have HG := Lib.hid (And.intro hres E)
          clear hres hc0 hcd HF E
          go_wp2_with fail
          refine (unknown_we HG.out.2 i hi).mono ?_; rintro e w8 ⟨⟨v8, rfl⟩, E8⟩
          go_wp2_with fail
          go_ret
          rw [HG.out.1]
          exact ⟨rfl, E8⟩
end Go.Proofs.YtdlcngmcjidomaaDoor

/- Scan whatever the power; rows alike; few rows. No condition but the reach of a slice. -/
namespace Go.Proofs.YtdlcngmcjidomaaDoor
set_option linter.unusedSimpArgs false
set_option linter.unusedVariables false
open Go.RowKit Go.Shelf

section
variable {w0 w w' : World} {g h : Nat} {s : DSt} {t : SegSt} {bl : List WBk} {ys : List WRow} {rd : List BEl}
set_option maxRecDepth 100000 in
set_option maxHeartbeats 3200000 in
theorem scan_down (E : WE w0 w g s bl ys rd) (i : Nat) (hi : bl[i]? = some (segB h g t)) (hd : s.down = true) :
    Calls Tryd.prog 13 #[.pointer (some ⟨h, 0, none⟩)] w (ScanPost w0 w g h s t bl i ys rd) := by
  have E1 := E.add 28 #[.pointer (some ⟨h, 0, none⟩)] (by decide)
  have hi1 : ((w.heap.size, 28, #[.pointer (some ⟨h, 0, none⟩)]) :: bl)[i + 1]? = some (segB h g t) := hi
  have hil := (List.getElem?_eq_some_iff.1 hi).1
  have cb : (w.alloc (.cells #[.pointer (some ⟨h, 0, none⟩)] 28)).cell? ⟨w.heap.size, 0, none⟩ = some (.pointer (some ⟨h, 0, none⟩)) := E1.cell 0 0 rfl rfl
  have hscan : SegSt.scan s t = (t.unknown, [], 4) := by unfold SegSt.scan; rw [if_pos hd]
  have HS := Lib.hid hscan
  clear E hscan
  go_enter Tryd.func13, Tryd.ntmps13
  go_wp2_with fail
  go_step3
  go_wp2_with fail
  refine (unknown_we E1 (i + 1) hi1).mono ?_; rintro e w1 ⟨⟨v15, rfl⟩, E2⟩
  clear cb E1 hi1
  obtain ⟨B, hB⟩ : ∃ B, w.heap.size = B := ⟨_, rfl⟩
  rw [hB] at E2 ⊢
  have E2 := E2.setEq (bl' := (B, 28, #[.pointer (some ⟨h, 0, none⟩)]) :: bl.set i (segB h g t.unknown)) rfl
  have hi2 : ((B, 28, #[.pointer (some ⟨h, 0, none⟩)]) :: bl.set i (segB h g t.unknown))[i + 1]? = some (segB h g t.unknown) := List.getElem?_set_self hil
  have cb : w1.cell? ⟨B, 0, none⟩ = some (.pointer (some ⟨h, 0, none⟩)) := E2.cell 0 0 rfl rfl
  have c0 : w1.cell? ⟨h, 0, none⟩ = some (.pointer (some ⟨g, 0, none⟩)) := E2.cell (i + 1) 0 hi2 rfl
  go_wp2_with fail
  refine (ddown_we E2).mono ?_; rintro e w2 ⟨rfl, rfl⟩
  rw [hd]
  go_wp2_with fail
  rw [Exit.noGoto_ret]
  go_ret2
  refine ⟨none, 0, [], by rw [HS.out]; rfl, ?_, by rw [HS.out]; rfl⟩
  rw [HS.out]
  exact (E2.nil (ty := 22) 1 (by decide)).pick (.cons _ (.refl _)) (.refl _) (fun _ h => h)
theorem scan_we (E : WE w0 w g s bl ys rd) (i : Nat) (hi : bl[i]? = some (segB h g t)) (ok : t.Ok s) :
    Calls Tryd.prog 13 #[.pointer (some ⟨h, 0, none⟩)] w (ScanPost w0 w g h s t bl i ys rd) := by
  cases hd : s.down with
  | true => exact scan_down E i hi hd
  | false => exact scan_up E i hi ok hd
end

/-- A slice that reads as rows of bytes, within reach. -/
structure BImg (w : World) (A : Option Addr) (n c : Nat) (ls : List (List Nat)) : Prop where
  ex : ∃ xs, BArg w A n c xs ∧ ls = xs.map (·.l) ∧ n ≤ 140737488355328 ∧ ∀ x ∈ xs, x.n ≤ 140737488355328
section
variable {w w' : World} {A : Option Addr} {n c : Nat} {ls : List (List Nat)}
theorem BImg.n_le (h : BImg w A n c ls) : (n : Int) ≤ 9223372036854775807 := by
  obtain ⟨xs, h1, h2, h3, h4⟩ := h.ex
  omega
theorem BImg.len (h : BImg w A n c ls) : ls.length = n := by
  obtain ⟨xs, h1, h2, h3, h4⟩ := h.ex
  rw [h2, List.length_map, h1.len]
theorem BImg.get {k : Nat} (h : BImg w A n c ls) (hk : k < n) : ∃ (b o : Nat) (x : BEl), A = some ⟨b, o, none⟩ ∧ Ints w .u8 256 x.A x.n x.c x.l ∧ ls[k]? = some x.l ∧ w.cell? ⟨b, o + k, none⟩ = some (.slice x.A x.n x.c) ∧ (x.n : Int) ≤ 9223372036854775807 := by
  obtain ⟨xs, h1, h2, h3, h4⟩ := h.ex
  obtain ⟨b, o, x, e, hx, hc, hi⟩ := h1.get hk
  exact ⟨b, o, x, e, hi, by rw [h2, List.getElem?_map, hx]; rfl, hc, by have := h4 x (List.mem_of_getElem? hx); omega⟩
theorem BImg.below (h : BImg w A n c ls) (hb : Below w.heap.size w w') : BImg w' A n c ls := by
  obtain ⟨xs, h1, h2, h3, h4⟩ := h.ex
  exact ⟨xs, h1.below hb, h2, h3, h4⟩
theorem BArg.img {xs : List BEl} (h : BArg w A n c xs) (hn : n ≤ 140737488355328) (hx : ∀ x ∈ xs, x.n ≤ 140737488355328) : BImg w A n c (xs.map (·.l)) := ⟨xs, h, rfl, hn, hx⟩
/-- An own row of rows of bytes. -/
theorem barg_of {base : Nat} {xs : List BEl} (hr : OwnR w base 22 1 A n c (xs.map BEl.v)) (h : ∀ x ∈ xs, Ints w .u8 256 x.A x.n x.c x.l) : BArg w A n c xs := by
  have hl : xs.length = n := by have := hr.len; rw [List.length_map] at this; omega
  refine ⟨hl, fun hn => ?_, h⟩
  obtain ⟨u, hu⟩ : ∃ u, (xs.map BEl.v)[0]? = some u := ⟨_, List.getElem?_eq_getElem (by rw [List.length_map]; omega)⟩
  obtain ⟨q, rfl, _, hq, _⟩ := hr.get hu
  refine ⟨q, 0, rfl, hq, fun j x hx => ?_⟩
  rw [Nat.zero_add]
  exact hr.get' (by rw [List.getElem?_map, hx]; rfl)
end
set_option maxRecDepth 100000 in
set_option maxHeartbeats 6400000 in
theorem alike_b {w : World} {A B : Option Addr} {n c m d : Nat} {ls ks : List (List Nat)} (X : BImg w A n c ls) (Y : BImg w B m d ks) :
    Calls Tryd.prog 17 #[.slice A n c, .slice B m d] w fun e w' => (∃ q, w' = w.drewN q) ∧ e = .returned (.bool (decide (ls = ks))) := by
  have hn := X.n_le
  have hm := Y.n_le
  by_cases hnm : n = m
  · subst hnm
    go_enter Tryd.func17, Tryd.ntmps17
    go_wp2_with fail
    go_loopw [5] (fun i wr => ∃ j : Nat, j ≤ n ∧ i = .int .i64 j ∧ (∃ q, wr = w.drewN q) ∧ ls.take j = ks.take j) (fun i _ => n - (intOf i).toNat)
    case atStart => exact ⟨0, by omega, rfl, ⟨0, rfl⟩, rfl⟩
    case round =>
      obtain ⟨j, hj, rfl, ⟨q, rfl⟩, heq⟩ := hrel
      by_cases hlt : j < n
      · obtain ⟨b, o1, x, rfl, hx, hlx, hc, hnx⟩ := X.get hlt
        obtain ⟨b', o2, y, rfl, hy, hly, hcy, hny⟩ := Y.get hlt
        have hc1 : (w.drewN q).cell? ⟨b, o1 + j, none⟩ = some (.slice x.A x.n x.c) := hc
        have hc2 : (w.drewN q).cell? ⟨b', o2 + j, none⟩ = some (.slice y.A y.n y.c) := hcy
        have hl1 := hx.len
        have hl2 := hy.len
        have hlt' : (j : Int) < (n : Int) := by omega
        have hj0 : (0 : Int) ≤ (j : Int) := by omega
        have HL := Lib.hid (And.intro hlx (And.intro hly heq))
        clear hlx hly heq
        by_cases hxy : x.n = y.n
        · have ht : ((x.n : Int) != (y.n : Int)) = false := by simp [hxy]
          have HN := Lib.hid hxy
          clear hxy
          go_wp2_with (go_quiet (fail))
          go_loopw [6] (fun i wr => ∃ p : Nat, p ≤ x.n ∧ i = .int .i64 p ∧ (∃ q, wr = w.drewN q) ∧ x.l.take p = y.l.take p) (fun i _ => x.n - (intOf i).toNat)
          case atStart => exact ⟨0, by omega, rfl, ⟨_, World.drewN_drewN ..⟩, rfl⟩
          case round =>
            obtain ⟨p, hp, rfl, ⟨q2, rfl⟩, heq2⟩ := hrel
            have hd1 : (w.drewN q2).cell? ⟨b, o1 + j, none⟩ = some (.slice x.A x.n x.c) := hc
            have hd2 : (w.drewN q2).cell? ⟨b', o2 + j, none⟩ = some (.slice y.A y.n y.c) := hcy
            clear hc1 hc2
            by_cases hltp : p < x.n
            · obtain ⟨g, o, u, hxA, _, hu, hul, hcu⟩ := hx.get hltp
              obtain ⟨g', o', v, hyA, _, hv, hvl, hcv⟩ := hy.get (show p < y.n by rw [← HN.out]; exact hltp)
              have hltp' : (p : Int) < (x.n : Int) := by omega
              have hltq' : (p : Int) < (y.n : Int) := by rw [← HN.out]; omega
              have hp0 : (0 : Int) ≤ (p : Int) := by omega
              rw [hxA] at hd1 hc
              rw [hyA] at hd2 hcy
              have hcu' : (w.drewN q2).cell? ⟨g, o + p, none⟩ = some (.int .u8 (u : Int)) := hcu
              have hcv' : (w.drewN q2).cell? ⟨g', o' + p, none⟩ = some (.int .u8 (v : Int)) := hcv
              have HU := Lib.hid (And.intro hu (And.intro hv heq2))
              clear hu hv heq2 hxA hyA
              by_cases huv : u = v
              · have ht2 : ((u : Int) != (v : Int)) = false := by simp [huv]
                have HUV := Lib.hid huv
                clear huv
                go_wp2_with (go_quiet (fail))
                exact ⟨⟨p + 1, by omega, by go_num, ⟨_, rfl⟩, by rw [List.take_add_one, List.take_add_one, HU.out.2.2, HU.out.1, HU.out.2.1, HUV.out]⟩, by simp [intOf]; omega⟩
              · have ht2 : ((u : Int) != (v : Int)) = true := by simp; omega
                have hne : ls ≠ ks := by
                  rintro rfl
                  have e := HL.out.1.symm.trans HL.out.2.1
                  injection e with e
                  have e2 := HU.out.1
                  rw [e] at e2
                  have := e2.symm.trans HU.out.2.1
                  exact huv (Option.some.inj this)
                clear huv
                go_wp2_with (go_quiet (fail))
                go_ret
                exact ⟨⟨_, World.drewN_drewN ..⟩, ret_bool (decide_eq_false hne).symm⟩
            · obtain rfl : p = x.n := by omega
              have hge : ¬ ((x.n : Int) < (x.n : Int)) := by omega
              have he2 : x.l = y.l := by
                rw [List.take_of_length_le (by omega), List.take_of_length_le (by rw [hl2, ← HN.out]; omega)] at heq2
                exact heq2
              have HE := Lib.hid he2
              clear heq2 he2
              go_wp2_with fail
              exact ⟨⟨j + 1, by omega, by go_num, ⟨_, rfl⟩, by rw [List.take_add_one, List.take_add_one, HL.out.2.2, HL.out.1, HL.out.2.1, HE.out]⟩, by simp [intOf]; omega⟩
        · have ht : ((x.n : Int) != (y.n : Int)) = true := by simp; omega
          have hne : ls ≠ ks := by
            rintro rfl
            have e := HL.out.1.symm.trans HL.out.2.1
            injection e with e
            exact hxy (by rw [← hl1, ← hl2, e])
          clear hxy
          go_wp2_with (go_quiet (fail))
          go_ret
          exact ⟨⟨_, World.drewN_drewN ..⟩, ret_bool (decide_eq_false hne).symm⟩
      · obtain rfl : j = n := by omega
        have he : ls = ks := by
          rw [List.take_of_length_le (by rw [X.len]; omega), List.take_of_length_le (by rw [Y.len]; omega)] at heq
          exact heq
        have HE := Lib.hid he
        clear heq he
        go_wp2_with fail
        go_ret
        exact ⟨⟨_, rfl⟩, ret_bool (decide_eq_true HE.out).symm⟩
  · have hne : ls ≠ ks := by
      rintro rfl
      exact hnm (X.len.symm.trans Y.len)
    have ht : ((n : Int) != (m : Int)) = true := by simp; omega
    go_enter Tryd.func17, Tryd.ntmps17
    go_wp2_with fail
    go_ret
    exact ⟨⟨0, rfl⟩, ret_bool (decide_eq_false hne).symm⟩

def fewB (xs : List BEl) : Bool := decide (xs.length < 40) && decide (((xs.take 40).map (·.n)).sum < 8000)
theorem sum_take_snoc {xs : List BEl} {k : Nat} {x : BEl} (h : xs[k]? = some x) : ((xs.take (k + 1)).map (·.n)).sum = ((xs.take k).map (·.n)).sum + x.n := by
  rw [List.take_add_one, h, Option.toList_some, List.map_append, List.sum_append]
  simp
theorem sum_le {xs : List BEl} {M : Nat} (h : ∀ x ∈ xs, x.n ≤ M) : (xs.map (·.n)).sum ≤ xs.length * M := by
  induction xs with
  | nil => simp
  | cons a l ih =>
    rw [List.map_cons, List.sum_cons, List.length_cons, Nat.succ_mul]
    have := h a (List.mem_cons_self ..)
    have := ih fun x hx => h x (List.mem_cons_of_mem _ hx)
    omega
theorem sum_forty' {xs : List BEl} {M K : Nat} (h : ∀ x ∈ xs, x.n ≤ M) (hl : xs.length ≤ 40) (hK : 40 * M = K) : (xs.map (·.n)).sum ≤ K := by
  have h1 := sum_le h
  have h2 := Nat.mul_le_mul_right M hl
  omega
theorem sum_forty {xs : List BEl} (h : ∀ x ∈ xs, x.n ≤ 140737488355328) (hl : xs.length ≤ 40) : (xs.map (·.n)).sum ≤ 5629499534213120 := sum_forty' h hl (by decide)
set_option maxRecDepth 100000 in
set_option maxHeartbeats 3200000 in
theorem few_any {w : World} {A : Option Addr} {n c : Nat} {xs : List BEl} (R : BArg w A n c xs) (hn : n ≤ 140737488355328) (hx : ∀ x ∈ xs, x.n ≤ 140737488355328) :
    Calls Tryd.prog 20 #[.slice A n c] w fun e w' => e = .returned (.bool (fewB xs)) ∧ w' = w := by
  have hl := R.len
  have HR := Lib.hid (And.intro R (And.intro hx hl))
  clear R hx hl
  go_enter Tryd.func20, Tryd.ntmps20
  go_wp2_with fail
  go_loopw [3, 4] (fun tv iv wr => ∃ k : Nat, k ≤ n ∧ k ≤ 40 ∧ wr = w ∧ iv = .int .i64 (k : Int) ∧ tv = .int .i64 ((((xs.take k).map (·.n)).sum : Nat) : Int)) (fun _ iv _ => n - (intOf iv).toNat)
  case atStart => exact ⟨0, Nat.zero_le _, by omega, rfl, rfl, rfl⟩
  case round =>
    obtain ⟨k, hk, hk40, rfl, rfl, rfl⟩ := hrel
    have hsum : ((xs.take k).map (·.n)).sum ≤ 5629499534213120 := sum_forty (fun x hx => HR.out.2.1 x (List.mem_of_mem_take hx)) (by rw [List.length_take]; omega)
    obtain ⟨sm, hsm⟩ : ∃ q, ((xs.take k).map (·.n)).sum = q := ⟨_, rfl⟩
    rw [hsm] at hsum ⊢
    have HS := Lib.hid hsm
    clear hsm
    by_cases hgo : k < n ∧ k < 40
    · obtain ⟨h1, h2⟩ := hgo
      obtain ⟨b, o, x, rfl, hx, hc, _⟩ := HR.out.1.get h1
      have hxn := HR.out.2.1 x (List.mem_of_getElem? hx)
      have hlt1 : (k : Int) < (n : Int) := by omega
      have hlt2 : (k : Int) < 40 := by omega
      have hlt2d : decide ((k : Int) < 40) = true := decide_eq_true hlt2
      have hk0 : (0 : Int) ≤ (k : Int) := by omega
      have hsn := sum_take_snoc hx
      rw [HS.out] at hsn
      obtain ⟨sq, hsq⟩ : ∃ q, sm + x.n = q := ⟨_, rfl⟩
      rw [hsq] at hsn
      have hw : wrap64 ((sm : Int) + (x.n : Int)) = (sq : Int) := by rw [IntWalk.wrap64_in _ (by omega)]; omega
      have HN := Lib.hid (And.intro hsn hsq)
      clear hx hsn hsq
      go_wp2_with fail
      go_roundw
      case rel => exact ⟨k + 1, by omega, by omega, by trivial, by go_num, by rw [HN.out.1, ← HN.out.2]; congr 1; try omega⟩
      case measure => simp [intOf]; omega
    · have e1 : fewB xs = (decide (n < 40) && decide (sm < 8000)) := by
        unfold fewB
        rw [HR.out.2.2]
        by_cases hn40 : n < 40
        · have : xs.take 40 = xs.take k := by rw [List.take_of_length_le (by have := HR.out.2.2; omega), List.take_of_length_le (by have := HR.out.2.2; omega)]
          rw [this, HS.out]
        · rw [decide_eq_false hn40, Bool.false_and, Bool.false_and]
      have HF := Lib.hid e1
      clear e1 HS
      by_cases hn40 : n < 40
      · have hlt1 : ¬ (k : Int) < (n : Int) := by omega
        have hlt1d : decide ((k : Int) < (n : Int)) = false := decide_eq_false hlt1
        have q1 : (n : Int) < 40 := by omega
        have q1d : decide ((n : Int) < 40) = true := decide_eq_true q1
        have e2 : (decide (n < 40) && decide (sm < 8000)) = decide ((sm : Int) < 8000) := by rw [decide_eq_true hn40, Bool.true_and, decide_eq_decide]; omega
        have HG := Lib.hid (HF.out.trans e2)
        clear hgo hn40 e2
        go_wp2_with fail
        go_ret
        exact ⟨by rw [HG.out]; rfl, rfl⟩
      · have q1 : ¬ (n : Int) < 40 := by omega
        have q1d : decide ((n : Int) < 40) = false := decide_eq_false q1
        have e2 : (decide (n < 40) && decide (sm < 8000)) = false := by rw [decide_eq_false hn40, Bool.false_and]
        have HG := Lib.hid (HF.out.trans e2)
        have hk4 : k = 40 := by omega
        subst hk4
        clear e2 HF
        by_cases hnn : 40 < n
        · have hlt1 : (40 : Int) < (n : Int) := by omega
          have hlt1d : decide ((40 : Int) < (n : Int)) = true := decide_eq_true hlt1
          clear hgo hn40 hnn
          go_wp2_with fail
          go_ret
          exact ⟨by rw [HG.out]; rfl, rfl⟩
        · have hn40' : n = 40 := by omega
          subst hn40'
          clear hgo hn40 hnn q1 q1d
          go_wp2_with fail
          go_ret
          exact ⟨by rw [HG.out]; rfl, rfl⟩
/-- A new disk holds no record. -/
theorem SegSt.new_scan (D n first gen : Nat) (hn : first + n ≤ D) (hg : gen < 4294967296) (f tp : Nat) :
    (SegSt.scan (DSt.new D) ⟨first, n, gen, f, tp⟩).2 = ([], 0) ∧ SegSt.Kept (DSt.new D) (SegSt.scan (DSt.new D) ⟨first, n, gen, f, tp⟩).1 [] ∧ (SegSt.scan (DSt.new D) ⟨first, n, gen, f, tp⟩).1.first = first ∧ (SegSt.scan (DSt.new D) ⟨first, n, gen, f, tp⟩).1.n = n ∧ (SegSt.scan (DSt.new D) ⟨first, n, gen, f, tp⟩).1.gen = gen := by
  have hl : (DSt.new D).sure.length = D := by show (List.replicate D _).length = D; simp
  have hz : Cl.dec (List.replicate 64 0) = Cl.zero := by
    have : Cl.isEnc (List.replicate 64 0) = false := by
      unfold Cl.isEnc
      have : (Cl.raw (List.replicate 64 0)).may = false := by
        unfold Cl.may Cl.raw
        exact decide_eq_false (fun h => by have := h.1; simp at this)
      rw [this]; simp
    unfold Cl.dec
    rw [this]; rfl
  refine SegSt.scan_laid (t := ⟨first, n, gen, f, tp⟩) (rest := SegSt.plainCells (DSt.new D).sure first n) (b := 0) rfl rfl (by rw [hl]; exact hn) (fun x hx c hc => ?_) hg (.nil _ _) (Sc.not_begins_gen fun x hx => .inr ?_) (fun _ h => by cases h)
  · have hx : x ∈ List.replicate D (List.replicate 64 0) := hx
    rw [List.mem_replicate] at hx
    rw [hx.2, List.mem_replicate] at hc
    omega
  · unfold SegSt.plainCells at hx
    obtain ⟨i, hi, rfl⟩ := List.mem_map.1 hx
    have hi : i < n := List.mem_range.1 hi
    have e : (DSt.new D).sure.getD (first + i) [] = List.replicate 64 0 := by
      show (List.replicate D (List.replicate 64 0)).getD (first + i) [] = _
      rw [List.getD_eq_getElem?_getD, List.getElem?_replicate, if_pos (by omega)]; rfl
    rw [e, hz]
    exact Int.le_refl _
end Go.Proofs.YtdlcngmcjidomaaDoor

/- A law's segment; the answers that a law of layer 7 asks first. No condition. -/
namespace Go.Proofs.YtdlcngmcjidomaaDoor
set_option linter.unusedSimpArgs false
set_option linter.unusedVariables false
open Go.RowKit Go.Shelf

section
variable {w0 w w' : World} {g h : Nat} {s : DSt} {t : SegSt} {bl : List WBk} {ys : List WRow} {rd : List BEl}
theorem we_new (n : Nat) (hn1 : 1 ≤ n) (hn2 : n ≤ 512) (w : World) (hb : Below w0.heap.size w0 w) :
    Calls Tryd.prog 11 #[.int .i64 (n : Int)] w fun e w' => ∃ g, e = .returned (.tuple #[.pointer (some ⟨g, 0, none⟩), .int .i64 0]) ∧ WE w0 w' g (DSt.new n) [] [] [] :=
  (dnew_any n hn1 hn2 w).mono fun _ _ ⟨g, T, he, hd, hT, hb1⟩ => ⟨g, he, T, hd, fun k hk => by have := hT k hk; have := hb.size; omega, below_step hb hb1 hb.size, (fun _ h => by cases h), List.nodup_nil, (fun _ h => by cases h), List.Pairwise.nil, (fun _ h => by cases h)⟩
theorem WE.bytes (E : WE w0 w g s bl ys rd) : ∀ x ∈ s.sure, ∀ c ∈ x, c < 256 := by
  obtain ⟨T, D, _⟩ := E.at_
  obtain ⟨A, n, c, pA, pn, pc, xs, zs, D⟩ := D.ex
  intro x hx
  rw [D.es] at hx
  obtain ⟨y, hy, rfl⟩ := List.mem_map.1 hx
  exact (D.xin y hy).own.lt
theorem int1_blk {B c a : Nat} (h : Blk w B 5 #[.int .u8 (a : Int)]) (ha : a < 256) (hc : 1 ≤ c) : Ints w .u8 256 (some ⟨B, 0, none⟩) 1 c [a] :=
  ⟨⟨rfl, hc, fun _ => ⟨B, 0, rfl, h.lt, fun j u hu => by
    rw [Nat.zero_add, h.cell j]
    cases j with
    | zero => exact hu
    | succ j => cases hu⟩⟩, fun x hx => by
    rw [List.mem_singleton] at hx; subst hx; exact ha⟩
theorem barg_blk {B : Nat} {cs : Array Value} {c : Nat} {xs : List BEl} (h : Blk w B 22 cs) (hcs : cs.toList = xs.map BEl.v) (ok : ∀ x ∈ xs, Ints w .u8 256 x.A x.n x.c x.l) : BArg w (some ⟨B, 0, none⟩) xs.length c xs :=
  ⟨rfl, fun _ => ⟨B, 0, rfl, h.lt, fun j x hx => by
    rw [Nat.zero_add, h.cell j, ← Array.getElem?_toList, hcs, List.getElem?_map, hx]; rfl⟩, ok⟩
theorem barg_nil {c : Nat} {A : Option Addr} : BArg w A 0 c [] := ⟨rfl, fun h => absurd h (by omega), fun _ h => by cases h⟩
/-- '[][]byte{{a}}'. -/
theorem lit1 (w : World) {a : Nat} (ha : a < 256) : BArg ((w.alloc (.cells #[.int .u8 (a : Int)] 5)).alloc (.cells #[.slice (some ⟨w.heap.size, 0, none⟩) 1 1] 22)) (some ⟨w.heap.size + 1, 0, none⟩) 1 1 [⟨some ⟨w.heap.size, 0, none⟩, 1, 1, [a]⟩] := by
  have h1 := (Blk.new w 5 #[.int .u8 (a : Int)]).alloc (.cells #[.slice (some ⟨w.heap.size, 0, none⟩) 1 1] 22)
  have h2 := blk_at (w := w.alloc (.cells #[.int .u8 (a : Int)] 5)) (t := 22) (cs := #[.slice (some ⟨w.heap.size, 0, none⟩) 1 1]) (g := w.heap.size + 1) (by simp)
  exact barg_blk (xs := [⟨some ⟨w.heap.size, 0, none⟩, 1, 1, [a]⟩]) h2 rfl (fun x hx => by rw [List.mem_singleton] at hx; subst hx; exact int1_blk h1 ha (Nat.le_refl _))
/-- '[][]byte{{a}, {b}, {c}}'. -/
theorem lit3 (w : World) {a b c : Nat} (ha : a < 256) (hb : b < 256) (hc : c < 256) : BArg ((((w.alloc (.cells #[.int .u8 (a : Int)] 5)).alloc (.cells #[.int .u8 (b : Int)] 5)).alloc (.cells #[.int .u8 (c : Int)] 5)).alloc (.cells #[.slice (some ⟨w.heap.size, 0, none⟩) 1 1, .slice (some ⟨w.heap.size + 1, 0, none⟩) 1 1, .slice (some ⟨w.heap.size + 1 + 1, 0, none⟩) 1 1] 22)) (some ⟨w.heap.size + 1 + 1 + 1, 0, none⟩) 3 3
    [⟨some ⟨w.heap.size, 0, none⟩, 1, 1, [a]⟩, ⟨some ⟨w.heap.size + 1, 0, none⟩, 1, 1, [b]⟩, ⟨some ⟨w.heap.size + 1 + 1, 0, none⟩, 1, 1, [c]⟩] := by
  have h1 := ((((Blk.new w 5 #[.int .u8 (a : Int)]).alloc (.cells #[.int .u8 (b : Int)] 5)).alloc (.cells #[.int .u8 (c : Int)] 5)).alloc (.cells #[.slice (some ⟨w.heap.size, 0, none⟩) 1 1, .slice (some ⟨w.heap.size + 1, 0, none⟩) 1 1, .slice (some ⟨w.heap.size + 1 + 1, 0, none⟩) 1 1] 22))
  have h2 := (((blk_at (w := w.alloc (.cells #[.int .u8 (a : Int)] 5)) (t := 5) (cs := #[.int .u8 (b : Int)]) (g := w.heap.size + 1) (by simp)).alloc (.cells #[.int .u8 (c : Int)] 5)).alloc (.cells #[.slice (some ⟨w.heap.size, 0, none⟩) 1 1, .slice (some ⟨w.heap.size + 1, 0, none⟩) 1 1, .slice (some ⟨w.heap.size + 1 + 1, 0, none⟩) 1 1] 22))
  have h3 := ((blk_at (w := (w.alloc (.cells #[.int .u8 (a : Int)] 5)).alloc (.cells #[.int .u8 (b : Int)] 5)) (t := 5) (cs := #[.int .u8 (c : Int)]) (g := w.heap.size + 1 + 1) (by simp)).alloc (.cells #[.slice (some ⟨w.heap.size, 0, none⟩) 1 1, .slice (some ⟨w.heap.size + 1, 0, none⟩) 1 1, .slice (some ⟨w.heap.size + 1 + 1, 0, none⟩) 1 1] 22))
  have h4 := blk_at (w := ((w.alloc (.cells #[.int .u8 (a : Int)] 5)).alloc (.cells #[.int .u8 (b : Int)] 5)).alloc (.cells #[.int .u8 (c : Int)] 5)) (t := 22) (cs := #[.slice (some ⟨w.heap.size, 0, none⟩) 1 1, .slice (some ⟨w.heap.size + 1, 0, none⟩) 1 1, .slice (some ⟨w.heap.size + 1 + 1, 0, none⟩) 1 1]) (g := w.heap.size + 1 + 1 + 1) (by simp)
  refine barg_blk (xs := [⟨some ⟨w.heap.size, 0, none⟩, 1, 1, [a]⟩, ⟨some ⟨w.heap.size + 1, 0, none⟩, 1, 1, [b]⟩, ⟨some ⟨w.heap.size + 1 + 1, 0, none⟩, 1, 1, [c]⟩]) h4 rfl (fun x hx => ?_)
  simp only [List.mem_cons, List.not_mem_nil, or_false] at hx
  rcases hx with rfl | rfl | rfl
  · exact int1_blk h1 ha (Nat.le_refl _)
  · exact int1_blk h2 hb (Nat.le_refl _)
  · exact int1_blk h3 hc (Nat.le_refl _)
theorem new_length (D : Nat) : (DSt.new D).sure.length = D := by show (List.replicate D _).length = D; simp
theorem segOk_up {all : List (List Nat)} (K : SegSt.SUp s t all) (hn : 1 ≤ t.n) : t.Ok s := ⟨hn, K.ok.1, K.ok.2.1, K.ok.2.2.1, K.ok.2.2.2⟩
theorem alike_same {A B : Option Addr} {n c m d : Nat} {ls : List (List Nat)} (X : BImg w A n c ls) (Y : BImg w B m d ls) :
    Calls Tryd.prog 17 #[.slice A n c, .slice B m d] w fun e w' => (∃ q, w' = w.drewN q) ∧ e = .returned (.bool true) :=
  (alike_b X Y).mono fun _ _ ⟨h1, h2⟩ => ⟨h1, by rw [h2, decide_eq_true rfl]⟩
/-- What a scan handed back, as rows of bytes. -/
theorem scan_img {A : Option Addr} {n c : Nat} {xs : List BEl} {ls : List (List Nat)} (E : WE w0 w g s bl (⟨22, 1, A, n, c, xs.map BEl.v⟩ :: ys) (xs ++ rd)) (hx : xs.map (·.l) = ls) (hn : n ≤ 140737488355328) : BArg w A n c xs :=
  barg_of (E.row 0 rfl) (fun x hx => E.rdm (List.mem_append_left _ hx))
end
set_option maxRecDepth 100000 in
set_option maxHeartbeats 6400000 in
theorem awake7_any (w : World) : Calls Tryd.prog 10 #[] w fun e w' => e = .returned (.bool true) ∧ Below w.heap.size w w' := by
  obtain ⟨hs1, hu1⟩ := SegSt.new_up (D := 6) (n := 4) (first := 1) (gen := 1) (by omega) (by omega) 0 4294967295
  have hok0 : SegSt.Ok (DSt.new 6) ⟨1, 4, 1, 0, 4294967295⟩ := ⟨by decide, by rw [new_length]; decide, by decide, by decide, by decide⟩
  have ha1 : SegSt.add (DSt.new 6) ⟨1, 4, 1, 0, 4294967295⟩ [[1]] = (DSt.new 6, ⟨1, 4, 1, 0, 4294967295⟩, 3) := SegSt.add_full rfl (.inr (by decide))
  have HP := Lib.hid (And.intro hs1 (And.intro hu1 (And.intro hok0 ha1)))
  clear hs1 hu1 hok0 ha1
  go_enter Tryd.func10, Tryd.ntmps10
  go_wp2_with fail
  refine (we_new (w0 := w) 6 (by omega) (by omega) w (Below.refl _ _)).mono ?_; rintro e w1 ⟨g, rfl, E⟩
  go_wp2_with fail
  refine (segnew_we E 1 4 1 (by omega) (by rw [new_length]; omega) (by omega)).mono ?_; rintro e w2 ⟨h, rfl, _, E2, _⟩
  clear E
  obtain ⟨T, D, _⟩ := E2.at_
  go_wp2_with fail
  refine (segnew_no D 3 4 1 (by omega) (by rw [new_length]; omega) (by rw [new_length]; omega) (by omega)).mono ?_; rintro e w3 ⟨rfl, rfl⟩
  clear D
  go_wp2_with fail
  refine (add_we ((E2.alloc (.cells #[.int .u8 ((1 : Nat) : Int)] 5)).alloc (.cells #[.slice (some ⟨w3.heap.size, 0, none⟩) 1 1] 22)) 0 rfl HP.out.2.2.1 (lit1 w3 (a := 1) (by omega)) (by omega) (fun x hx => by rw [List.mem_singleton] at hx; subst hx; show (1 : Nat) ≤ _; decide) (by decide) (by decide)).mono ?_
  rintro e w4 ⟨rfl, E4⟩
  have ha := HP.out.2.2.2
  simp only [List.map_cons, List.map_nil] at E4 ⊢
  rw [ha] at E4 ⊢
  clear E2 ha
  go_wp2_with fail
  refine (scan_we E4 0 rfl HP.out.2.2.1).mono ?_
  rintro e w5 ⟨A5, c5, xs5, rfl, E5, hx5⟩
  rw [HP.out.1] at E5 hx5 ⊢
  obtain rfl : xs5 = [] := List.map_eq_nil_iff.1 hx5
  clear E4 hx5
  simp only [List.length_nil] at E5 ⊢
  have ok1 := segOk_up HP.out.2.1 (by decide)
  have hadd := HP.out.2.1.add (rs := [[1], [2], [3]]) rfl (by decide) (by decide) (fun r hr c hc => by
    simp only [List.mem_cons, List.not_mem_nil, or_false] at hr
    rcases hr with rfl | rfl | rfl <;> (rw [List.mem_singleton] at hc; omega))
  have HQ := Lib.hid (And.intro ok1 hadd)
  clear ok1 hadd HP
  go_wp2_with fail
  refine (add_we ((((E5.alloc (.cells #[.int .u8 ((1 : Nat) : Int)] 5)).alloc (.cells #[.int .u8 ((2 : Nat) : Int)] 5)).alloc (.cells #[.int .u8 ((3 : Nat) : Int)] 5)).alloc (.cells #[.slice (some ⟨w5.heap.size, 0, none⟩) 1 1, .slice (some ⟨w5.heap.size + 1, 0, none⟩) 1 1, .slice (some ⟨w5.heap.size + 1 + 1, 0, none⟩) 1 1] 22)) 0 rfl HQ.out.1 (lit3 w5 (a := 1) (b := 2) (c := 3) (by omega) (by omega) (by omega)) (by omega) (fun x hx => by
    simp only [List.mem_cons, List.not_mem_nil, or_false] at hx
    rcases hx with rfl | rfl | rfl <;> (show (1 : Nat) ≤ _; decide)) (by decide) (by decide)).mono ?_
  simp only [List.map_cons, List.map_nil]
  obtain ⟨q1, q2, q3, q4⟩ := HQ.out.2
  generalize SegSt.add (DSt.new 6) ⟨1, 4, 1, 0, 0⟩ [[1], [2], [3]] = R at *
  obtain ⟨s6, t6, cd6⟩ := R
  dsimp only at q1 q2 q3 q4 ⊢
  subst q1 q2
  rintro e w6 ⟨rfl, E6⟩
  have hu6 := q3
  have ok6 := segOk_up hu6 (by decide)
  obtain ⟨k1, k2, k3, k4, k5⟩ := SegSt.kept_scan hu6.kept E6.bytes
  have HK := Lib.hid (And.intro k1 (And.intro k2 (And.intro k3 (And.intro k4 (And.intro k5 (And.intro ok6 hu6.stop))))))
  clear HQ E5 q3 k1 k2 k3 k4 k5 ok6 hu6
  go_wp2_with fail
  refine (scan_we E6 0 rfl HK.out.2.2.2.2.2.1).mono ?_
  rintro e w7 ⟨A7, c7, xs7, rfl, E7, hx7⟩
  rw [HK.out.1] at hx7 ⊢
  have hx7 : xs7.map (·.l) = [[1], [2], [3]] := hx7
  have hl7 : xs7.length = 3 := by have := congrArg List.length hx7; rwa [List.length_map] at this
  have hfin := SegSt.fin_all HK.out.2.1
  have ht7 := HK.out.2.2.2
  have hst := SegSt.SUp.ok ⟨HK.out.2.1, HK.out.2.2.2.2.2.2⟩
  have HT := Lib.hid (And.intro HK.out.2.1 HK.out.2.2.2.2.2.2)
  generalize (SegSt.scan s6 _).1 = t7 at *
  obtain ⟨a7, b7, g7, f7, p7⟩ := t7
  dsimp only at hfin ht7 hst
  obtain ⟨rfl, rfl, hg7⟩ : b7 = 4 ∧ g7 = 1 ∧ True := ⟨ht7.1, ht7.2.1, trivial⟩
  have hf7 : f7 = 3 := hfin.trans (by decide)
  subst hf7
  rw [hl7] at E7 ⊢
  have hb7 : ∀ x ∈ xs7, x.n ≤ 140737488355328 := fun x hx => by
    have h1 := (E7.rdm (x := x) (List.mem_append_left _ hx)).len
    have h2 : x.l ∈ xs7.map (·.l) := List.mem_map.2 ⟨x, hx, rfl⟩
    rw [hx7] at h2
    simp only [List.mem_cons, List.not_mem_nil, or_false] at h2
    have h3 : x.l.length = 1 := by rcases h2 with h2 | h2 | h2 <;> (rw [h2]; rfl)
    omega
  have hi7 : BImg w7 A7 3 c7 [[1], [2], [3]] := by
    have := (barg_of (E7.row 0 rfl) (fun x hx => E7.rdm (List.mem_append_left _ hx))).img (by show 3 ≤ 140737488355328; decide) hb7
    rwa [hx7] at this
  have HI := Lib.hid hi7
  clear HK E6 hx7 hfin ht7 hst hg7 hi7 hb7
  go_wp2_with fail
  refine (free_any (E7.b 0 rfl) (by show 3 ≤ 4; decide) (by show 4 ≤ 512; decide)).mono ?_; rintro e w8 ⟨rfl, q8, rfl⟩
  have E8 := E7.drewN q8
  have hi8 := HI.out.below ((Moved.refl w7 []).drewN q8).below0
  clear HI E7
  generalize World.drewN _ _ = w8 at *
  go_wp2_with fail
  have hr8 : BImg _ _ 3 3 [[1], [2], [3]] := (lit3 w8 (a := 1) (b := 2) (c := 3) (by omega) (by omega) (by omega)).img (by omega) (fun x hx => by
    simp only [List.mem_cons, List.not_mem_nil, or_false] at hx
    rcases hx with rfl | rfl | rfl <;> (show (1 : Nat) ≤ _; decide))
  have hb8 : Below w8.heap.size w8 _ := (((((Below.refl _ w8).alloc (Nat.le_refl _) (.cells #[.int .u8 ((1 : Nat) : Int)] 5)).alloc (by simp) (.cells #[.int .u8 ((2 : Nat) : Int)] 5)).alloc (by simp; omega) (.cells #[.int .u8 ((3 : Nat) : Int)] 5)).alloc (by simp; omega) (.cells #[.slice (some ⟨w8.heap.size, 0, none⟩) 1 1, .slice (some ⟨w8.heap.size + 1, 0, none⟩) 1 1, .slice (some ⟨w8.heap.size + 1 + 1, 0, none⟩) 1 1] 22))
  have E9 := E8.below hb8
  refine (alike_same (hi8.below hb8) hr8).mono ?_; rintro e w9 ⟨⟨q9, rfl⟩, rfl⟩
  have E10 := E9.drewN q9
  clear E8 E9 hi8 hr8 hb8
  generalize World.drewN _ _ = w10 at *
  go_wp2_with fail
  refine (gen_any (E10.b 0 rfl)).mono ?_; rintro e w11 ⟨rfl, rfl⟩
  have h12 := blk_at (w := w11) (t := 22) (cs := #[.slice none 0 0]) (g := w11.heap.size) rfl
  have hR12 : BArg (w11.alloc (.cells #[.slice none 0 0] 22)) (some ⟨w11.heap.size, 0, none⟩) 1 1 [⟨none, 0, 0, []⟩] := barg_blk (xs := [⟨none, 0, 0, []⟩]) h12 rfl (fun x hx => by rw [List.mem_singleton] at hx; subst hx; exact Ints.nil_ ..)
  have ok12 : SegSt.Ok s6 ⟨a7, 4, 1, 3, p7⟩ := segOk_up ⟨HT.out.1, HT.out.2⟩ (by show 1 ≤ 4; decide)
  have hbg := q4
  have hA12 := add_we (E10.alloc (.cells #[.slice none 0 0] 22)) 0 rfl ok12 hR12 (by omega) (fun x hx => by rw [List.mem_singleton] at hx; subst hx; show (0 : Nat) ≤ _; decide) (by have h : (DSt.new 6).begun = 0 := rfl; omega) (by rw [HT.out.1.pend]; exact Nat.zero_le _)
  have harg : SegSt.add s6 ⟨a7, 4, 1, 3, p7⟩ ([(⟨none, 0, 0, []⟩ : BEl)].map (·.l)) = (s6, ⟨a7, 4, 1, 3, p7⟩, 1) := SegSt.add_arg rfl
  rw [harg] at hA12
  have HA := Lib.hid hA12
  clear hA12 harg h12 hR12 ok12 E10 hbg
  go_wp2_with fail
  refine HA.out.mono ?_; rintro e w13 ⟨rfl, E13⟩
  have HB := Lib.hid E13.bel
  clear E13
  go_wp2_with fail
  go_ret
  exact ⟨rfl, HB.out⟩
end Go.Proofs.YtdlcngmcjidomaaDoor
