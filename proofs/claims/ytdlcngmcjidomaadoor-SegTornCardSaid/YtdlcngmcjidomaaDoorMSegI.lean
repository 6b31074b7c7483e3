/- The law SegFills, walked. No condition but the reach of a slice. -/
import Derived.Test.YtdlcngmcjidomaaDoorGSE
import Derived.Deep.CutBlock
namespace Go.Proofs.YtdlcngmcjidomaaDoor
set_option linter.unusedSimpArgs false
set_option linter.unusedVariables false
open Go.RowKit Go.Shelf

theorem wpList_mkB {w : World} {ops : Array Oper} {rest : List Oper} {o : Oper} {a : Act} {Q : Exit → Act → World → Prop} (hgd : o.guard = none) (l c : Operand) (ho : o.op = Op.makeSlice 22 l c) {kl kc : IntKind} {L C : Int} (n : Nat) (hl : a.eval l = .int kl L) (hc : a.eval c = .int kc C) (hL : L = (n : Int)) (hC : C = (n : Int)) (b3 : n ≤ 281474976710656) (base : Nat) (hbase : base ≤ w.heap.size)
    (h : ∀ w', OwnI w' base .u8 256 5 (some ⟨w.heap.size, 0, none⟩) n n (List.replicate n 0) → w.grownBy w' none → wpList Tryd.prog ops Q rest (a.put o.dst (.slice (some ⟨w.heap.size, 0, none⟩) n n)) w') :
    wpList Tryd.prog ops Q (o :: rest) a w :=
  wpList_mkI w hgd l c 22 ho (lim := 256) (by omega) 5 1 Tryd.underlying22 dinfo_u8 n hl hc hL hC (by omega) (by unfold maxLen; omega) base hbase h
theorem need_small {m : Nat} (h1 : 1 ≤ m) (h2 : m ≤ 256) : 1 ≤ Cl.need m ∧ Cl.need m ≤ 6 := by
  have := Cl.need_pos (n := m) h1 (by omega)
  omega
theorem total_one (r : List Nat) : SegSt.total [r] = Cl.need r.length := by simp [SegSt.total]
theorem total_snoc (rs : List (List Nat)) (r : List Nat) : SegSt.total (rs ++ [r]) = SegSt.total rs + Cl.need r.length := by
  unfold SegSt.total
  rw [List.map_append, List.sum_append]
  simp
theorem k1_ {a : SegSt × List (List Nat) × Int} {b : List (List Nat) × Int} (h : a.2 = b) : a = (a.1, b.1, b.2) := Prod.ext rfl h
theorem WE.app2 {w0 w w' : World} {g : Nat} {s : DSt} {bl : List WBk} {ys : List WRow} {rd : List BEl} {A : Option Addr} {c : Nat} {xs : List BEl} {x : BEl} (E : WE w0 w g s bl (⟨22, 1, A, xs.length, c, xs.map BEl.v⟩ :: ys) rd) {A' : Option Addr} {c' : Nat}
    (ho : OwnR w' w0.heap.size 22 1 A' (xs.length + 1) c' (xs.map BEl.v ++ [x.v])) (hg : w.grownBy w' (A.map (·.block))) (hA : A' = A ∨ A' = some ⟨w.heap.size, 0, none⟩) : WE w0 w' g s bl (⟨22, 1, A', (xs ++ [x]).length, c', (xs ++ [x]).map BEl.v⟩ :: ys) rd := by
  have h := E.app 0 rfl ho hg hA
  rw [List.length_append, List.map_append]
  exact h

set_option maxRecDepth 100000 in
set_option maxHeartbeats 12800000 in
theorem segFills_any (n : Nat) (A : Option Addr) (m c : Nat) (l : List Nat) (w : World) (hn : n < 256) (hr : Ints w .u8 256 A m c l) (hm : m ≤ maxLen) :
    Calls Tryd.prog 3 #[.int .u8 (n : Int), .slice A m c] w fun e w' => e = .returned (.bool true) ∧ Below w.heap.size w w' := by
  have hmi : (m : Int) ≤ 9223372036854775807 := by unfold maxLen at hm; omega
  obtain ⟨r, hr0⟩ : ∃ z, n % 40 = z := ⟨_, rfl⟩
  obtain ⟨k, hk⟩ : ∃ z, 1 + r = z := ⟨_, rfl⟩
  have hri : (n : Int) % 40 = (r : Int) := by omega
  have hki : 1 + (r : Int) = (k : Int) := by omega
  have hk1 : 1 ≤ k := by omega
  have hk2 : k ≤ 40 := by omega
  obtain ⟨hs1, hu1⟩ := SegSt.new_up (D := 44) (n := k) (first := 2) (gen := 5) (by omega) (by omega) 0 4294967295
  have hok0 : SegSt.Ok (DSt.new 44) ⟨2, k, 5, 0, 4294967295⟩ := ⟨hk1, by rw [new_length]; show 2 + k ≤ 44; omega, Nat.zero_le _, by show 4294967295 ≤ 4294967295; omega, by show 5 < 4294967296; omega⟩
  have HP := Lib.hid (And.intro hs1 (And.intro hu1 (And.intro hok0 hr)))
  clear hs1 hu1 hok0 hr hr0 hk hm
  go_enter Tryd.func3, Tryd.ntmps3
  go_wp2_with fail
  refine (awake7_any _).mono ?_; rintro e w1 ⟨rfl, hb1⟩
  go_wp2_with fail
  refine (we_new (w0 := w) 44 (by omega) (by omega) _ hb1).mono ?_; rintro e w2 ⟨g, rfl, E⟩
  clear hb1
  go_wp2_with fail
  refine (segnew_we E 2 k 5 hk1 (by rw [new_length]; omega) (by omega)).mono ?_; rintro e w3 ⟨h, rfl, _, E3, _⟩
  clear E hri hki
  go_wp2_with fail
  refine (scan_we E3 0 rfl HP.out.2.2.1).mono ?_
  rintro e w4 ⟨A4, c4, xs4, rfl, E4, hx4⟩
  rw [HP.out.1] at E4 hx4 ⊢
  obtain rfl : xs4 = [] := List.map_eq_nil_iff.1 hx4
  have E5 := (E4.pick (bl' := [segB h g ⟨2, k, 5, 0, 0⟩]) (ys' := []) (rd' := []) (.refl _) (.cons _ (.refl _)) (fun _ h => h)).nil (ty := 22) 1 (by decide)
  clear E3 E4 hx4
  go_wp2_with fail
  go_loopw [10, 11, 12] (fun uv av iv wr => ∃ (j us : Nat) (A1 : Option Addr) (c1 : Nat) (xs : List BEl) (sj : DSt), j ≤ m ∧ j ≤ 60 ∧ iv = .int .i64 (j : Int) ∧ uv = .int .i64 (us : Int) ∧ av = .slice A1 xs.length c1 ∧ WE w wr g sj [segB h g ⟨2, k, 5, us, xs.length⟩] [⟨22, 1, A1, xs.length, c1, xs.map BEl.v⟩] xs ∧ SegSt.SUp sj ⟨2, k, 5, us, xs.length⟩ (xs.map (·.l)) ∧ xs.length ≤ j ∧ sj.begun ≤ 100 * j ∧ ∀ x ∈ xs, x.n ≤ 256) (fun _ _ iv _ => m - (intOf iv).toNat)
  case atStart => exact ⟨0, 0, none, 0, [], DSt.new 44, Nat.zero_le _, by omega, rfl, rfl, rfl, E5, HP.out.2.1, Nat.zero_le _, Nat.le_refl _, fun _ h => by cases h⟩
  case round =>
    obtain ⟨j, us, A1, c1, xs, sj, hj1, hj2, rfl, rfl, rfl, E, hU, hxj, hbg, hx256⟩ := hrel
    clear E5
    have hus : us ≤ k := hU.ok.2.1
    have HU := Lib.hid (And.intro hU hx256)
    clear hU hx256
    by_cases hgo : j < m ∧ j < 60
    · obtain ⟨hg1, hg2⟩ := hgo
      have hlt1 : (j : Int) < (m : Int) := by omega
      have hlt2 : (j : Int) < 60 := by omega
      have hlt2d : decide ((j : Int) < 60) = true := decide_eq_true hlt2
      have hj0 : (0 : Int) ≤ (j : Int) := by omega
      obtain ⟨ba, o, z, rfl, _, hzx, hz256, hcz⟩ := (HP.out.2.2.2.below E.bel).get hg1
      obtain ⟨q, hq⟩ : ∃ q, 1 + z = q := ⟨_, rfl⟩
      have hqi : 1 + (z : Int) = (q : Int) := by omega
      have hq1 : 1 ≤ q := by omega
      have hq2 : q ≤ 256 := by omega
      have hq0 : (0 : Int) < (q : Int) := by omega
      have HW1 := Lib.hid (show IntKind.u8.wrap (j : Int) = (j : Int) by rw [IntKind.wrap_u8]; omega)
      have HE := Lib.hid E
      have hsz := Nat.le_refl wr.heap.size
      have hqb : q ≤ 281474976710656 := by omega
      have hjb : j < 256 := by omega
      have hjw := HW1.out
      clear E hzx hq HW1
      go_upto_region 17 with (at_make; refine wpList_mkB rfl _ _ rfl q rfl rfl rfl rfl hqb wr.heap.size (Nat.le_refl _) ?_; intro w5 ho5 hg5)
      obtain ⟨B5, hB5⟩ : ∃ B, wr.heap.size = B := ⟨_, rfl⟩
      rw [hB5] at ho5 ⊢
      obtain ⟨x5, hx5, e5, _, _, _, _, hc5, hf5⟩ := ho5.get hq1
      cases e5
      have ho6 := ho5.stored 0 j hjb
      have HO := Lib.hid (And.intro ho6 (And.intro hg5 hB5))
      clear ho5 ho6 hg5 hB5
      go_upto_region 18 with (fail)
      have hb6 : Below wr.heap.size wr (w5.setCell ⟨B5, 0, none⟩ (.int .u8 (j : Int))) := ((Below.refl wr.heap.size wr).grown HO.out.2.1 (Nat.le_refl _) (fun k e => by cases e)).setCell (p := ⟨B5, 0, none⟩) (by rw [HO.out.2.2]; exact Nat.le_refl _) _
      have ho6 := HO.out.1
      have E7 := (HE.out.below hb6).see (FarB.of_own ho6)
      have hi6 := ho6.ints
      clear hb6 hc5 hf5
      generalize World.setCell _ _ _ = w6 at *
      obtain ⟨br, hbr⟩ : ∃ br, (List.replicate q 0).set 0 j = br := ⟨_, rfl⟩
      rw [hbr] at E7 hi6 ho6
      have hbl : br.length = q := by rw [← hbr]; simp
      have hblt := hi6.lt
      have HB := Lib.hid (And.intro hbl (And.intro hblt hi6))
      clear HO ho6 hbr hbl hblt HE hcz hqi
      go_wp2_with fail
      refine (rneed_any (q : Int) _ (by omega) (by omega)).mono ?_; rintro e w7 ⟨rfl, rfl⟩
      rw [Int.toNat_natCast]
      obtain ⟨nd, hnd⟩ : ∃ nd, Cl.need q = nd := ⟨_, rfl⟩
      have hnd1 := need_small hq1 hq2
      rw [hnd] at hnd1 ⊢
      obtain ⟨hn1, hn6⟩ := hnd1
      have HN := Lib.hid hnd
      clear hnd
      have E8 := E7.alloc (.cells #[.slice (some ⟨B5, 0, none⟩) q q] 22)
      have hR : BArg (w6.alloc (.cells #[.slice (some ⟨B5, 0, none⟩) q q] 22)) (some ⟨w6.heap.size, 0, none⟩) 1 1 [⟨some ⟨B5, 0, none⟩, q, q, br⟩] := barg_blk (xs := [⟨some ⟨B5, 0, none⟩, q, q, br⟩]) (Blk.new _ _ _) rfl (fun x hx => by rw [List.mem_singleton] at hx; subst hx; exact hi6.alloc _)
      have ok8 := segOk_up HU.out.1 hk1
      have hA8 := add_we E8 0 rfl ok8 hR (by omega) (fun x hx => by rw [List.mem_singleton] at hx; subst hx; show q ≤ _; omega) (by omega) (by rw [HU.out.1.kept.pend]; exact Nat.zero_le _)
      have hgd : SegSt.good [br] = true := SegSt.good_one (by have := HB.out.1; omega) (by have := HB.out.1; omega)
      have htot : SegSt.total [br] = nd := by rw [total_one, HB.out.1]; exact HN.out
      have hbyt : ∀ r ∈ [br], ∀ c ∈ r, c < 256 := fun r hr => by rw [List.mem_singleton] at hr; subst hr; exact HB.out.2.1
      simp only [List.map_cons, List.map_nil] at hA8
      obtain ⟨un, hun⟩ : ∃ un, us + nd = un := ⟨_, rfl⟩
      have huni : (us : Int) + (nd : Int) = (un : Int) := by omega
      by_cases hfit : un ≤ k
      · have q1 : (un : Int) ≤ (k : Int) := by omega
        have q1d : decide ((un : Int) ≤ (k : Int)) = true := decide_eq_true q1
        obtain ⟨z1, z2, z3, z4⟩ := HU.out.1.add hgd (by show us + _ ≤ k; rw [htot]; omega) (by show xs.length + 1 ≤ _; omega) hbyt
        rw [htot] at z2
        generalize SegSt.add sj ⟨2, k, 5, us, xs.length⟩ [br] = AD at *
        obtain ⟨s9, t9, cd9⟩ := AD
        dsimp only at z1 z2 z3 z4 hA8
        subst z1 z2
        have HA := Lib.hid hA8
        have HZ := Lib.hid (And.intro z3 z4)
        clear hA8 z3 z4 hgd htot hbyt ok8 hR E8 E7 hfit hi6
        go_wp2_with fail
        refine HA.out.mono ?_; rintro e w8 ⟨rfl, E9⟩
        have E9 := E9.setEq (bl' := [segB h g ⟨2, k, 5, us + nd, xs.length + 1⟩]) rfl
        rw [hun] at E9
        have hrow := (E9.row 0 rfl).alloc (.cells #[.slice (some ⟨B5, 0, none⟩) q q] 22)
        dsimp only at hrow
        have hcs := cells_new w8 #[.slice (some ⟨B5, 0, none⟩) q q] 22 (g := w8.heap.size) rfl
        have hbs := E9.size
        have E10 := E9.alloc (.cells #[.slice (some ⟨B5, 0, none⟩) q q] 22)
        have HE := Lib.hid E10
        have hxl : xs.length ≤ 60 := by omega
        have hbs2 : w.heap.size ≤ (w8.alloc (.cells #[.slice (some ⟨B5, 0, none⟩) q q] 22)).heap.size := by rw [World.size_alloc]; omega
        clear E9 E10 HA
        go_upto_region 25 with (at_builtin; refine wpList_appR _ rfl (.tmp 89) (.tmp 91) 32 rfl 22 (.slice none 0 0) 1 24 Tryd.underlying32 binfo rfl (by omega) (by omega) rfl hrow (ad := ⟨w8.heap.size, 0, none⟩) (m := 1) (c' := 1) [.slice (some ⟨B5, 0, none⟩) q q] rfl rfl hcs (by intro u hu; rw [List.mem_singleton] at hu; subst hu; rfl) (by omega) hbs2 ?_; intro A10 c10 w10 hown hg10 hA10)
        have E11 := HE.out.app2 (x := ⟨some ⟨B5, 0, none⟩, q, q, br⟩) hown hg10 hA10
        clear hrow hcs hown hg10 hA10 HE hbs hbs2
        have E12 := E11.pick (rd' := xs ++ [(⟨some ⟨B5, 0, none⟩, q, q, br⟩ : BEl)]) (.refl _) (.refl _) (fun y hy => by
          simp only [List.mem_append, List.mem_cons, List.not_mem_nil, or_false] at hy ⊢
          rcases hy with h | h
          · exact .inr h
          · exact .inl h)
        clear E11
        have hl12 : (xs ++ [(⟨some ⟨B5, 0, none⟩, q, q, br⟩ : BEl)]).length = xs.length + 1 := by rw [List.length_append]; rfl
        have E12 := E12.setEq (bl' := [segB h g ⟨2, k, 5, un, (xs ++ [(⟨some ⟨B5, 0, none⟩, q, q, br⟩ : BEl)]).length⟩]) (by rw [hl12])
        have hU2 : SegSt.SUp s9 ⟨2, k, 5, un, (xs ++ [(⟨some ⟨B5, 0, none⟩, q, q, br⟩ : BEl)]).length⟩ ((xs ++ [(⟨some ⟨B5, 0, none⟩, q, q, br⟩ : BEl)]).map (·.l)) := by
          have h := HZ.out.1
          rw [hun] at h
          rw [List.map_append, hl12]
          exact h
        have hx2 : ∀ x ∈ xs ++ [(⟨some ⟨B5, 0, none⟩, q, q, br⟩ : BEl)], x.n ≤ 256 := fun x hx => by
          rcases List.mem_append.1 hx with hx | hx
          · exact HU.out.2 x hx
          · rw [List.mem_singleton] at hx; subst hx; exact hq2
        have hbg2 : s9.begun ≤ 100 * (j + 1) := by have h : s9.begun ≤ sj.begun + k + 1 := HZ.out.2; omega
        obtain ⟨xs2, hxs2⟩ : ∃ xs2, xs ++ [(⟨some ⟨B5, 0, none⟩, q, q, br⟩ : BEl)] = xs2 := ⟨_, rfl⟩
        rw [hxs2] at E12 hU2 hx2 hl12
        have hl13 : xs.length + 1 = xs2.length := hl12.symm
        have HF := Lib.hid (And.intro E12 (And.intro hU2 (And.intro hx2 (And.intro hl13 hbg2))))
        rw [hl13]
        clear E12 hU2 hx2 hl12 hl13 hbg2 hxs2 HU HZ huni
        have huk : un ≤ k := by omega
        have hsub : (k : Int) - (un : Int) = ((k - un : Nat) : Int) := by omega
        obtain ⟨fr, hfr⟩ : ∃ fr, k - un = fr := ⟨_, rfl⟩
        rw [hfr] at hsub
        have HFR := Lib.hid hfr
        clear hfr q1d
        go_wp2_with fail
        refine (free_any (HF.out.1.b 0 rfl) huk (by show k ≤ 512; omega)).mono ?_; rintro e w12 ⟨rfl, q12, rfl⟩
        dsimp only
        rw [HFR.out]
        have hE13 := HF.out.1.drewN q12
        have HG := Lib.hid hE13
        clear hE13
        go_wp2_with fail
        go_roundw
        case rel => exact ⟨j + 1, un, A10, c10, xs2, s9, by omega, by omega, by go_num, rfl, rfl, HG.out, HF.out.2.1, by have := HF.out.2.2.2.1; omega, HF.out.2.2.2.2, HF.out.2.2.1⟩
        case measure => simp [intOf]; omega
      · have q1 : ¬ (un : Int) ≤ (k : Int) := by omega
        have q1d : decide ((un : Int) ≤ (k : Int)) = false := decide_eq_false q1
        have hful : SegSt.add sj ⟨2, k, 5, us, xs.length⟩ [br] = (sj, ⟨2, k, 5, us, xs.length⟩, 3) := SegSt.add_full hgd (.inl (by show k < us + _; rw [htot]; omega))
        rw [hful] at hA8
        have HA := Lib.hid hA8
        clear hA8 hful hgd htot hbyt ok8 hR E8 E7 hfit hi6
        go_wp2_with fail
        refine HA.out.mono ?_; rintro e w8 ⟨rfl, E9⟩
        have E10 := E9.pick (bl' := [segB h g ⟨2, k, 5, us, xs.length⟩]) (rd' := xs) (.refl _) (.refl _) (fun y hy => List.mem_cons_of_mem _ hy)
        clear E9 HA
        have hsub : (k : Int) - (us : Int) = ((k - us : Nat) : Int) := by omega
        obtain ⟨fr, hfr⟩ : ∃ fr, k - us = fr := ⟨_, rfl⟩
        rw [hfr] at hsub
        have HFR := Lib.hid hfr
        clear hfr
        have HF := Lib.hid E10
        clear E10
        go_wp2_with fail
        refine (free_any (HF.out.b 0 rfl) hus (by show k ≤ 512; omega)).mono ?_; rintro e w12 ⟨rfl, q12, rfl⟩
        dsimp only
        rw [HFR.out]
        have hE13 := HF.out.drewN q12
        have HG := Lib.hid hE13
        clear hE13
        go_wp2_with fail
        go_roundw
        case rel => exact ⟨j + 1, us, A1, c1, xs, sj, by omega, by omega, by go_num, rfl, rfl, HG.out, HU.out.1, by omega, by omega, HU.out.2⟩
        case measure => simp [intOf]; omega
    · obtain ⟨k1, k2, _, _, _⟩ := SegSt.kept_scan HU.out.1.kept E.bytes
      have ok9 := segOk_up HU.out.1 hk1
      have HK := Lib.hid (And.intro k1 (And.intro ok9 E))
      clear k1 k2 ok9
      have hsc := scan_we E 0 rfl HK.out.2.1
      unfold ScanPost at hsc
      rw [k1_ HK.out.1] at hsc
      generalize (SegSt.scan sj ⟨2, k, 5, us, xs.length⟩).1 = t9 at hsc
      dsimp only at hsc
      have HS := Lib.hid hsc
      clear E hsc
      by_cases hg1 : j < m
      · have hlt1 : (j : Int) < (m : Int) := by omega
        have hlt2 : ¬ (j : Int) < 60 := by omega
        have hlt2d : decide ((j : Int) < 60) = false := decide_eq_false hlt2
        clear hgo hg1
        go_wp2_with fail
        refine HS.out.mono ?_
        rintro e w9 ⟨A9, c9, xs9, rfl, E9, hx9⟩
        have hl9 : xs9.length = xs.length := by have := congrArg List.length hx9; rwa [List.length_map, List.length_map] at this
        have h256 : ∀ x ∈ xs9, x.n ≤ 140737488355328 := fun x hx => by
          have h1 := (E9.rdm (x := x) (List.mem_append_left _ hx)).len
          have h2 : x.l ∈ xs9.map (·.l) := List.mem_map.2 ⟨x, hx, rfl⟩
          rw [hx9] at h2
          obtain ⟨y, hy, hy2⟩ := List.mem_map.1 h2
          have h3 := (E9.rdm (x := y) (List.mem_append_right _ hy)).len
          have h4 := HU.out.2 y hy
          have h5 : y.l.length = x.l.length := by rw [hy2]
          omega
        have hI9 : BImg w9 A9 xs9.length c9 (xs.map (·.l)) := by
          have := (barg_of (E9.row 0 rfl) (fun x hx => E9.rdm (List.mem_append_left _ hx))).img (by show xs9.length ≤ 140737488355328; omega) h256
          rwa [hx9] at this
        have hJ9 : BImg w9 A1 xs.length c1 (xs.map (·.l)) := (barg_of (E9.row 1 rfl) (fun x hx => E9.rdm (List.mem_append_right _ hx))).img (by show xs.length ≤ 140737488355328; omega) (fun x hx => by have := HU.out.2 x hx; omega)
        rw [hl9] at hI9 ⊢
        have HI := Lib.hid (And.intro hI9 (And.intro hJ9 E9.bel))
        clear E9 hx9 h256 hI9 hJ9 HS HK hl9
        go_wp2_with fail
        refine (alike_same HI.out.1 HI.out.2.1).mono ?_; rintro e w10 ⟨⟨q10, rfl⟩, rfl⟩
        have HB := Lib.hid (below_step HI.out.2.2 (((Moved.refl w9 []).drewN q10).below0) HI.out.2.2.size)
        clear HI
        go_wp2_with fail
        go_ret
        exact ⟨rfl, HB.out⟩
      · have hlt1 : ¬ (j : Int) < (m : Int) := by omega
        have hlt1d : decide ((j : Int) < (m : Int)) = false := decide_eq_false hlt1
        clear hgo hg1
        go_wp2_with fail
        refine HS.out.mono ?_
        rintro e w9 ⟨A9, c9, xs9, rfl, E9, hx9⟩
        have hl9 : xs9.length = xs.length := by have := congrArg List.length hx9; rwa [List.length_map, List.length_map] at this
        have h256 : ∀ x ∈ xs9, x.n ≤ 140737488355328 := fun x hx => by
          have h1 := (E9.rdm (x := x) (List.mem_append_left _ hx)).len
          have h2 : x.l ∈ xs9.map (·.l) := List.mem_map.2 ⟨x, hx, rfl⟩
          rw [hx9] at h2
          obtain ⟨y, hy, hy2⟩ := List.mem_map.1 h2
          have h3 := (E9.rdm (x := y) (List.mem_append_right _ hy)).len
          have h4 := HU.out.2 y hy
          have h5 : y.l.length = x.l.length := by rw [hy2]
          omega
        have hI9 : BImg w9 A9 xs9.length c9 (xs.map (·.l)) := by
          have := (barg_of (E9.row 0 rfl) (fun x hx => E9.rdm (List.mem_append_left _ hx))).img (by show xs9.length ≤ 140737488355328; omega) h256
          rwa [hx9] at this
        have hJ9 : BImg w9 A1 xs.length c1 (xs.map (·.l)) := (barg_of (E9.row 1 rfl) (fun x hx => E9.rdm (List.mem_append_right _ hx))).img (by show xs.length ≤ 140737488355328; omega) (fun x hx => by have := HU.out.2 x hx; omega)
        rw [hl9] at hI9 ⊢
        have HI := Lib.hid (And.intro hI9 (And.intro hJ9 E9.bel))
        clear E9 hx9 h256 hI9 hJ9 HS HK hl9
        go_wp2_with fail
        refine (alike_same HI.out.1 HI.out.2.1).mono ?_; rintro e w10 ⟨⟨q10, rfl⟩, rfl⟩
        have HB := Lib.hid (below_step HI.out.2.2 (((Moved.refl w9 []).drewN q10).below0) HI.out.2.2.size)
        clear HI
        go_wp2_with fail
        go_ret
        exact ⟨rfl, HB.out⟩
end Go.Proofs.YtdlcngmcjidomaaDoor
