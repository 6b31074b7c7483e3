/- Texts of several parts in one: SegI, SegJ, SegK. Each says what it proves; no condition but those named there. -/
import Derived.Test.YtdlcngmcjidomaaDoorGSE
import Derived.Deep.CutBlock
import Derived.Test.YtdlcngmcjidomaaDoorGSN
import Derived.Test.YtdlcngmcjidomaaDoorLawAct7
/- The law SegFills, walked. No condition but the reach of a slice. -/
namespace Go.Proofs.YtdlcngmcjidomaaDoor
set_option linter.unusedSimpArgs false
set_option linter.unusedVariables false
open Go.RowKit Go.Shelf

theorem wpList_mkB {w : World} {ops : Array Oper} {rest : List Oper} {o : Oper} {a : Act} {Q : Exit → Act → World → Prop} (hgd : o.guard = none) (l c : Operand) (ho : o.op = Op.makeSlice 22 l c) {kl kc : IntKind} {L C : Int} (n : Nat) (hl : a.eval l = .int kl L) (hc : a.eval c = .int kc C) (hL : L = (n : Int)) (hC : C = (n : Int)) (b3 : n ≤ 281474976710656) (base : Nat) (hbase : base ≤ w.heap.size)
    (h : ∀ w', OwnI w' base .u8 256 5 (some ⟨w.heap.size, 0, none⟩) n n (List.replicate n 0) → w.grownBy w' none → wpList Tryd.prog ops Q rest (a.put o.dst (.slice (some ⟨w.heap.size, 0, none⟩) n n)) w') :
    wpList Tryd.prog ops Q (o :: rest) a w :=
  wpList_mkI w hgd l c 22 ho (lim := 256) (by omega) 5 1 Tryd.underlying22 dinfo_u8 n hl hc hL hC (by omega) (by unfold maxLen; omega) base hbase h
theorem need_small {m : Nat} (h1 : 1 ≤ m) (h2 : m ≤ 256) : 1 ≤ Cl.need m ∧ Cl.need m ≤ 6 := by
  have := Cl.need_pos (n := m) h1 (by omega)
  omega
theorem total_one (r : List Nat) : SegSt.total [r] = Cl.need r.length := by simp [SegSt.total]
theorem total_snoc (rs : List (List Nat)) (r : List Nat) : SegSt.total (rs ++ [r]) = SegSt.total rs + Cl.need r.length := by
  unfold SegSt.total
  rw [List.map_append, List.sum_append]
  simp
theorem k1_ {a : SegSt × List (List Nat) × Int} {b : List (List Nat) × Int} (h : a.2 = b) : a = (a.1, b.1, b.2) := Prod.ext rfl h
theorem WE.app2 {w0 w w' : World} {g : Nat} {s : DSt} {bl : List WBk} {ys : List WRow} {rd : List BEl} {A : Option Addr} {c : Nat} {xs : List BEl} {x : BEl} (E : WE w0 w g s bl (⟨22, 1, A, xs.length, c, xs.map BEl.v⟩ :: ys) rd) {A' : Option Addr} {c' : Nat}
    (ho : OwnR w' w0.heap.size 22 1 A' (xs.length + 1) c' (xs.map BEl.v ++ [x.v])) (hg : w.grownBy w' (A.map (·.block))) (hA : A' = A ∨ A' = some ⟨w.heap.size, 0, none⟩) : WE w0 w' g s bl (⟨22, 1, A', (xs ++ [x]).length, c', (xs ++ [x]).map BEl.v⟩ :: ys) rd := by
  have h := E.app 0 rfl ho hg hA
  rw [List.length_append, List.map_append]
  exact h

set_option maxRecDepth 100000 in
set_option maxHeartbeats 12800000 in
theorem segFills_any (n : Nat) (A : Option Addr) (m c : Nat) (l : List Nat) (w : World) (hn : n < 256) (hr : Ints w .u8 256 A m c l) (hm : m ≤ maxLen) :
    Calls Tryd.prog 3 #[.int .u8 (n : Int), .slice A m c] w fun e w' => e = .returned (.bool true) ∧ Below w.heap.size w w' := by
  have hmi : (m : Int) ≤ 9223372036854775807 := by unfold maxLen at hm; omega
  obtain ⟨r, hr0⟩ : ∃ z, n % 40 = z := ⟨_, rfl⟩
  obtain ⟨k, hk⟩ : ∃ z, 1 + r = z := ⟨_, rfl⟩
  have hri : (n : Int) % 40 = (r : Int) := by omega
  have hki : 1 + (r : Int) = (k : Int) := by omega
  have hk1 : 1 ≤ k := by omega
  have hk2 : k ≤ 40 := by omega
  obtain ⟨hs1, hu1⟩ := SegSt.new_up (D := 44) (n := k) (first := 2) (gen := 5) (by omega) (by omega) 0 4294967295
  have hok0 : SegSt.Ok (DSt.new 44) ⟨2, k, 5, 0, 4294967295⟩ := ⟨hk1, by rw [new_length]; show 2 + k ≤ 44; omega, Nat.zero_le _, by show 4294967295 ≤ 4294967295; omega, by show 5 < 4294967296; omega⟩
  have HP := Lib.hid (And.intro hs1 (And.intro hu1 (And.intro hok0 hr)))
  clear hs1 hu1 hok0 hr hr0 hk hm
  go_enter Tryd.func3, Tryd.ntmps3
  go_wp2_with fail
  refine (awake7_any _).mono ?_; rintro e w1 ⟨rfl, hb1⟩
  go_wp2_with fail
  refine (we_new (w0 := w) 44 (by omega) (by omega) _ hb1).mono ?_; rintro e w2 ⟨g, rfl, E⟩
  clear hb1
  go_wp2_with fail
  refine (segnew_we E 2 k 5 hk1 (by rw [new_length]; omega) (by omega)).mono ?_; rintro e w3 ⟨h, rfl, _, E3, _⟩
  clear E hri hki
  go_wp2_with fail
  refine (scan_we E3 0 rfl HP.out.2.2.1).mono ?_
  rintro e w4 ⟨A4, c4, xs4, rfl, E4, hx4⟩
  rw [HP.out.1] at E4 hx4 ⊢
  obtain rfl : xs4 = [] := List.map_eq_nil_iff.1 hx4
  have E5 := (E4.pick (bl' := [segB h g ⟨2, k, 5, 0, 0⟩]) (ys' := []) (rd' := []) (.refl _) (.cons _ (.refl _)) (fun _ h => h)).nil (ty := 22) 1 (by decide)
  clear E3 E4 hx4
  go_wp2_with fail
  go_loopw [10, 11, 12] (fun uv av iv wr => ∃ (j us : Nat) (A1 : Option Addr) (c1 : Nat) (xs : List BEl) (sj : DSt), j ≤ m ∧ j ≤ 60 ∧ iv = .int .i64 (j : Int) ∧ uv = .int .i64 (us : Int) ∧ av = .slice A1 xs.length c1 ∧ WE w wr g sj [segB h g ⟨2, k, 5, us, xs.length⟩] [⟨22, 1, A1, xs.length, c1, xs.map BEl.v⟩] xs ∧ SegSt.SUp sj ⟨2, k, 5, us, xs.length⟩ (xs.map (·.l)) ∧ xs.length ≤ j ∧ sj.begun ≤ 100 * j ∧ ∀ x ∈ xs, x.n ≤ 256) (fun _ _ iv _ => m - (intOf iv).toNat)
  case atStart => exact ⟨0, 0, none, 0, [], DSt.new 44, Nat.zero_le _, by omega, rfl, rfl, rfl, E5, HP.out.2.1, Nat.zero_le _, Nat.le_refl _, fun _ h => by cases h⟩
  case round =>
    obtain ⟨j, us, A1, c1, xs, sj, hj1, hj2, rfl, rfl, rfl, E, hU, hxj, hbg, hx256⟩ := hrel
    clear E5
    have hus : us ≤ k := hU.ok.2.1
    have HU := Lib.hid (And.intro hU hx256)
    clear hU hx256
    by_cases hgo : j < m ∧ j < 60
    · obtain ⟨hg1, hg2⟩ := hgo
      have hlt1 : (j : Int) < (m : Int) := by omega
      have hlt2 : (j : Int) < 60 := by omega
      have hlt2d : decide ((j : Int) < 60) = true := decide_eq_true hlt2
      have hj0 : (0 : Int) ≤ (j : Int) := by omega
      obtain ⟨ba, o, z, rfl, _, hzx, hz256, hcz⟩ := (HP.out.2.2.2.below E.bel).get hg1
      obtain ⟨q, hq⟩ : ∃ q, 1 + z = q := ⟨_, rfl⟩
      have hqi : 1 + (z : Int) = (q : Int) := by omega
      have hq1 : 1 ≤ q := by omega
      have hq2 : q ≤ 256 := by omega
      have hq0 : (0 : Int) < (q : Int) := by omega
      have HW1 := Lib.hid (show IntKind.u8.wrap (j : Int) = (j : Int) by rw [IntKind.wrap_u8]; omega)
      have HE := Lib.hid E
      have hsz := Nat.le_refl wr.heap.size
      have hqb : q ≤ 281474976710656 := by omega
      have hjb : j < 256 := by omega
      have hjw := HW1.out
      clear E hzx hq HW1
      go_upto_region 17 with (at_make; refine wpList_mkB rfl _ _ rfl q rfl rfl rfl rfl hqb wr.heap.size (Nat.le_refl _) ?_; intro w5 ho5 hg5)
      obtain ⟨B5, hB5⟩ : ∃ B, wr.heap.size = B := ⟨_, rfl⟩
      rw [hB5] at ho5 ⊢
      obtain ⟨x5, hx5, e5, _, _, _, _, hc5, hf5⟩ := ho5.get hq1
      cases e5
      have ho6 := ho5.stored 0 j hjb
      have HO := Lib.hid (And.intro ho6 (And.intro hg5 hB5))
      clear ho5 ho6 hg5 hB5
      go_upto_region 18 with (fail)
      have hb6 : Below wr.heap.size wr (w5.setCell ⟨B5, 0, none⟩ (.int .u8 (j : Int))) := ((Below.refl wr.heap.size wr).grown HO.out.2.1 (Nat.le_refl _) (fun k e => by cases e)).setCell (p := ⟨B5, 0, none⟩) (by rw [HO.out.2.2]; exact Nat.le_refl _) _
      have ho6 := HO.out.1
      have E7 := (HE.out.below hb6).see (FarB.of_own ho6)
      have hi6 := ho6.ints
      clear hb6 hc5 hf5
      generalize World.setCell _ _ _ = w6 at *
      obtain ⟨br, hbr⟩ : ∃ br, (List.replicate q 0).set 0 j = br := ⟨_, rfl⟩
      rw [hbr] at E7 hi6 ho6
      have hbl : br.length = q := by rw [← hbr]; simp
      have hblt := hi6.lt
      have HB := Lib.hid (And.intro hbl (And.intro hblt hi6))
      clear HO ho6 hbr hbl hblt HE hcz hqi
      go_wp2_with fail
      refine (rneed_any (q : Int) _ (by omega) (by omega)).mono ?_; rintro e w7 ⟨rfl, rfl⟩
      rw [Int.toNat_natCast]
      obtain ⟨nd, hnd⟩ : ∃ nd, Cl.need q = nd := ⟨_, rfl⟩
      have hnd1 := need_small hq1 hq2
      rw [hnd] at hnd1 ⊢
      obtain ⟨hn1, hn6⟩ := hnd1
      have HN := Lib.hid hnd
      clear hnd
      have E8 := E7.alloc (.cells #[.slice (some ⟨B5, 0, none⟩) q q] 22)
      have hR : BArg (w6.alloc (.cells #[.slice (some ⟨B5, 0, none⟩) q q] 22)) (some ⟨w6.heap.size, 0, none⟩) 1 1 [⟨some ⟨B5, 0, none⟩, q, q, br⟩] := barg_blk (xs := [⟨some ⟨B5, 0, none⟩, q, q, br⟩]) (Blk.new _ _ _) rfl (fun x hx => by rw [List.mem_singleton] at hx; subst hx; exact hi6.alloc _)
      have ok8 := segOk_up HU.out.1 hk1
      have hA8 := add_we E8 0 rfl ok8 hR (by omega) (fun x hx => by rw [List.mem_singleton] at hx; subst hx; show q ≤ _; omega) (by omega) (by rw [HU.out.1.kept.pend]; exact Nat.zero_le _)
      have hgd : SegSt.good [br] = true := SegSt.good_one (by have := HB.out.1; omega) (by have := HB.out.1; omega)
      have htot : SegSt.total [br] = nd := by rw [total_one, HB.out.1]; exact HN.out
      have hbyt : ∀ r ∈ [br], ∀ c ∈ r, c < 256 := fun r hr => by rw [List.mem_singleton] at hr; subst hr; exact HB.out.2.1
      simp only [List.map_cons, List.map_nil] at hA8
      obtain ⟨un, hun⟩ : ∃ un, us + nd = un := ⟨_, rfl⟩
      have huni : (us : Int) + (nd : Int) = (un : Int) := by omega
      by_cases hfit : un ≤ k
      · have q1 : (un : Int) ≤ (k : Int) := by omega
        have q1d : decide ((un : Int) ≤ (k : Int)) = true := decide_eq_true q1
        obtain ⟨z1, z2, z3, z4⟩ := HU.out.1.add hgd (by show us + _ ≤ k; rw [htot]; omega) (by show xs.length + 1 ≤ _; omega) hbyt
        rw [htot] at z2
        generalize SegSt.add sj ⟨2, k, 5, us, xs.length⟩ [br] = AD at *
        obtain ⟨s9, t9, cd9⟩ := AD
        dsimp only at z1 z2 z3 z4 hA8
        subst z1 z2
        have HA := Lib.hid hA8
        have HZ := Lib.hid (And.intro z3 z4)
        clear hA8 z3 z4 hgd htot hbyt ok8 hR E8 E7 hfit hi6
        go_wp2_with fail
        refine HA.out.mono ?_; rintro e w8 ⟨rfl, E9⟩
        have E9 := E9.setEq (bl' := [segB h g ⟨2, k, 5, us + nd, xs.length + 1⟩]) rfl
        rw [hun] at E9
        have hrow := (E9.row 0 rfl).alloc (.cells #[.slice (some ⟨B5, 0, none⟩) q q] 22)
        dsimp only at hrow
        have hcs := cells_new w8 #[.slice (some ⟨B5, 0, none⟩) q q] 22 (g := w8.heap.size) rfl
        have hbs := E9.size
        have E10 := E9.alloc (.cells #[.slice (some ⟨B5, 0, none⟩) q q] 22)
        have HE := Lib.hid E10
        have hxl : xs.length ≤ 60 := by omega
        have hbs2 : w.heap.size ≤ (w8.alloc (.cells #[.slice (some ⟨B5, 0, none⟩) q q] 22)).heap.size := by rw [World.size_alloc]; omega
        clear E9 E10 HA
        go_upto_region 25 with (at_builtin; refine wpList_appR _ rfl (.tmp 89) (.tmp 91) 32 rfl 22 (.slice none 0 0) 1 24 Tryd.underlying32 binfo rfl (by omega) (by omega) rfl hrow (ad := ⟨w8.heap.size, 0, none⟩) (m := 1) (c' := 1) [.slice (some ⟨B5, 0, none⟩) q q] rfl rfl hcs (by intro u hu; rw [List.mem_singleton] at hu; subst hu; rfl) (by omega) hbs2 ?_; intro A10 c10 w10 hown hg10 hA10)
        have E11 := HE.out.app2 (x := ⟨some ⟨B5, 0, none⟩, q, q, br⟩) hown hg10 hA10
        clear hrow hcs hown hg10 hA10 HE hbs hbs2
        have E12 := E11.pick (rd' := xs ++ [(⟨some ⟨B5, 0, none⟩, q, q, br⟩ : BEl)]) (.refl _) (.refl _) (fun y hy => by
          simp only [List.mem_append, List.mem_cons, List.not_mem_nil, or_false] at hy ⊢
          rcases hy with h | h
          · exact .inr h
          · exact .inl h)
        clear E11
        have hl12 : (xs ++ [(⟨some ⟨B5, 0, none⟩, q, q, br⟩ : BEl)]).length = xs.length + 1 := by rw [List.length_append]; rfl
        have E12 := E12.setEq (bl' := [segB h g ⟨2, k, 5, un, (xs ++ [(⟨some ⟨B5, 0, none⟩, q, q, br⟩ : BEl)]).length⟩]) (by rw [hl12])
        have hU2 : SegSt.SUp s9 ⟨2, k, 5, un, (xs ++ [(⟨some ⟨B5, 0, none⟩, q, q, br⟩ : BEl)]).length⟩ ((xs ++ [(⟨some ⟨B5, 0, none⟩, q, q, br⟩ : BEl)]).map (·.l)) := by
          have h := HZ.out.1
          rw [hun] at h
          rw [List.map_append, hl12]
          exact h
        have hx2 : ∀ x ∈ xs ++ [(⟨some ⟨B5, 0, none⟩, q, q, br⟩ : BEl)], x.n ≤ 256 := fun x hx => by
          rcases List.mem_append.1 hx with hx | hx
          · exact HU.out.2 x hx
          · rw [List.mem_singleton] at hx; subst hx; exact hq2
        have hbg2 : s9.begun ≤ 100 * (j + 1) := by have h : s9.begun ≤ sj.begun + k + 1 := HZ.out.2; omega
        obtain ⟨xs2, hxs2⟩ : ∃ xs2, xs ++ [(⟨some ⟨B5, 0, none⟩, q, q, br⟩ : BEl)] = xs2 := ⟨_, rfl⟩
        rw [hxs2] at E12 hU2 hx2 hl12
        have hl13 : xs.length + 1 = xs2.length := hl12.symm
        have HF := Lib.hid (And.intro E12 (And.intro hU2 (And.intro hx2 (And.intro hl13 hbg2))))
        rw [hl13]
        clear E12 hU2 hx2 hl12 hl13 hbg2 hxs2 HU HZ huni
        have huk : un ≤ k := by omega
        have hsub : (k : Int) - (un : Int) = ((k - un : Nat) : Int) := by omega
        obtain ⟨fr, hfr⟩ : ∃ fr, k - un = fr := ⟨_, rfl⟩
        rw [hfr] at hsub
        have HFR := Lib.hid hfr
        clear hfr q1d
        go_wp2_with fail
        refine (free_any (HF.out.1.b 0 rfl) huk (by show k ≤ 512; omega)).mono ?_; rintro e w12 ⟨rfl, q12, rfl⟩
        dsimp only
        rw [HFR.out]
        have hE13 := HF.out.1.drewN q12
        have HG := Lib.hid hE13
        clear hE13
        go_wp2_with fail
        go_roundw
        case rel => exact ⟨j + 1, un, A10, c10, xs2, s9, by omega, by omega, by go_num, rfl, rfl, HG.out, HF.out.2.1, by have := HF.out.2.2.2.1; omega, HF.out.2.2.2.2, HF.out.2.2.1⟩
        case measure => simp [intOf]; omega
      · have q1 : ¬ (un : Int) ≤ (k : Int) := by omega
        have q1d : decide ((un : Int) ≤ (k : Int)) = false := decide_eq_false q1
        have hful : SegSt.add sj ⟨2, k, 5, us, xs.length⟩ [br] = (sj, ⟨2, k, 5, us, xs.length⟩, 3) := SegSt.add_full hgd (.inl (by show k < us + _; rw [htot]; omega))
        rw [hful] at hA8
        have HA := Lib.hid hA8
        clear hA8 hful hgd htot hbyt ok8 hR E8 E7 hfit hi6
        go_wp2_with fail
        refine HA.out.mono ?_; rintro e w8 ⟨rfl, E9⟩
        have E10 := E9.pick (bl' := [segB h g ⟨2, k, 5, us, xs.length⟩]) (rd' := xs) (.refl _) (.refl _) (fun y hy => List.mem_cons_of_mem _ hy)
        clear E9 HA
        have hsub : (k : Int) - (us : Int) = ((k - us : Nat) : Int) := by omega
        obtain ⟨fr, hfr⟩ : ∃ fr, k - us = fr := ⟨_, rfl⟩
        rw [hfr] at hsub
        have HFR := Lib.hid hfr
        clear hfr
        have HF := Lib.hid E10
        clear E10
        go_wp2_with fail
        refine (free_any (HF.out.b 0 rfl) hus (by show k ≤ 512; omega)).mono ?_; rintro e w12 ⟨rfl, q12, rfl⟩
        dsimp only
        rw [HFR.out]
        have hE13 := HF.out.drewN q12
        have HG := Lib.hid hE13
        clear hE13
        go_wp2_with fail
        go_roundw
        case rel => exact ⟨j + 1, us, A1, c1, xs, sj, by omega, by omega, by go_num, rfl, rfl, HG.out, HU.out.1, by omega, by omega, HU.out.2⟩
        case measure => simp [intOf]; omega
    · obtain ⟨k1, k2, _, _, _⟩ := SegSt.kept_scan HU.out.1.kept E.bytes
      have ok9 := segOk_up HU.out.1 hk1
      have HK := Lib.hid (And.intro k1 (And.intro ok9 E))
      clear k1 k2 ok9
      have hsc := scan_we E 0 rfl HK.out.2.1
      unfold ScanPost at hsc
      rw [k1_ HK.out.1] at hsc
      generalize (SegSt.scan sj ⟨2, k, 5, us, xs.length⟩).1 = t9 at hsc
      dsimp only at hsc
      have HS := Lib.hid hsc
      clear E hsc
      by_cases hg1 : j < m
      · have hlt1 : (j : Int) < (m : Int) := by omega
        have hlt2 : ¬ (j : Int) < 60 := by omega
        have hlt2d : decide ((j : Int) < 60) = false := decide_eq_false hlt2
        clear hgo hg1
        go_wp2_with fail
        refine HS.out.mono ?_
        rintro e w9 ⟨A9, c9, xs9, rfl, E9, hx9⟩
        have hl9 : xs9.length = xs.length := by have := congrArg List.length hx9; rwa [List.length_map, List.length_map] at this
        have h256 : ∀ x ∈ xs9, x.n ≤ 140737488355328 := fun x hx => by
          have h1 := (E9.rdm (x := x) (List.mem_append_left _ hx)).len
          have h2 : x.l ∈ xs9.map (·.l) := List.mem_map.2 ⟨x, hx, rfl⟩
          rw [hx9] at h2
          obtain ⟨y, hy, hy2⟩ := List.mem_map.1 h2
          have h3 := (E9.rdm (x := y) (List.mem_append_right _ hy)).len
          have h4 := HU.out.2 y hy
          have h5 : y.l.length = x.l.length := by rw [hy2]
          omega
        have hI9 : BImg w9 A9 xs9.length c9 (xs.map (·.l)) := by
          have := (barg_of (E9.row 0 rfl) (fun x hx => E9.rdm (List.mem_append_left _ hx))).img (by show xs9.length ≤ 140737488355328; omega) h256
          rwa [hx9] at this
        have hJ9 : BImg w9 A1 xs.length c1 (xs.map (·.l)) := (barg_of (E9.row 1 rfl) (fun x hx => E9.rdm (List.mem_append_right _ hx))).img (by show xs.length ≤ 140737488355328; omega) (fun x hx => by have := HU.out.2 x hx; omega)
        rw [hl9] at hI9 ⊢
        have HI := Lib.hid (And.intro hI9 (And.intro hJ9 E9.bel))
        clear E9 hx9 h256 hI9 hJ9 HS HK hl9
        go_wp2_with fail
        refine (alike_same HI.out.1 HI.out.2.1).mono ?_; rintro e w10 ⟨⟨q10, rfl⟩, rfl⟩
        have HB := Lib.hid (below_step HI.out.2.2 (((Moved.refl w9 []).drewN q10).below0) HI.out.2.2.size)
        clear HI
        go_wp2_with fail
        go_ret
        exact ⟨rfl, HB.out⟩
      · have hlt1 : ¬ (j : Int) < (m : Int) := by omega
        have hlt1d : decide ((j : Int) < (m : Int)) = false := decide_eq_false hlt1
        clear hgo hg1
        go_wp2_with fail
        refine HS.out.mono ?_
        rintro e w9 ⟨A9, c9, xs9, rfl, E9, hx9⟩
        have hl9 : xs9.length = xs.length := by have := congrArg List.length hx9; rwa [List.length_map, List.length_map] at this
        have h256 : ∀ x ∈ xs9, x.n ≤ 140737488355328 := fun x hx => by
          have h1 := (E9.rdm (x := x) (List.mem_append_left _ hx)).len
          have h2 : x.l ∈ xs9.map (·.l) := List.mem_map.2 ⟨x, hx, rfl⟩
          rw [hx9] at h2
          obtain ⟨y, hy, hy2⟩ := List.mem_map.1 h2
          have h3 := (E9.rdm (x := y) (List.mem_append_right _ hy)).len
          have h4 := HU.out.2 y hy
          have h5 : y.l.length = x.l.length := by rw [hy2]
          omega
        have hI9 : BImg w9 A9 xs9.length c9 (xs.map (·.l)) := by
          have := (barg_of (E9.row 0 rfl) (fun x hx => E9.rdm (List.mem_append_left _ hx))).img (by show xs9.length ≤ 140737488355328; omega) h256
          rwa [hx9] at this
        have hJ9 : BImg w9 A1 xs.length c1 (xs.map (·.l)) := (barg_of (E9.row 1 rfl) (fun x hx => E9.rdm (List.mem_append_right _ hx))).img (by show xs.length ≤ 140737488355328; omega) (fun x hx => by have := HU.out.2 x hx; omega)
        rw [hl9] at hI9 ⊢
        have HI := Lib.hid (And.intro hI9 (And.intro hJ9 E9.bel))
        clear E9 hx9 h256 hI9 hJ9 HS HK hl9
        go_wp2_with fail
        refine (alike_same HI.out.1 HI.out.2.1).mono ?_; rintro e w10 ⟨⟨q10, rfl⟩, rfl⟩
        have HB := Lib.hid (below_step HI.out.2.2 (((Moved.refl w9 []).drewN q10).below0) HI.out.2.2.size)
        clear HI
        go_wp2_with fail
        go_ret
        exact ⟨rfl, HB.out⟩
end Go.Proofs.YtdlcngmcjidomaaDoor

/- The law SegTorn, walked. No condition but the reach of a slice. -/
namespace Go.Proofs.YtdlcngmcjidomaaDoor
set_option linter.unusedSimpArgs false
set_option linter.unusedVariables false
open Go.RowKit Go.Shelf

theorem intinfo : (Tryd.prog.info? 3).map (fun i => (i.zero, i.size, i.bytes)) = some (some (.int .i64 0), 1, 8) := by kernel_rfl
/-- Where records end. -/
structure Ends (es : List Nat) (rs : List (List Nat)) : Prop where
  len : es.length = rs.length
  at_ : ∀ i e, es[i]? = some e → e = SegSt.total (rs.take (i + 1))
theorem Ends.nil : Ends [] [] := ⟨rfl, fun i e h => by cases h⟩
theorem Ends.snoc {es : List Nat} {rs : List (List Nat)} (h : Ends es rs) (r : List Nat) : Ends (es ++ [SegSt.total (rs ++ [r])]) (rs ++ [r]) := by
  refine ⟨by rw [List.length_append, List.length_append, h.len]; rfl, fun i e hi => ?_⟩
  rcases Nat.lt_or_ge i es.length with hlt | hge
  · rw [List.getElem?_append_left hlt] at hi
    rw [h.at_ i e hi, List.take_append_of_le_length (by have := h.len; omega)]
  · have h1 := (List.getElem?_eq_some_iff.1 hi).1
    rw [List.length_append] at h1
    have h2 : i = es.length := by simp at h1; omega
    subst h2
    rw [List.getElem?_append_right (Nat.le_refl _), Nat.sub_self] at hi
    cases hi
    rw [List.take_of_length_le (by rw [List.length_append, h.len]; simp)]
theorem need_98 {m : Nat} (h1 : 1 ≤ m) (h2 : m ≤ 98) : 1 ≤ Cl.need m ∧ Cl.need m ≤ 2 := by
  have := Cl.need_pos (n := m) h1 (by omega)
  omega
theorem total_98 {rs : List (List Nat)} (h : ∀ r ∈ rs, 1 ≤ r.length ∧ r.length ≤ 98) : SegSt.total rs ≤ 2 * rs.length := by
  induction rs with
  | nil => exact Nat.le_refl _
  | cons r l ih =>
    rw [SegSt.total_cons, List.length_cons]
    have h1 := h r (List.mem_cons_self ..)
    have h2 := need_98 h1.1 h1.2
    have h3 := ih fun x hx => h x (List.mem_cons_of_mem _ hx)
    omega
theorem BArg.take_ {w : World} {A : Option Addr} {n c k : Nat} {xs : List BEl} (h : BArg w A n c xs) (hk : k ≤ n) : BArg w A k c (xs.take k) := by
  have hl := h.len
  refine ⟨by rw [List.length_take]; omega, fun hk0 => ?_, fun x hx => h.ok x (List.mem_of_mem_take hx)⟩
  obtain ⟨b, o, e, hb, hc⟩ := h.at_ (by omega)
  refine ⟨b, o, e, hb, fun j x hx => hc j x ?_⟩
  rw [List.getElem?_take] at hx
  split at hx
  · exact hx
  · cases hx
theorem torn_up {s : DSt} {k : Nat} {z : List Nat} (hd : s.down = false) (hs : s.stop = 0) (hp : s.pend = []) (hk : k < s.sure.length) (hz : z.length = 64) : ((s.write (k : Int) z).1.up [2]).sure = s.sure.set k [] := by
  have hh : (s.has (k : Nat) && decide (z.length = 64)) = true := by
    have h1 : s.has (k : Nat) = true := decide_eq_true ⟨by omega, by omega⟩
    rw [h1, hz]; rfl
  rw [DSt.write_ok hd hh (SegSt.goes_no hd hs)]
  show DSt.layBy s.sure (s.pend ++ [(((k : Nat) : Int).toNat, z)]) [2] = _
  rw [hp, Int.toNat_natCast]
  rfl
theorem BArg.rd {w : World} {A : Option Addr} {n c : Nat} {xs : List BEl} (h : BArg w A n c xs) (hc : n ≤ c) : Rd w A n c (xs.map BEl.v) :=
  ⟨by rw [List.length_map]; exact h.len, hc, fun hn => by
    obtain ⟨b, o, e, hb, hc⟩ := h.at_ hn
    refine ⟨b, o, e, hb, fun j u hu => ?_⟩
    rw [List.getElem?_map] at hu
    obtain ⟨x, hx, rfl⟩ := Option.map_eq_some_iff.1 hu
    exact hc j x hx⟩
theorem wpList_unguard {P : Program} {ops : Array Oper} {rest : List Oper} {o : Oper} {a : Act} {w : World} {Q : Exit → Act → World → Prop} (hw : Region.wanted o (yielded ops a.tmps) = true) (h : wpList P ops Q ({ o with guard := none } :: rest) a w) : wpList P ops Q (o :: rest) a w := by
  show (if Region.wanted o (yielded ops a.tmps) then _ else _)
  rw [if_pos hw]
  exact h
set_option maxRecDepth 100000 in
set_option maxHeartbeats 12800000 in
theorem segTorn_any (A : Option Addr) (m c : Nat) (l : List Nat) (a : Nat) (w : World) (hr : Ints w .u8 256 A m c l) (hm : m ≤ maxLen) (ha : a < 256) :
    Calls Tryd.prog 4 #[.slice A m c, .int .u8 (a : Int)] w fun e w' => e = .returned (.bool true) ∧ Below w.heap.size w w' := by
  have hmi : (m : Int) ≤ 9223372036854775807 := by unfold maxLen at hm; omega
  have HR := Lib.hid hr
  clear hr hm
  by_cases hbig : 20 < m
  · have q1 : (20 : Int) < (m : Int) := by omega
    have q1d : decide ((20 : Int) < (m : Int)) = true := decide_eq_true q1
    clear hbig
    go_enter Tryd.func4, Tryd.ntmps4
    go_wp2_with fail
    refine (awake7_any _).mono ?_; rintro e w1 ⟨rfl, hb1⟩
    go_wp2_with fail
    refine (we_new (w0 := w) 60 (by omega) (by omega) _ hb1).mono ?_; rintro e w2 ⟨g, rfl, E⟩
    have HB := Lib.hid E.bel
    clear E
    go_wp2_with fail
    go_ret
    exact ⟨rfl, HB.out⟩
  have q1 : ¬ (20 : Int) < (m : Int) := by omega
  have q1d : decide ((20 : Int) < (m : Int)) = false := decide_eq_false q1
  have hm20 : m ≤ 20 := by omega
  obtain ⟨hs1, hu1⟩ := SegSt.new_up (D := 60) (n := 60) (first := 0) (gen := 1) (by omega) (by omega) 0 4294967295
  have hok0 : SegSt.Ok (DSt.new 60) ⟨0, 60, 1, 0, 4294967295⟩ := ⟨by show 1 ≤ 60; omega, by rw [new_length]; show 0 + 60 ≤ 60; omega, Nat.zero_le _, by show 4294967295 ≤ 4294967295; omega, by show 1 < 4294967296; omega⟩
  have HP := Lib.hid (And.intro hs1 (And.intro hu1 hok0))
  clear hs1 hu1 hok0 hbig
  go_enter Tryd.func4, Tryd.ntmps4
  go_wp2_with fail
  refine (awake7_any _).mono ?_; rintro e w1 ⟨rfl, hb1⟩
  go_wp2_with fail
  refine (we_new (w0 := w) 60 (by omega) (by omega) _ hb1).mono ?_; rintro e w2 ⟨g, rfl, E⟩
  clear hb1
  go_wp2_with fail
  clear q1 q1d
  refine (segnew_we E 0 60 1 (by omega) (by rw [new_length]; omega) (by omega)).mono ?_; rintro e w3 ⟨h, rfl, _, E3, _⟩
  clear E
  go_wp2_with fail
  refine (scan_we E3 0 rfl HP.out.2.2).mono ?_
  rintro e w4 ⟨A4, c4, xs4, rfl, E4, hx4⟩
  rw [HP.out.1] at E4 hx4 ⊢
  obtain rfl : xs4 = [] := List.map_eq_nil_iff.1 hx4
  have E5 := ((E4.pick (bl' := [segB h g ⟨0, 60, 1, 0, 0⟩]) (ys' := []) (rd' := []) (.refl _) (.cons _ (.refl _)) (fun _ h => h)).nil (ty := 3) 1 (by decide)).nil (ty := 22) 1 (by decide)
  clear E3 E4 hx4
  go_wp2_with fail
  go_loopw [9, 10, 11, 12] (fun av ev uv iv wr => ∃ (j us : Nat) (A1 : Option Addr) (c1 : Nat) (A2 : Option Addr) (c2 : Nat) (xs : List BEl) (es : List Nat), j ≤ m ∧ iv = .int .i64 (j : Int) ∧ uv = .int .i64 (us : Int) ∧ av = .slice A1 xs.length c1 ∧ ev = .slice A2 es.length c2 ∧
      WE w wr g (DSt.new 60) [segB h g ⟨0, 60, 1, 0, 0⟩] [⟨22, 1, A1, xs.length, c1, xs.map BEl.v⟩, ⟨3, 1, A2, es.length, c2, es.map fun e : Nat => .int .i64 (e : Int)⟩] xs ∧ xs.length = j ∧ Ends es (xs.map (·.l)) ∧ us = SegSt.total (xs.map (·.l)) ∧ ∀ x ∈ xs, 1 ≤ x.n ∧ x.n ≤ 98) (fun _ _ _ iv _ => m - (intOf iv).toNat)
  case atStart => exact ⟨0, 0, none, 0, none, 0, [], [], Nat.zero_le _, rfl, rfl, rfl, rfl, E5, rfl, Ends.nil, rfl, fun _ h => by cases h⟩
  case round =>
    obtain ⟨j, us, A1, c1, A2, c2, xs, es, hj, rfl, rfl, rfl, rfl, E, hxj, hends, hus, hx98⟩ := hrel
    clear E5
    have hus40 : us ≤ 40 := by
      have h1 := total_98 (rs := xs.map (·.l)) (fun r hr => by
        obtain ⟨x, hx, rfl⟩ := List.mem_map.1 hr
        have h2 := (E.rdm hx).len
        have h3 := hx98 x hx
        omega)
      rw [List.length_map] at h1
      omega
    have hel : es.length = j := by rw [hends.len, List.length_map, hxj]
    have HI := Lib.hid (And.intro hends (And.intro hus hx98))
    clear hends hus hx98
    by_cases hlt : j < m
    · have hlt1 : (j : Int) < (m : Int) := by omega
      have hxl20 : xs.length ≤ 20 := by omega
      have hel20 : es.length ≤ 20 := by omega
      have HJ := Lib.hid (And.intro hxj hel)
      clear hxj hel
      have hj0 : (0 : Int) ≤ (j : Int) := by omega
      obtain ⟨ba, o, z, rfl, _, hzx, hz256, hcz⟩ := (HR.out.below E.bel).get hlt
      obtain ⟨z1, hz1⟩ : ∃ z1, z % 98 = z1 := ⟨_, rfl⟩
      obtain ⟨q, hq⟩ : ∃ q, 1 + z1 = q := ⟨_, rfl⟩
      have hzi : (z : Int) % 98 = (z1 : Int) := by omega
      have hqi : 1 + (z1 : Int) = (q : Int) := by omega
      have hq1 : 1 ≤ q := by omega
      have hq2 : q ≤ 98 := by omega
      have hq0 : (0 : Int) < (q : Int) := by omega
      have hjw : IntKind.u8.wrap (j : Int) = (j : Int) := by rw [IntKind.wrap_u8]; omega
      have hqb : q ≤ 281474976710656 := by omega
      have hjb : j < 256 := by omega
      have HE := Lib.hid E
      clear E hzx hq hz1
      go_upto_region 17 with (at_make; refine wpList_mkB rfl _ _ rfl q rfl rfl rfl rfl hqb wr.heap.size (Nat.le_refl _) ?_; intro w5 ho5 hg5)
      obtain ⟨B5, hB5⟩ : ∃ B, wr.heap.size = B := ⟨_, rfl⟩
      rw [hB5] at ho5 ⊢
      obtain ⟨x5, hx5, e5, _, _, _, _, hc5, hf5⟩ := ho5.get hq1
      cases e5
      have ho6 := ho5.stored 0 j hjb
      have HO := Lib.hid (And.intro ho6 (And.intro hg5 hB5))
      clear ho5 ho6 hg5 hB5
      go_upto_region 18 with (fail)
      have hb6 : Below wr.heap.size wr (w5.setCell ⟨B5, 0, none⟩ (.int .u8 (j : Int))) := ((Below.refl wr.heap.size wr).grown HO.out.2.1 (Nat.le_refl _) (fun k e => by cases e)).setCell (p := ⟨B5, 0, none⟩) (by rw [HO.out.2.2]; exact Nat.le_refl _) _
      have ho6 := HO.out.1
      have E7 := (HE.out.below hb6).see (FarB.of_own ho6)
      have hi6 := ho6.ints
      clear hb6 hc5 hf5
      generalize World.setCell _ _ _ = w6 at *
      obtain ⟨br, hbr⟩ : ∃ br, (List.replicate q 0).set 0 j = br := ⟨_, rfl⟩
      rw [hbr] at E7 hi6 ho6
      have hbl : br.length = q := by rw [← hbr]; simp
      have HB := Lib.hid hbl
      clear HO ho6 hbr hbl HE hcz hqi hzi
      go_wp2_with fail
      refine (rneed_any (q : Int) _ (by omega) (by omega)).mono ?_; rintro e w7 ⟨rfl, rfl⟩
      rw [Int.toNat_natCast]
      obtain ⟨nd, hnd⟩ : ∃ nd, Cl.need q = nd := ⟨_, rfl⟩
      have hnd1 := need_98 hq1 hq2
      rw [hnd] at hnd1 ⊢
      obtain ⟨un, hun⟩ : ∃ un, us + nd = un := ⟨_, rfl⟩
      have huni : (us : Int) + (nd : Int) = (un : Int) := by omega
      have hun42 : un ≤ 42 := by omega
      have hrow := (E7.row 0 rfl).alloc (.cells #[.slice (some ⟨B5, 0, none⟩) q q] 22)
      dsimp only at hrow
      have hcs := cells_new w6 #[.slice (some ⟨B5, 0, none⟩) q q] 22 (g := w6.heap.size) rfl
      have hbs2 : w.heap.size ≤ (w6.alloc (.cells #[.slice (some ⟨B5, 0, none⟩) q q] 22)).heap.size := by rw [World.size_alloc]; have := E7.size; omega
      have HE7 := Lib.hid (And.intro (E7.alloc (.cells #[.slice (some ⟨B5, 0, none⟩) q q] 22)) (And.intro hnd hun))
      clear E7 hi6 hnd hun hnd1
      go_upto_region 20 with (at_builtin; refine wpList_appR _ rfl (.tmp 68) (.tmp 70) 32 rfl 22 (.slice none 0 0) 1 24 Tryd.underlying32 binfo rfl (by omega) (by omega) rfl hrow (ad := ⟨w6.heap.size, 0, none⟩) (m := 1) (c' := 1) [.slice (some ⟨B5, 0, none⟩) q q] rfl rfl hcs (by intro u hu; rw [List.mem_singleton] at hu; subst hu; rfl) (by omega) hbs2 ?_; intro A10 c10 w10 hown hg10 hA10)
      have E11 := HE7.out.1.app2 (x := ⟨some ⟨B5, 0, none⟩, q, q, br⟩) hown hg10 hA10
      clear hrow hcs hown hg10 hA10 hbs2
      have hrow := (E11.row 1 rfl).alloc (.cells #[.int .i64 (un : Int)] 3)
      dsimp only at hrow
      have hcs := cells_new w10 #[.int .i64 (un : Int)] 3 (g := w10.heap.size) rfl
      have hbs2 : w.heap.size ≤ (w10.alloc (.cells #[.int .i64 (un : Int)] 3)).heap.size := by rw [World.size_alloc]; have := E11.size; omega
      have HE11 := Lib.hid (E11.alloc (.cells #[.int .i64 (un : Int)] 3))
      clear E11
      go_upto_region 15 with (at_builtin; refine wpList_appR _ rfl (.tmp 72) (.tmp 74) 40 rfl 3 (.int .i64 0) 1 8 Tryd.underlying40 intinfo rfl (by omega) (by omega) rfl hrow (ad := ⟨w10.heap.size, 0, none⟩) (m := 1) (c' := 1) [.int .i64 (un : Int)] rfl rfl hcs (by intro u hu; rw [List.mem_singleton] at hu; subst hu; rfl) (by omega) hbs2 ?_; intro A12 c12 w12 hown hg12 hA12)
      have E13 := HE11.out.app 1 rfl hown hg12 hA12
      clear hrow hcs hown hg12 hA12 HE11 hbs2
      have hl13 : (es ++ [un]).length = es.length + 1 := by rw [List.length_append]; rfl
      have E14 : WE w w12 g (DSt.new 60) [segB h g ⟨0, 60, 1, 0, 0⟩] [⟨22, 1, A10, (xs ++ [(⟨some ⟨B5, 0, none⟩, q, q, br⟩ : BEl)]).length, c10, (xs ++ [(⟨some ⟨B5, 0, none⟩, q, q, br⟩ : BEl)]).map BEl.v⟩, ⟨3, 1, A12, (es ++ [un]).length, c12, (es ++ [un]).map fun e : Nat => .int .i64 (e : Int)⟩] (xs ++ [(⟨some ⟨B5, 0, none⟩, q, q, br⟩ : BEl)]) := by
        rw [hl13, List.map_append (l₁ := es)]
        refine E13.pick (.refl _) (.refl _) (fun y hy => ?_)
        simp only [List.mem_append, List.mem_cons, List.not_mem_nil, or_false] at hy ⊢
        rcases hy with h | h
        · exact .inr h
        · exact .inl h
      clear E13
      have htot : un = SegSt.total ((xs ++ [(⟨some ⟨B5, 0, none⟩, q, q, br⟩ : BEl)]).map (·.l)) := by
        rw [List.map_append, List.map_singleton, total_snoc, ← HI.out.2.1, HB.out, HE7.out.2.1, HE7.out.2.2]
      have hends2 : Ends (es ++ [un]) ((xs ++ [(⟨some ⟨B5, 0, none⟩, q, q, br⟩ : BEl)]).map (·.l)) := by
        have h := HI.out.1.snoc br
        rw [htot, List.map_append, List.map_singleton]
        exact h
      have hx2 : ∀ x ∈ xs ++ [(⟨some ⟨B5, 0, none⟩, q, q, br⟩ : BEl)], 1 ≤ x.n ∧ x.n ≤ 98 := fun x hx => by
        rcases List.mem_append.1 hx with hx | hx
        · exact HI.out.2.2 x hx
        · rw [List.mem_singleton] at hx; subst hx; exact ⟨hq1, hq2⟩
      have hxl2 : (xs ++ [(⟨some ⟨B5, 0, none⟩, q, q, br⟩ : BEl)]).length = j + 1 := by rw [List.length_append, HJ.out.1]; rfl
      have hll : xs.length + 1 = (xs ++ [(⟨some ⟨B5, 0, none⟩, q, q, br⟩ : BEl)]).length := by rw [List.length_append]; rfl
      rw [hll, ← hl13]
      have HF := Lib.hid (And.intro E14 (And.intro hxl2 (And.intro hends2 (And.intro htot hx2))))
      clear E14 hl13 htot hends2 hx2 hxl2 hll HI HE7 huni
      go_wp2_with fail
      go_roundw
      case rel => exact ⟨j + 1, un, A10, c10, A12, c12, _, _, by omega, by go_num, rfl, rfl, rfl, HF.out.1, HF.out.2.1, HF.out.2.2.1, HF.out.2.2.2.1, HF.out.2.2.2.2⟩
      case measure => simp [intOf]; omega
    · obtain rfl : j = m := by omega
      have hlt1 : ¬ (j : Int) < (j : Int) := by omega
      have hlt1d : decide ((j : Int) < (j : Int)) = false := decide_eq_false hlt1
      have hR := barg_of (E.row 0 rfl) (fun x hx => E.rdm hx)
      dsimp only at hR
      obtain ⟨rs, hrs⟩ : ∃ rs, xs.map (·.l) = rs := ⟨_, rfl⟩
      have hrl : rs.length = j := by rw [← hrs, List.length_map, hxj]
      have hr98 : ∀ r ∈ rs, 1 ≤ r.length ∧ r.length ≤ 98 := fun r hr => by
        rw [← hrs] at hr
        obtain ⟨x, hx, rfl⟩ := List.mem_map.1 hr
        have h2 := (E.rdm hx).len
        have h3 := HI.out.2.2 x hx
        omega
      have hrb : ∀ r ∈ rs, ∀ c ∈ r, c < 256 := fun r hr => by
        rw [← hrs] at hr
        obtain ⟨x, hx, rfl⟩ := List.mem_map.1 hr
        exact (E.rdm hx).lt
      have hgd : SegSt.good rs = true := SegSt.good_iff.2 fun r hr => by have h1 := hr98 r hr; rw [ne_eq, Cl.need_iff]; omega
      have ht40 := total_98 hr98
      have hends := HI.out.1
      rw [hrs] at hends
      obtain ⟨z1, z2, z3, z4⟩ := HP.out.2.1.add hgd (by show 0 + _ ≤ 60; omega) (by show 0 + _ ≤ 4294967295; omega) hrb
      have hln : (SegSt.add (DSt.new 60) ⟨0, 60, 1, 0, 0⟩ rs).1.sure.length = 60 := (SegSt.kept_add HP.out.2.1.kept hrb).2.2.2.2.1.trans (new_length 60)
      have hA := add_we E 0 rfl (segOk_up HP.out.2.1 (by show 1 ≤ 60; omega)) hR (by omega) (fun x hx => by have := HI.out.2.2 x hx; omega) (by show 0 ≤ _; omega) (by show 0 ≤ _; omega)
      rw [hrs] at hA
      generalize SegSt.add (DSt.new 60) ⟨0, 60, 1, 0, 0⟩ rs = AD at *
      obtain ⟨s1, t1, cd1⟩ := AD
      dsimp only at z1 z2 z3 z4 hA hln
      subst z1 z2
      have HA := Lib.hid hA
      have HZ := Lib.hid (And.intro z3 (And.intro z4 (And.intro hr98 (And.intro hrb (And.intro hends (And.intro hrs (And.intro HI.out.2.2 (And.intro ht40 hln))))))))
      have HJ := Lib.hid (And.intro hxj (And.intro hel hrl))
      clear hA hln z3 z4 hr98 hrb hends hrs hgd ht40 hR E HI hxj hel hrl
      go_wp2_with fail
      refine HA.out.mono ?_; rintro e w5 ⟨rfl, E⟩
      have E := E.setEq (bl' := [segB h g ⟨0, 60, 1, 0 + SegSt.total rs, 0 + rs.length⟩]) rfl
      obtain ⟨tt, htt⟩ : ∃ tt, 0 + SegSt.total rs = tt := ⟨_, rfl⟩
      obtain ⟨tl, htl⟩ : ∃ tl, 0 + rs.length = tl := ⟨_, rfl⟩
      have hU1 := HZ.out.1
      rw [htt, htl] at E hU1
      have htt40 : tt ≤ 40 := by have := HZ.out.2.2.2.2.2.2.2.1; have := HJ.out.2.2; omega
      have htl20 : tl ≤ 20 := by have := HJ.out.2.2; omega
      have HU1 := Lib.hid hU1
      clear hU1 HA htt htl
      obtain ⟨kk, hkk⟩ : ∃ kk, a % 60 = kk := ⟨_, rfl⟩
      have hki : (a : Int) % 60 = (kk : Int) := by omega
      have hk60 : kk < 60 := by omega
      clear hkk
      have HE := Lib.hid E
      have HB1 := Lib.hid E.bytes
      clear E
      go_wp2_with (at_make; refine wpList_mkB rfl _ _ rfl 64 rfl rfl rfl rfl (by omega) w5.heap.size (Nat.le_refl _) ?_; intro w6 ho6 hg6)
      have hb6 : Below w5.heap.size w5 w6 := (Below.refl w5.heap.size w5).grown hg6 (Nat.le_refl _) (fun k e => by cases e)
      have E := HE.out.below hb6
      have hbg1 : s1.begun ≤ 100 := by have h : s1.begun ≤ 0 + 60 + 1 := HZ.out.2.1; omega
      have hpe1 := HU1.out.kept.pend
      have hlen1 := HZ.out.2.2.2.2.2.2.2.2
      refine (dwrite_we E (kk : Int) ho6 (by omega) (by omega) (by rw [hpe1]; show (0 : Nat) < _; omega)).mono ?_; rintro e w7 ⟨rfl, E7⟩
      generalize (s1.write (kk : Int) (List.replicate 64 0)).2 = cw at *
      clear HE E hb6 ho6 hg6 hki
      go_wp2_with fail
      refine (dup_we (E7.alloc (.cells #[.int .u8 ((2 : Nat) : Int)] 5)) (int1_blk (Blk.new w7 5 #[.int .u8 ((2 : Nat) : Int)]) (by omega) (Nat.le_refl 1)) (by omega)).mono ?_
      rintro e w8 ⟨⟨vu, rfl⟩, E8⟩
      have hsu := torn_up (k := kk) HU1.out.kept.down HU1.out.stop hpe1 (by omega) (show (List.replicate 64 0).length = 64 by simp)
      obtain ⟨s3, hs3⟩ : ∃ s3, (s1.write (kk : Int) (List.replicate 64 0)).1.up [2] = s3 := ⟨_, rfl⟩
      have hd3 : s3.down = false := by rw [← hs3]; rfl
      have hp3 : s3.pend = [] := by rw [← hs3]; rfl
      have hst3 : s3.stop = 0 := by rw [← hs3]; rfl
      have hbg3 : s3.begun = 0 := by rw [← hs3]; rfl
      rw [hs3] at E8 hsu
      have H3 := Lib.hid (And.intro hsu (And.intro hd3 (And.intro hp3 (And.intro hst3 (And.intro hbg3 hlen1)))))
      clear hs3 hsu hd3 hp3 hst3 hbg3 E7 hlen1 hpe1 hbg1
      have hbyt1 : True := trivial
      have E := E8
      clear E8
      have hel20 : es.length ≤ 20 := by have := HJ.out.2.1; omega
      have HEE := Lib.hid E
      clear E
      go_wp2_with fail
      go_loopw [15] (fun nv wr => ∃ n : Nat, n ≤ es.length ∧ nv = .int .i64 (n : Int) ∧ wr = w8 ∧ SegSt.total (rs.take n) ≤ kk) (fun nv _ => es.length - (intOf nv).toNat)
      case atStart => exact ⟨0, Nat.zero_le _, rfl, rfl, Nat.zero_le _⟩
      case round =>
        obtain ⟨n, hn, rfl, rfl, hnk⟩ := hrel
        have HNK := Lib.hid hnk
        clear hnk
        by_cases hgo : n < es.length ∧ SegSt.total (rs.take (n + 1)) ≤ kk
        · obtain ⟨h1, h2⟩ := hgo
          have hrow := HEE.out.row 1 rfl
          dsimp only at hrow
          obtain ⟨e, he⟩ : ∃ e, es[n]? = some e := ⟨_, List.getElem?_eq_getElem h1⟩
          have hee := HZ.out.2.2.2.2.1.at_ n e he
          obtain ⟨ge, hge, _, _, hce, _⟩ := hrow.get (show (es.map fun e : Nat => Value.int .i64 (e : Int))[n]? = some (.int .i64 (e : Int)) by rw [List.getElem?_map, he]; rfl)
          subst hge
          have hlt1 : (n : Int) < (es.length : Int) := by omega
          have hle1 : (e : Int) ≤ (kk : Int) := by rw [hee]; omega
          have hle1d : decide ((e : Int) ≤ (kk : Int)) = true := decide_eq_true hle1
          have hn0 : (0 : Int) ≤ (n : Int) := by omega
          have HL := Lib.hid h2
          clear hrow he hee h2
          go_wp2_with fail
          go_roundw
          case rel => exact ⟨n + 1, by omega, by go_num, trivial, HL.out⟩
          case measure => simp [intOf]; omega
        · have hn2 : n < rs.length → kk < SegSt.total (rs.take (n + 1)) := fun h1 => by
            rcases Nat.lt_or_ge kk (SegSt.total (rs.take (n + 1))) with h2 | h2
            · exact h2
            · exact absurd ⟨by have := HZ.out.2.2.2.2.1.len; omega, h2⟩ hgo
          have HN2 := Lib.hid (And.intro hn2 HNK.out)
          clear hn2 HNK
          go_upto_region 27 with (fail)
          go_cut [101] (fun s101 wx => s101 = .bool false ∧ wx = wr)
          case first =>
            by_cases h1 : n < es.length
            · have hrow := HEE.out.row 1 rfl
              dsimp only at hrow
              obtain ⟨e, he⟩ : ∃ e, es[n]? = some e := ⟨_, List.getElem?_eq_getElem h1⟩
              have hee := HZ.out.2.2.2.2.1.at_ n e he
              obtain ⟨ge, hge, _, _, hce, _⟩ := hrow.get (show (es.map fun e : Nat => Value.int .i64 (e : Int))[n]? = some (.int .i64 (e : Int)) by rw [List.getElem?_map, he]; rfl)
              subst hge
              have hlt1 : (n : Int) < (es.length : Int) := by omega
              have hle1 : ¬ (e : Int) ≤ (kk : Int) := by
                have h2 := HN2.out.1 (by have := HZ.out.2.2.2.2.1.len; omega)
                rw [← hee] at h2
                omega
              have hle1d : decide ((e : Int) ≤ (kk : Int)) = false := decide_eq_false hle1
              have hn0 : (0 : Int) ≤ (n : Int) := by omega
              clear hrow he hee hgo h1
              go_wp2_with fail
              go_meet
              exact ⟨rfl, rfl⟩
            · have hlt1 : ¬ (n : Int) < (es.length : Int) := by omega
              have hlt1d : decide ((n : Int) < (es.length : Int)) = false := decide_eq_false hlt1
              clear hgo h1
              go_wp2_with fail
              go_meet
              exact ⟨rfl, rfl⟩
          case rest =>
            obtain ⟨rfl, rfl⟩ := hcut
            obtain ⟨k1, k2, k3, k4, k5, k6⟩ := SegSt.torn_kept (s := s1) (s3 := s3) (t := ⟨0, 60, 1, tt, tl⟩) (rs := rs) (k := kk) (n := n) (by have h := HU1.out; rwa [List.nil_append] at h) rfl (by rw [H3.out.2.2.2.2.2]; omega) H3.out.1 H3.out.2.1 H3.out.2.2.1 H3.out.2.2.2.1 HB1.out (by have := HZ.out.2.2.2.2.1.len; omega) HN2.out.2 HN2.out.1
            have hok3 : SegSt.Ok s3 ⟨0, 60, 1, tt, tl⟩ := ⟨by show 1 ≤ 60; omega, by show 0 + 60 ≤ s3.sure.length; rw [H3.out.1, List.length_set, H3.out.2.2.2.2.2]; omega, by show tt ≤ 60; omega, by show tl ≤ 4294967295; omega, by show 1 < 4294967296; omega⟩
            have hsc := scan_we HEE.out 0 rfl hok3
            unfold ScanPost at hsc
            rw [k1_ k1] at hsc
            generalize (SegSt.scan s3 ⟨0, 60, 1, tt, tl⟩).1 = t4 at *
            dsimp only at hsc
            obtain ⟨a4, b4, g4, f4, p4⟩ := t4
            dsimp only at k3 k4 k5 k6
            obtain rfl : a4 = 0 := k3
            obtain rfl : b4 = 60 := k4
            obtain rfl : g4 = 1 := k5
            have hf4 : f4 = SegSt.total (rs.take n) := SegSt.fin_all k2.kept
            have hf40 : f4 ≤ 40 := by
              have h1 := SegSt.total_take_mono rs (i := n) (j := rs.length) (by have := HZ.out.2.2.2.2.1.len; omega)
              rw [List.take_length] at h1
              have h2 := HZ.out.2.2.2.2.2.2.2.1
              have := HJ.out.2.2
              omega
            have hS := Lib.hid hsc
            have HK := Lib.hid k2
            have hj3 := HJ.out.2.1
            have hp4 : p4 ≤ 20 := by omega
            clear hj3
            clear hsc k1 k2 k6 hok3 HEE hf4 hgo
            go_wp2_with fail
            refine hS.out.mono ?_
            rintro e w9 ⟨A5, c5, xs5, rfl, E9, hx5⟩
            have hl5 : xs5.length = n := by
              have := congrArg List.length hx5
              rw [List.length_map, List.length_take] at this
              have := HZ.out.2.2.2.2.1.len
              omega
            have h985 : ∀ x ∈ xs5, x.n ≤ 98 := fun x hx => by
              have h1 := (E9.rdm (x := x) (List.mem_append_left _ hx)).len
              have h2 : x.l ∈ xs5.map (·.l) := List.mem_map.2 ⟨x, hx, rfl⟩
              rw [hx5] at h2
              have h3 := HZ.out.2.2.1 _ (List.mem_of_mem_take h2)
              omega
            rw [hl5] at E9 ⊢
            have E10 := (E9.alloc (.cells #[.int .u8 ((9 : Nat) : Int)] 5)).alloc (.cells #[.slice (some ⟨w9.heap.size, 0, none⟩) 1 1] 22)
            have hok4 := segOk_up HK.out (by show 1 ≤ 60; omega)
            have hgd9 : SegSt.good [[9]] = true := rfl
            obtain ⟨z1, z2, z3, z4⟩ := HK.out.add hgd9 (by show f4 + 1 ≤ 60; omega) (by show p4 + 1 ≤ 4294967295; omega) (fun r hr c hc => by
              rw [List.mem_singleton] at hr; subst hr
              rw [List.mem_singleton] at hc; omega)
            have hA := add_we E10 0 rfl hok4 (lit1 w9 (a := 9) (by omega)) (by omega) (fun x hx => by rw [List.mem_singleton] at hx; subst hx; show (1 : Nat) ≤ _; decide) (by rw [H3.out.2.2.2.2.1]; exact Nat.zero_le _) (by rw [H3.out.2.2.1]; exact Nat.zero_le _)
            simp only [List.map_cons, List.map_nil] at hA
            generalize SegSt.add s3 ⟨0, 60, 1, f4, p4⟩ [[9]] = AD at *
            obtain ⟨s5, t5, cd5⟩ := AD
            dsimp only at z1 z2 z3 z4 hA
            subst z1 z2
            have HA := Lib.hid hA
            have HX5 := Lib.hid (And.intro hx5 h985)
            clear hA E9 E10 hok4 hgd9 hS HK hx5 h985
            go_wp2_with fail
            refine HA.out.mono ?_; rintro e w10 ⟨rfl, E11⟩
            obtain ⟨j1, j2, _, _, _⟩ := SegSt.kept_scan z3.kept E11.bytes
            have hok5 := segOk_up z3 (by show 1 ≤ 60; omega)
            have hsc := scan_we E11 0 rfl hok5
            unfold ScanPost at hsc
            rw [k1_ j1] at hsc
            generalize (SegSt.scan s5 _).1 = t6 at hsc
            dsimp only at hsc
            have hS := Lib.hid hsc
            clear hsc j1 j2 hok5 E11 HA z3 z4
            go_wp2_with fail
            refine hS.out.mono ?_
            rintro e w11 ⟨A6, c6, xs6, rfl, E12, hx6⟩
            have hl6 : xs6.length = n + 1 := by
              have := congrArg List.length hx6
              rw [List.length_map, List.length_append, List.length_take] at this
              simp at this
              have := HZ.out.2.2.2.2.1.len
              omega
            have h986 : ∀ x ∈ xs6, x.n ≤ 98 := fun x hx => by
              have h1 := (E12.rdm (x := x) (List.mem_append_left _ hx)).len
              have h2 : x.l ∈ xs6.map (·.l) := List.mem_map.2 ⟨x, hx, rfl⟩
              rw [hx6] at h2
              rcases List.mem_append.1 h2 with h2 | h2
              · have h3 := HZ.out.2.2.1 _ (List.mem_of_mem_take h2)
                omega
              · rw [List.mem_singleton] at h2
                rw [h2] at h1
                have h1 : 1 = x.n := h1
                omega
            rw [hl6] at E12 ⊢
            have hI6 : BImg w11 A6 (n + 1) c6 (rs.take n ++ [[9]]) := by
              have h := (barg_of (E12.row 0 rfl) (fun x hx => E12.rdm (List.mem_append_left _ hx))).img (by show n + 1 ≤ 140737488355328; omega) (fun x hx => by have := h986 x hx; omega)
              rwa [hx6] at h
            have hI5 : BImg w11 A5 n c5 (rs.take n) := by
              have h := (barg_of (E12.row 1 rfl) (fun x hx => E12.rdm (List.mem_append_right _ (List.mem_append_left _ hx)))).img (by show n ≤ 140737488355328; omega) (fun x hx => by have := HX5.out.2 x hx; omega)
              rwa [HX5.out.1] at h
            have hB1 := (barg_of (E12.row 2 rfl) (fun x hx => E12.rdm (List.mem_append_right _ (List.mem_append_right _ hx))))
            dsimp only at hB1
            have hB2 := hB1.take_ (k := n) (by have := HJ.out.1; have := HJ.out.2.1; omega)
            have hI1 : BImg w11 A1 n c1 (rs.take n) := by
              have h := hB2.img (by omega) (fun x hx => by have := HZ.out.2.2.2.2.2.2.1 x (List.mem_of_mem_take hx); omega)
              rwa [List.map_take, HZ.out.2.2.2.2.2.1] at h
            have hcap : n ≤ c1 := by have h1 := (E12.row 2 rfl).cap; dsimp only at h1; have := HJ.out.1; have := HJ.out.2.1; omega
            have hci : (n : Int) ≤ (c1 : Int) := by omega
            have hn0 : (0 : Int) ≤ (n : Int) := by omega
            have HI6 := Lib.hid (And.intro hI6 (And.intro hI5 (And.intro hI1 (And.intro hB2 E12))))
            have HX6 := Lib.hid (And.intro hx6 h986)
            clear hI6 hI5 hI1 hB1 hB2 E12 h986 hx6 hS HX5
            go_wp2_with fail
            refine (alike_same HI6.out.2.1 HI6.out.2.2.1).mono ?_; rintro e w12 ⟨⟨q12, hw12⟩, rfl⟩
            have hb12 : Below w11.heap.size w11 w12 := by rw [hw12]; exact ((Moved.refl w11 []).drewN q12).below0
            have HE13 := Lib.hid (HI6.out.2.2.2.2.below hb12)
            clear HI6 hb12 hw12
            have EA := HE13.out.fresh ((Below.refl w12.heap.size w12).alloc (Nat.le_refl _) (.cells #[] 22)) (OwnR.empty (base := w12.heap.size) 22 1 rfl (Nat.le_refl _)) (by decide)
            have hOwn : Own (w12.alloc (.cells #[] 22)) w.heap.size 22 (some ⟨w12.heap.size, 0, none⟩) 0 0 [] := ⟨(EA.row 0 rfl).row⟩
            have hB3 := barg_of (EA.row 3 rfl) (fun x hx => EA.rdm (List.mem_append_right _ (List.mem_append_right _ hx)))
            dsimp only at hB3
            have hRd := (hB3.take_ (k := n) (by have := HJ.out.1; have := HJ.out.2.1; omega)).rd hcap
            have hbsA := EA.size
            obtain ⟨ps, hps⟩ : ∃ ps, xs.take n = ps := ⟨_, rfl⟩
            rw [hps] at hRd
            have hpl : ps.length = n := by have := hRd.len; rwa [List.length_map] at this
            have HEA := Lib.hid (And.intro EA (And.intro hps (And.intro hpl (And.intro hOwn (And.intro hRd hbsA)))))
            clear EA hB3 hps hpl hOwn hRd hbsA
            go_wp2_with first | (at_builtin; refine wpList_unguard rfl ?_; refine wpList_app _ rfl (.tmp 137) (.tmp 140) 32 rfl 22 (.slice none 0 0) 24 Tryd.underlying32 binfo rfl (by omega) w.heap.size (some ⟨w12.heap.size, 0, none⟩) 0 0 [] rfl HEA.out.2.2.2.1 A1 n c1 _ rfl HEA.out.2.2.2.2.1 (fun u hu => by obtain ⟨x, _, rfl⟩ := List.mem_map.1 hu; rfl) (by omega) HEA.out.2.2.2.2.2 ?_; intro A14 c14 w14 ho14 hg14 hA14; have E15 := HEA.out.1.app 0 rfl ⟨ho14.row⟩ hg14 hA14; simp only [Nat.zero_add, List.nil_append] at E15; have hbk := Blk.new w14 5 #[.int .u8 ((9 : Nat) : Int)]; have hf : FarB (w14.alloc (.cells #[.int .u8 ((9 : Nat) : Int)] 5)) w.heap.size (⟨some ⟨w14.heap.size, 0, none⟩, 1, 1, [9]⟩ : BEl) := ⟨int1_blk hbk (by omega) (Nat.le_refl 1), fun hn ad e => by cases e; exact .inr ⟨_, hbk⟩⟩; have E17 := ((E15.alloc (.cells #[.int .u8 ((9 : Nat) : Int)] 5)).see hf).alloc (.cells #[.slice (some ⟨w14.heap.size, 0, none⟩) 1 1] 22); have hcs := cells_new (w14.alloc (.cells #[.int .u8 ((9 : Nat) : Int)] 5)) #[.slice (some ⟨w14.heap.size, 0, none⟩) 1 1] 22 (g := w14.heap.size + 1) (by rw [World.size_alloc]); have HE17 := Lib.hid (And.intro E17 hcs); clear E15 hbk hf E17 hcs ho14 hg14 hA14) | (at_builtin; refine wpList_unguard rfl ?_; refine wpList_appR _ rfl (.tmp 141) (.tmp 143) 32 rfl 22 (.slice none 0 0) 1 24 Tryd.underlying32 binfo rfl (by omega) (by omega) rfl (HE17.out.1.row 0 rfl) (ad := ⟨w14.heap.size + 1, 0, none⟩) (m := 1) (c' := 1) [.slice (some ⟨w14.heap.size, 0, none⟩) 1 1] rfl rfl HE17.out.2 (by intro u hu; rw [List.mem_singleton] at hu; subst hu; rfl) (by omega) HE17.out.1.size ?_; intro A16 c16 w16 ho16 hg16 hA16; have E18 := HE17.out.1.app 0 rfl ho16 hg16 hA16; have HE18 := Lib.hid E18; clear E18 ho16 hg16 hA16)
            have E18 := HE18.out
            have hR16 := barg_of (xs := ps ++ [(⟨some ⟨w14.heap.size, 0, none⟩, 1, 1, [9]⟩ : BEl)]) (A := A16) (n := n + 1) (c := c16) (base := w.heap.size) (by have h := E18.row 0 rfl; rw [List.map_append]; exact h) (fun x hx => by
              rcases List.mem_append.1 hx with hx | hx
              · rw [← HEA.out.2.1] at hx
                exact E18.rdm (List.mem_cons_of_mem _ (List.mem_append_right _ (List.mem_append_right _ (List.mem_of_mem_take hx))))
              · rw [List.mem_singleton] at hx; subst hx
                exact E18.rdm (List.mem_cons_self ..))
            have hI16 := hR16.img (by omega) (fun x hx => by
              rcases List.mem_append.1 hx with hx | hx
              · rw [← HEA.out.2.1] at hx
                have := HZ.out.2.2.2.2.2.2.1 x (List.mem_of_mem_take hx)
                omega
              · rw [List.mem_singleton] at hx; subst hx
                show (1 : Nat) ≤ _
                omega)
            have hI6 := (barg_of (xs := xs6) (A := A6) (n := n + 1) (c := c6) (base := w.heap.size) (E18.row 1 rfl) (fun x hx => E18.rdm (List.mem_cons_of_mem _ (List.mem_append_left _ hx)))).img (by omega) (fun x hx => by have := HX6.out.2 x hx; omega)
            have hll : (ps ++ [(⟨some ⟨w14.heap.size, 0, none⟩, 1, 1, [9]⟩ : BEl)]).map (·.l) = rs.take n ++ [[9]] := by
              rw [List.map_append, ← HEA.out.2.1, List.map_take, HZ.out.2.2.2.2.2.1]; rfl
            rw [hll] at hI16
            rw [HX6.out.1] at hI6
            have HB := Lib.hid (And.intro E18.bel (And.intro hI16 hI6))
            clear E18 hR16 hI16 hI6 hll HE18 HE17
            refine (alike_same HB.out.2.2 HB.out.2.1).mono ?_; rintro e w17 ⟨⟨q17, rfl⟩, rfl⟩
            go_wp2_with fail
            go_ret
            exact ⟨rfl, below_step HB.out.1 (((Moved.refl w16 []).drewN q17).below0) HB.out.1.size⟩
end Go.Proofs.YtdlcngmcjidomaaDoor

/- The law SegKeeps, walked. No condition but the reach of its slices. -/
namespace Go.Proofs.YtdlcngmcjidomaaDoor
set_option linter.unusedSimpArgs false
set_option linter.unusedVariables false
open Go.RowKit Go.Shelf

section
variable {P : Program} {w : World}
theorem step_app {ops : Array Oper} {o : Oper} {a : Act} {K : Act → World → Prop} {Q : Exit → Act → World → Prop} {E : Prop} (hgd : o.guard = none) (s x : Operand) (t : TypeId)
    (ho : o.op = .call { callee := .builtin .append, args := #[s, x], argTypes := #[t, t] })
    (e : TypeId) (z : Value) (bytes : Nat) (ht : P.underlying t = some (.slice e)) (hinfo : (P.info? e).map (fun i => (i.zero, i.size, i.bytes)) = some (some z, 1, bytes)) (hz1 : z.cells.size = 1) (hby : 0 < bytes)
    (base : Nat) (A : Option Addr) (n c : Nat) (xs : List Value) (hs : a.eval s = .slice A n c) (hown : Own w base e A n c xs)
    (A' : Option Addr) (m c' : Nat) (news : List Value) (hx : a.eval x = .slice A' m c') (hr : Rd w A' m c' news) (h1 : ∀ u ∈ news, u.oneCell' = true)
    (hbytes : (n + m) * bytes ≤ 140737488355328) (hbase : base ≤ w.heap.size)
    (h : ∀ A2 c2 w', Own w' base e A2 (n + m) c2 (xs ++ news) → w.grownBy w' (A.map (·.block)) → (A2 = A ∨ A2 = some ⟨w.heap.size, 0, none⟩) → K (a.put o.dst (.slice A2 (n + m) c2)) w') :
    if Region.wanted o (yielded ops a.tmps) = true then Oper.wp P o a w K Q else E := by
  have hw : Region.wanted o (yielded ops a.tmps) = true := by simp [Region.wanted, hgd]
  rw [if_pos hw]
  obtain ⟨A2, c2, w', hrun, h2, h3, h4⟩ := run_app (P := P) w base t o.type e z bytes ht hinfo hz1 A n c xs hown A' m c' news hr h1 hbytes hby hbase
  unfold Oper.wp execOp
  simp only [ho, resolve, invoke, builtin, Sem.run_bind, Sem.run_pure, Result.andThen_ok, List.map_toArray, List.map_cons, List.map_nil, hs, hx, hrun]
  exact h A2 c2 w' h2 h3 h4
end
theorem Rd.below_ {w w' : World} {A : Option Addr} {n c : Nat} {xs : List Value} (h : Rd w A n c xs) (hb : Below w.heap.size w w') : Rd w' A n c xs :=
  ⟨h.len, h.cap, fun hn => by
    obtain ⟨b, o, e, hbl, hc⟩ := h.at_ hn
    have := hb.size
    exact ⟨b, o, e, by omega, fun j u hu => (hb.cell (p := ⟨b, _, none⟩) hbl).trans (hc j u hu)⟩⟩
/-- A step's value. -/
def act7V (x : Act7) : Array Value := #[.int .i64 x.k, .slice x.R x.rn x.rc, .int .u32 (x.gen : Int), .int .i64 x.i, .slice x.A x.n x.cp]
theorem fewB_lt {xs : List BEl} (h : fewB xs = true) : xs.length < 40 := by
  unfold fewB at h
  simp only [Bool.and_eq_true, decide_eq_true_iff] at h
  exact h.1

section
variable {s : DSt} {t : SegSt} {all tried : List (List Nat)}
theorem SegSt.KInv.ok_ (h : SegSt.KInv s t all tried) : t.Ok s := ⟨by rw [h.n]; omega, by rw [h.n, h.first, h.len]; omega, by rw [h.n]; exact h.ok.1, h.ok.2, by rw [h.gen]; omega⟩
theorem SegSt.KInv.oku (h : SegSt.KInv s t all tried) (cs : List Nat) : t.Ok (s.up cs) := ⟨by rw [h.n]; omega, by rw [h.n, h.first, show (s.up cs).sure.length = 42 from (DSt.len_layBy _ _ _).trans h.len]; omega, by rw [h.n]; exact h.ok.1, h.ok.2, by rw [h.gen]; omega⟩
end
theorem barg_low {w0 w : World} {A : Option Addr} {n c : Nat} {xs : List BEl} (h : BArg w0 A n c xs) (hb : Below w0.heap.size w0 w) : ∀ x ∈ xs, FarB w w0.heap.size x := fun x hx => FarB.of_low (h.ok x hx) hb

set_option maxRecDepth 100000 in
set_option maxHeartbeats 12800000 in
theorem segKeeps_any (A : Option Addr) (m c : Nat) (xa : List Act7) (w : World) (hr : ARows w A m c xa) (hm : m ≤ maxLen) (hx : ∀ x ∈ xa, x.rn ≤ 140737488355328 ∧ ∀ e ∈ x.rs, e.n ≤ 140737488355328) :
    Calls Tryd.prog 5 #[.slice A m c] w fun e w' => e = .returned (.bool true) ∧ Below w.heap.size w w' := by
  have hmi : (m : Int) ≤ 9223372036854775807 := by unfold maxLen at hm; omega
  obtain ⟨hs1, hu1⟩ := SegSt.new_up (D := 42) (n := 40) (first := 1) (gen := 1) (by omega) (by omega) 0 4294967295
  have hok0 : SegSt.Ok (DSt.new 42) ⟨1, 40, 1, 0, 4294967295⟩ := ⟨by show 1 ≤ 40; omega, by rw [new_length]; show 1 + 40 ≤ 42; omega, Nat.zero_le _, by show 4294967295 ≤ 4294967295; omega, by show 1 < 4294967296; omega⟩
  have hk0 : SegSt.KInv (DSt.new 42) ⟨1, 40, 1, 0, 0⟩ [] [] := ⟨rfl, rfl, rfl, new_length 42, Nat.zero_le _, .inl ⟨hu1.kept, rfl⟩⟩
  have HP := Lib.hid (And.intro hs1 (And.intro hk0 (And.intro hok0 (And.intro hr hx))))
  clear hs1 hu1 hok0 hk0 hr hx hm
  go_enter Tryd.func5, Tryd.ntmps5
  go_wp2_with fail
  refine (awake7_any _).mono ?_; rintro e w1 ⟨rfl, hb1⟩
  go_wp2_with fail
  refine (we_new (w0 := w) 42 (by omega) (by omega) _ hb1).mono ?_; rintro e w2 ⟨g, rfl, E⟩
  clear hb1
  go_wp2_with fail
  refine (segnew_we E 1 40 1 (by omega) (by rw [new_length]; omega) (by omega)).mono ?_; rintro e w3 ⟨h, rfl, _, E3, _⟩
  clear E
  go_wp2_with fail
  refine (scan_we E3 0 rfl HP.out.2.2.1).mono ?_
  rintro e w4 ⟨A4, c4, xs4, rfl, E4, hx4⟩
  rw [HP.out.1] at E4 hx4 ⊢
  obtain rfl : xs4 = [] := List.map_eq_nil_iff.1 hx4
  have E5 := ((E4.pick (bl' := [segB h g ⟨1, 40, 1, 0, 0⟩]) (ys' := []) (rd' := []) (.refl _) (.cons _ (.refl _)) (fun _ h => h)).nil (ty := 22) 1 (by decide))
  clear E3 E4 hx4
  go_wp2_with fail
  go_loopw [7, 8, 9] (fun av tv iv wr => ∃ (j : Nat) (A1 : Option Addr) (c1 : Nat) (xs : List BEl) (TA : Option Addr) (tn tc : Nat) (ts : List BEl) (s : DSt) (t : SegSt), j ≤ m ∧ j ≤ 40 ∧ iv = .int .i64 (j : Int) ∧ av = .slice A1 xs.length c1 ∧ tv = .slice TA tn tc ∧
      WE w wr g s [segB h g t] [⟨22, 1, A1, xs.length, c1, xs.map BEl.v⟩] xs ∧ SegSt.KInv s t (xs.map (·.l)) (ts.map (·.l)) ∧ BArg w TA tn tc ts ∧ tn ≤ tc ∧ tn < 40 ∧ (∀ x ∈ ts, x.n ≤ 140737488355328) ∧ (∀ x ∈ xs, x.n ≤ 140737488355328) ∧ xs.length ≤ 40 * j ∧ s.begun ≤ 41 * j) (fun _ _ iv _ => m - (intOf iv).toNat)
  case atStart => exact ⟨0, none, 0, [], none, 0, 0, [], _, _, Nat.zero_le _, by omega, rfl, rfl, rfl, E5, HP.out.2.1, barg_nil, by omega, by omega, fun _ h => (by cases h), fun _ h => (by cases h), Nat.zero_le _, Nat.zero_le _⟩
  case round =>
    obtain ⟨j, A1, c1, xs, TA, tn, tc, ts, s, t, hj1, hj2, rfl, rfl, rfl, E, hK, hT, htc, ht40, htn, hxn, hxj, hbg⟩ := hrel
    clear E5
    have hx1600 : xs.length ≤ 1600 := by omega
    have HI := Lib.hid (And.intro hK (And.intro hT (And.intro htn (And.intro hxn (And.intro hxj hbg)))))
    clear hK hT htn hxn hxj hbg
    by_cases hgo : j < m ∧ j < 40
    · obtain ⟨hg1, hg2⟩ := hgo
      have hlt1 : (j : Int) < (m : Int) := by omega
      have hlt2 : (j : Int) < 40 := by omega
      have hlt2d : decide ((j : Int) < 40) = true := decide_eq_true hlt2
      have hj0 : (0 : Int) ≤ (j : Int) := by omega
      obtain ⟨ba, o, x, rfl, hx, _, k0, k1, k2, k3, k4⟩ := (HP.out.2.2.2.1.below E.bel).get hg1
      have hok := HP.out.2.2.2.1.ok x (List.mem_of_getElem? hx)
      have hxw := HP.out.2.2.2.2 x (List.mem_of_getElem? hx)
      have HX := Lib.hid (And.intro hok hxw)
      clear hok hx hxw
      have E6 := E.add 46 #[.int .i64 x.k, .slice x.R x.rn x.rc, .int .u32 (x.gen : Int), .int .i64 x.i, .slice x.A x.n x.cp] (by decide)
      clear E
      go_upto_region 16 with (fail)
      generalize wr.alloc _ = w5 at *
      generalize wr.heap.size = ga at *
      clear k0 k1 k2 k3 k4
      have ck : w5.cell? ⟨ga, 0, none⟩ = some (.int .i64 x.k) := E6.cell 0 0 rfl rfl
      have cr : w5.cell? ⟨ga, 1, none⟩ = some (.slice x.R x.rn x.rc) := E6.cell 0 1 rfl rfl
      have ci : w5.cell? ⟨ga, 3, none⟩ = some (.int .i64 x.i) := E6.cell 0 3 rfl rfl
      have ca : w5.cell? ⟨ga, 4, none⟩ = some (.slice x.A x.n x.cp) := E6.cell 0 4 rfl rfl
      have HE := Lib.hid E6
      have hrec := HX.out.1.recs.below (E6.bel)
      clear E6 hlt1 hlt2 hlt2d hj0
      have hfew := few_any (hrec.below ((Below.refl _ _))) HX.out.2.1 HX.out.2.2
      clear hrec
      cases hfb : fewB x.rs with
      | false =>
        rw [hfb] at hfew
        have HF := Lib.hid hfew
        clear hfew hfb
        go_wp2_with fail
        refine HF.out.mono ?_; rintro e w6 ⟨rfl, rfl⟩
        have HB := Lib.hid HE.out.bel
        go_wp2_with fail
        go_ret
        exact ⟨rfl, HB.out⟩
      | true =>
        rw [hfb] at hfew
        have hrl := fewB_lt hfb
        have HF := Lib.hid (And.intro hfew hrl)
        clear hfew hfb hrl
        go_wp2_with fail
        refine HF.out.1.mono ?_; rintro e w6 ⟨rfl, rfl⟩
        by_cases hch : 300 < x.n
        · have h300 : 300 < (x.n : Int) := by omega
          have h300d : decide (300 < (x.n : Int)) = true := decide_eq_true h300
          have HB := Lib.hid HE.out.bel
          clear hch
          go_wp2_with fail
          go_ret
          exact ⟨rfl, HB.out⟩
        have h300d : decide (300 < (x.n : Int)) = false := decide_eq_false (by omega)
        have h300 : ¬ 300 < (x.n : Int) := by omega
        have hcn : x.n ≤ 300 := by omega
        have HCN := Lib.hid hcn
        clear hch hcn
        go_upto_block 2 with (fail)
        clear h300 h300d
        by_cases hk0 : x.k = 0
        · have q0 : (x.k == 0) = true := by simp [hk0]
          have hA := add_we HE.out 1 rfl HI.out.1.ok_ (HX.out.1.recs.below HE.out.bel) (by have := HX.out.1.recs.len; have := HF.out.2; omega) HX.out.2.2 (by have := HI.out.2.2.2.2.2; omega) (by have := HI.out.1.pend; omega)
          have hbyt : ∀ r ∈ x.rs.map (·.l), ∀ c ∈ r, c < 256 := fun r hr => by
            obtain ⟨e, he, rfl⟩ := List.mem_map.1 hr
            exact (HX.out.1.recs.ok e he).lt
          obtain ⟨hc, hbg7⟩ := HI.out.1.add hbyt
          generalize SegSt.add s t (x.rs.map (·.l)) = AD at *
          obtain ⟨s7, t7, cd⟩ := AD
          dsimp only at hA hc hbg7
          have HA := Lib.hid (And.intro hA hbg7)
          clear hA hbyt hbg7 hk0 ci ca
          rcases hc with ⟨z0, z1⟩ | ⟨z0, z2, z1⟩ | ⟨z0, z2, z1⟩
          · subst z0
            have HZ := Lib.hid z1
            clear z1
            go_wp2_with fail
            refine HA.out.1.mono ?_; rintro e w7 ⟨rfl, E7⟩
            have E7 := E7.setEq (bl' := [(ga, 46, #[.int .i64 x.k, .slice x.R x.rn x.rc, .int .u32 (x.gen : Int), .int .i64 x.i, .slice x.A x.n x.cp]), segB h g t7]) rfl
            have cr7 : w7.cell? ⟨ga, 1, none⟩ = some (.slice x.R x.rn x.rc) := E7.cell 0 1 rfl rfl
            have hOwn : Own w7 w.heap.size 22 A1 xs.length c1 (xs.map BEl.v) := ⟨(E7.row 0 rfl).row⟩
            have hRd := (HX.out.1.recs.below E7.bel).rd HX.out.1.rcap
            have hrn : x.rn < 40 := by have := HX.out.1.recs.len; have := HF.out.2; omega
            have E8 := (E7.sees (barg_low HX.out.1.recs E7.bel)).pick (rd' := xs ++ x.rs) (.refl _) (.refl _) (fun y hy => by simp only [List.mem_append] at hy ⊢; exact hy.symm)
            have HE8 := Lib.hid (And.intro E8 (And.intro hOwn hRd))
            have hbs := E7.size
            clear E7 E8 hOwn hRd cr
            go_upto_region 23 with (at_builtin; refine wpList_app _ rfl (.tmp 66) (.tmp 68) 32 rfl 22 (.slice none 0 0) 24 Tryd.underlying32 binfo rfl (by omega) w.heap.size A1 xs.length c1 _ rfl HE8.out.2.1 x.R x.rn x.rc _ rfl HE8.out.2.2 (fun u hu => by obtain ⟨x, _, rfl⟩ := List.mem_map.1 hu; rfl) (by omega) hbs ?_; intro A8 c8 w8 ho8 hg8 hA8)
            have E9 := HE8.out.1.app 0 rfl ⟨ho8.row⟩ hg8 hA8
            rw [← List.map_append] at E9
            have hxl : (xs ++ x.rs).length = xs.length + x.rn := by rw [List.length_append, HX.out.1.recs.len]
            obtain ⟨xs2, hxs2⟩ : ∃ xs2, xs ++ x.rs = xs2 := ⟨_, rfl⟩
            rw [hxs2] at E9 hxl
            rw [← hxl] at E9 ⊢
            have hx2 : ∀ y ∈ xs2, y.n ≤ 140737488355328 := fun y hy => by
              rw [← hxs2] at hy
              rcases List.mem_append.1 hy with hy | hy
              · exact HI.out.2.2.2.1 y hy
              · exact HX.out.2.2 y hy
            have hk2 : SegSt.KInv s7 t7 (xs2.map (·.l)) (ts.map (·.l)) := by
              have h := HZ.out
              rw [← List.map_append, hxs2] at h
              exact h
            have hl2 : xs2.length ≤ 40 * (j + 1) := by have := HI.out.2.2.2.2.1; omega
            have hb2 : s7.begun ≤ 41 * (j + 1) := by have := HI.out.2.2.2.2.2; have := HA.out.2; omega
            have HF2 := Lib.hid (And.intro (E9.pick (bl' := [segB h g t7]) (.cons _ (.refl _)) (.refl _) (fun _ h => h)) (And.intro hk2 (And.intro hx2 (And.intro hl2 hb2))))
            clear E9 hxl hxs2 hx2 hk2 hl2 hb2 HE8 ho8 hg8 hA8 hrn cr7
            go_wp2_with fail
            go_roundw
            case rel => exact ⟨j + 1, A8, c8, xs2, TA, tn, tc, ts, s7, t7, by omega, by omega, by go_num, rfl, rfl, HF2.out.1, HF2.out.2.1, HI.out.2.1, htc, ht40, HI.out.2.2.1, HF2.out.2.2.1, HF2.out.2.2.2.1, HF2.out.2.2.2.2⟩
            case measure => simp [intOf]; omega
          · subst z0
            have htn0 : ts = [] := List.map_eq_nil_iff.1 z2
            have htn : tn = 0 := by have := HI.out.2.1.len; rw [htn0] at this; exact this.symm
            subst htn
            have HZ := Lib.hid (And.intro z1 htn0)
            clear z1 z2 htn0
            go_wp2_with fail
            refine HA.out.1.mono ?_; rintro e w7 ⟨rfl, E7⟩
            have E7 := E7.setEq (bl' := [(ga, 46, #[.int .i64 x.k, .slice x.R x.rn x.rc, .int .u32 (x.gen : Int), .int .i64 x.i, .slice x.A x.n x.cp]), segB h g t7]) rfl
            have cr7 : w7.cell? ⟨ga, 1, none⟩ = some (.slice x.R x.rn x.rc) := E7.cell 0 1 rfl rfl
            have HF2 := Lib.hid (E7.pick (bl' := [segB h g t7]) (.cons _ (.refl _)) (.refl _) (fun _ h => h))
            clear E7 cr
            go_wp2_with fail
            go_roundw
            case rel => exact ⟨j + 1, A1, c1, xs, x.R, x.rn, x.rc, x.rs, s7, t7, by omega, by omega, by go_num, rfl, rfl, HF2.out, HZ.out.1, HX.out.1.recs, HX.out.1.rcap, by have := HX.out.1.recs.len; have := HF.out.2; omega, HX.out.2.2, HI.out.2.2.2.1, by have := HI.out.2.2.2.2.1; omega, by have := HI.out.2.2.2.2.2; have := HA.out.2; omega⟩
            case measure => simp [intOf]; omega
          · have q1 : (cd == 0) = false := by simp [z0]
            have HZ := Lib.hid z1
            clear z1
            by_cases hc4 : cd = 4
            · subst hc4
              have htn : tn ≠ 0 := by
                intro h0
                rcases z2 with z2 | z2
                · exact z2 rfl
                · refine z2 (List.map_eq_nil_iff.2 (List.eq_nil_of_length_eq_zero ?_))
                  rw [HI.out.2.1.len, h0]
              have q2 : ((tn : Int) == 0) = false := by simp [htn]
              clear z0 z2 htn q1
              go_wp2_with fail
              refine HA.out.1.mono ?_; rintro e w7 ⟨rfl, E7⟩
              have E7 := E7.setEq (bl' := [(ga, 46, #[.int .i64 x.k, .slice x.R x.rn x.rc, .int .u32 (x.gen : Int), .int .i64 x.i, .slice x.A x.n x.cp]), segB h g t7]) rfl
              have HF2 := Lib.hid (E7.pick (bl' := [segB h g t7]) (.cons _ (.refl _)) (.refl _) (fun _ h => h))
              clear E7 cr
              go_wp2_with fail
              go_roundw
              case rel => exact ⟨j + 1, A1, c1, xs, TA, tn, tc, ts, s7, t7, by omega, by omega, by go_num, rfl, rfl, HF2.out, HZ.out, HI.out.2.1, htc, ht40, HI.out.2.2.1, HI.out.2.2.2.1, by have := HI.out.2.2.2.2.1; omega, by have := HI.out.2.2.2.2.2; have := HA.out.2; omega⟩
              case measure => simp [intOf]; omega
            · have q2 : (cd == 4) = false := by simp [hc4]
              clear z0 z2 hc4
              go_wp2_with fail
              refine HA.out.1.mono ?_; rintro e w7 ⟨rfl, E7⟩
              have E7 := E7.setEq (bl' := [(ga, 46, #[.int .i64 x.k, .slice x.R x.rn x.rc, .int .u32 (x.gen : Int), .int .i64 x.i, .slice x.A x.n x.cp]), segB h g t7]) rfl
              have HF2 := Lib.hid (E7.pick (bl' := [segB h g t7]) (.cons _ (.refl _)) (.refl _) (fun _ h => h))
              clear E7 cr
              go_wp2_with fail
              go_roundw
              case rel => exact ⟨j + 1, A1, c1, xs, TA, tn, tc, ts, s7, t7, by omega, by omega, by go_num, rfl, rfl, HF2.out, HZ.out, HI.out.2.1, htc, ht40, HI.out.2.2.1, HI.out.2.2.2.1, by have := HI.out.2.2.2.2.1; omega, by have := HI.out.2.2.2.2.2; have := HA.out.2; omega⟩
              case measure => simp [intOf]; omega
        have q0 : (x.k == 0) = false := by simp [hk0]
        clear hk0
        by_cases hk3 : x.k = 3
        · have q3 : (x.k == 3) = true := by simp [hk3]
          have hpl := dplan_we HE.out x.i (by have := HX.out.1.i1; omega)
          have HA := Lib.hid hpl
          clear hpl hk3 cr ca
          go_wp2_with fail
          refine HA.out.mono ?_; rintro e w7 ⟨⟨v7, rfl⟩, E7⟩
          have HF2 := Lib.hid (E7.pick (bl' := [segB h g t]) (.cons _ (.refl _)) (.refl _) (fun _ h => h))
          clear E7 ci ck
          go_wp2_with fail
          go_roundw
          case rel => exact ⟨j + 1, A1, c1, xs, TA, tn, tc, ts, _, t, by omega, by omega, by go_num, rfl, rfl, HF2.out, HI.out.1.plan x.i, HI.out.2.1, htc, ht40, HI.out.2.2.1, HI.out.2.2.2.1, by have := HI.out.2.2.2.2.1; omega, Nat.zero_le _⟩
          case measure => simp [intOf]; omega
        have q3 : (x.k == 3) = false := by simp [hk3]
        clear hk3
        by_cases hk4 : x.k = 4
        · have q4 : (x.k == 4) = true := by simp [hk4]
          have hup := dup_we HE.out (HX.out.1.ints.below HE.out.bel) (by have := HCN.out; omega)
          have HA := Lib.hid hup
          clear hup hk4 cr ci
          go_wp2_with fail
          refine HA.out.mono ?_; rintro e w7 ⟨⟨v7, rfl⟩, E7⟩
          obtain ⟨k, hkt, hsc1, hK7⟩ := HI.out.1.up x.l E7.bytes
          have hsc := scan_we E7 1 rfl (HI.out.1.oku x.l)
          unfold ScanPost at hsc
          rw [k1_ hsc1] at hsc
          generalize (SegSt.scan (s.up x.l) t).1 = t7 at *
          have hb7 : (s.up x.l).begun = 0 := rfl
          generalize s.up x.l = s7 at *
          have HX7 := Lib.hid hb7
          clear hb7
          dsimp only at hsc
          have hkt : k ≤ tn := by rw [List.length_map, HI.out.2.1.len] at hkt; exact hkt
          have HS := Lib.hid (And.intro hsc hK7)
          clear hsc hsc1 hK7 E7 HA ca ck
          go_wp2_with fail
          refine HS.out.1.mono ?_; rintro e w8 ⟨A5, c5, xs5, rfl, E8, hx5⟩
          have E8 := E8.setEq (bl' := [(ga, 46, #[.int .i64 x.k, .slice x.R x.rn x.rc, .int .u32 (x.gen : Int), .int .i64 x.i, .slice x.A x.n x.cp]), segB h g t7]) rfl
          have hl5 : xs5.length = xs.length + k := by
            have := congrArg List.length hx5
            rw [List.length_map, List.length_append, List.length_map, List.length_take, List.length_map, HI.out.2.1.len] at this
            omega
          obtain ⟨n5, hn5⟩ : ∃ n5, xs5.length = n5 := ⟨_, rfl⟩
          rw [hn5] at E8 hl5 ⊢
          obtain ⟨q, hq⟩ : ∃ q, xs.length + tn = q := ⟨_, rfl⟩
          have hqi : (xs.length : Int) + (tn : Int) = (q : Int) := by omega
          have hqb : q ≤ 2000 := by omega
          have r1 : ¬ (n5 : Int) < (xs.length : Int) := by omega
          have r1d : decide ((n5 : Int) < (xs.length : Int)) = false := decide_eq_false r1
          have r2 : ¬ (q : Int) < (n5 : Int) := by omega
          have r2d : decide ((q : Int) < (n5 : Int)) = false := decide_eq_false r2
          have hb5 : ∀ y ∈ xs5, y.n ≤ 140737488355328 := fun y hy => by
            have h1 := (E8.rdm (x := y) (List.mem_append_left _ hy)).len
            have h2 : y.l ∈ xs5.map (·.l) := List.mem_map.2 ⟨y, hy, rfl⟩
            rw [hx5] at h2
            rcases List.mem_append.1 h2 with h2 | h2
            · obtain ⟨z, hz, hz2⟩ := List.mem_map.1 h2
              have h3 := (E8.rdm (x := z) (List.mem_append_right _ hz)).len
              have h4 := HI.out.2.2.2.1 z hz
              have h5 : z.l.length = y.l.length := by rw [hz2]
              omega
            · obtain ⟨z, hz, hz2⟩ := List.mem_map.1 (List.mem_of_mem_take h2)
              have h3 := (HI.out.2.1.ok z hz).len
              have h4 := HI.out.2.2.1 z hz
              have h5 : z.l.length = y.l.length := by rw [hz2]
              omega
          have HE8 := Lib.hid E8
          have HX5 := Lib.hid (And.intro hx5 (And.intro hn5 (And.intro hl5 (And.intro hb5 hkt))))
          have hn5b : n5 ≤ 2000 := by omega
          have r1n : xs.length ≤ n5 := by omega
          have r2n : n5 ≤ q := by omega
          clear E8 hx5 hn5 hb5 hq r1 r2 hl5 HE
          go_upto_region 32 with (fail)
          clear r1d r2d hqi hqb r1n r2n
          have hl5 := HX5.out.2.2.1
          have hki : IntKind.i64.wrap ((n5 : Int) - (xs.length : Int)) = (k : Int) := (IntWalk.i64_in _ ⟨by omega, by omega⟩).trans (by omega)
          have hk0 : (0 : Int) ≤ (k : Int) := by omega
          have hkc : (k : Int) ≤ (tc : Int) := by omega
          clear hl5
          refine wp_region_late [] (fun _ => True) (by kernel_rfl) ?_
          generalize hwd : World.drew _ = wd at *
          have E9 := HE8.out.drew
          rw [hwd] at E9
          clear hwd
          refine wpAnyL_take (i := 1) (v := ?_) rfl (by kernel_rfl) (by kernel_rfl) (by kernel_rfl) (by kernel_rfl) (by kernel_rfl) (fun _ _ _ h => h) (Or.inl ⟨by kernel_rfl, ?_⟩) trivial ?_
          rotate_left
          · rintro w0 _; go_simp; (try with_reducible rfl)
          try simp only [Act.put, List.getElem_toArray, List.getElem_cons_succ, List.getElem_cons_zero, List.setIfInBounds_toArray, List.set_cons_zero, List.set_cons_succ]
          refine wpAnyL_take (i := 3) (v := ?_) rfl (by kernel_rfl) (by kernel_rfl) (by kernel_rfl) (by kernel_rfl) (by kernel_rfl) (fun _ _ _ h => h) (Or.inl ⟨by kernel_rfl, ?_⟩) trivial ?_
          rotate_left
          · rintro w0 _; go_simp; (try with_reducible rfl)
          try simp only [Act.put, List.getElem_toArray, List.getElem_cons_succ, List.getElem_cons_zero, List.setIfInBounds_toArray, List.set_cons_zero, List.set_cons_succ]
          refine wpAnyL_take (i := 4) (v := ?_) rfl (by kernel_rfl) (by kernel_rfl) (by kernel_rfl) (by kernel_rfl) (by kernel_rfl) (fun _ _ _ h => h) (Or.inl ⟨by kernel_rfl, ?_⟩) trivial ?_
          rotate_left
          · rintro w0 _; go_simp; (try with_reducible rfl)
          try simp only [Act.put, List.getElem_toArray, List.getElem_cons_succ, List.getElem_cons_zero, List.setIfInBounds_toArray, List.set_cons_zero, List.set_cons_succ]
          refine wpAnyL_take (i := 5) (v := ?_) rfl (by kernel_rfl) (by kernel_rfl) (by kernel_rfl) (by kernel_rfl) (by kernel_rfl) (fun _ _ _ h => h) (Or.inl ⟨by kernel_rfl, ?_⟩) trivial ?_
          rotate_left
          · rintro w0 _; go_simp; (try with_reducible rfl)
          try simp only [Act.put, List.getElem_toArray, List.getElem_cons_succ, List.getElem_cons_zero, List.setIfInBounds_toArray, List.set_cons_zero, List.set_cons_succ]
          refine wpAnyL_take (i := 6) (v := ?_) rfl (by kernel_rfl) (by kernel_rfl) (by kernel_rfl) (by kernel_rfl) (by kernel_rfl) (fun _ _ _ h => h) (Or.inl ⟨by kernel_rfl, ?_⟩) trivial ?_
          rotate_left
          · rintro w0 _; go_simp; (try with_reducible rfl)
          try simp only [Act.put, List.getElem_toArray, List.getElem_cons_succ, List.getElem_cons_zero, List.setIfInBounds_toArray, List.set_cons_zero, List.set_cons_succ]
          refine wpAnyL_take (i := 7) (v := ?_) rfl (by kernel_rfl) (by kernel_rfl) (by kernel_rfl) (by kernel_rfl) (by kernel_rfl) (fun _ _ _ h => h) (Or.inl ⟨by kernel_rfl, ?_⟩) trivial ?_
          rotate_left
          · rintro w0 _; go_simp; (try with_reducible rfl)
          try simp only [Act.put, List.getElem_toArray, List.getElem_cons_succ, List.getElem_cons_zero, List.setIfInBounds_toArray, List.set_cons_zero, List.set_cons_succ]
          refine wpAnyL_take (i := 8) (v := ?_) rfl (by kernel_rfl) (by kernel_rfl) (by kernel_rfl) (by kernel_rfl) (by kernel_rfl) (fun _ _ _ h => h) (Or.inl ⟨by kernel_rfl, ?_⟩) trivial ?_
          rotate_left
          · rintro w0 _; go_simp; (try with_reducible rfl)
          try simp only [Act.put, List.getElem_toArray, List.getElem_cons_succ, List.getElem_cons_zero, List.setIfInBounds_toArray, List.set_cons_zero, List.set_cons_succ]
          refine wpAnyL_take (i := 9) (v := ?_) rfl (by kernel_rfl) (by kernel_rfl) (by kernel_rfl) (by kernel_rfl) (by kernel_rfl) (fun _ _ _ h => h) (Or.inl ⟨by kernel_rfl, ?_⟩) trivial ?_
          rotate_left
          · rintro w0 _; go_simp; (try with_reducible rfl)
          try simp only [Act.put, List.getElem_toArray, List.getElem_cons_succ, List.getElem_cons_zero, List.setIfInBounds_toArray, List.set_cons_zero, List.set_cons_succ]
          clear hki hk0 hkc
          refine wpAnyL_one (i := 0) (by kernel_rfl) rfl (fun K hK => ?_)
          go_simp
          refine hK.out _ _ (fun _ => trivial) ?_
          clear hK K
          try simp only [Act.put, List.getElem_toArray, List.getElem_cons_succ, List.getElem_cons_zero, List.setIfInBounds_toArray, List.set_cons_zero, List.set_cons_succ]
          have EA := E9.fresh ((Below.refl wd.heap.size wd).alloc (Nat.le_refl _) (.cells #[] 22)) (OwnR.empty (base := wd.heap.size) 22 1 rfl (Nat.le_refl _)) (by decide)
          have hOwn : Own (wd.alloc (.cells #[] 22)) w.heap.size 22 (some ⟨wd.heap.size, 0, none⟩) 0 0 [] := ⟨(EA.row 0 rfl).row⟩
          have hB3 := barg_of (EA.row 2 rfl) (fun x hx => EA.rdm (List.mem_append_right _ hx))
          dsimp only at hB3
          have hcap : xs.length ≤ c1 := by have h1 := (EA.row 2 rfl).cap; exact h1
          have hRd := hB3.rd hcap
          have hbsA := EA.size
          have HEA := Lib.hid (And.intro EA (And.intro hOwn (And.intro hRd hbsA)))
          clear EA hB3 hOwn hRd hbsA E9 hcap
          refine wpAnyL_one (i := 2) (by kernel_rfl) rfl (fun K hK => ?_)
          refine step_app rfl (.tmp 115) (.tmp 116) 32 rfl 22 (.slice none 0 0) 24 Tryd.underlying32 binfo rfl (by omega) w.heap.size (some ⟨wd.heap.size, 0, none⟩) 0 0 _ rfl HEA.out.2.1 A1 xs.length c1 _ rfl HEA.out.2.2.1 (fun u hu => by obtain ⟨x, _, rfl⟩ := List.mem_map.1 hu; rfl) (by omega) HEA.out.2.2.2 ?_
          intro A10 c10 w10 o10 g10 a10
          have E10 := HEA.out.1.app 0 rfl ⟨o10.row⟩ g10 a10
          have hb10 := E10.bel
          have hRd := ((HI.out.2.1.below hb10).take_ HX5.out.2.2.2.2).rd (by have := HX5.out.2.2.2.2; omega)
          have hOwn : Own w10 w.heap.size 22 A10 (0 + xs.length) c10 ([] ++ xs.map BEl.v) := ⟨(E10.row 0 rfl).row⟩
          have hbs := E10.size
          have HEB := Lib.hid (And.intro E10 (And.intro hOwn (And.intro hRd hbs)))
          clear E10 hb10 hRd hOwn hbs o10 g10 a10
          refine hK.out _ _ (fun _ => trivial) ?_
          clear hK K
          try simp only [Act.put, List.getElem_toArray, List.getElem_cons_succ, List.getElem_cons_zero, List.setIfInBounds_toArray, List.set_cons_zero, List.set_cons_succ]
          refine wpAnyL_one (i := 10) (by kernel_rfl) rfl (fun K hK => ?_)
          refine step_app rfl (.tmp 117) (.tmp 124) 32 rfl 22 (.slice none 0 0) 24 Tryd.underlying32 binfo rfl (by omega) w.heap.size A10 (0 + xs.length) c10 _ rfl HEB.out.2.1 TA k tc _ rfl HEB.out.2.2.1 (fun u hu => by obtain ⟨x, _, rfl⟩ := List.mem_map.1 hu; rfl) (by omega) HEB.out.2.2.2 ?_
          intro A12 c12 w12 o12 g12 a12
          have E12 := HEB.out.1.app 0 rfl ⟨o12.row⟩ g12 a12
          clear o12 g12 a12
          refine hK.out _ _ (fun _ => trivial) ?_
          clear hK K
          try simp only [Act.put, List.getElem_toArray, List.getElem_cons_succ, List.getElem_cons_zero, List.setIfInBounds_toArray, List.set_cons_zero, List.set_cons_succ]
          refine wpAnyL_take (i := 11) (v := ?_) rfl (by kernel_rfl) (by kernel_rfl) (by kernel_rfl) (by kernel_rfl) (by kernel_rfl) (fun _ _ _ h => h) (Or.inl ⟨by kernel_rfl, ?_⟩) trivial ?_
          rotate_left
          · rintro w0 _; go_simp; (try with_reducible rfl)
          try simp only [Act.put, List.getElem_toArray, List.getElem_cons_succ, List.getElem_cons_zero, List.setIfInBounds_toArray, List.set_cons_zero, List.set_cons_succ]
          refine wpAnyL_done (by kernel_rfl) ?_ _
          have E13 : WE w w12 g s7 [(ga, 46, #[.int .i64 x.k, .slice x.R x.rn x.rc, .int .u32 (x.gen : Int), .int .i64 x.i, .slice x.A x.n x.cp]), segB h g t7] [⟨22, 1, A12, 0 + xs.length + k, c12, [] ++ xs.map BEl.v ++ (ts.take k).map BEl.v⟩, ⟨22, 1, A5, n5, c5, xs5.map BEl.v⟩, ⟨22, 1, A1, xs.length, c1, xs.map BEl.v⟩] (xs5 ++ xs) := E12
          clear E12 HEB HEA
          have hxl : (xs ++ ts.take k).length = xs.length + k := by rw [List.length_append, List.length_take, HI.out.2.1.len]; have := HX5.out.2.2.2.2; omega
          rw [Nat.zero_add, List.nil_append, ← List.map_append, ← hxl] at E13
          rw [← hxl]
          have E14 := (E13.sees (xs := ts.take k) (fun y hy => barg_low HI.out.2.1 E13.bel y (List.mem_of_mem_take hy))).pick (bl' := [segB h g t7]) (ys' := [⟨22, 1, A12, (xs ++ ts.take k).length, c12, (xs ++ ts.take k).map BEl.v⟩, ⟨22, 1, A5, n5, c5, xs5.map BEl.v⟩]) (rd' := xs5 ++ (xs ++ ts.take k)) (.cons _ (.refl _)) (.cons_cons _ (.cons_cons _ (.cons _ (.refl _)))) (fun y hy => by
            simp only [List.mem_append] at hy ⊢
            rcases hy with h | h | h
            · exact .inr (.inl h)
            · exact .inr (.inr h)
            · exact .inl h)
          clear E13
          obtain ⟨xs2, hxs2⟩ : ∃ xs2, xs ++ ts.take k = xs2 := ⟨_, rfl⟩
          rw [hxs2] at E14 hxl ⊢
          have hm2 : xs5.map (·.l) = xs2.map (·.l) := by rw [HX5.out.1, ← hxs2, List.map_append, List.map_take]
          have hx2 : ∀ y ∈ xs2, y.n ≤ 140737488355328 := fun y hy => by
            rw [← hxs2] at hy
            rcases List.mem_append.1 hy with hy | hy
            · exact HI.out.2.2.2.1 y hy
            · exact HI.out.2.2.1 y (List.mem_of_mem_take hy)
          have hk2 : SegSt.KInv s7 t7 (xs2.map (·.l)) [] := by
            have h := HS.out.2
            rw [← List.map_take, ← List.map_append, hxs2] at h
            exact h
          have hl2 : xs2.length ≤ 40 * (j + 1) := by have := HI.out.2.2.2.2.1; have := HX5.out.2.2.2.2; omega
          have hI5 : BImg w12 A5 n5 c5 (xs2.map (·.l)) := by
            have h := (barg_of (E14.row 1 rfl) (fun y hy => E14.rdm (List.mem_append_left _ hy))).img (by show n5 ≤ 140737488355328; omega) HX5.out.2.2.2.1
            rwa [hm2] at h
          have hI2 : BImg w12 A12 xs2.length c12 (xs2.map (·.l)) := (barg_of (E14.row 0 rfl) (fun y hy => E14.rdm (List.mem_append_right _ hy))).img (by show xs2.length ≤ 140737488355328; omega) hx2
          have HE14 := Lib.hid (And.intro E14 (And.intro hI5 (And.intro hI2 (And.intro hk2 (And.intro hx2 hl2)))))
          clear E14 hI5 hI2 hk2 hx2 hl2 hm2 hxs2 hxl
          go_wp2_with fail
          refine (alike_same HE14.out.2.1 HE14.out.2.2.1).mono ?_; rintro e w13 ⟨⟨q13, rfl⟩, rfl⟩
          have E15 := (HE14.out.1.drewN q13).pick (ys' := [⟨22, 1, A12, xs2.length, c12, xs2.map BEl.v⟩]) (rd' := xs2) (.refl _) (.cons_cons _ (.cons _ (.refl _))) (fun y hy => List.mem_append_right _ hy)
          have HF2 := Lib.hid E15
          clear E15
          go_wp2_with fail
          go_roundw
          case rel => exact ⟨j + 1, A12, c12, xs2, none, 0, 0, [], s7, t7, by omega, by omega, by go_num, rfl, rfl, HF2.out, HE14.out.2.2.2.1, barg_nil, by omega, by omega, fun _ h => (by cases h), HE14.out.2.2.2.2.1, HE14.out.2.2.2.2.2, by have := HX7.out; omega⟩
          case measure => simp [intOf]; omega
        have q4 : (x.k == 4) = false := by simp [hk4]
        have HF2 := Lib.hid (HE.out.pick (bl' := [segB h g t]) (.cons _ (.refl _)) (.refl _) (fun _ h => h))
        clear hk4 HE cr ci ca
        go_wp2_with fail
        go_roundw
        case rel => exact ⟨j + 1, A1, c1, xs, TA, tn, tc, ts, s, t, by omega, by omega, by go_num, rfl, rfl, HF2.out, HI.out.1, HI.out.2.1, htc, ht40, HI.out.2.2.1, HI.out.2.2.2.1, by have := HI.out.2.2.2.2.1; omega, by have := HI.out.2.2.2.2.2; omega⟩
        case measure => simp [intOf]; omega
    · by_cases hg1 : j < m
      · have hlt1 : (j : Int) < (m : Int) := by omega
        have hlt2 : ¬ (j : Int) < 40 := by omega
        have hlt2d : decide ((j : Int) < 40) = false := decide_eq_false hlt2
        clear hg1
        by_cases h0 : xs.length = 0
        · have q0 : ((xs.length : Int) == 0) = true := by simp [h0]
          have HB := Lib.hid E.bel
          clear h0 hgo
          go_wp2_with fail
          go_ret
          exact ⟨rfl, HB.out⟩
        · have q0 : ((xs.length : Int) == 0) = false := by simp [h0]
          obtain ⟨y, hy⟩ : ∃ y, xs[0]? = some y := ⟨_, List.getElem?_eq_getElem (by omega)⟩
          have hym := List.mem_of_getElem? hy
          have hrow := E.row 0 rfl
          dsimp only at hrow
          obtain ⟨ge, hge, _, _, hce, _⟩ := hrow.get (show (xs.map BEl.v)[0]? = some y.v by rw [List.getElem?_map, hy]; rfl)
          subst hge
          replace hce : wr.cell? ⟨ge, 0, none⟩ = some (.slice y.A y.n y.c) := hce
          have hyl := (E.rdm hym).len
          have hyn := HI.out.2.2.2.1 y hym
          have hgd := HI.out.1.good y.l (List.mem_map.2 ⟨y, hym, rfl⟩)
          rw [hyl] at hgd
          have hpos : 0 < (xs.length : Int) := by omega
          have hnd : 0 < Cl.need y.n := by omega
          have hndd : decide (0 < Cl.need y.n) = true := decide_eq_true hnd
          have HB := Lib.hid E.bel
          clear h0 hgo hy hym hrow hgd hyl
          go_wp2_with fail
          refine (rneed_any (y.n : Int) _ (by omega) (by omega)).mono ?_; rintro e w5 ⟨rfl, rfl⟩
          rw [Int.toNat_natCast]
          go_wp2_with fail
          go_ret
          exact ⟨rfl, HB.out⟩
      · have hlt1 : ¬ (j : Int) < (m : Int) := by omega
        have hlt1d : decide ((j : Int) < (m : Int)) = false := decide_eq_false hlt1
        clear hg1
        by_cases h0 : xs.length = 0
        · have q0 : ((xs.length : Int) == 0) = true := by simp [h0]
          have HB := Lib.hid E.bel
          clear h0 hgo
          go_wp2_with fail
          go_ret
          exact ⟨rfl, HB.out⟩
        · have q0 : ((xs.length : Int) == 0) = false := by simp [h0]
          obtain ⟨y, hy⟩ : ∃ y, xs[0]? = some y := ⟨_, List.getElem?_eq_getElem (by omega)⟩
          have hym := List.mem_of_getElem? hy
          have hrow := E.row 0 rfl
          dsimp only at hrow
          obtain ⟨ge, hge, _, _, hce, _⟩ := hrow.get (show (xs.map BEl.v)[0]? = some y.v by rw [List.getElem?_map, hy]; rfl)
          subst hge
          replace hce : wr.cell? ⟨ge, 0, none⟩ = some (.slice y.A y.n y.c) := hce
          have hyl := (E.rdm hym).len
          have hyn := HI.out.2.2.2.1 y hym
          have hgd := HI.out.1.good y.l (List.mem_map.2 ⟨y, hym, rfl⟩)
          rw [hyl] at hgd
          have hpos : 0 < (xs.length : Int) := by omega
          have hnd : 0 < Cl.need y.n := by omega
          have hndd : decide (0 < Cl.need y.n) = true := decide_eq_true hnd
          have HB := Lib.hid E.bel
          clear h0 hgo hy hym hrow hgd hyl
          go_wp2_with fail
          refine (rneed_any (y.n : Int) _ (by omega) (by omega)).mono ?_; rintro e w5 ⟨rfl, rfl⟩
          rw [Int.toNat_natCast]
          go_wp2_with fail
          go_ret
          exact ⟨rfl, HB.out⟩
end Go.Proofs.YtdlcngmcjidomaaDoor
