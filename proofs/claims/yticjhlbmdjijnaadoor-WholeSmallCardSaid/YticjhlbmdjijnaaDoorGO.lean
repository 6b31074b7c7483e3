/- Texts of several parts in one: RW7. Each says what it proves; no condition but those named there. -/
import Derived.Test.YticjhlbmdjijnaaDoorG8
/- The contract of heijunkaref02: Of. No condition. -/
namespace Go.Proofs.YticjhlbmdjijnaaDoor
open Go.RowKit

theorem Env.grown {w0 w w' : World} {bl : List Bl} {base : Nat} {e : TypeId} {A : Option Addr} {n c : Nat} {xs : List Value} (E : Env w0 w bl []) (ho : Own w base e A n c xs) (hb : w0.heap.size ≤ base) (hg : w.grownBy w' (A.map (·.block))) (ht : (bl.all fun x => decide (x.2.1 ≠ e)) = true) : Env w0 w' bl [] := by
  refine ⟨?_, fun i g t cs h => ?_, E.nd, fun i x h => by simp at h⟩
  · refine below_own E.bel hg E.size fun ad h => ?_
    exact Nat.le_trans hb (ho.lt ad h).1
  · obtain ⟨h1, h2, h3⟩ := E.blk i g t cs h
    refine ⟨h1, h2.grown hg fun hgr => ?_, h3⟩
    rcases ho.form with ⟨rfl, _⟩ | ⟨g', cur, rfl, _, hk, _⟩
    · cases hgr
    · have hgg : g = g' := by simpa using hgr
      subst hgg
      have e1 := h2.is.symm.trans hk.is
      simp only [Option.some.injEq, Obj.cells.injEq] at e1
      have := List.all_eq_true.1 ht _ (List.mem_of_getElem? h)
      simp at this
      exact this e1.2.1
theorem Ints.at_ {w : World} {kd : IntKind} {lim : Nat} {b o n c k x : Nat} {l : List Nat} (h : Ints w kd lim (some ⟨b, o, none⟩) n c l) (hx : l[k]? = some x) : w.cell? ⟨b, o + k, none⟩ = some (.int kd (x : Int)) := by
  have hlen := h.len
  have h0 := (List.getElem?_eq_some_iff.1 hx).1
  obtain ⟨x', hx', _, hc⟩ := h.get' (k := k) (by omega)
  rw [hx] at hx'
  cases hx'
  exact hc
theorem lmb_few {v : Nat} (h : v < 79228162514264337593543950336) : (lmb v).length ≤ 3 := Num.dig_len_le (by decide) 3 v h
theorem digits_few {ds : List Nat} {k v : Nat} (hv : v < 100000000000000000000) (h : Num.val 10 ds + 10 ^ ds.length * k = v) (hk : 0 < k) : ds.length < 20 := by
  rcases Nat.lt_or_ge ds.length 20 with h1 | h1
  · exact h1
  · have h2 : 10 ^ 20 ≤ 10 ^ ds.length := Nat.pow_le_pow_right (by decide) h1
    have h3 : 10 ^ ds.length * 1 ≤ 10 ^ ds.length * k := Nat.mul_le_mul_left _ hk
    omega
set_option maxRecDepth 100000 in
set_option maxHeartbeats 3200000 in
theorem rzof_false (v : Nat) (w : World) (hv : v ≤ 9223372036854775808) (hs : decide ((v : Int) < 0) = false) (hv2 : v ≤ 9223372036854775807) :
    Calls Tryd.prog 18 #[.int .i64 (v : Int)] w fun e w' => ∃ b3 A3 n3 c3, e = .returned (.agg #[.bool b3, .slice A3 n3 c3]) ∧ ZIs w' b3 A3 n3 c3 (v : Int) 3 true ∧ Below w.heap.size w w' := by
  have HS := Lib.hid hs
  have E1 := (((Env.nil_ w).alloc 24 #[.bool false, .slice none 0 0] (g := w.heap.size) rfl rfl).alloc 24 #[.bool false, .slice none 0 0] (g := w.heap.size + 1) (by simp) rfl)
  go_enter Tryd.func18, Tryd.ntmps18
  go_wp2_with fail
  clear hs
  go_loopw [0, 4] (fun nv lv wr => ∃ (k m y : Nat) (C : Option Addr) (ds : List Nat), m ≤ 20 ∧ nv = .int .i64 (k : Int) ∧ lv = .slice C m y ∧ Env w wr [(w.heap.size + 1, 24, #[.bool false, .slice none 0 0]), (w.heap.size, 24, #[.bool false, .slice none 0 0])] [] ∧ OwnL wr w.heap.size C m y ds ∧ Hid (∀ d ∈ ds, d < 10) ∧ Hid (Num.val 10 ds + 10 ^ ds.length * k = v)) (fun nv _ _ => (intOf nv).natAbs)
  case atStart => exact ⟨v, 0, 0, none, [], by omega, rfl, rfl, E1, OwnI.nil_ .., Lib.hid (by simp), Lib.hid (by simp [Num.val])⟩
  case round =>
    obtain ⟨k, m, y, C, ds, hm20, rfl, rfl, E2, ho, HD, HV⟩ := hrel
    have hlen := ho.len
    have hs2 := E2.size
    rcases Nat.eq_zero_or_pos k with hk | hk
    · subst hk
      rw [Nat.mul_zero, Nat.add_zero] at HV
      rw [show ((((0 : Nat) : Int)) : Int) = 0 from rfl]
      go_wp2_with fail
      go_loopw [6] (fun iv wk => ∃ (j q c : Nat) (A : Option Addr), j ≤ m ∧ iv = .int .i64 ((j : Int) - 1) ∧ Env w wk [(w.heap.size + 1, 24, #[.bool false, .slice A q c]), (w.heap.size, 24, #[.bool false, .slice none 0 0])] [] ∧ Lim wk A q c (lmb (Num.val 10 (ds.drop j))) ∧ Lim wk C m y ds) (fun iv _ => (intOf iv + 1).toNat)
      case atStart =>
        refine ⟨m, 0, 0, none, Nat.le_refl _, ?_, E2, ?_, ho.ints⟩
        · rfl
        · rw [← hlen, List.drop_length, Num.val_nil, lmb_zero]; exact Ints.nil_ ..
      case round =>
        obtain ⟨j, q, c, A, hj, rfl, E3, hA, hC⟩ := hrel
        rcases Nat.eq_zero_or_pos j with hj0 | hj0
        · subst hj0
          rw [List.drop_zero, HV.out] at hA
          have hq := hA.len
          have hq3 := lmb_few (v := v) (by omega)
          have c0 := E3.cell 0 0 rfl rfl
          have c1 := E3.cell 0 1 rfl rfl
          have c2 := E3.cell 1 0 rfl rfl
          have c3 := E3.cell 1 1 rfl rfl
          have f0 := E3.frozen 1 0 rfl
          have f1 := E3.frozen 1 1 rfl
          have E4 := (E3.add (ZIs.plain (k := 3) (z := (v : Int)) (b := false) (A := A) (by rw [show Int.natAbs (v : Int) = v by omega]; exact hA) HS.out (by omega))).st2 1 (.bool false) (.slice A q c) rfl rfl rfl
          go_wp2_with fail
          refine bodyPost_ret (results_cell_row rfl _ _ (w.heap.size) 24 #[.bool false, .slice A q c] (0, 0) _ rfl (E4.b 1 rfl).is Tryd.underlying24 rfl (by kernel_rfl)) rfl ?_
          exact ⟨_, _, _, _, rfl, E4.z 0 rfl, E4.bel⟩
        · obtain ⟨i, rfl⟩ : ∃ i, j = i + 1 := ⟨j - 1, by omega⟩
          have ei : ((i + 1 : Nat) : Int) - 1 = (i : Int) := by omega
          rw [ei]
          obtain ⟨gC, oC, d, rfl, hgC, hd, hdl, hcd⟩ := hC.get (k := i) (by omega)
          have hds := Num.val_drop_pred 10 hd
          have hVl : Num.val 10 (ds.drop (i + 1)) < 10000000000000000000 := by
            have h1 := Num.val_lt 10 (ds.drop (i + 1)) (fun x hx => HD.out x (List.mem_of_mem_drop hx))
            rw [List.length_drop, hlen] at h1
            exact Nat.lt_of_lt_of_le h1 (Nat.le_trans (Nat.pow_le_pow_right (by decide) (show m - (i + 1) ≤ 19 by omega)) (by decide))
          obtain ⟨V, hV⟩ : ∃ V, Num.val 10 (ds.drop (i + 1)) = V := ⟨_, rfl⟩
          rw [hV] at hA hds hVl
          have hq := hA.len
          have hq3 := lmb_few (v := V) (by omega)
          have HDS := Lib.hid hds
          have HDI := Lib.hid hd
          clear hds hV hd ei hcd
          have hi0 : (0 : Int) ≤ (i : Int) := by omega
          have him : (i : Int) < (m : Int) := by omega
          have hml := fun (g : Nat) (w0 : World) h0 h1 => rMul_any A q c (lmb V) (some ⟨g, 0, none⟩) 1 1 [10] w0 h0 h1 (by omega) (by omega)
          simp only [vl_lmb, show vl [10] = 10 from rfl] at hml
          go_wp2_with fail
          have O1 := E3.drew
          have O2 := (E3.other (.cells #[.int .u32 10] 43)).drew
          have O3 := (E3.other (.cells #[.int .u32 (d : Int)] 43)).drew
          have O4 := ((E3.other (.cells #[.int .u32 10] 43)).other (.cells #[.int .u32 (d : Int)] 43)).drew
          have O5 := ((E3.other (.cells #[.int .u32 (d : Int)] 43)).other (.cells #[.int .u32 10] 43)).drew
          have k1 := O1.cell 0 1 rfl rfl
          have k2 := O2.cell 0 1 rfl rfl
          have k3 := O3.cell 0 1 rfl rfl
          have k4 := O4.cell 0 1 rfl rfl
          have k5 := O5.cell 0 1 rfl rfl
          have s1 := hC.drew.at_ HDI.out
          have s2 := (hC.alloc (.cells #[.int .u32 10] 43)).drew.at_ HDI.out
          have s3 := (hC.alloc (.cells #[.int .u32 (d : Int)] 43)).drew.at_ HDI.out
          have s4 := ((hC.alloc (.cells #[.int .u32 10] 43)).alloc (.cells #[.int .u32 (d : Int)] 43)).drew.at_ HDI.out
          have s5 := ((hC.alloc (.cells #[.int .u32 (d : Int)] 43)).alloc (.cells #[.int .u32 10] 43)).drew.at_ HDI.out
          clear O1 O2 O3 O4 O5 E1 E2 ho HD HV HS hlen hs2 hgC hj0
          go_region_with (first
              | (go_at_call 37; refine (hml _ _ ?_ ?_).mono ?_; (first | exact (hA.alloc _).drew | exact ((hA.alloc _).alloc _).drew); (first | exact (Ints.one .u32 4294967296 43 10 rfl (by omega) (by first | rfl | simp)).drew | exact ((Ints.one .u32 4294967296 43 10 rfl (by omega) (by first | rfl | simp)).alloc _).drew); rintro e w3 ⟨A3, m3, c3, rfl, hm3, ho3, hb3⟩;
                 have E4 : Env w w3 [(w.heap.size + 1, 24, #[.bool false, .slice A q c]), (w.heap.size, 24, #[.bool false, .slice none 0 0])] [] := by { first | exact ((E3.other _).drew).below hb3 | exact (((E3.other _).other _).drew).below hb3 };
                 have hC4 : Lim w3 (some ⟨gC, oC, none⟩) m y ds := by { first | exact ((hC.alloc _).drew).below hb3 | exact (((hC.alloc _).alloc _).drew).below hb3 };
                 have s6 := hC4.at_ HDI.out; have s7 := (hC4.alloc (.cells #[.int .u32 (d : Int)] 43)).at_ HDI.out)
              | (go_at_call 36; refine (rAdd_any A3 m3 c3 (lmb (V * 10)) _ 1 1 [d] _ ?_ ?_ (by omega) (by omega)).mono ?_; (first | exact ho3.ints | exact (ho3.alloc _).ints); (first | exact Ints.one .u32 4294967296 43 d rfl (by omega) (by first | rfl | simp) | exact ((Ints.one .u32 4294967296 43 d rfl (by omega) (by first | rfl | simp)).drew).below hb3 | exact (((Ints.one .u32 4294967296 43 d rfl (by omega) (by first | rfl | simp)).alloc _).drew).below hb3); rintro e w5 ⟨A5, m5, c5, rfl, hm5, ho5, hb5⟩;
                 have E6 : Env w w5 [(w.heap.size + 1, 24, #[.bool false, .slice A q c]), (w.heap.size, 24, #[.bool false, .slice none 0 0])] [] := by { first | exact E4.below hb5 | exact (E4.other _).below hb5 };
                 have hC6 : Lim w5 (some ⟨gC, oC, none⟩) m y ds := by { first | exact hC4.below hb5 | exact (hC4.alloc _).below hb5 };
                 have s8 := hC6.at_ HDI.out; have k8 := E6.cell 0 1 rfl rfl; have f8 := E6.frozen 0 1 rfl; have s9 := (hC6.blkset (E6.b 0 rfl) rfl 1 (.slice A5 m5 c5)).at_ HDI.out))
          all_goals
            go_wp2_with fail
            have he : vl (lmb (V * 10)) + vl [d] = Num.val 10 (ds.drop i) := by
              rw [HDS.out, vl_lmb]; simp [vl, Num.val]; omega
            rw [he] at ho5
            exact ⟨⟨i, m5, c5, A5, by omega, rfl, E6.set 0 1 (.slice A5 m5 c5) rfl rfl, (ho5.ints.blkset (E6.b 0 rfl) rfl 1 (.slice A5 m5 c5)), hC6.blkset (E6.b 0 rfl) rfl 1 (.slice A5 m5 c5)⟩, by simp [intOf]⟩
    · have hm := digits_few (by omega) HV.out hk
      have hkv : k ≤ v := by
        have h1 := HV.out
        have h2 : 1 * k ≤ 10 ^ ds.length * k := Nat.mul_le_mul_right k (Nat.pow_pos (by decide))
        omega
      obtain ⟨x, hx⟩ : ∃ x, k % 10 = x := ⟨_, rfl⟩
      obtain ⟨q, hq⟩ : ∃ q, k / 10 = q := ⟨_, rfl⟩
      have hkn : (k : Int) ≠ 0 := by omega
      have hmb : m < 20 := by omega
      have HN : Hid (Num.val 10 (ds ++ [x]) + 10 ^ (ds ++ [x]).length * q = v) := by
        show _ = _
        rw [Num.val_snoc, List.length_append, List.length_singleton, Nat.pow_succ, ← HV.out, Nat.mul_assoc, Nat.add_assoc, ← Nat.mul_add]
        congr 2
        omega
      have HD2 : Hid (∀ d ∈ ds ++ [x], d < 10) := by
        intro d hd
        rcases List.mem_append.1 hd with hd | hd
        · exact HD.out d hd
        · rw [List.mem_singleton.1 hd]; omega
      have hx10 : x < 10 := by omega
      have hqk : q < k := by omega
      have e1 : Int.tmod (k : Int) 10 = (x : Int) := by rw [Int.tmod_eq_emod_of_nonneg (by omega)]; omega
      have e2 : Int.tdiv (k : Int) 10 = (q : Int) := by rw [Int.tdiv_eq_ediv_of_nonneg (by omega)]; omega
      have e3 : IntKind.i64.wrap (q : Int) = (q : Int) := IntWalk.i64_in _ (by omega)
      have e4 : IntKind.i64.wrap (x : Int) = (x : Int) := IntWalk.i64_in _ (by omega)
      have e5 : IntKind.u32.wrap (x : Int) = (x : Int) := IntWalk.u32_in _ (by omega)
      have e6 : decide ((x : Int) < 0) = false := by simp
      clear hx hq
      go_wp2_with (at_builtin; go_must (refine wpList_appI _ rfl (.tmp 18) (.tmp 21) _ rfl 43 4 Tryd.underlying22 info_u32 (by omega) (ho.alloc _) rfl (Ints.one (w := wr) .u32 4294967296 43 x rfl (by omega) rfl) rfl (by omega) (by simp; omega) ?_); intro A5 c5 w5 ho5 hg5 ha5)
      exact ⟨⟨q, m + 1, c5, A5, ds ++ [x], by omega, rfl, rfl, (E2.other _).grown (ho.alloc _).own (Nat.le_refl _) hg5 rfl, ho5, HD2, HN⟩, by simp [intOf]; omega⟩
set_option maxRecDepth 100000 in
set_option maxHeartbeats 3200000 in
theorem rzof_true (v : Nat) (w : World) (hv : v ≤ 9223372036854775808) (hs : decide ((-(v : Int)) < 0) = true) :
    Calls Tryd.prog 18 #[.int .i64 (-(v : Int))] w fun e w' => ∃ b3 A3 n3 c3, e = .returned (.agg #[.bool b3, .slice A3 n3 c3]) ∧ ZIs w' b3 A3 n3 c3 (-(v : Int)) 3 true ∧ Below w.heap.size w w' := by
  have HS := Lib.hid hs
  have hvp : 0 < v := by have := of_decide_eq_true hs; omega
  clear hs
  have E1 := (((Env.nil_ w).alloc 24 #[.bool false, .slice none 0 0] (g := w.heap.size) rfl rfl).alloc 24 #[.bool true, .slice none 0 0] (g := w.heap.size + 1) (by simp) rfl)
  go_enter Tryd.func18, Tryd.ntmps18
  go_wp2_with fail
  go_loopw [0, 4] (fun nv lv wr => ∃ (k m y : Nat) (C : Option Addr) (ds : List Nat), m ≤ 20 ∧ nv = .int .i64 (-(k : Int)) ∧ lv = .slice C m y ∧ Env w wr [(w.heap.size + 1, 24, #[.bool true, .slice none 0 0]), (w.heap.size, 24, #[.bool false, .slice none 0 0])] [] ∧ OwnL wr w.heap.size C m y ds ∧ Hid (∀ d ∈ ds, d < 10) ∧ Hid (Num.val 10 ds + 10 ^ ds.length * k = v)) (fun nv _ _ => (intOf nv).natAbs)
  case atStart => exact ⟨v, 0, 0, none, [], by omega, rfl, rfl, E1, OwnI.nil_ .., Lib.hid (by simp), Lib.hid (by simp [Num.val])⟩
  case round =>
    obtain ⟨k, m, y, C, ds, hm20, rfl, rfl, E2, ho, HD, HV⟩ := hrel
    have hlen := ho.len
    have hs2 := E2.size
    rcases Nat.eq_zero_or_pos k with hk | hk
    · subst hk
      rw [Nat.mul_zero, Nat.add_zero] at HV
      rw [show ((-(((0 : Nat) : Int))) : Int) = 0 from rfl]
      go_wp2_with fail
      go_loopw [6] (fun iv wk => ∃ (j q c : Nat) (A : Option Addr), j ≤ m ∧ iv = .int .i64 ((j : Int) - 1) ∧ Env w wk [(w.heap.size + 1, 24, #[.bool true, .slice A q c]), (w.heap.size, 24, #[.bool false, .slice none 0 0])] [] ∧ Lim wk A q c (lmb (Num.val 10 (ds.drop j))) ∧ Lim wk C m y ds) (fun iv _ => (intOf iv + 1).toNat)
      case atStart =>
        refine ⟨m, 0, 0, none, Nat.le_refl _, ?_, E2, ?_, ho.ints⟩
        · rfl
        · rw [← hlen, List.drop_length, Num.val_nil, lmb_zero]; exact Ints.nil_ ..
      case round =>
        obtain ⟨j, q, c, A, hj, rfl, E3, hA, hC⟩ := hrel
        rcases Nat.eq_zero_or_pos j with hj0 | hj0
        · subst hj0
          rw [List.drop_zero, HV.out] at hA
          have hq := hA.len
          have hq3 := lmb_few (v := v) (by omega)
          have c0 := E3.cell 0 0 rfl rfl
          have c1 := E3.cell 0 1 rfl rfl
          have c2 := E3.cell 1 0 rfl rfl
          have c3 := E3.cell 1 1 rfl rfl
          have f0 := E3.frozen 1 0 rfl
          have f1 := E3.frozen 1 1 rfl
          have E4 := (E3.add (ZIs.plain (k := 3) (z := (-(v : Int))) (b := true) (A := A) (by rw [show Int.natAbs (-(v : Int)) = v by omega]; exact hA) HS.out (by omega))).st2 1 (.bool true) (.slice A q c) rfl rfl rfl
          go_wp2_with fail
          refine bodyPost_ret (results_cell_row rfl _ _ (w.heap.size) 24 #[.bool true, .slice A q c] (0, 0) _ rfl (E4.b 1 rfl).is Tryd.underlying24 rfl (by kernel_rfl)) rfl ?_
          exact ⟨_, _, _, _, rfl, E4.z 0 rfl, E4.bel⟩
        · obtain ⟨i, rfl⟩ : ∃ i, j = i + 1 := ⟨j - 1, by omega⟩
          have ei : ((i + 1 : Nat) : Int) - 1 = (i : Int) := by omega
          rw [ei]
          obtain ⟨gC, oC, d, rfl, hgC, hd, hdl, hcd⟩ := hC.get (k := i) (by omega)
          have hds := Num.val_drop_pred 10 hd
          have hVl : Num.val 10 (ds.drop (i + 1)) < 10000000000000000000 := by
            have h1 := Num.val_lt 10 (ds.drop (i + 1)) (fun x hx => HD.out x (List.mem_of_mem_drop hx))
            rw [List.length_drop, hlen] at h1
            exact Nat.lt_of_lt_of_le h1 (Nat.le_trans (Nat.pow_le_pow_right (by decide) (show m - (i + 1) ≤ 19 by omega)) (by decide))
          obtain ⟨V, hV⟩ : ∃ V, Num.val 10 (ds.drop (i + 1)) = V := ⟨_, rfl⟩
          rw [hV] at hA hds hVl
          have hq := hA.len
          have hq3 := lmb_few (v := V) (by omega)
          have HDS := Lib.hid hds
          have HDI := Lib.hid hd
          clear hds hV hd ei hcd
          have hi0 : (0 : Int) ≤ (i : Int) := by omega
          have him : (i : Int) < (m : Int) := by omega
          have hml := fun (g : Nat) (w0 : World) h0 h1 => rMul_any A q c (lmb V) (some ⟨g, 0, none⟩) 1 1 [10] w0 h0 h1 (by omega) (by omega)
          simp only [vl_lmb, show vl [10] = 10 from rfl] at hml
          go_wp2_with fail
          have O1 := E3.drew
          have O2 := (E3.other (.cells #[.int .u32 10] 43)).drew
          have O3 := (E3.other (.cells #[.int .u32 (d : Int)] 43)).drew
          have O4 := ((E3.other (.cells #[.int .u32 10] 43)).other (.cells #[.int .u32 (d : Int)] 43)).drew
          have O5 := ((E3.other (.cells #[.int .u32 (d : Int)] 43)).other (.cells #[.int .u32 10] 43)).drew
          have k1 := O1.cell 0 1 rfl rfl
          have k2 := O2.cell 0 1 rfl rfl
          have k3 := O3.cell 0 1 rfl rfl
          have k4 := O4.cell 0 1 rfl rfl
          have k5 := O5.cell 0 1 rfl rfl
          have s1 := hC.drew.at_ HDI.out
          have s2 := (hC.alloc (.cells #[.int .u32 10] 43)).drew.at_ HDI.out
          have s3 := (hC.alloc (.cells #[.int .u32 (d : Int)] 43)).drew.at_ HDI.out
          have s4 := ((hC.alloc (.cells #[.int .u32 10] 43)).alloc (.cells #[.int .u32 (d : Int)] 43)).drew.at_ HDI.out
          have s5 := ((hC.alloc (.cells #[.int .u32 (d : Int)] 43)).alloc (.cells #[.int .u32 10] 43)).drew.at_ HDI.out
          clear O1 O2 O3 O4 O5 E1 E2 ho HD HV HS hlen hs2 hgC hj0
          go_region_with (first
              | (go_at_call 37; refine (hml _ _ ?_ ?_).mono ?_; (first | exact (hA.alloc _).drew | exact ((hA.alloc _).alloc _).drew); (first | exact (Ints.one .u32 4294967296 43 10 rfl (by omega) (by first | rfl | simp)).drew | exact ((Ints.one .u32 4294967296 43 10 rfl (by omega) (by first | rfl | simp)).alloc _).drew); rintro e w3 ⟨A3, m3, c3, rfl, hm3, ho3, hb3⟩;
                 have E4 : Env w w3 [(w.heap.size + 1, 24, #[.bool true, .slice A q c]), (w.heap.size, 24, #[.bool false, .slice none 0 0])] [] := by { first | exact ((E3.other _).drew).below hb3 | exact (((E3.other _).other _).drew).below hb3 };
                 have hC4 : Lim w3 (some ⟨gC, oC, none⟩) m y ds := by { first | exact ((hC.alloc _).drew).below hb3 | exact (((hC.alloc _).alloc _).drew).below hb3 };
                 have s6 := hC4.at_ HDI.out; have s7 := (hC4.alloc (.cells #[.int .u32 (d : Int)] 43)).at_ HDI.out)
              | (go_at_call 36; refine (rAdd_any A3 m3 c3 (lmb (V * 10)) _ 1 1 [d] _ ?_ ?_ (by omega) (by omega)).mono ?_; (first | exact ho3.ints | exact (ho3.alloc _).ints); (first | exact Ints.one .u32 4294967296 43 d rfl (by omega) (by first | rfl | simp) | exact ((Ints.one .u32 4294967296 43 d rfl (by omega) (by first | rfl | simp)).drew).below hb3 | exact (((Ints.one .u32 4294967296 43 d rfl (by omega) (by first | rfl | simp)).alloc _).drew).below hb3); rintro e w5 ⟨A5, m5, c5, rfl, hm5, ho5, hb5⟩;
                 have E6 : Env w w5 [(w.heap.size + 1, 24, #[.bool true, .slice A q c]), (w.heap.size, 24, #[.bool false, .slice none 0 0])] [] := by { first | exact E4.below hb5 | exact (E4.other _).below hb5 };
                 have hC6 : Lim w5 (some ⟨gC, oC, none⟩) m y ds := by { first | exact hC4.below hb5 | exact (hC4.alloc _).below hb5 };
                 have s8 := hC6.at_ HDI.out; have k8 := E6.cell 0 1 rfl rfl; have f8 := E6.frozen 0 1 rfl; have s9 := (hC6.blkset (E6.b 0 rfl) rfl 1 (.slice A5 m5 c5)).at_ HDI.out))
          all_goals
            go_wp2_with fail
            have he : vl (lmb (V * 10)) + vl [d] = Num.val 10 (ds.drop i) := by
              rw [HDS.out, vl_lmb]; simp [vl, Num.val]; omega
            rw [he] at ho5
            exact ⟨⟨i, m5, c5, A5, by omega, rfl, E6.set 0 1 (.slice A5 m5 c5) rfl rfl, (ho5.ints.blkset (E6.b 0 rfl) rfl 1 (.slice A5 m5 c5)), hC6.blkset (E6.b 0 rfl) rfl 1 (.slice A5 m5 c5)⟩, by simp [intOf]⟩
    · have hm := digits_few (by omega) HV.out hk
      have hkv : k ≤ v := by
        have h1 := HV.out
        have h2 : 1 * k ≤ 10 ^ ds.length * k := Nat.mul_le_mul_right k (Nat.pow_pos (by decide))
        omega
      obtain ⟨x, hx⟩ : ∃ x, k % 10 = x := ⟨_, rfl⟩
      obtain ⟨q, hq⟩ : ∃ q, k / 10 = q := ⟨_, rfl⟩
      have hkn : (-(k : Int)) ≠ 0 := by omega
      have hmb : m < 20 := by omega
      have HN : Hid (Num.val 10 (ds ++ [x]) + 10 ^ (ds ++ [x]).length * q = v) := by
        show _ = _
        rw [Num.val_snoc, List.length_append, List.length_singleton, Nat.pow_succ, ← HV.out, Nat.mul_assoc, Nat.add_assoc, ← Nat.mul_add]
        congr 2
        omega
      have HD2 : Hid (∀ d ∈ ds ++ [x], d < 10) := by
        intro d hd
        rcases List.mem_append.1 hd with hd | hd
        · exact HD.out d hd
        · rw [List.mem_singleton.1 hd]; omega
      have hx10 : x < 10 := by omega
      have hqk : q < k := by omega
      have e2 : Int.tdiv (-(k : Int)) 10 = -(q : Int) := by rw [Int.neg_tdiv, Int.tdiv_eq_ediv_of_nonneg (by omega)]; omega
      have e3 : IntKind.i64.wrap (-(q : Int)) = -(q : Int) := IntWalk.i64_in _ (by omega)
      have e1 : Int.tmod (-(k : Int)) 10 = -(x : Int) := by rw [Int.neg_tmod, Int.tmod_eq_emod_of_nonneg (by omega)]; omega
      have e4 : IntKind.i64.wrap (-(x : Int)) = -(x : Int) := IntWalk.i64_in _ (by omega)
      have e7 : IntKind.i64.wrap (x : Int) = (x : Int) := IntWalk.i64_in _ (by omega)
      have e5 : IntKind.u32.wrap (x : Int) = (x : Int) := IntWalk.u32_in _ (by omega)
      rcases Nat.eq_zero_or_pos x with hx0 | hx0
      · subst hx0
        have e1 : Int.tmod (-(k : Int)) 10 = 0 := e1
        have e4 : IntKind.i64.wrap 0 = 0 := by decide
        have e5 : IntKind.u32.wrap 0 = 0 := by decide
        clear e7
        clear hx hq
        go_wp2_with (at_builtin; go_must (refine wpList_appI _ rfl (.tmp 18) (.tmp 21) _ rfl 43 4 Tryd.underlying22 info_u32 (by omega) (ho.alloc _) rfl (Ints.one (w := wr) .u32 4294967296 43 0 rfl (by omega) rfl) rfl (by omega) (by simp; omega) ?_); intro A5 c5 w5 ho5 hg5 ha5)
        exact ⟨⟨q, m + 1, c5, A5, ds ++ [0], by omega, rfl, rfl, (E2.other _).grown (ho.alloc _).own (Nat.le_refl _) hg5 rfl, ho5, HD2, HN⟩, by simp [intOf]; omega⟩
      · have hxi : (0 : Int) < (x : Int) := by omega
        clear hx hq
        go_wp2_with (at_builtin; go_must (refine wpList_appI _ rfl (.tmp 18) (.tmp 21) _ rfl 43 4 Tryd.underlying22 info_u32 (by omega) (ho.alloc _) rfl (Ints.one (w := wr) .u32 4294967296 43 x rfl (by omega) rfl) rfl (by omega) (by simp; omega) ?_); intro A5 c5 w5 ho5 hg5 ha5)
        exact ⟨⟨q, m + 1, c5, A5, ds ++ [x], by omega, rfl, rfl, (E2.other _).grown (ho.alloc _).own (Nat.le_refl _) hg5 rfl, ho5, HD2, HN⟩, by simp [intOf]; omega⟩
theorem rzof (z : Int) (w : World) (h1 : -9223372036854775808 ≤ z) (h2 : z ≤ 9223372036854775807) :
    Calls Tryd.prog 18 #[.int .i64 z] w fun e w' => ∃ b3 A3 n3 c3, e = .returned (.agg #[.bool b3, .slice A3 n3 c3]) ∧ ZIs w' b3 A3 n3 c3 z 3 true ∧ Below w.heap.size w w' := by
  rcases Int.lt_or_le z 0 with h | h
  · obtain ⟨v, rfl⟩ : ∃ v : Nat, z = -(v : Int) := ⟨z.natAbs, by omega⟩
    exact rzof_true v w (by omega) (decide_eq_true h)
  · obtain ⟨v, rfl⟩ : ∃ v : Nat, z = (v : Int) := ⟨z.natAbs, by omega⟩
    exact rzof_false v w (by omega) (decide_eq_false (by omega)) (by omega)

end Go.Proofs.YticjhlbmdjijnaaDoor
