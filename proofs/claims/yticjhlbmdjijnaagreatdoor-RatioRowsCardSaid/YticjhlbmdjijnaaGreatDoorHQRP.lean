/- The reference of package ratio: find, decimal. No condition but that there are at most 1000 signs. No condition but the reach of a slice. -/
import Derived.Test.YticjhlbmdjijnaaGreatDoorHQP
import Derived.Test.YticjhlbmdjijnaaGreatDoorHQR
namespace Go.Proofs.YticjhlbmdjijnaaGreatDoor
set_option linter.unusedSimpArgs false
set_option linter.unusedVariables false
open Go.RowKit

theorem zas_f {w : World} {b : Bool} {A : Option Addr} {n c : Nat} {x y k : Nat} {p : Bool} (h : ZIs w b A n c ((x : Nat) : Int) k p) (e : x = y) : ZIs w false A n c ((y : Nat) : Int) k false := by
  subst e
  exact h.resign false
theorem zas_t {w : World} {b : Bool} {A : Option Addr} {n c : Nat} {x y k : Nat} (h : ZIs w b A n c ((x : Nat) : Int) k true) (e : x = y) : ZIs w false A n c ((y : Nat) : Int) k true := by
  subst e
  have hb := h.limbs.2
  rw [decide_eq_false (by omega)] at hb
  subst hb
  exact h
theorem ZIs.any {w : World} {b : Bool} {A : Option Addr} {n c : Nat} {z : Int} {k : Nat} {p : Bool} (h : ZIs w b A n c z k p) : ZIs w b A n c z k false := by
  obtain ⟨⟨l, h1, h2, _⟩, h3⟩ := h
  exact ⟨⟨l, h1, h2, fun h => by cases h⟩, h3⟩
theorem zone (x : Nat) (hx : x < 4294967296) (w : World) : ZIs (w.alloc (.cells #[.int .u32 (x : Int)] 82)) false (some ⟨w.heap.size, 0, none⟩) 1 1 ((x : Nat) : Int) 1 false := by
  have h := Ints.one (w := w) .u32 4294967296 82 x rfl hx rfl
  have h2 := ZIs.of_lim (b := false) (k := 1) h (Nat.le_refl _)
  have e : zv false (vl [x]) = ((x : Nat) : Int) := by
    have e1 : vl [x] = x := by simp [vl, Num.val]
    rw [e1]; rfl
  rw [e] at h2
  exact h2
theorem zr_mul {w : World} {a b : Bool} {A B : Option Addr} {n c m d : Nat} {x y : Nat} {i j K : Nat} {p q : Bool} (ha : ZIs w a A n c (x : Int) i p) (hb : ZIs w b B m d (y : Int) j q) (hi : i ≤ 268435456) (hj : j ≤ 268435456) (hK : x * y < 4294967296 ^ K) : Calls Tryz.prog 91 #[.slice A n c, .slice B m d] w fun e w' => ∃ b3 A3 n3 c3, e = .returned (.slice A3 n3 c3) ∧ ZIs w' b3 A3 n3 c3 ((x * y : Nat) : Int) K true ∧ Below w.heap.size w w' := by
  obtain ⟨l, h1, h2, _⟩ := ha.lim
  obtain ⟨l', h1', h2', _⟩ := hb.lim
  have hin := ha.few
  have hjm := hb.few
  refine (rMul_any A n c l B m d l' w h1 h1' (by omega) (by omega)).mono fun _ _ ⟨A3, m3, c3, he, hm, ho, hb⟩ => ⟨false, A3, m3, c3, he, ?_, hb⟩
  rw [h2, h2'] at ho
  exact (ZIs.of_own (z := ((x * y : Nat) : Int)) (k := m3) ho (decide_eq_false (by omega)) (Nat.le_refl _)).tight (by rw [Int.natAbs_natCast]; exact hK)
theorem zr_add {w : World} {a b : Bool} {A B : Option Addr} {n c m d : Nat} {x y : Nat} {i j K : Nat} {p q : Bool} (ha : ZIs w a A n c (x : Int) i p) (hb : ZIs w b B m d (y : Int) j q) (hi : i ≤ 268435456) (hj : j ≤ 268435456) (hK : x + y < 4294967296 ^ K) : Calls Tryz.prog 90 #[.slice A n c, .slice B m d] w fun e w' => ∃ b3 A3 n3 c3, e = .returned (.slice A3 n3 c3) ∧ ZIs w' b3 A3 n3 c3 ((x + y : Nat) : Int) K true ∧ Below w.heap.size w w' := by
  obtain ⟨l, h1, h2, _⟩ := ha.lim
  obtain ⟨l', h1', h2', _⟩ := hb.lim
  have hin := ha.few
  have hjm := hb.few
  refine (rAdd_any A n c l B m d l' w h1 h1' (by omega) (by omega)).mono fun _ _ ⟨A3, m3, c3, he, hm, ho, hb⟩ => ⟨false, A3, m3, c3, he, ?_, hb⟩
  rw [h2, h2'] at ho
  exact (ZIs.of_own (z := ((x + y : Nat) : Int)) (k := m3) ho (decide_eq_false (by omega)) (Nat.le_refl _)).tight (by rw [Int.natAbs_natCast]; exact hK)
theorem rparse_z (l : List Nat) (hl : ∀ x ∈ l, x < 256) (w : World) (h : Reads l) (hn : l.length ≤ 1000) : Calls Tryz.prog 83 #[.string (str l)] w fun e w' => ∃ A3 n3 c3, e = .returned (.tuple #[.slice A3 n3 c3, .bool true]) ∧ ZIs w' false A3 n3 c3 ((dec l : Nat) : Int) 128 true ∧ Below w.heap.size w w' :=
  (rparse_ok l hl w h).mono fun _ _ ⟨A, m, c, he, hm, ho, hb⟩ => ⟨A, m, c, he, (ZIs.of_own (z := ((dec l : Nat) : Int)) (k := 200000) ho (decide_eq_false (by omega)) hm).tight (by simpa using dec_few h.digs hn), hb⟩
theorem idx_take {c : Nat} {l : List Nat} {k : Nat} (h : ∀ j, j < k → ∀ x, l[j]? = some x → x ≠ c) (hk : l[k]? = some c) : idx c l = (k : Int) := by
  induction l generalizing k with
  | nil => simp at hk
  | cons x l ih =>
    cases k with
    | zero =>
      simp only [List.getElem?_cons_zero, Option.some.injEq] at hk
      subst hk
      unfold idx
      rw [if_pos (by simp), cutH_cons, if_pos rfl]; rfl
    | succ k =>
      have hx : x ≠ c := h 0 (by omega) x rfl
      have h1 := ih (k := k) (fun j hj y hy => h (j + 1) (by omega) y (by simpa using hy)) (by simpa using hk)
      have hm : c ∈ l := List.mem_of_getElem? (by simpa using hk)
      unfold idx at h1 ⊢
      rw [if_pos hm] at h1
      rw [if_pos (List.mem_cons_of_mem _ hm), cutH_cons, if_neg hx, List.length_cons]
      push_cast
      rw [h1]
set_option maxRecDepth 100000 in
set_option maxHeartbeats 800000 in
theorem rfind (c : Nat) (hc : c < 256) (l : List Nat) (hl : ∀ x ∈ l, x < 256) (hlen : l.length ≤ 9223372036854775807) (w : World) :
    Calls Tryz.prog 80 #[.string (str l), .int .u8 (c : Int)] w fun e w' => e = .returned (.int .i64 (idx c l)) ∧ w = w' := by
  obtain ⟨n, hn⟩ : ∃ n, l.length = n := ⟨_, rfl⟩
  have hS : (str l).size = n := by rw [str_size, hn]
  have HG := Lib.hid fun i x hx h => str_get l hl i x hx h
  have HN := Lib.hid hn
  have hn63 : (n : Int) ≤ 9223372036854775807 := by omega
  generalize str l = S at *
  clear hn hlen
  go_enter Tryz.func80, Tryz.ntmps80
  go_wp2_with fail
  go_loop [5] (fun v => ∃ k : Nat, k ≤ n ∧ v = .int .i64 k ∧ Hid (∀ j, j < k → ∀ x, l[j]? = some x → x ≠ c)) (fun v => n - (intOf v).toNat)
  case atStart => exact ⟨0, Nat.zero_le _, rfl, Lib.hid (fun j hj => absurd hj (by omega))⟩
  case round =>
    obtain ⟨k, hk, rfl, HJ⟩ := hrel
    by_cases hkn : k < n
    · obtain ⟨x, hx⟩ : ∃ x, l[k]? = some x := ⟨_, List.getElem?_eq_getElem (by rw [HN.out]; exact hkn)⟩
      have hgi := fun h => HG.out k x hx h
      have hxl := hl x (List.mem_of_getElem? hx)
      have hlt : (k : Int) < (n : Int) := by omega
      by_cases hxc : x = c
      · have hb : ((x : Int) == (c : Int)) = true := by simp [hxc]
        have HI := Lib.hid (idx_take HJ.out (by rw [hx, hxc]))
        clear hx hxc
        go_wp2_with fail
        go_ret
        exact ⟨ret_int (by rw [HI.out]), rfl⟩
      · have hb : ((x : Int) == (c : Int)) = false := by simp; omega
        have HJ2 : Hid (∀ j, j < k + 1 → ∀ x, l[j]? = some x → x ≠ c) := Lib.hid (fun j hj y hy => by
          by_cases e : j = k
          · subst e; rw [hx] at hy; cases hy; exact hxc
          · exact HJ.out j (by omega) y hy)
        clear hx hxc
        go_wp2_with fail
        exact ⟨⟨k + 1, by omega, by go_num, HJ2⟩, by simp [intOf]; omega⟩
    · obtain rfl : k = n := by omega
      have hnot : c ∉ l := fun hm => by
        obtain ⟨j, hj⟩ := List.getElem?_of_mem hm
        have hjl := (List.getElem?_eq_some_iff.1 hj).1
        exact HJ.out j (by rw [← HN.out]; exact hjl) c hj rfl
      have HI := Lib.hid (show idx c l = -1 by unfold idx; rw [if_neg hnot])
      clear hnot
      go_wp2_with fail
      go_ret
      exact ⟨ret_int (by rw [HI.out]), rfl⟩
theorem str_mid {P : Program} (t : TypeId) (ht : P.underlying t = some .string) (l : List Nat) (i n : Nat) (h1 : i ≤ n) (hn : n ≤ l.length) (w : World) :
    (Instr.slice t (.string (str l)) (some (.int .i64 (i : Int))) (some (.int .i64 (n : Int))) none).run P w = .ok (.string (str ((l.take n).drop i))) w := by
  rw [run_slice_string_if w t (str l) .i64 .i64 i n ht, if_pos ⟨by omega, by rw [str_size]; omega⟩, if_pos ⟨by omega, by omega⟩, Int.toNat_natCast, Int.toNat_natCast]
  have e : (str l).extract i n = str ((l.take n).drop i) := by
    have h3 := str_drop (l.take n) i
    rw [str_size, List.length_take, Nat.min_eq_left hn] at h3
    rw [← h3]
    apply ByteArray.ext
    unfold str
    simp only [ByteArray.data_extract, List.extract_toArray]
    congr 1
    rw [List.extract_eq_take_drop, List.extract_eq_take_drop, List.map_take, List.drop_take, List.take_take]
    congr 1
    omega
  rw [e]
set_option maxRecDepth 100000 in
set_option maxHeartbeats 6400000 in
theorem rqdecimal (l h t : List Nat) (hl : ∀ x ∈ l, x < 256) (hsplit : l = h ++ 46 :: t) (hne : h ≠ []) (h45 : h ≠ [45]) (hn : l.length ≤ 1000) (w : World) : Calls Tryz.prog 81 #[.string (str l), .int .i64 (h.length : Int)] w fun e w' => ∃ b3 A3 n3 c3 b4 A4 n4 c4, e = .returned (.tuple #[.agg #[.bool b3, .slice A3 n3 c3, .bool b4, .slice A4 n4 c4], .bool (qdok h t)]) ∧ ZIs w' b3 A3 n3 c3 ((qdv h t).num) 128 true ∧ ZIs w' b4 A4 n4 c4 (((qdv h t).den : Nat) : Int) 128 true ∧ Below w.heap.size w w' := by
  obtain ⟨i, hi⟩ : ∃ i, h.length = i := ⟨_, rfl⟩
  obtain ⟨m, hm⟩ : ∃ m, t.length = m := ⟨_, rfl⟩
  have hlen : l.length = i + 1 + m := by rw [hsplit, List.length_append, List.length_cons, hi, hm]; omega
  have hi1 : 1 ≤ i := by rw [← hi]; exact List.length_pos_iff.2 hne
  have hS : (str l).size = i + 1 + m := by rw [str_size, hlen]
  have hth : l.take i = h := by rw [hsplit, ← hi, List.take_left']; rfl
  have hlt : ∀ j x, t[j]? = some x → l[i + 1 + j]? = some x := fun j x hx => by
    rw [hsplit, List.getElem?_append_right (by omega), hi, show i + 1 + j - i = j + 1 by omega, List.getElem?_cons_succ]; exact hx
  obtain ⟨x0, hx0⟩ : ∃ x, h[0]? = some x := ⟨_, List.getElem?_eq_getElem (by omega)⟩
  have hl0 : l[0]? = some x0 := by rw [hsplit, List.getElem?_append_left (by omega)]; exact hx0
  have hix := fun hh => str_get l hl 0 x0 hl0 hh
  have hx256 := hl x0 (List.mem_of_getElem? hl0)
  have hh256 : ∀ x ∈ h, x < 256 := fun x hx => hl x (by rw [hsplit]; exact List.mem_append_left _ hx)
  have ht256 : ∀ x ∈ t, x < 256 := fun x hx => hl x (by rw [hsplit]; exact List.mem_append_right _ (List.mem_cons_of_mem _ hx))
  have HG := Lib.hid fun j x hx hh => str_get l hl (i + 1 + j) x (hlt j x hx) hh
  have HM := Lib.hid hm
  have r1 := fun w0 => str_head (P := Tryz.prog) 9 Tryz.underlying9 l i (by omega) w0
  have r2 := fun w0 => str_mid (P := Tryz.prog) 9 Tryz.underlying9 l 1 i hi1 (by omega) w0
  rw [hth] at r1 r2
  obtain ⟨N, hNN⟩ : ∃ N, i + 1 + m = N := ⟨_, rfl⟩
  rw [hNN] at hS
  have HNN := Lib.hid hNN
  have hNi : i + 1 ≤ N := by omega
  have hNL : N ≤ 1000 := by omega
  have hNL2 : (N : Int) ≤ 1000 := by omega
  have hbl := bod_len h
  have R0 := (Env.nil_ w).alloc 26 #[.bool false, .slice none 0 0, .bool false, .slice none 0 0] (g := w.heap.size) rfl rfl
  have hiL : (i : Int) ≤ 1000 := by omega
  have hmL : (m : Int) ≤ 1000 := by omega
  have hi0 : (1 : Int) ≤ (i : Int) := by omega
  have hn0 : h.length + t.length ≤ 1000 := by omega
  rw [hi]
  by_cases hx45 : x0 = 45
  · have hb45 : ((x0 : Int) == 45) = true := by simp [hx45]
    have hbd : bod h = h.drop 1 := by unfold bod; rw [hx0, hx45]; simp
    have hN := Lib.hid (show decide (h[0]? = some 45) = true by rw [hx0, hx45]; rfl)
    have r2' : ∀ w0, (Instr.slice 9 (.string (str l)) (some (.int .i64 1)) (some (.int .i64 (i : Int))) none).run Tryz.prog w0 = .ok (.string (str (bod h))) w0 := by rw [hbd]; exact r2
    generalize str l = S at *
    generalize str h = S1 at *
    clear r2 hl hsplit hne h45 hn hi hm hlen hth hlt hx0 hl0 hbd hx45 hNN
    by_cases hrd : ¬ Reads (bod h)
    · have HQ := Lib.hid (qd_no (h := h) (t := t) (fun e => hrd e.1))
      have d1 := fun w0 => rparse_bad (bod h) (bod_lt hh256) w0 hrd
      generalize str (bod h) = S2 at *
      clear hrd
      go_enter Tryz.func81, Tryz.ntmps81
      go_wp2_with fail
      refine (d1 _).mono ?_; rintro e w1 ⟨rfl, hb1⟩
      have R1 := (R0.below hb1)
      go_wp2_with fail
      refine (rqzero _).mono ?_; rintro e w2 ⟨b_p, A_p, n_p, c_p, b_q, A_q, n_q, c_q, rfl, z_p, z_q, hb2⟩
      have R2 := (((R1.below hb2).add z_p).add z_q)
      have zr0 := R2.cell 0 0 rfl rfl
      have zr1 := R2.cell 0 1 rfl rfl
      have zr2 := R2.cell 0 2 rfl rfl
      have zr3 := R2.cell 0 3 rfl rfl
      have zfr0 := R2.frozen 0 0 rfl
      have zfr1 := R2.frozen 0 1 rfl
      have zfr2 := R2.frozen 0 2 rfl
      have zfr3 := R2.frozen 0 3 rfl
      go_wp2_with fail
      have R9_ := R2.st4 0 (.bool b_p) (.slice A_p n_p c_p) (.bool b_q) (.slice A_q n_q c_q) rfl rfl rfl rfl rfl
      refine bodyPost_ret (results_row_tmp rfl _ _ (w.heap.size) 26 #[.bool b_p, .slice A_p n_p c_p, .bool b_q, .slice A_q n_q c_q] (0, 0) _ rfl (R9_.b 0 rfl).is Tryz.underlying26 rfl (by kernel_rfl)) rfl ?_
      exact ⟨_, _, _, _, _, _, _, _, ret_vb HQ.out.1.symm, (by rw [HQ.out.2]; exact (R9_.z 1 rfl).mono (show 1 ≤ 128 by omega)), (by rw [HQ.out.2]; exact (R9_.z 0 rfl).mono (show 1 ≤ 128 by omega)), R9_.bel⟩
    have hrd := Classical.not_not.1 hrd
    have d1 := fun w0 => rparse_z (bod h) (bod_lt hh256) w0 hrd (by omega)
    by_cases hm0 : m = 0
    · have HQ := Lib.hid (qd_no (h := h) (t := t) (fun e => by have := e.2.1; rw [HM.out] at this; omega))
      have he2 : ((i : Int) + 1 == (N : Int)) = true := by have := HNN.out; simp; omega
      generalize str (bod h) = S2 at *
      clear hrd hm0
      go_enter Tryz.func81, Tryz.ntmps81
      go_wp2_with fail
      refine (d1 _).mono ?_; rintro e w1 ⟨A_n, n_n, c_n, rfl, z_n, hb1⟩
      have R1 := (R0.below hb1).add z_n
      go_wp2_with fail
      refine (rqzero _).mono ?_; rintro e w2 ⟨b_p, A_p, n_p, c_p, b_q, A_q, n_q, c_q, rfl, z_p, z_q, hb2⟩
      have R2 := (((R1.below hb2).add z_p).add z_q)
      have zr0 := R2.cell 0 0 rfl rfl
      have zr1 := R2.cell 0 1 rfl rfl
      have zr2 := R2.cell 0 2 rfl rfl
      have zr3 := R2.cell 0 3 rfl rfl
      have zfr0 := R2.frozen 0 0 rfl
      have zfr1 := R2.frozen 0 1 rfl
      have zfr2 := R2.frozen 0 2 rfl
      have zfr3 := R2.frozen 0 3 rfl
      go_wp2_with fail
      have R9_ := R2.st4 0 (.bool b_p) (.slice A_p n_p c_p) (.bool b_q) (.slice A_q n_q c_q) rfl rfl rfl rfl rfl
      refine bodyPost_ret (results_row_tmp rfl _ _ (w.heap.size) 26 #[.bool b_p, .slice A_p n_p c_p, .bool b_q, .slice A_q n_q c_q] (0, 0) _ rfl (R9_.b 0 rfl).is Tryz.underlying26 rfl (by kernel_rfl)) rfl ?_
      exact ⟨_, _, _, _, _, _, _, _, ret_vb HQ.out.1.symm, (by rw [HQ.out.2]; exact (R9_.z 1 rfl).mono (show 1 ≤ 128 by omega)), (by rw [HQ.out.2]; exact (R9_.z 0 rfl).mono (show 1 ≤ 128 by omega)), R9_.bel⟩
    have he2 : ((i : Int) + 1 == (N : Int)) = false := by have := HNN.out; simp; omega
    have HD := Lib.hid (And.intro hrd (And.intro hn0 (And.intro hbl hm0)))
    generalize str (bod h) = S2 at *
    clear hrd hm0
    go_enter Tryz.func81, Tryz.ntmps81
    go_wp2_with fail
    refine (d1 _).mono ?_; rintro e w1 ⟨A_n, n_n, c_n, rfl, z_n, hb1⟩
    have R1 := (R0.below hb1).add z_n
    go_wp2_with fail
    have R50 := (R1.other (.cells #[.int .u32 1] 82)).add (zone 1 (by omega) w1)
    clear d1 r1
    go_loopw [8, 10, 11] (fun nv dv kv wr => ∃ (j k : Nat) (A1 : Option Addr) (m1 c1 : Nat) (A2 : Option Addr) (m2 c2 : Nat), Hid (k = i + 1 + j) ∧ j ≤ m ∧ kv = .int .i64 (k : Int) ∧ nv = .slice A1 m1 c1 ∧ dv = .slice A2 m2 c2 ∧ Env w wr [(w.heap.size, 26, #[.bool false, .slice none 0 0, .bool false, .slice none 0 0])] [⟨false, A2, m2, c2, ((10 ^ j : Nat) : Int), 128, false⟩, ⟨false, A1, m1, c1, ((dec (bod h ++ t.take j) : Nat) : Int), 128, true⟩] ∧ Hid (Digs (t.take j))) (fun _ _ v _ => N - (intOf v).toNat)
    case atStart =>
      refine ⟨0, i + 1, A_n, n_n, c_n, some ⟨w1.heap.size, 0, none⟩, 1, 1, Lib.hid rfl, Nat.zero_le _, rfl, rfl, rfl, R50.only ?_, Lib.hid (fun x hx => by simp at hx)⟩
      intro x hx
      simp only [List.mem_cons, List.not_mem_nil, or_false] at hx
      rcases hx with rfl | rfl
      · exact ((R50.z 0 rfl) : ZIs _ false (some ⟨w1.heap.size, 0, none⟩) 1 1 ((1 : Nat) : Int) 1 false).mono (show 1 ≤ 128 by omega)
      · dsimp only; rw [List.take_zero, List.append_nil]; exact (R50.z 1 rfl)
    case round =>
      obtain ⟨j, k, A1, m1, c1, A2, m2, c2, HK, hj, rfl, rfl, rfl, E, HDj⟩ := hrel
      clear R50 R1 z_n
      have hkN : k ≤ N := by have := HK.out; have := HNN.out; omega
      by_cases hjm : j < m
      · obtain ⟨c, hc⟩ : ∃ c, t[j]? = some c := ⟨_, List.getElem?_eq_getElem (by rw [HM.out]; exact hjm)⟩
        have hgi : ∀ hh : k < S.size, (S[k]'hh).toNat = c := fun hh => by have e := HK.out; subst e; exact HG.out j c hc hh
        have hcl := ht256 c (List.mem_of_getElem? hc)
        have hltN : (k : Int) < (N : Int) := by have := HK.out; have := HNN.out; omega
        by_cases hdig : ¬ (48 ≤ c ∧ c ≤ 57)
        · have HQ := Lib.hid (qd_no (h := h) (t := t) (fun e => hdig (e.2.2 c (List.mem_of_getElem? hc))))
          have hcc : c < 48 ∨ 57 < c := by omega
          clear hdig hc
          rcases hcc with hcc | hcc
          · go_wp2_with fail
            refine (rqzero _).mono ?_; rintro e w61 ⟨b_p, A_p, n_p, c_p, b_q, A_q, n_q, c_q, rfl, z_p, z_q, hb61⟩
            have R61 := (((E.below hb61).add z_p).add z_q)
            have zr0 := R61.cell 0 0 rfl rfl
            have zr1 := R61.cell 0 1 rfl rfl
            have zr2 := R61.cell 0 2 rfl rfl
            have zr3 := R61.cell 0 3 rfl rfl
            have zfr0 := R61.frozen 0 0 rfl
            have zfr1 := R61.frozen 0 1 rfl
            have zfr2 := R61.frozen 0 2 rfl
            have zfr3 := R61.frozen 0 3 rfl
            go_wp2_with fail
            have R9_ := R61.st4 0 (.bool b_p) (.slice A_p n_p c_p) (.bool b_q) (.slice A_q n_q c_q) rfl rfl rfl rfl rfl
            refine bodyPost_ret (results_row_tmp rfl _ _ (w.heap.size) 26 #[.bool b_p, .slice A_p n_p c_p, .bool b_q, .slice A_q n_q c_q] (0, 0) _ rfl (R9_.b 0 rfl).is Tryz.underlying26 rfl (by kernel_rfl)) rfl ?_
            exact ⟨_, _, _, _, _, _, _, _, ret_vb HQ.out.1.symm, (by rw [HQ.out.2]; exact (R9_.z 1 rfl).mono (show 1 ≤ 128 by omega)), (by rw [HQ.out.2]; exact (R9_.z 0 rfl).mono (show 1 ≤ 128 by omega)), R9_.bel⟩
          · go_wp2_with fail
            refine (rqzero _).mono ?_; rintro e w61 ⟨b_p, A_p, n_p, c_p, b_q, A_q, n_q, c_q, rfl, z_p, z_q, hb61⟩
            have R61 := (((E.below hb61).add z_p).add z_q)
            have zr0 := R61.cell 0 0 rfl rfl
            have zr1 := R61.cell 0 1 rfl rfl
            have zr2 := R61.cell 0 2 rfl rfl
            have zr3 := R61.cell 0 3 rfl rfl
            have zfr0 := R61.frozen 0 0 rfl
            have zfr1 := R61.frozen 0 1 rfl
            have zfr2 := R61.frozen 0 2 rfl
            have zfr3 := R61.frozen 0 3 rfl
            go_wp2_with fail
            have R9_ := R61.st4 0 (.bool b_p) (.slice A_p n_p c_p) (.bool b_q) (.slice A_q n_q c_q) rfl rfl rfl rfl rfl
            refine bodyPost_ret (results_row_tmp rfl _ _ (w.heap.size) 26 #[.bool b_p, .slice A_p n_p c_p, .bool b_q, .slice A_q n_q c_q] (0, 0) _ rfl (R9_.b 0 rfl).is Tryz.underlying26 rfl (by kernel_rfl)) rfl ?_
            exact ⟨_, _, _, _, _, _, _, _, ret_vb HQ.out.1.symm, (by rw [HQ.out.2]; exact (R9_.z 1 rfl).mono (show 1 ≤ 128 by omega)), (by rw [HQ.out.2]; exact (R9_.z 0 rfl).mono (show 1 ≤ 128 by omega)), R9_.bel⟩
        have hdig := Classical.not_not.1 hdig
        obtain ⟨dd, hdd⟩ : ∃ dd, c - 48 = dd := ⟨_, rfl⟩
        have hsub : (c : Int) - 48 = (dd : Int) := by omega
        have hd9 : dd ≤ 9 := by omega
        have hu8 : IntKind.u8.wrap ((c : Int) - 48) = (dd : Int) := by rw [hsub]; exact IntWalk.u8_in _ (by omega)
        have hu8b : IntKind.u8.wrap (dd : Int) = (dd : Int) := IntWalk.u8_in _ (by omega)
        have hu32 : IntKind.u32.wrap (dd : Int) = (dd : Int) := IntWalk.u32_in _ (by omega)
        have hc48 : 48 ≤ c := hdig.1
        have hc57 : c ≤ 57 := hdig.2
        have hst := dec_step (h := bod h) hc
        rw [hdd] at hst
        have HDn : Hid (Digs (t.take (j + 1))) := Lib.hid (by rw [List.take_add_one, hc]; exact digs_app HDj.out (fun z hz => by simp only [Option.toList_some, List.mem_singleton] at hz; subst hz; exact hdig))
        have hl1000 : (bod h ++ t.take (j + 1)).length ≤ 1000 := by have h5 := HD.out.2; rw [List.length_append, List.length_take]; omega
        have hfw := dec_few (digs_app HD.out.1.digs HDn.out) hl1000
        have hfm : dec (bod h ++ t.take j) * 10 < 4294967296 ^ 128 := Nat.lt_of_le_of_lt (by rw [hst]; exact Nat.le_add_right _ _) hfw
        have hfa : dec (bod h ++ t.take j) * 10 + dd < 4294967296 ^ 128 := by rw [← hst]; exact hfw
        have hft : 10 ^ j * 10 < 4294967296 ^ 128 := by rw [← Nat.pow_succ]; exact ten_few (by omega)
        have HF := Lib.hid (And.intro hfm (And.intro hfa (And.intro hft hst)))
        clear hc hdd hst hl1000 hfw hfm hfa hft hdig
        go_wp2_with fail
        have R61 := E.drew
        refine wp_region_late [] (fun w' => w'.cell? ⟨w.heap.size, 0, none⟩ = some (.bool false) ∧ w'.cell? ⟨w.heap.size, 1, none⟩ = some (.slice none 0 0) ∧ w'.cell? ⟨w.heap.size, 2, none⟩ = some (.bool false) ∧ w'.cell? ⟨w.heap.size, 3, none⟩ = some (.slice none 0 0)) (by kernel_rfl) ?_
        generalize hgw : World.drew _ = w61 at *
        clear hgw
        have s61 := And.intro (R61.cell 0 0 rfl rfl) (And.intro (R61.cell 0 1 rfl rfl) (And.intro (R61.cell 0 2 rfl rfl) (R61.cell 0 3 rfl rfl)))
        refine wpAnyL_take (i := 0) (v := ?_) rfl (by kernel_rfl) (by kernel_rfl) (by kernel_rfl) (by kernel_rfl) (by kernel_rfl) (fun _ _ _ h => h) (Or.inl ⟨by kernel_rfl, ?_⟩) s61 ?_
        rotate_left
        · rintro w' ⟨h1, h2, h3, h4⟩; go_simp; (try with_reducible rfl)
        try simp only [Act.put, List.setIfInBounds_toArray, List.set_cons_zero, List.set_cons_succ]
        refine wpAnyL_take (i := 3) (v := ?_) rfl (by kernel_rfl) (by kernel_rfl) (by kernel_rfl) (by kernel_rfl) (by kernel_rfl) (fun _ _ _ h => h) (Or.inl ⟨by kernel_rfl, ?_⟩) s61 ?_
        rotate_left
        · rintro w' ⟨h1, h2, h3, h4⟩; go_simp; (try with_reducible rfl)
        try simp only [Act.put, List.setIfInBounds_toArray, List.set_cons_zero, List.set_cons_succ]
        refine wpAnyL_take (i := 4) (v := ?_) rfl (by kernel_rfl) (by kernel_rfl) (by kernel_rfl) (by kernel_rfl) (by kernel_rfl) (fun _ _ _ h => h) (Or.inl ⟨by kernel_rfl, ?_⟩) s61 ?_
        rotate_left
        · rintro w' ⟨h1, h2, h3, h4⟩; go_simp; (try with_reducible rfl)
        try simp only [Act.put, List.setIfInBounds_toArray, List.set_cons_zero, List.set_cons_succ]
        refine wpAnyL_take (i := 5) (v := ?_) rfl (by kernel_rfl) (by kernel_rfl) (by kernel_rfl) (by kernel_rfl) (by kernel_rfl) (fun _ _ _ h => h) (Or.inl ⟨by kernel_rfl, ?_⟩) s61 ?_
        rotate_left
        · rintro w' ⟨h1, h2, h3, h4⟩; go_simp; (try with_reducible rfl)
        try simp only [Act.put, List.setIfInBounds_toArray, List.set_cons_zero, List.set_cons_succ]
        refine wpAnyL_take (i := 6) (v := ?_) rfl (by kernel_rfl) (by kernel_rfl) (by kernel_rfl) (by kernel_rfl) (by kernel_rfl) (fun _ _ _ h => h) (Or.inl ⟨by kernel_rfl, ?_⟩) s61 ?_
        rotate_left
        · rintro w' ⟨h1, h2, h3, h4⟩; go_simp; (try with_reducible rfl)
        try simp only [Act.put, List.setIfInBounds_toArray, List.set_cons_zero, List.set_cons_succ]
        refine wpAnyL_take (i := 7) (v := ?_) rfl (by kernel_rfl) (by kernel_rfl) (by kernel_rfl) (by kernel_rfl) (by kernel_rfl) (fun _ _ _ h => h) (Or.inl ⟨by kernel_rfl, ?_⟩) s61 ?_
        rotate_left
        · rintro w' ⟨h1, h2, h3, h4⟩; go_simp; (try with_reducible rfl)
        try simp only [Act.put, List.setIfInBounds_toArray, List.set_cons_zero, List.set_cons_succ]
        refine wpAnyL_all (rs := [1, 8]) (by kernel_rfl) (by simp) (StepsL.cons (i := 1) rfl (fun K hK => ?_) (StepsL.cons (i := 8) rfl (fun K hK => ?_) StepsL.nil))
        · go_simp
          have R62 := (R61.other (.cells #[.int .u32 10] 82)).add (zone 10 (by omega) w61)
          have s62 := And.intro (R62.cell 0 0 rfl rfl) (And.intro (R62.cell 0 1 rfl rfl) (And.intro (R62.cell 0 2 rfl rfl) (R62.cell 0 3 rfl rfl)))
          refine hK.out _ _ (fun _ => s62) ?_
          clear hK K
          try simp only [Act.put, List.setIfInBounds_toArray, List.set_cons_zero, List.set_cons_succ]
          generalize (w61.alloc (.cells #[.int .u32 10] 82)) = w62 at *
          refine wpAnyL_all (rs := [2, 8]) (by kernel_rfl) (by simp) (StepsL.cons (i := 2) rfl (fun K hK => ?_) (StepsL.cons (i := 8) rfl (fun K hK => ?_) StepsL.nil))
          · go_simp
            refine (zr_mul (K := 128) (R62.z 2 rfl) (R62.z 0 rfl) (by omega) (by omega) HF.out.1).mono ?_; rintro e w63 ⟨b_x, A_x, n_x, c_x, rfl, z_x, hb63⟩
            have R63 := ((R62.below hb63).add z_x)
            have s63 := And.intro (R63.cell 0 0 rfl rfl) (And.intro (R63.cell 0 1 rfl rfl) (And.intro (R63.cell 0 2 rfl rfl) (R63.cell 0 3 rfl rfl)))
            go_wp2_with fail
            refine hK.out _ _ (fun _ => s63) ?_
            clear hK K
            try simp only [Act.put, List.setIfInBounds_toArray, List.set_cons_zero, List.set_cons_succ]
            refine wpAnyL_one (i := 8) (by kernel_rfl) rfl (fun K hK => ?_)
            go_simp
            have R64 := (R63.other (.cells #[.int .u32 (dd : Int)] 82)).add (zone dd (by omega) w63)
            have s64 := And.intro (R64.cell 0 0 rfl rfl) (And.intro (R64.cell 0 1 rfl rfl) (And.intro (R64.cell 0 2 rfl rfl) (R64.cell 0 3 rfl rfl)))
            refine hK.out _ _ (fun _ => s64) ?_
            clear hK K
            try simp only [Act.put, List.setIfInBounds_toArray, List.set_cons_zero, List.set_cons_succ]
            generalize (w63.alloc (.cells #[.int .u32 (dd : Int)] 82)) = w64 at *
            refine wpAnyL_one (i := 9) (by kernel_rfl) rfl (fun K hK => ?_)
            go_simp
            refine (zr_add (K := 128) (R64.z 1 rfl) (R64.z 0 rfl) (by omega) (by omega) HF.out.2.1).mono ?_; rintro e w65 ⟨b_y, A_y, n_y, c_y, rfl, z_y, hb65⟩
            have R65 := ((R64.below hb65).add z_y)
            have s65 := And.intro (R65.cell 0 0 rfl rfl) (And.intro (R65.cell 0 1 rfl rfl) (And.intro (R65.cell 0 2 rfl rfl) (R65.cell 0 3 rfl rfl)))
            go_wp2_with fail
            refine hK.out _ _ (fun _ => s65) ?_
            clear hK K
            try simp only [Act.put, List.setIfInBounds_toArray, List.set_cons_zero, List.set_cons_succ]
            refine wpAnyL_one (i := 10) (by kernel_rfl) rfl (fun K hK => ?_)
            go_simp
            refine hK.out _ _ (fun _ => s65) ?_
            clear hK K
            try simp only [Act.put, List.setIfInBounds_toArray, List.set_cons_zero, List.set_cons_succ]
            refine wpAnyL_done (by kernel_rfl) ?_ _
            go_wp2_with fail
            have R66 := (R65.other (.cells #[.int .u32 10] 82)).add (zone 10 (by omega) w65)
            refine (zr_mul (K := 128) (R66.z 5 rfl) (R66.z 0 rfl) (by omega) (by omega) HF.out.2.2.1).mono ?_; rintro e w67 ⟨b_z, A_z, n_z, c_z, rfl, z_z, hb67⟩
            have R67 := ((R66.below hb67).add z_z)
            go_wp2_with fail
            refine ⟨⟨j + 1, k + 1, A_y, n_y, c_y, A_z, n_z, c_z, Lib.hid (by rw [HK.out]; omega), by omega, by go_num, rfl, rfl, R67.only ?_, HDn⟩, by simp [intOf]; omega⟩
            intro x hx
            simp only [List.mem_cons, List.not_mem_nil, or_false] at hx
            rcases hx with rfl | rfl
            · exact zas_f ((R67.z 0 rfl)) (Nat.pow_succ ..).symm
            · exact zas_t ((R67.z 2 rfl)) HF.out.2.2.2.symm
          · go_simp
            have R68 := (R62.other (.cells #[.int .u32 (dd : Int)] 82)).add (zone dd (by omega) w62)
            have s68 := And.intro (R68.cell 0 0 rfl rfl) (And.intro (R68.cell 0 1 rfl rfl) (And.intro (R68.cell 0 2 rfl rfl) (R68.cell 0 3 rfl rfl)))
            refine hK.out _ _ (fun _ => s68) ?_
            clear hK K
            try simp only [Act.put, List.setIfInBounds_toArray, List.set_cons_zero, List.set_cons_succ]
            generalize (w62.alloc (.cells #[.int .u32 (dd : Int)] 82)) = w68 at *
            refine wpAnyL_one (i := 2) (by kernel_rfl) rfl (fun K hK => ?_)
            go_simp
            refine (zr_mul (K := 128) (R68.z 3 rfl) (R68.z 1 rfl) (by omega) (by omega) HF.out.1).mono ?_; rintro e w69 ⟨b_x, A_x, n_x, c_x, rfl, z_x, hb69⟩
            have R69 := ((R68.below hb69).add z_x)
            have s69 := And.intro (R69.cell 0 0 rfl rfl) (And.intro (R69.cell 0 1 rfl rfl) (And.intro (R69.cell 0 2 rfl rfl) (R69.cell 0 3 rfl rfl)))
            go_wp2_with fail
            refine hK.out _ _ (fun _ => s69) ?_
            clear hK K
            try simp only [Act.put, List.setIfInBounds_toArray, List.set_cons_zero, List.set_cons_succ]
            refine wpAnyL_one (i := 9) (by kernel_rfl) rfl (fun K hK => ?_)
            go_simp
            refine (zr_add (K := 128) (R69.z 0 rfl) (R69.z 1 rfl) (by omega) (by omega) HF.out.2.1).mono ?_; rintro e w70 ⟨b_y, A_y, n_y, c_y, rfl, z_y, hb70⟩
            have R70 := ((R69.below hb70).add z_y)
            have s70 := And.intro (R70.cell 0 0 rfl rfl) (And.intro (R70.cell 0 1 rfl rfl) (And.intro (R70.cell 0 2 rfl rfl) (R70.cell 0 3 rfl rfl)))
            go_wp2_with fail
            refine hK.out _ _ (fun _ => s70) ?_
            clear hK K
            try simp only [Act.put, List.setIfInBounds_toArray, List.set_cons_zero, List.set_cons_succ]
            refine wpAnyL_one (i := 10) (by kernel_rfl) rfl (fun K hK => ?_)
            go_simp
            refine hK.out _ _ (fun _ => s70) ?_
            clear hK K
            try simp only [Act.put, List.setIfInBounds_toArray, List.set_cons_zero, List.set_cons_succ]
            refine wpAnyL_done (by kernel_rfl) ?_ _
            go_wp2_with fail
            have R71 := (R70.other (.cells #[.int .u32 10] 82)).add (zone 10 (by omega) w70)
            refine (zr_mul (K := 128) (R71.z 5 rfl) (R71.z 0 rfl) (by omega) (by omega) HF.out.2.2.1).mono ?_; rintro e w72 ⟨b_z, A_z, n_z, c_z, rfl, z_z, hb72⟩
            have R72 := ((R71.below hb72).add z_z)
            go_wp2_with fail
            refine ⟨⟨j + 1, k + 1, A_y, n_y, c_y, A_z, n_z, c_z, Lib.hid (by rw [HK.out]; omega), by omega, by go_num, rfl, rfl, R72.only ?_, HDn⟩, by simp [intOf]; omega⟩
            intro x hx
            simp only [List.mem_cons, List.not_mem_nil, or_false] at hx
            rcases hx with rfl | rfl
            · exact zas_f ((R72.z 0 rfl)) (Nat.pow_succ ..).symm
            · exact zas_t ((R72.z 2 rfl)) HF.out.2.2.2.symm
        · go_simp
          have R73 := (R61.other (.cells #[.int .u32 (dd : Int)] 82)).add (zone dd (by omega) w61)
          have s73 := And.intro (R73.cell 0 0 rfl rfl) (And.intro (R73.cell 0 1 rfl rfl) (And.intro (R73.cell 0 2 rfl rfl) (R73.cell 0 3 rfl rfl)))
          refine hK.out _ _ (fun _ => s73) ?_
          clear hK K
          try simp only [Act.put, List.setIfInBounds_toArray, List.set_cons_zero, List.set_cons_succ]
          generalize (w61.alloc (.cells #[.int .u32 (dd : Int)] 82)) = w73 at *
          refine wpAnyL_one (i := 1) (by kernel_rfl) rfl (fun K hK => ?_)
          go_simp
          have R74 := (R73.other (.cells #[.int .u32 10] 82)).add (zone 10 (by omega) w73)
          have s74 := And.intro (R74.cell 0 0 rfl rfl) (And.intro (R74.cell 0 1 rfl rfl) (And.intro (R74.cell 0 2 rfl rfl) (R74.cell 0 3 rfl rfl)))
          refine hK.out _ _ (fun _ => s74) ?_
          clear hK K
          try simp only [Act.put, List.setIfInBounds_toArray, List.set_cons_zero, List.set_cons_succ]
          generalize (w73.alloc (.cells #[.int .u32 10] 82)) = w74 at *
          refine wpAnyL_one (i := 2) (by kernel_rfl) rfl (fun K hK => ?_)
          go_simp
          refine (zr_mul (K := 128) (R74.z 3 rfl) (R74.z 0 rfl) (by omega) (by omega) HF.out.1).mono ?_; rintro e w75 ⟨b_x, A_x, n_x, c_x, rfl, z_x, hb75⟩
          have R75 := ((R74.below hb75).add z_x)
          have s75 := And.intro (R75.cell 0 0 rfl rfl) (And.intro (R75.cell 0 1 rfl rfl) (And.intro (R75.cell 0 2 rfl rfl) (R75.cell 0 3 rfl rfl)))
          go_wp2_with fail
          refine hK.out _ _ (fun _ => s75) ?_
          clear hK K
          try simp only [Act.put, List.setIfInBounds_toArray, List.set_cons_zero, List.set_cons_succ]
          refine wpAnyL_one (i := 9) (by kernel_rfl) rfl (fun K hK => ?_)
          go_simp
          refine (zr_add (K := 128) (R75.z 0 rfl) (R75.z 2 rfl) (by omega) (by omega) HF.out.2.1).mono ?_; rintro e w76 ⟨b_y, A_y, n_y, c_y, rfl, z_y, hb76⟩
          have R76 := ((R75.below hb76).add z_y)
          have s76 := And.intro (R76.cell 0 0 rfl rfl) (And.intro (R76.cell 0 1 rfl rfl) (And.intro (R76.cell 0 2 rfl rfl) (R76.cell 0 3 rfl rfl)))
          go_wp2_with fail
          refine hK.out _ _ (fun _ => s76) ?_
          clear hK K
          try simp only [Act.put, List.setIfInBounds_toArray, List.set_cons_zero, List.set_cons_succ]
          refine wpAnyL_one (i := 10) (by kernel_rfl) rfl (fun K hK => ?_)
          go_simp
          refine hK.out _ _ (fun _ => s76) ?_
          clear hK K
          try simp only [Act.put, List.setIfInBounds_toArray, List.set_cons_zero, List.set_cons_succ]
          refine wpAnyL_done (by kernel_rfl) ?_ _
          go_wp2_with fail
          have R77 := (R76.other (.cells #[.int .u32 10] 82)).add (zone 10 (by omega) w76)
          refine (zr_mul (K := 128) (R77.z 5 rfl) (R77.z 0 rfl) (by omega) (by omega) HF.out.2.2.1).mono ?_; rintro e w78 ⟨b_z, A_z, n_z, c_z, rfl, z_z, hb78⟩
          have R78 := ((R77.below hb78).add z_z)
          go_wp2_with fail
          refine ⟨⟨j + 1, k + 1, A_y, n_y, c_y, A_z, n_z, c_z, Lib.hid (by rw [HK.out]; omega), by omega, by go_num, rfl, rfl, R78.only ?_, HDn⟩, by simp [intOf]; omega⟩
          intro x hx
          simp only [List.mem_cons, List.not_mem_nil, or_false] at hx
          rcases hx with rfl | rfl
          · exact zas_f ((R78.z 0 rfl)) (Nat.pow_succ ..).symm
          · exact zas_t ((R78.z 2 rfl)) HF.out.2.2.2.symm
      · obtain rfl : j = m := by omega
        have hkk := HK.out
        rw [HNN.out] at hkk
        subst hkk
        have htk : t.take j = t := List.take_of_length_le (Nat.le_of_eq HM.out)
        rw [htk] at E HDj
        have hpos : (0 : Int) < ((10 ^ j : Nat) : Int) := by have := Nat.pow_pos (n := j) (show 0 < 10 by decide); omega
        have hl1000 : (bod h ++ t).length ≤ 1000 := by have h5 := HD.out.2; have := HM.out; rw [List.length_append]; omega
        have hq := qd_yes HD.out.1 (show 1 ≤ t.length by have := HD.out.2.2.2; have := HM.out; omega) HDj.out
        rw [hN.out, HM.out, ← HM.out, ← dec_append, HM.out] at hq
        have hnf : (zv true (dec (bod h ++ t))).natAbs < 4294967296 ^ 128 := by rw [zv_abs]; exact dec_few (digs_app HD.out.1.digs HDj.out) hl1000
        have hdf : (((10 ^ j : Nat) : Int)).natAbs < 4294967296 ^ 128 := by rw [Int.natAbs_natCast]; exact ten_few (by omega)
        have HV := Lib.hid (And.intro hq (And.intro (qnum_lt hpos hnf) (qden_lt (x := zv true (dec (bod h ++ t))) hpos hdf)))
        rw [qv_pos hpos] at hq
        have HV2 := Lib.hid hq
        have z1 := (E.z 1 rfl).resign true
        rw [show (((dec (bod h ++ t) : Nat) : Int)).natAbs = dec (bod h ++ t) from rfl] at z1
        have R70 := (E.add (E.z 0 rfl)).add z1
        clear z1 hpos hl1000 hq hnf hdf htk E
        go_wp2_with fail
        refine (rqplain (K := 128) (R70.z 0 rfl) (R70.z 1 rfl) (by omega) (by omega) (by omega) (by omega) HV.out.1.2.symm).mono ?_; rintro e w81 ⟨b_p, A_p, n_p, c_p, b_q, A_q, n_q, c_q, rfl, z_p, z_q, hb81⟩
        have R81 := (((R70.below hb81).add z_p).add z_q)
        have zr0 := R81.cell 0 0 rfl rfl
        have zr1 := R81.cell 0 1 rfl rfl
        have zr2 := R81.cell 0 2 rfl rfl
        have zr3 := R81.cell 0 3 rfl rfl
        have zfr0 := R81.frozen 0 0 rfl
        have zfr1 := R81.frozen 0 1 rfl
        have zfr2 := R81.frozen 0 2 rfl
        have zfr3 := R81.frozen 0 3 rfl
        go_wp2_with fail
        have R9_ := R81.st4 0 (.bool b_p) (.slice A_p n_p c_p) (.bool b_q) (.slice A_q n_q c_q) rfl rfl rfl rfl rfl
        refine bodyPost_ret (results_row_tmp rfl _ _ (w.heap.size) 26 #[.bool b_p, .slice A_p n_p c_p, .bool b_q, .slice A_q n_q c_q] (0, 0) _ rfl (R9_.b 0 rfl).is Tryz.underlying26 rfl (by kernel_rfl)) rfl ?_
        have hv := HV.out
        rw [← HV2.out.2] at hv
        exact ⟨_, _, _, _, _, _, _, _, ret_vb hv.1.1.symm, (R9_.z 1 rfl).tight hv.2.1, (R9_.z 0 rfl).tight hv.2.2, R9_.bel⟩
  · have hb45 : ((x0 : Int) == 45) = false := by simp; omega
    have hbd : bod h = h := by unfold bod; rw [hx0, if_neg (fun e => hx45 (Option.some.inj e))]
    have hN := Lib.hid (show decide (h[0]? = some 45) = false by rw [hx0]; exact decide_eq_false (fun e => hx45 (Option.some.inj e)))
    rw [← hbd] at r1
    generalize str l = S at *
    clear r2 hl hsplit hne h45 hn hi hm hlen hth hlt hx0 hl0 hbd hx45 hNN
    by_cases hrd : ¬ Reads (bod h)
    · have HQ := Lib.hid (qd_no (h := h) (t := t) (fun e => hrd e.1))
      have d1 := fun w0 => rparse_bad (bod h) (bod_lt hh256) w0 hrd
      generalize str (bod h) = S2 at *
      clear hrd
      go_enter Tryz.func81, Tryz.ntmps81
      go_wp2_with fail
      refine (d1 _).mono ?_; rintro e w1 ⟨rfl, hb1⟩
      have R1 := (R0.below hb1)
      go_wp2_with fail
      refine (rqzero _).mono ?_; rintro e w2 ⟨b_p, A_p, n_p, c_p, b_q, A_q, n_q, c_q, rfl, z_p, z_q, hb2⟩
      have R2 := (((R1.below hb2).add z_p).add z_q)
      have zr0 := R2.cell 0 0 rfl rfl
      have zr1 := R2.cell 0 1 rfl rfl
      have zr2 := R2.cell 0 2 rfl rfl
      have zr3 := R2.cell 0 3 rfl rfl
      have zfr0 := R2.frozen 0 0 rfl
      have zfr1 := R2.frozen 0 1 rfl
      have zfr2 := R2.frozen 0 2 rfl
      have zfr3 := R2.frozen 0 3 rfl
      go_wp2_with fail
      have R9_ := R2.st4 0 (.bool b_p) (.slice A_p n_p c_p) (.bool b_q) (.slice A_q n_q c_q) rfl rfl rfl rfl rfl
      refine bodyPost_ret (results_row_tmp rfl _ _ (w.heap.size) 26 #[.bool b_p, .slice A_p n_p c_p, .bool b_q, .slice A_q n_q c_q] (0, 0) _ rfl (R9_.b 0 rfl).is Tryz.underlying26 rfl (by kernel_rfl)) rfl ?_
      exact ⟨_, _, _, _, _, _, _, _, ret_vb HQ.out.1.symm, (by rw [HQ.out.2]; exact (R9_.z 1 rfl).mono (show 1 ≤ 128 by omega)), (by rw [HQ.out.2]; exact (R9_.z 0 rfl).mono (show 1 ≤ 128 by omega)), R9_.bel⟩
    have hrd := Classical.not_not.1 hrd
    have d1 := fun w0 => rparse_z (bod h) (bod_lt hh256) w0 hrd (by omega)
    by_cases hm0 : m = 0
    · have HQ := Lib.hid (qd_no (h := h) (t := t) (fun e => by have := e.2.1; rw [HM.out] at this; omega))
      have he2 : ((i : Int) + 1 == (N : Int)) = true := by have := HNN.out; simp; omega
      generalize str (bod h) = S2 at *
      clear hrd hm0
      go_enter Tryz.func81, Tryz.ntmps81
      go_wp2_with fail
      refine (d1 _).mono ?_; rintro e w1 ⟨A_n, n_n, c_n, rfl, z_n, hb1⟩
      have R1 := (R0.below hb1).add z_n
      go_wp2_with fail
      refine (rqzero _).mono ?_; rintro e w2 ⟨b_p, A_p, n_p, c_p, b_q, A_q, n_q, c_q, rfl, z_p, z_q, hb2⟩
      have R2 := (((R1.below hb2).add z_p).add z_q)
      have zr0 := R2.cell 0 0 rfl rfl
      have zr1 := R2.cell 0 1 rfl rfl
      have zr2 := R2.cell 0 2 rfl rfl
      have zr3 := R2.cell 0 3 rfl rfl
      have zfr0 := R2.frozen 0 0 rfl
      have zfr1 := R2.frozen 0 1 rfl
      have zfr2 := R2.frozen 0 2 rfl
      have zfr3 := R2.frozen 0 3 rfl
      go_wp2_with fail
      have R9_ := R2.st4 0 (.bool b_p) (.slice A_p n_p c_p) (.bool b_q) (.slice A_q n_q c_q) rfl rfl rfl rfl rfl
      refine bodyPost_ret (results_row_tmp rfl _ _ (w.heap.size) 26 #[.bool b_p, .slice A_p n_p c_p, .bool b_q, .slice A_q n_q c_q] (0, 0) _ rfl (R9_.b 0 rfl).is Tryz.underlying26 rfl (by kernel_rfl)) rfl ?_
      exact ⟨_, _, _, _, _, _, _, _, ret_vb HQ.out.1.symm, (by rw [HQ.out.2]; exact (R9_.z 1 rfl).mono (show 1 ≤ 128 by omega)), (by rw [HQ.out.2]; exact (R9_.z 0 rfl).mono (show 1 ≤ 128 by omega)), R9_.bel⟩
    have he2 : ((i : Int) + 1 == (N : Int)) = false := by have := HNN.out; simp; omega
    have HD := Lib.hid (And.intro hrd (And.intro hn0 (And.intro hbl hm0)))
    generalize str (bod h) = S2 at *
    clear hrd hm0
    go_enter Tryz.func81, Tryz.ntmps81
    go_wp2_with fail
    refine (d1 _).mono ?_; rintro e w1 ⟨A_n, n_n, c_n, rfl, z_n, hb1⟩
    have R1 := (R0.below hb1).add z_n
    go_wp2_with fail
    have R50 := (R1.other (.cells #[.int .u32 1] 82)).add (zone 1 (by omega) w1)
    clear d1 r1
    go_loopw [8, 10, 11] (fun nv dv kv wr => ∃ (j k : Nat) (A1 : Option Addr) (m1 c1 : Nat) (A2 : Option Addr) (m2 c2 : Nat), Hid (k = i + 1 + j) ∧ j ≤ m ∧ kv = .int .i64 (k : Int) ∧ nv = .slice A1 m1 c1 ∧ dv = .slice A2 m2 c2 ∧ Env w wr [(w.heap.size, 26, #[.bool false, .slice none 0 0, .bool false, .slice none 0 0])] [⟨false, A2, m2, c2, ((10 ^ j : Nat) : Int), 128, false⟩, ⟨false, A1, m1, c1, ((dec (bod h ++ t.take j) : Nat) : Int), 128, true⟩] ∧ Hid (Digs (t.take j))) (fun _ _ v _ => N - (intOf v).toNat)
    case atStart =>
      refine ⟨0, i + 1, A_n, n_n, c_n, some ⟨w1.heap.size, 0, none⟩, 1, 1, Lib.hid rfl, Nat.zero_le _, rfl, rfl, rfl, R50.only ?_, Lib.hid (fun x hx => by simp at hx)⟩
      intro x hx
      simp only [List.mem_cons, List.not_mem_nil, or_false] at hx
      rcases hx with rfl | rfl
      · exact ((R50.z 0 rfl) : ZIs _ false (some ⟨w1.heap.size, 0, none⟩) 1 1 ((1 : Nat) : Int) 1 false).mono (show 1 ≤ 128 by omega)
      · dsimp only; rw [List.take_zero, List.append_nil]; exact (R50.z 1 rfl)
    case round =>
      obtain ⟨j, k, A1, m1, c1, A2, m2, c2, HK, hj, rfl, rfl, rfl, E, HDj⟩ := hrel
      clear R50 R1 z_n
      have hkN : k ≤ N := by have := HK.out; have := HNN.out; omega
      by_cases hjm : j < m
      · obtain ⟨c, hc⟩ : ∃ c, t[j]? = some c := ⟨_, List.getElem?_eq_getElem (by rw [HM.out]; exact hjm)⟩
        have hgi : ∀ hh : k < S.size, (S[k]'hh).toNat = c := fun hh => by have e := HK.out; subst e; exact HG.out j c hc hh
        have hcl := ht256 c (List.mem_of_getElem? hc)
        have hltN : (k : Int) < (N : Int) := by have := HK.out; have := HNN.out; omega
        by_cases hdig : ¬ (48 ≤ c ∧ c ≤ 57)
        · have HQ := Lib.hid (qd_no (h := h) (t := t) (fun e => hdig (e.2.2 c (List.mem_of_getElem? hc))))
          have hcc : c < 48 ∨ 57 < c := by omega
          clear hdig hc
          rcases hcc with hcc | hcc
          · go_wp2_with fail
            refine (rqzero _).mono ?_; rintro e w61 ⟨b_p, A_p, n_p, c_p, b_q, A_q, n_q, c_q, rfl, z_p, z_q, hb61⟩
            have R61 := (((E.below hb61).add z_p).add z_q)
            have zr0 := R61.cell 0 0 rfl rfl
            have zr1 := R61.cell 0 1 rfl rfl
            have zr2 := R61.cell 0 2 rfl rfl
            have zr3 := R61.cell 0 3 rfl rfl
            have zfr0 := R61.frozen 0 0 rfl
            have zfr1 := R61.frozen 0 1 rfl
            have zfr2 := R61.frozen 0 2 rfl
            have zfr3 := R61.frozen 0 3 rfl
            go_wp2_with fail
            have R9_ := R61.st4 0 (.bool b_p) (.slice A_p n_p c_p) (.bool b_q) (.slice A_q n_q c_q) rfl rfl rfl rfl rfl
            refine bodyPost_ret (results_row_tmp rfl _ _ (w.heap.size) 26 #[.bool b_p, .slice A_p n_p c_p, .bool b_q, .slice A_q n_q c_q] (0, 0) _ rfl (R9_.b 0 rfl).is Tryz.underlying26 rfl (by kernel_rfl)) rfl ?_
            exact ⟨_, _, _, _, _, _, _, _, ret_vb HQ.out.1.symm, (by rw [HQ.out.2]; exact (R9_.z 1 rfl).mono (show 1 ≤ 128 by omega)), (by rw [HQ.out.2]; exact (R9_.z 0 rfl).mono (show 1 ≤ 128 by omega)), R9_.bel⟩
          · go_wp2_with fail
            refine (rqzero _).mono ?_; rintro e w61 ⟨b_p, A_p, n_p, c_p, b_q, A_q, n_q, c_q, rfl, z_p, z_q, hb61⟩
            have R61 := (((E.below hb61).add z_p).add z_q)
            have zr0 := R61.cell 0 0 rfl rfl
            have zr1 := R61.cell 0 1 rfl rfl
            have zr2 := R61.cell 0 2 rfl rfl
            have zr3 := R61.cell 0 3 rfl rfl
            have zfr0 := R61.frozen 0 0 rfl
            have zfr1 := R61.frozen 0 1 rfl
            have zfr2 := R61.frozen 0 2 rfl
            have zfr3 := R61.frozen 0 3 rfl
            go_wp2_with fail
            have R9_ := R61.st4 0 (.bool b_p) (.slice A_p n_p c_p) (.bool b_q) (.slice A_q n_q c_q) rfl rfl rfl rfl rfl
            refine bodyPost_ret (results_row_tmp rfl _ _ (w.heap.size) 26 #[.bool b_p, .slice A_p n_p c_p, .bool b_q, .slice A_q n_q c_q] (0, 0) _ rfl (R9_.b 0 rfl).is Tryz.underlying26 rfl (by kernel_rfl)) rfl ?_
            exact ⟨_, _, _, _, _, _, _, _, ret_vb HQ.out.1.symm, (by rw [HQ.out.2]; exact (R9_.z 1 rfl).mono (show 1 ≤ 128 by omega)), (by rw [HQ.out.2]; exact (R9_.z 0 rfl).mono (show 1 ≤ 128 by omega)), R9_.bel⟩
        have hdig := Classical.not_not.1 hdig
        obtain ⟨dd, hdd⟩ : ∃ dd, c - 48 = dd := ⟨_, rfl⟩
        have hsub : (c : Int) - 48 = (dd : Int) := by omega
        have hd9 : dd ≤ 9 := by omega
        have hu8 : IntKind.u8.wrap ((c : Int) - 48) = (dd : Int) := by rw [hsub]; exact IntWalk.u8_in _ (by omega)
        have hu8b : IntKind.u8.wrap (dd : Int) = (dd : Int) := IntWalk.u8_in _ (by omega)
        have hu32 : IntKind.u32.wrap (dd : Int) = (dd : Int) := IntWalk.u32_in _ (by omega)
        have hc48 : 48 ≤ c := hdig.1
        have hc57 : c ≤ 57 := hdig.2
        have hst := dec_step (h := bod h) hc
        rw [hdd] at hst
        have HDn : Hid (Digs (t.take (j + 1))) := Lib.hid (by rw [List.take_add_one, hc]; exact digs_app HDj.out (fun z hz => by simp only [Option.toList_some, List.mem_singleton] at hz; subst hz; exact hdig))
        have hl1000 : (bod h ++ t.take (j + 1)).length ≤ 1000 := by have h5 := HD.out.2; rw [List.length_append, List.length_take]; omega
        have hfw := dec_few (digs_app HD.out.1.digs HDn.out) hl1000
        have hfm : dec (bod h ++ t.take j) * 10 < 4294967296 ^ 128 := Nat.lt_of_le_of_lt (by rw [hst]; exact Nat.le_add_right _ _) hfw
        have hfa : dec (bod h ++ t.take j) * 10 + dd < 4294967296 ^ 128 := by rw [← hst]; exact hfw
        have hft : 10 ^ j * 10 < 4294967296 ^ 128 := by rw [← Nat.pow_succ]; exact ten_few (by omega)
        have HF := Lib.hid (And.intro hfm (And.intro hfa (And.intro hft hst)))
        clear hc hdd hst hl1000 hfw hfm hfa hft hdig
        go_wp2_with fail
        have R61 := E.drew
        refine wp_region_late [] (fun w' => w'.cell? ⟨w.heap.size, 0, none⟩ = some (.bool false) ∧ w'.cell? ⟨w.heap.size, 1, none⟩ = some (.slice none 0 0) ∧ w'.cell? ⟨w.heap.size, 2, none⟩ = some (.bool false) ∧ w'.cell? ⟨w.heap.size, 3, none⟩ = some (.slice none 0 0)) (by kernel_rfl) ?_
        generalize hgw : World.drew _ = w61 at *
        clear hgw
        have s61 := And.intro (R61.cell 0 0 rfl rfl) (And.intro (R61.cell 0 1 rfl rfl) (And.intro (R61.cell 0 2 rfl rfl) (R61.cell 0 3 rfl rfl)))
        refine wpAnyL_take (i := 0) (v := ?_) rfl (by kernel_rfl) (by kernel_rfl) (by kernel_rfl) (by kernel_rfl) (by kernel_rfl) (fun _ _ _ h => h) (Or.inl ⟨by kernel_rfl, ?_⟩) s61 ?_
        rotate_left
        · rintro w' ⟨h1, h2, h3, h4⟩; go_simp; (try with_reducible rfl)
        try simp only [Act.put, List.setIfInBounds_toArray, List.set_cons_zero, List.set_cons_succ]
        refine wpAnyL_take (i := 3) (v := ?_) rfl (by kernel_rfl) (by kernel_rfl) (by kernel_rfl) (by kernel_rfl) (by kernel_rfl) (fun _ _ _ h => h) (Or.inl ⟨by kernel_rfl, ?_⟩) s61 ?_
        rotate_left
        · rintro w' ⟨h1, h2, h3, h4⟩; go_simp; (try with_reducible rfl)
        try simp only [Act.put, List.setIfInBounds_toArray, List.set_cons_zero, List.set_cons_succ]
        refine wpAnyL_take (i := 4) (v := ?_) rfl (by kernel_rfl) (by kernel_rfl) (by kernel_rfl) (by kernel_rfl) (by kernel_rfl) (fun _ _ _ h => h) (Or.inl ⟨by kernel_rfl, ?_⟩) s61 ?_
        rotate_left
        · rintro w' ⟨h1, h2, h3, h4⟩; go_simp; (try with_reducible rfl)
        try simp only [Act.put, List.setIfInBounds_toArray, List.set_cons_zero, List.set_cons_succ]
        refine wpAnyL_take (i := 5) (v := ?_) rfl (by kernel_rfl) (by kernel_rfl) (by kernel_rfl) (by kernel_rfl) (by kernel_rfl) (fun _ _ _ h => h) (Or.inl ⟨by kernel_rfl, ?_⟩) s61 ?_
        rotate_left
        · rintro w' ⟨h1, h2, h3, h4⟩; go_simp; (try with_reducible rfl)
        try simp only [Act.put, List.setIfInBounds_toArray, List.set_cons_zero, List.set_cons_succ]
        refine wpAnyL_take (i := 6) (v := ?_) rfl (by kernel_rfl) (by kernel_rfl) (by kernel_rfl) (by kernel_rfl) (by kernel_rfl) (fun _ _ _ h => h) (Or.inl ⟨by kernel_rfl, ?_⟩) s61 ?_
        rotate_left
        · rintro w' ⟨h1, h2, h3, h4⟩; go_simp; (try with_reducible rfl)
        try simp only [Act.put, List.setIfInBounds_toArray, List.set_cons_zero, List.set_cons_succ]
        refine wpAnyL_take (i := 7) (v := ?_) rfl (by kernel_rfl) (by kernel_rfl) (by kernel_rfl) (by kernel_rfl) (by kernel_rfl) (fun _ _ _ h => h) (Or.inl ⟨by kernel_rfl, ?_⟩) s61 ?_
        rotate_left
        · rintro w' ⟨h1, h2, h3, h4⟩; go_simp; (try with_reducible rfl)
        try simp only [Act.put, List.setIfInBounds_toArray, List.set_cons_zero, List.set_cons_succ]
        refine wpAnyL_all (rs := [1, 8]) (by kernel_rfl) (by simp) (StepsL.cons (i := 1) rfl (fun K hK => ?_) (StepsL.cons (i := 8) rfl (fun K hK => ?_) StepsL.nil))
        · go_simp
          have R62 := (R61.other (.cells #[.int .u32 10] 82)).add (zone 10 (by omega) w61)
          have s62 := And.intro (R62.cell 0 0 rfl rfl) (And.intro (R62.cell 0 1 rfl rfl) (And.intro (R62.cell 0 2 rfl rfl) (R62.cell 0 3 rfl rfl)))
          refine hK.out _ _ (fun _ => s62) ?_
          clear hK K
          try simp only [Act.put, List.setIfInBounds_toArray, List.set_cons_zero, List.set_cons_succ]
          generalize (w61.alloc (.cells #[.int .u32 10] 82)) = w62 at *
          refine wpAnyL_all (rs := [2, 8]) (by kernel_rfl) (by simp) (StepsL.cons (i := 2) rfl (fun K hK => ?_) (StepsL.cons (i := 8) rfl (fun K hK => ?_) StepsL.nil))
          · go_simp
            refine (zr_mul (K := 128) (R62.z 2 rfl) (R62.z 0 rfl) (by omega) (by omega) HF.out.1).mono ?_; rintro e w63 ⟨b_x, A_x, n_x, c_x, rfl, z_x, hb63⟩
            have R63 := ((R62.below hb63).add z_x)
            have s63 := And.intro (R63.cell 0 0 rfl rfl) (And.intro (R63.cell 0 1 rfl rfl) (And.intro (R63.cell 0 2 rfl rfl) (R63.cell 0 3 rfl rfl)))
            go_wp2_with fail
            refine hK.out _ _ (fun _ => s63) ?_
            clear hK K
            try simp only [Act.put, List.setIfInBounds_toArray, List.set_cons_zero, List.set_cons_succ]
            refine wpAnyL_one (i := 8) (by kernel_rfl) rfl (fun K hK => ?_)
            go_simp
            have R64 := (R63.other (.cells #[.int .u32 (dd : Int)] 82)).add (zone dd (by omega) w63)
            have s64 := And.intro (R64.cell 0 0 rfl rfl) (And.intro (R64.cell 0 1 rfl rfl) (And.intro (R64.cell 0 2 rfl rfl) (R64.cell 0 3 rfl rfl)))
            refine hK.out _ _ (fun _ => s64) ?_
            clear hK K
            try simp only [Act.put, List.setIfInBounds_toArray, List.set_cons_zero, List.set_cons_succ]
            generalize (w63.alloc (.cells #[.int .u32 (dd : Int)] 82)) = w64 at *
            refine wpAnyL_one (i := 9) (by kernel_rfl) rfl (fun K hK => ?_)
            go_simp
            refine (zr_add (K := 128) (R64.z 1 rfl) (R64.z 0 rfl) (by omega) (by omega) HF.out.2.1).mono ?_; rintro e w65 ⟨b_y, A_y, n_y, c_y, rfl, z_y, hb65⟩
            have R65 := ((R64.below hb65).add z_y)
            have s65 := And.intro (R65.cell 0 0 rfl rfl) (And.intro (R65.cell 0 1 rfl rfl) (And.intro (R65.cell 0 2 rfl rfl) (R65.cell 0 3 rfl rfl)))
            go_wp2_with fail
            refine hK.out _ _ (fun _ => s65) ?_
            clear hK K
            try simp only [Act.put, List.setIfInBounds_toArray, List.set_cons_zero, List.set_cons_succ]
            refine wpAnyL_one (i := 10) (by kernel_rfl) rfl (fun K hK => ?_)
            go_simp
            refine hK.out _ _ (fun _ => s65) ?_
            clear hK K
            try simp only [Act.put, List.setIfInBounds_toArray, List.set_cons_zero, List.set_cons_succ]
            refine wpAnyL_done (by kernel_rfl) ?_ _
            go_wp2_with fail
            have R66 := (R65.other (.cells #[.int .u32 10] 82)).add (zone 10 (by omega) w65)
            refine (zr_mul (K := 128) (R66.z 5 rfl) (R66.z 0 rfl) (by omega) (by omega) HF.out.2.2.1).mono ?_; rintro e w67 ⟨b_z, A_z, n_z, c_z, rfl, z_z, hb67⟩
            have R67 := ((R66.below hb67).add z_z)
            go_wp2_with fail
            refine ⟨⟨j + 1, k + 1, A_y, n_y, c_y, A_z, n_z, c_z, Lib.hid (by rw [HK.out]; omega), by omega, by go_num, rfl, rfl, R67.only ?_, HDn⟩, by simp [intOf]; omega⟩
            intro x hx
            simp only [List.mem_cons, List.not_mem_nil, or_false] at hx
            rcases hx with rfl | rfl
            · exact zas_f ((R67.z 0 rfl)) (Nat.pow_succ ..).symm
            · exact zas_t ((R67.z 2 rfl)) HF.out.2.2.2.symm
          · go_simp
            have R68 := (R62.other (.cells #[.int .u32 (dd : Int)] 82)).add (zone dd (by omega) w62)
            have s68 := And.intro (R68.cell 0 0 rfl rfl) (And.intro (R68.cell 0 1 rfl rfl) (And.intro (R68.cell 0 2 rfl rfl) (R68.cell 0 3 rfl rfl)))
            refine hK.out _ _ (fun _ => s68) ?_
            clear hK K
            try simp only [Act.put, List.setIfInBounds_toArray, List.set_cons_zero, List.set_cons_succ]
            generalize (w62.alloc (.cells #[.int .u32 (dd : Int)] 82)) = w68 at *
            refine wpAnyL_one (i := 2) (by kernel_rfl) rfl (fun K hK => ?_)
            go_simp
            refine (zr_mul (K := 128) (R68.z 3 rfl) (R68.z 1 rfl) (by omega) (by omega) HF.out.1).mono ?_; rintro e w69 ⟨b_x, A_x, n_x, c_x, rfl, z_x, hb69⟩
            have R69 := ((R68.below hb69).add z_x)
            have s69 := And.intro (R69.cell 0 0 rfl rfl) (And.intro (R69.cell 0 1 rfl rfl) (And.intro (R69.cell 0 2 rfl rfl) (R69.cell 0 3 rfl rfl)))
            go_wp2_with fail
            refine hK.out _ _ (fun _ => s69) ?_
            clear hK K
            try simp only [Act.put, List.setIfInBounds_toArray, List.set_cons_zero, List.set_cons_succ]
            refine wpAnyL_one (i := 9) (by kernel_rfl) rfl (fun K hK => ?_)
            go_simp
            refine (zr_add (K := 128) (R69.z 0 rfl) (R69.z 1 rfl) (by omega) (by omega) HF.out.2.1).mono ?_; rintro e w70 ⟨b_y, A_y, n_y, c_y, rfl, z_y, hb70⟩
            have R70 := ((R69.below hb70).add z_y)
            have s70 := And.intro (R70.cell 0 0 rfl rfl) (And.intro (R70.cell 0 1 rfl rfl) (And.intro (R70.cell 0 2 rfl rfl) (R70.cell 0 3 rfl rfl)))
            go_wp2_with fail
            refine hK.out _ _ (fun _ => s70) ?_
            clear hK K
            try simp only [Act.put, List.setIfInBounds_toArray, List.set_cons_zero, List.set_cons_succ]
            refine wpAnyL_one (i := 10) (by kernel_rfl) rfl (fun K hK => ?_)
            go_simp
            refine hK.out _ _ (fun _ => s70) ?_
            clear hK K
            try simp only [Act.put, List.setIfInBounds_toArray, List.set_cons_zero, List.set_cons_succ]
            refine wpAnyL_done (by kernel_rfl) ?_ _
            go_wp2_with fail
            have R71 := (R70.other (.cells #[.int .u32 10] 82)).add (zone 10 (by omega) w70)
            refine (zr_mul (K := 128) (R71.z 5 rfl) (R71.z 0 rfl) (by omega) (by omega) HF.out.2.2.1).mono ?_; rintro e w72 ⟨b_z, A_z, n_z, c_z, rfl, z_z, hb72⟩
            have R72 := ((R71.below hb72).add z_z)
            go_wp2_with fail
            refine ⟨⟨j + 1, k + 1, A_y, n_y, c_y, A_z, n_z, c_z, Lib.hid (by rw [HK.out]; omega), by omega, by go_num, rfl, rfl, R72.only ?_, HDn⟩, by simp [intOf]; omega⟩
            intro x hx
            simp only [List.mem_cons, List.not_mem_nil, or_false] at hx
            rcases hx with rfl | rfl
            · exact zas_f ((R72.z 0 rfl)) (Nat.pow_succ ..).symm
            · exact zas_t ((R72.z 2 rfl)) HF.out.2.2.2.symm
        · go_simp
          have R73 := (R61.other (.cells #[.int .u32 (dd : Int)] 82)).add (zone dd (by omega) w61)
          have s73 := And.intro (R73.cell 0 0 rfl rfl) (And.intro (R73.cell 0 1 rfl rfl) (And.intro (R73.cell 0 2 rfl rfl) (R73.cell 0 3 rfl rfl)))
          refine hK.out _ _ (fun _ => s73) ?_
          clear hK K
          try simp only [Act.put, List.setIfInBounds_toArray, List.set_cons_zero, List.set_cons_succ]
          generalize (w61.alloc (.cells #[.int .u32 (dd : Int)] 82)) = w73 at *
          refine wpAnyL_one (i := 1) (by kernel_rfl) rfl (fun K hK => ?_)
          go_simp
          have R74 := (R73.other (.cells #[.int .u32 10] 82)).add (zone 10 (by omega) w73)
          have s74 := And.intro (R74.cell 0 0 rfl rfl) (And.intro (R74.cell 0 1 rfl rfl) (And.intro (R74.cell 0 2 rfl rfl) (R74.cell 0 3 rfl rfl)))
          refine hK.out _ _ (fun _ => s74) ?_
          clear hK K
          try simp only [Act.put, List.setIfInBounds_toArray, List.set_cons_zero, List.set_cons_succ]
          generalize (w73.alloc (.cells #[.int .u32 10] 82)) = w74 at *
          refine wpAnyL_one (i := 2) (by kernel_rfl) rfl (fun K hK => ?_)
          go_simp
          refine (zr_mul (K := 128) (R74.z 3 rfl) (R74.z 0 rfl) (by omega) (by omega) HF.out.1).mono ?_; rintro e w75 ⟨b_x, A_x, n_x, c_x, rfl, z_x, hb75⟩
          have R75 := ((R74.below hb75).add z_x)
          have s75 := And.intro (R75.cell 0 0 rfl rfl) (And.intro (R75.cell 0 1 rfl rfl) (And.intro (R75.cell 0 2 rfl rfl) (R75.cell 0 3 rfl rfl)))
          go_wp2_with fail
          refine hK.out _ _ (fun _ => s75) ?_
          clear hK K
          try simp only [Act.put, List.setIfInBounds_toArray, List.set_cons_zero, List.set_cons_succ]
          refine wpAnyL_one (i := 9) (by kernel_rfl) rfl (fun K hK => ?_)
          go_simp
          refine (zr_add (K := 128) (R75.z 0 rfl) (R75.z 2 rfl) (by omega) (by omega) HF.out.2.1).mono ?_; rintro e w76 ⟨b_y, A_y, n_y, c_y, rfl, z_y, hb76⟩
          have R76 := ((R75.below hb76).add z_y)
          have s76 := And.intro (R76.cell 0 0 rfl rfl) (And.intro (R76.cell 0 1 rfl rfl) (And.intro (R76.cell 0 2 rfl rfl) (R76.cell 0 3 rfl rfl)))
          go_wp2_with fail
          refine hK.out _ _ (fun _ => s76) ?_
          clear hK K
          try simp only [Act.put, List.setIfInBounds_toArray, List.set_cons_zero, List.set_cons_succ]
          refine wpAnyL_one (i := 10) (by kernel_rfl) rfl (fun K hK => ?_)
          go_simp
          refine hK.out _ _ (fun _ => s76) ?_
          clear hK K
          try simp only [Act.put, List.setIfInBounds_toArray, List.set_cons_zero, List.set_cons_succ]
          refine wpAnyL_done (by kernel_rfl) ?_ _
          go_wp2_with fail
          have R77 := (R76.other (.cells #[.int .u32 10] 82)).add (zone 10 (by omega) w76)
          refine (zr_mul (K := 128) (R77.z 5 rfl) (R77.z 0 rfl) (by omega) (by omega) HF.out.2.2.1).mono ?_; rintro e w78 ⟨b_z, A_z, n_z, c_z, rfl, z_z, hb78⟩
          have R78 := ((R77.below hb78).add z_z)
          go_wp2_with fail
          refine ⟨⟨j + 1, k + 1, A_y, n_y, c_y, A_z, n_z, c_z, Lib.hid (by rw [HK.out]; omega), by omega, by go_num, rfl, rfl, R78.only ?_, HDn⟩, by simp [intOf]; omega⟩
          intro x hx
          simp only [List.mem_cons, List.not_mem_nil, or_false] at hx
          rcases hx with rfl | rfl
          · exact zas_f ((R78.z 0 rfl)) (Nat.pow_succ ..).symm
          · exact zas_t ((R78.z 2 rfl)) HF.out.2.2.2.symm
      · obtain rfl : j = m := by omega
        have hkk := HK.out
        rw [HNN.out] at hkk
        subst hkk
        have htk : t.take j = t := List.take_of_length_le (Nat.le_of_eq HM.out)
        rw [htk] at E HDj
        have hpos : (0 : Int) < ((10 ^ j : Nat) : Int) := by have := Nat.pow_pos (n := j) (show 0 < 10 by decide); omega
        have hl1000 : (bod h ++ t).length ≤ 1000 := by have h5 := HD.out.2; have := HM.out; rw [List.length_append]; omega
        have hq := qd_yes HD.out.1 (show 1 ≤ t.length by have := HD.out.2.2.2; have := HM.out; omega) HDj.out
        rw [hN.out, HM.out, ← HM.out, ← dec_append, HM.out] at hq
        have hnf : (zv false (dec (bod h ++ t))).natAbs < 4294967296 ^ 128 := by rw [zv_abs]; exact dec_few (digs_app HD.out.1.digs HDj.out) hl1000
        have hdf : (((10 ^ j : Nat) : Int)).natAbs < 4294967296 ^ 128 := by rw [Int.natAbs_natCast]; exact ten_few (by omega)
        have HV := Lib.hid (And.intro hq (And.intro (qnum_lt hpos hnf) (qden_lt (x := zv false (dec (bod h ++ t))) hpos hdf)))
        rw [qv_pos hpos] at hq
        have HV2 := Lib.hid hq
        have z1 := (E.z 1 rfl).resign false
        rw [show (((dec (bod h ++ t) : Nat) : Int)).natAbs = dec (bod h ++ t) from rfl] at z1
        have R70 := (E.add (E.z 0 rfl)).add z1
        clear z1 hpos hl1000 hq hnf hdf htk E
        go_wp2_with fail
        refine (rqplain (K := 128) (R70.z 0 rfl) (R70.z 1 rfl) (by omega) (by omega) (by omega) (by omega) HV.out.1.2.symm).mono ?_; rintro e w81 ⟨b_p, A_p, n_p, c_p, b_q, A_q, n_q, c_q, rfl, z_p, z_q, hb81⟩
        have R81 := (((R70.below hb81).add z_p).add z_q)
        have zr0 := R81.cell 0 0 rfl rfl
        have zr1 := R81.cell 0 1 rfl rfl
        have zr2 := R81.cell 0 2 rfl rfl
        have zr3 := R81.cell 0 3 rfl rfl
        have zfr0 := R81.frozen 0 0 rfl
        have zfr1 := R81.frozen 0 1 rfl
        have zfr2 := R81.frozen 0 2 rfl
        have zfr3 := R81.frozen 0 3 rfl
        go_wp2_with fail
        have R9_ := R81.st4 0 (.bool b_p) (.slice A_p n_p c_p) (.bool b_q) (.slice A_q n_q c_q) rfl rfl rfl rfl rfl
        refine bodyPost_ret (results_row_tmp rfl _ _ (w.heap.size) 26 #[.bool b_p, .slice A_p n_p c_p, .bool b_q, .slice A_q n_q c_q] (0, 0) _ rfl (R9_.b 0 rfl).is Tryz.underlying26 rfl (by kernel_rfl)) rfl ?_
        have hv := HV.out
        rw [← HV2.out.2] at hv
        exact ⟨_, _, _, _, _, _, _, _, ret_vb hv.1.1.symm, (R9_.z 1 rfl).tight hv.2.1, (R9_.z 0 rfl).tight hv.2.2, R9_.bel⟩
end Go.Proofs.YticjhlbmdjijnaaGreatDoor
