/- The contract of bytes.Trim where the bytes that are cut off are 0. No condition but the reach of a slice. -/
import Derived.Test.YtdlcngmcjidomaaDoorCellA
import Derived.Test.YtdlcngmcjidomaaDoorLate
namespace Go.Proofs.YtdlcngmcjidomaaDoor
set_option linter.unusedSimpArgs false
set_option linter.unusedVariables false
open Go.RowKit

def sliceLen : Value → Nat
  | .slice _ n _ => n
  | _ => 0
set_option maxRecDepth 100000 in
set_option maxHeartbeats 800000 in
theorem trimRight_any {A : Option Addr} {n c : Nat} {l : List Nat} {w : World} (hr : Ints w .u8 256 A n c l) (hn : (n : Int) ≤ 9223372036854775807) :
    Calls Tryd.prog 72 #[.slice A n c, .int .u8 0] w fun e w' => ∃ m, e = .returned (.slice A m c) ∧ m ≤ n ∧ (∀ (j : Nat) (x : Nat), l[j]? = some x → m ≤ j → x = 0) ∧ (∀ x, l[m - 1]? = some x → 0 < m → x ≠ 0) ∧ w = w' := by
  go_enter Tryd.func72, Tryd.ntmps72
  go_wp2_with fail
  go_loop [0] (fun v => ∃ k : Nat, k ≤ n ∧ v = .slice A k c ∧ ∀ (j : Nat) (x : Nat), l[j]? = some x → k ≤ j → x = 0) (fun v => sliceLen v)
  case atStart => exact ⟨n, Nat.le_refl _, rfl, fun j x hx hj => by have := (List.getElem?_eq_some_iff.1 hx).1; have := hr.len; omega⟩
  case round =>
    obtain ⟨k, hk, rfl, hz⟩ := hrel
    have HZ := Lib.hid hz
    have hc := hr.rd.cap
    clear hz
    by_cases h0 : k = 0
    · subst h0
      go_wp2_with fail
      go_ret
      exact ⟨0, rfl, hk, HZ.out, fun x _ h => absurd h (by omega), rfl⟩
    · obtain ⟨b, o, x, rfl, _, hx, hxl, hcell⟩ := hr.get (k := k - 1) (by omega)
      have hk0 : (0 : Int) < (k : Int) := by omega
      have e1 : (k : Int) - 1 = ((k - 1 : Nat) : Int) := by omega
      have hlt : ((k - 1 : Nat) : Int) < (k : Int) := by omega
      have hkc : ((k - 1 : Nat) : Int) ≤ (c : Int) := by omega
      have HX := Lib.hid hx
      clear hx
      by_cases hx0 : x = 0
      · subst hx0
        obtain ⟨k1, hk1⟩ : ∃ k1, k = k1 + 1 := ⟨k - 1, by omega⟩
        subst hk1
        have hkc2 : k1 ≤ c := by omega
        rw [Nat.add_sub_cancel] at HX hcell e1 hlt hkc
        go_wp2_with fail
        go_round
        case rel => exact ⟨k1, by omega, rfl, fun j x hx hj => by
          by_cases e : j = k1
          · subst e; rw [HX.out] at hx; exact (Option.some.inj hx).symm
          · exact HZ.out j x hx (by omega)⟩
        case measure => simp [sliceLen]
      · have ht : ((x : Int) == 0) = false := by simp; omega
        have HN := Lib.hid hx0
        clear hx0
        go_wp2_with fail
        go_ret
        exact ⟨k, rfl, hk, HZ.out, fun y hy _ => by rw [HX.out] at hy; cases hy; exact HN.out, rfl⟩
def TrimPost (n : Nat) (w : World) (e : Ending) (w' : World) : Prop := ∃ A' m c', e = .returned (.slice A' m c') ∧ m ≤ n ∧ (m = 0 ↔ n = 0) ∧ w = w'
set_option maxRecDepth 100000 in
set_option maxHeartbeats 800000 in
theorem trimLeft_any {A : Option Addr} {n c : Nat} {l : List Nat} {w : World} (hr : Ints w .u8 256 A n c l) (hn : (n : Int) ≤ 9223372036854775807) (hl : ∀ x, l[n - 1]? = some x → 0 < n → x ≠ 0) :
    Calls Tryd.prog 71 #[.slice A n c, .int .u8 0] w (TrimPost n w) := by
  go_enter Tryd.func71, Tryd.ntmps71
  go_wp2_with fail
  go_loop [0] (fun v => ∃ (k : Nat) (A' : Option Addr), k ≤ n ∧ (n ≠ 0 → k < n) ∧ v = .slice A' (n - k) (c - k) ∧ Ints w .u8 256 A' (n - k) (c - k) (l.drop k)) (fun v => sliceLen v)
  case atStart => exact ⟨0, A, Nat.zero_le _, fun h => by omega, rfl, hr⟩
  case round =>
    obtain ⟨k, A', hk, hkn, rfl, hd⟩ := hrel
    have hc := hr.rd.cap
    by_cases h0 : n - k = 0
    · have hn0 : n = 0 := by by_cases e : n = 0; exact e; have := hkn e; omega
      have HN := Lib.hid hn0
      rw [h0]
      go_wp2_with fail
      go_ret
      exact ⟨none, 0, 0, rfl, Nat.zero_le _, ⟨fun _ => by first | exact HN.out | rfl, fun _ => rfl⟩, rfl⟩
    · obtain ⟨b, o, x, rfl, _, hx, hxl, hcell⟩ := hd.get (k := 0) (by omega)
      rw [Nat.add_zero] at hcell
      rw [List.getElem?_drop, Nat.add_zero] at hx
      obtain ⟨A2, hA2, hd2⟩ := hd.cutAt (k := 1) (by omega)
      rw [List.drop_drop] at hd2
      obtain ⟨m, hm⟩ : ∃ m, n - k = m := ⟨_, rfl⟩
      obtain ⟨d, hdd⟩ : ∃ d, c - k = d := ⟨_, rfl⟩
      have hxx : x = 0 → k + 1 < n := fun e => by
        by_cases e2 : k + 1 = n
        · have := hl x (by rw [← e2]; exact hx) (by omega)
          exact absurd e this
        · omega
      have hmd : m ≤ d := by omega
      have e2 : n - (k + 1) = m - 1 := by omega
      have e3 : c - (k + 1) = d - 1 := by omega
      rw [hm, hdd] at hd2
      rw [hdd] at hA2
      have hfin : m = 0 ↔ n = 0 := by omega
      have HF := Lib.hid (And.intro hd2 (And.intro hfin (And.intro e2 e3)))
      have HM := Lib.hid (show m ≤ n by omega)
      have hk1 : (0 : Int) < (m : Int) := by omega
      have hm1 : (1 : Int) ≤ (m : Int) := by omega
      have hmN : (m : Int) ≤ 9223372036854775807 := by omega
      have hmdi : (m : Int) ≤ (d : Int) := by omega
      rw [hm, hdd]
      clear hx hd hd2 hfin e2 e3 hkn
      by_cases hx0 : x = 0
      · have HX := Lib.hid (hxx hx0)
        subst hx0
        clear hxx
        go_wp2_with fail
        go_round
        case rel => exact ⟨k + 1, A2, by have := HX.out; omega, fun _ => HX.out, by rw [HF.out.2.2.1, HF.out.2.2.2], by rw [HF.out.2.2.1, HF.out.2.2.2]; exact HF.out.1⟩
        case measure => simp [sliceLen]; omega
      · have ht : ((x : Int) == 0) = false := by simp; omega
        have hm0 : ((m : Int) == 0) = false := by simp; omega
        clear hxx hx0
        go_wp2_with fail
        go_ret
        exact ⟨_, m, d, rfl, HM.out, HF.out.2.1, rfl⟩
theorem trim_fact {l : List Nat} {n m m3 : Nat} (hl : l.length = n) (h3 : m3 = 0 ↔ m = 0) (hz : ∀ (j : Nat) (x : Nat), l[j]? = some x → m ≤ j → x = 0) (hn : ∀ x, l[m - 1]? = some x → 0 < m → x ≠ 0) (hm : m ≤ n) : decide (0 < m3) = !(l.all (· == 0)) := by
  by_cases h : m = 0
  · have e : m3 = 0 := h3.2 h
    have ha : l.all (· == 0) = true := List.all_eq_true.2 fun x hx => by
      obtain ⟨j, hj⟩ := List.getElem?_of_mem hx
      have := hz j x hj (by omega)
      simp [this]
    rw [ha, e]; rfl
  · have e : ¬ m3 = 0 := fun e => h (h3.1 e)
    have hx : l[m - 1]? = some l[m - 1] := List.getElem?_eq_getElem (by omega)
    have ha : l.all (· == 0) = false := by
      rw [Bool.eq_false_iff]
      intro ha
      have := List.all_eq_true.1 ha _ (List.mem_of_getElem? hx)
      exact hn _ hx (by omega) (by simpa using this)
    rw [ha, decide_eq_true (by omega)]; rfl
set_option maxRecDepth 100000 in
set_option maxHeartbeats 800000 in
theorem trim_any {A : Option Addr} {n c : Nat} {l : List Nat} {w : World} (hr : Ints w .u8 256 A n c l) (hn : (n : Int) ≤ 9223372036854775807) :
    Calls Tryd.prog 68 #[.slice A n c, .string ⟨#[0]⟩] w fun e w' => ∃ A' m c', e = .returned (.slice A' m c') ∧ m ≤ n ∧ (decide (0 < m) = !(l.all (· == 0))) ∧ Below w.heap.size w w' := by
  by_cases h0 : n = 0
  · subst h0
    have hl : l = [] := List.eq_nil_of_length_eq_zero hr.len
    go_enter Tryd.func68, Tryd.ntmps68
    go_wp2_with fail
    go_ret
    exact ⟨none, 0, 0, rfl, Nat.le_refl _, by rw [hl]; rfl, Below.refl _ _⟩
  have ht : ((n : Int) == 0) = false := by simp; omega
  have hR := fun w0 (h : Ints w0 .u8 256 A n c l) => trimRight_any h hn
  have hlen := hr.len
  have HR := Lib.hid (And.intro hr hlen)
  clear hr hlen h0
  go_enter Tryd.func68, Tryd.ntmps68
  go_wp2_with fail
  refine wp_region_late [] (fun _ => True) (by kernel_rfl) ?_
  have HR2 := HR.out.1.drew
  have hb2 : Below w.heap.size w w.drew := (Below.refl _ _).drew
  generalize World.drew _ = w2 at *
  refine wpAnyL_take (i := 0) (v := ?_) rfl (by kernel_rfl) (by kernel_rfl) (by kernel_rfl) (by kernel_rfl) (by kernel_rfl) (fun _ _ _ h => h) (Or.inl ⟨by kernel_rfl, ?_⟩) trivial ?_
  rotate_left
  · rintro w0 _; go_simp; (try with_reducible rfl)
  try simp only [Act.put, List.getElem_toArray, List.getElem_cons_succ, List.getElem_cons_zero, List.setIfInBounds_toArray, List.set_cons_zero, List.set_cons_succ]
  refine wpAnyL_take (i := 1) (v := ?_) rfl (by kernel_rfl) (by kernel_rfl) (by kernel_rfl) (by kernel_rfl) (by kernel_rfl) (fun _ _ _ h => h) (Or.inl ⟨by kernel_rfl, ?_⟩) trivial ?_
  rotate_left
  · rintro w0 _; go_simp; (try with_reducible rfl)
  try simp only [Act.put, List.getElem_toArray, List.getElem_cons_succ, List.getElem_cons_zero, List.setIfInBounds_toArray, List.set_cons_zero, List.set_cons_succ]
  refine wpAnyL_take (i := 2) (v := .int .u8 0) rfl (by kernel_rfl) (by kernel_rfl) (by kernel_rfl) (by kernel_rfl) (by kernel_rfl) (fun _ _ _ h => h) (Or.inl ⟨by kernel_rfl, by rintro w0 _; rfl⟩) trivial ?_
  try simp only [Act.put, List.getElem_toArray, List.getElem_cons_succ, List.getElem_cons_zero, List.setIfInBounds_toArray, List.set_cons_zero, List.set_cons_succ]
  refine wpAnyL_take (i := 4) (v := ?_) rfl (by kernel_rfl) (by kernel_rfl) (by kernel_rfl) (by kernel_rfl) (by kernel_rfl) (fun _ _ _ h => h) (Or.inl ⟨by kernel_rfl, ?_⟩) trivial ?_
  rotate_left
  · rintro w0 _; go_simp; (try with_reducible rfl)
  try simp only [Act.put, List.getElem_toArray, List.getElem_cons_succ, List.getElem_cons_zero, List.setIfInBounds_toArray, List.set_cons_zero, List.set_cons_succ]
  refine wpAnyL_take (i := 5) (v := .int .u8 0) rfl (by kernel_rfl) (by kernel_rfl) (by kernel_rfl) (by kernel_rfl) (by kernel_rfl) (fun _ _ _ h => h) (Or.inl ⟨by kernel_rfl, by rintro w0 _; rfl⟩) trivial ?_
  try simp only [Act.put, List.getElem_toArray, List.getElem_cons_succ, List.getElem_cons_zero, List.setIfInBounds_toArray, List.set_cons_zero, List.set_cons_succ]
  refine wpAnyL_one (i := 3) (by kernel_rfl) rfl (fun K hK => ?_)
  go_simp
  refine (hR _ HR2).mono ?_; rintro e w3 ⟨m, rfl, hm, hz, hnz, rfl⟩
  have HZ := Lib.hid (And.intro hz hnz)
  clear hz hnz
  go_wp2_with fail
  refine hK.out _ _ (fun _ => trivial) ?_
  clear hK K
  try simp only [Act.put, List.getElem_toArray, List.getElem_cons_succ, List.getElem_cons_zero, List.setIfInBounds_toArray, List.set_cons_zero, List.set_cons_succ]
  refine wpAnyL_one (i := 6) (by kernel_rfl) rfl (fun K hK => ?_)
  go_simp
  refine (trimLeft_any (HR2.take (k := m) (c' := c) hm (by have := HR2.rd.cap; omega)) (by omega) (fun x hx h0 => HZ.out.2 x (by rw [List.getElem?_take, if_pos (by omega)] at hx; exact hx) h0)).mono ?_; rintro e w4 ⟨A3, m3, c3, rfl, hm3, hiff, rfl⟩
  have HI := Lib.hid hiff
  clear hiff
  go_wp2_with fail
  refine hK.out _ _ (fun _ => trivial) ?_
  clear hK K
  try simp only [Act.put, List.getElem_toArray, List.getElem_cons_succ, List.getElem_cons_zero, List.setIfInBounds_toArray, List.set_cons_zero, List.set_cons_succ]
  refine wpAnyL_take (i := 7) (v := ?_) rfl (by kernel_rfl) (by kernel_rfl) (by kernel_rfl) (by kernel_rfl) (by kernel_rfl) (fun _ _ _ h => h) (Or.inl ⟨by kernel_rfl, ?_⟩) trivial ?_
  rotate_left
  · rintro w0 _; go_simp; (try with_reducible rfl)
  try simp only [Act.put, List.getElem_toArray, List.getElem_cons_succ, List.getElem_cons_zero, List.setIfInBounds_toArray, List.set_cons_zero, List.set_cons_succ]
  refine wpAnyL_done (by kernel_rfl) ?_ _
  go_wp2_with fail
  go_ret
  exact ⟨A3, m3, c3, rfl, by omega, trim_fact HR.out.2 HI.out HZ.out.1 HZ.out.2 hm, hb2⟩
end Go.Proofs.YtdlcngmcjidomaaDoor
