/- The contracts of package heijunkaref01, first part: cut, at, cmp, Digits, Limbs. No condition but the reach of a slice. -/
import Derived.Test.YticheiocmhaakaaDoorNatC
import Derived.Test.YticheiocmhaakaaDoorRefMath
namespace Go.Proofs.YticheiocmhaakaaDoor
open Go.RowKit

/-- The value of a row of bytes as digits; the digits of a value. -/
def dv (l : List Nat) : Nat := Num.val 256 l
def dg (v : Nat) : List Nat := Num.dig 256 v
theorem dv_dg (v : Nat) : dv (dg v) = v := Num.val_dig (by decide) v
theorem dg_lt (v : Nat) : ∀ x ∈ dg v, x < 256 := Num.dig_lt (by decide) v
theorem dg_zero : dg 0 = [] := Num.dig_zero _
theorem dg_len (l : List Nat) (h : ∀ x ∈ l, x < 256) : (dg (dv l)).length ≤ l.length := Num.dig_len_val (by decide) l h
abbrev Dg (w : World) (A : Option Addr) (n c : Nat) (l : List Nat) : Prop := Ints w .i64 256 A n c l
abbrev OwnD (w : World) (base : Nat) (A : Option Addr) (n c : Nat) (l : List Nat) : Prop := OwnI w base .i64 256 3 A n c l
theorem info_int : (Tryd.prog.info? 3).map (fun i => (i.zero, i.size, i.bytes)) = some (some (.int .i64 0), 1, 8) := by kernel_rfl
theorem OwnI.shrink {w : World} {base : Nat} {kd : IntKind} {lim : Nat} {e : TypeId} {A : Option Addr} {n c : Nat} {l : List Nat} (h : OwnI w base kd lim e A n c l) {k : Nat} (hk : k ≤ n) : OwnI w base kd lim e A k c (l.take k) := by
  refine ⟨?_, fun x hx => h.lt x (List.mem_of_mem_take hx)⟩
  rcases h.own.form with ⟨rfl, rfl, rfl, hl⟩ | ⟨g, cur, rfl, hb, hg, hnc, hm, hs, ht⟩
  · obtain rfl : k = 0 := by omega
    exact Own.nil_ ..
  · refine Own.of_blk hb hg (by omega) hm hs ?_
    rw [List.map_take, ← ht, List.take_take, Nat.min_eq_left hk]

set_option maxRecDepth 100000 in
set_option maxHeartbeats 400000 in
theorem cut_any (A : Option Addr) (n c : Nat) (l : List Nat) (w : World) (hr : Dg w A n c l) (hn : n ≤ 17592186044416) :
    Calls Tryd.prog 53 #[.slice A n c] w fun e w' => ∃ k, k ≤ n ∧ e = .returned (.slice A k c) ∧ l.take k = dg (dv l) ∧ w' = w := by
  have hlen := hr.len
  have hcap := hr.rd.cap
  go_enter Tryd.func53, Tryd.ntmps53
  go_wp2
  go_loop [0] (fun d => ∃ k : Nat, k ≤ n ∧ d = .slice A k c ∧ dv (l.take k) = dv l) (fun d => match d with | .slice _ k _ => k | _ => 0)
  case atStart => exact ⟨n, Nat.le_refl _, rfl, by rw [List.take_of_length_le (by omega)]⟩
  case round =>
    obtain ⟨k, hk, rfl, hv⟩ := hrel
    cases k with
    | zero =>
      have HV := Lib.hid hv
      clear hv
      go_wp2_with fail
      go_ret
      refine ⟨0, by omega, rfl, ?_, rfl⟩
      exact Num.take_dig (by decide) l 0 (by omega) hr.lt HV.out (.inl rfl)
    | succ k =>
      obtain ⟨b, o, x, rfl, _, hx, hxl, hc⟩ := hr.get (k := k) (by omega)
      have ek : ((k + 1 : Nat) : Int) - 1 = (k : Int) := by omega
      by_cases hx0 : x = 0
      · subst hx0
        have hv2 : dv (l.take k) = dv l := by
          rw [← hv]
          have := Num.val_take_succ 256 hx
          rw [Nat.mul_zero, Nat.add_zero] at this
          exact this.symm
        have HV := Lib.hid hv2
        clear hv hv2 hx
        go_wp2_with fail
        exact ⟨⟨k, by omega, rfl, HV.out⟩, by simp⟩
      · have ht : ((x : Int) == 0) = false := by simp; exact hx0
        have HV := Lib.hid hv
        have HX := Lib.hid hx
        clear hv hx
        go_wp2_with fail
        go_ret
        refine ⟨k + 1, by omega, rfl, ?_, rfl⟩
        exact Num.take_dig (by decide) l (k + 1) (by omega) hr.lt HV.out (.inr ⟨x, HX.out, hx0⟩)

set_option maxRecDepth 100000 in
theorem at_any (A : Option Addr) (n c : Nat) (l : List Nat) (w : World) (hr : Dg w A n c l) (i : Nat) (y : Nat) (hy : l[i]?.getD 0 = y) :
    Calls Tryd.prog 55 #[.slice A n c, .int .i64 i] w fun e w' => e = .returned (.int .i64 y) ∧ w' = w := by
  have hlen := hr.len
  by_cases h : i < n
  · obtain ⟨b, o, x, rfl, _, hx, hxl, hc⟩ := hr.get h
    rw [hx] at hy
    obtain rfl : x = y := hy
    clear hx
    go_enter Tryd.func55, Tryd.ntmps55
    go_wp2
    go_ret
    exact ⟨rfl, rfl⟩
  · rw [List.getElem?_eq_none (by omega)] at hy
    obtain rfl : 0 = y := hy
    go_enter Tryd.func55, Tryd.ntmps55
    go_wp2
    go_ret
    exact ⟨rfl, rfl⟩

set_option maxRecDepth 100000 in
set_option maxHeartbeats 400000 in
theorem rcmp_any (A A' : Option Addr) (n c n' c' : Nat) (l l' : List Nat) (w : World) (hr : Dg w A n c l) (hr' : Dg w A' n' c' l') (hn : n ≤ 17592186044416) (hn' : n' ≤ 17592186044416) :
    Calls Tryd.prog 44 #[.slice A n c, .slice A' n' c'] w fun e w' => e = .returned (.int .i64 (Num.cmp (dv l) (dv l'))) ∧ w' = w := by
  have hlen := hr.len
  have hlen' := hr'.len
  go_enter Tryd.func44, Tryd.ntmps44
  go_wp2
  go_loop [5] (fun i => ∃ k : Nat, k ≤ n + n' + 1 ∧ i = .int .i64 ((k : Int) - 1) ∧ Hid (∀ j : Nat, k ≤ j → l[j]?.getD 0 = l'[j]?.getD 0)) (fun i => (intOf i + 1).toNat)
  case atStart =>
    refine ⟨n + n' + 1, Nat.le_refl _, by go_num, ?_⟩
    show ∀ j : Nat, _
    intro j hj
    rw [List.getElem?_eq_none (by omega), List.getElem?_eq_none (by omega)]
  case round =>
    obtain ⟨k, hk, rfl, HE⟩ := hrel
    cases k with
    | zero =>
      have he : Num.cmp (dv l) (dv l') = 0 := by
        rw [show dv l = dv l' from Num.pad_eq l l' (fun j => HE.out j (by omega))]
        exact Num.cmp_eq _
      have HF := Lib.hid he
      clear he
      go_wp2_with fail
      go_ret
      exact ⟨ret_int HF.out.symm, rfl⟩
    | succ k =>
      have ek : ((k + 1 : Nat) : Int) - 1 = (k : Int) := by omega
      obtain ⟨x, hx⟩ : ∃ x, l[k]?.getD 0 = x := ⟨_, rfl⟩
      obtain ⟨y, hy⟩ : ∃ y, l'[k]?.getD 0 = y := ⟨_, rfl⟩
      have ha := fun w0 h0 => at_any A n c l w0 h0 k x hx
      have hb := fun w0 h0 => at_any A' n' c' l' w0 h0 k y hy
      have HX := Lib.hid hx
      have HY := Lib.hid hy
      clear hx hy
      rcases Nat.lt_trichotomy x y with h | h | h
      · have he : Num.cmp (dv l) (dv l') = -1 := Num.cmp_lt (Num.pad_lt (by decide) l l' k x y hr.lt HE.out HX.out HY.out h)
        have HF := Lib.hid he
        clear he
        go_wp2_with fail
        refine (ha _ hr).mono ?_; rintro e w' ⟨rfl, rfl⟩
        go_wp2_with fail
        refine (hb _ hr').mono ?_; rintro e w' ⟨rfl, rfl⟩
        go_wp2_with fail
        go_ret
        exact ⟨ret_int HF.out.symm, rfl⟩
      · have hxy : ¬ ((x : Int) < (y : Int)) := by omega
        have hyx : ¬ ((x : Int) > (y : Int)) := by omega
        have HXY := Lib.hid h
        clear h
        go_wp2_with fail
        refine (ha _ hr).mono ?_; rintro e w' ⟨rfl, rfl⟩
        go_wp2_with fail
        refine (hb _ hr').mono ?_; rintro e w' ⟨rfl, rfl⟩
        go_wp2_with fail
        refine (ha _ hr).mono ?_; rintro e w' ⟨rfl, rfl⟩
        go_wp2_with fail
        refine (hb _ hr').mono ?_; rintro e w' ⟨rfl, rfl⟩
        go_wp2_with fail
        refine ⟨⟨k, by omega, rfl, ?_⟩, by simp [intOf]⟩
        show ∀ j : Nat, _
        intro j hj
        rcases Nat.lt_or_ge k j with h | h
        · exact HE.out j h
        · obtain rfl : j = k := by omega
          rw [HX.out, HY.out, HXY.out]
      · have he : Num.cmp (dv l) (dv l') = 1 := Num.cmp_gt (Num.pad_lt (by decide) l' l k y x hr'.lt (fun j hj => (HE.out j hj).symm) HY.out HX.out h)
        have HF := Lib.hid he
        clear he
        go_wp2_with fail
        refine (ha _ hr).mono ?_; rintro e w' ⟨rfl, rfl⟩
        go_wp2_with fail
        refine (hb _ hr').mono ?_; rintro e w' ⟨rfl, rfl⟩
        go_wp2_with fail
        refine (ha _ hr).mono ?_; rintro e w' ⟨rfl, rfl⟩
        go_wp2_with fail
        refine (hb _ hr').mono ?_; rintro e w' ⟨rfl, rfl⟩
        go_wp2_with fail
        go_ret
        exact ⟨ret_int HF.out.symm, rfl⟩
end Go.Proofs.YticheiocmhaakaaDoor
