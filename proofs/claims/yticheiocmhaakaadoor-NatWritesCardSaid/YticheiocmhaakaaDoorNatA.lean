/- The contracts of package nat, first part: Trim, limb, Add, Sub, Cmp, Mul. No condition but the reach of a slice. -/
import Derived.Test.YticheiocmhaakaaDoorMore
import Derived.Test.YticheiocmhaakaaDoorNumMath
namespace Go.Proofs.YticheiocmhaakaaDoor
open Go.RowKit

/-- The value of a row of limbs; the limbs of a value. -/
def vl (l : List Nat) : Nat := Num.val 4294967296 l
def lmb (v : Nat) : List Nat := Num.dig 4294967296 v
theorem vl_lmb (v : Nat) : vl (lmb v) = v := Num.val_dig (by decide) v
theorem lmb_lt (v : Nat) : ∀ x ∈ lmb v, x < 4294967296 := Num.dig_lt (by decide) v
theorem lmb_len (l : List Nat) (h : ∀ x ∈ l, x < 4294967296) : (lmb (vl l)).length ≤ l.length := Num.dig_len_val (by decide) l h
theorem lmb_zero : lmb 0 = [] := Num.dig_zero _
theorem lmb_inj {v u : Nat} (h : lmb v = lmb u) : v = u := Num.dig_inj (by decide) h
/-- A row of limbs. -/
abbrev Lim (w : World) (A : Option Addr) (n c : Nat) (l : List Nat) : Prop := Ints w .u32 4294967296 A n c l
/-- A row of limbs of the call's own. -/
abbrev OwnL (w : World) (base : Nat) (A : Option Addr) (n c : Nat) (l : List Nat) : Prop := OwnI w base .u32 4294967296 33 A n c l
theorem info_u32 : (Tryd.prog.info? 33).map (fun i => (i.zero, i.size, i.bytes)) = some (some (.int .u32 0), 1, 4) := by kernel_rfl
theorem size_u32 : (Tryd.prog.info? 33).map (·.size) = some 1 := by kernel_rfl

section
variable {w : World} {ops : Array Oper} {rest : List Oper} {o : Oper} {a : Act} {Q : Exit → Act → World → Prop}
theorem wpList_mkL (hgd : o.guard = none) (l c : Operand) (ho : o.op = Op.makeSlice 22 l c) {kl kc : IntKind} {L C : Int} (n : Nat) (hl : a.eval l = .int kl L) (hc : a.eval c = .int kc C) (hL : L = (n : Int)) (hC : C = (n : Int)) (hn : n ≤ 17592186044416)
    (base : Nat) (hbase : base ≤ w.heap.size)
    (h : ∀ w', OwnL w' base (some ⟨w.heap.size, 0, none⟩) n n (List.replicate n 0) → w.grownBy w' none → wpList Tryd.prog ops Q rest (a.put o.dst (.slice (some ⟨w.heap.size, 0, none⟩) n n)) w') :
    wpList Tryd.prog ops Q (o :: rest) a w :=
  wpList_mkI w hgd l c 22 ho (lim := 4294967296) (by omega) 33 4 Tryd.underlying22 info_u32 n hl hc hL hC (by omega) (by unfold maxLen; omega) base hbase h
theorem wpList_copyL (hgd : o.guard = none) (d s : Operand) (ho : o.op = .call { callee := .builtin .copy, args := #[d, s], argTypes := #[22, 22] })
    {base g n c : Nat} {l : List Nat} (hown : OwnL w base (some ⟨g, 0, none⟩) n c l) (hd : a.eval d = .slice (some ⟨g, 0, none⟩) n c)
    {A : Option Addr} {m c' : Nat} {l' : List Nat} (hr : Lim w A m c' l') (hs : a.eval s = .slice A m c')
    (h : ∀ w', OwnL w' base (some ⟨g, 0, none⟩) n c (l'.take n ++ l.drop m) → w.grownBy w' (some g) → wpList Tryd.prog ops Q rest (a.put o.dst (goInt (Nat.min m n))) w') :
    wpList Tryd.prog ops Q (o :: rest) a w := wpList_copyI hgd d s _ _ ho 33 Tryd.underlying22 size_u32 hown hd hr hs h
end

set_option maxRecDepth 100000 in
set_option maxHeartbeats 400000 in
theorem trim_any (A : Option Addr) (n c : Nat) (l : List Nat) (w : World) (hr : Lim w A n c l) (hn : n ≤ 1099511627776) :
    Calls Tryd.prog 16 #[.slice A n c] w fun e w' => ∃ A' m, e = .returned (.slice A' m m) ∧ m ≤ n ∧ OwnL w' w.heap.size A' m m (lmb (vl l)) ∧ Below w.heap.size w w' := by
  have hlen := hr.len
  go_enter Tryd.func16, Tryd.ntmps16
  go_wp2
  go_loop [3] (fun i => ∃ k : Nat, k ≤ n ∧ i = .int .i64 k ∧ vl (l.take k) = vl l) (fun i => (intOf i).toNat)
  case atStart => exact ⟨n, Nat.le_refl _, rfl, by rw [List.take_of_length_le (by omega)]⟩
  case round =>
    obtain ⟨k, hk, rfl, hv⟩ := hrel
    by_cases h0 : k = 0
    · subst h0
      have HV : Hid (lmb (vl l) = l.take 0) := by
        show lmb (vl l) = l.take 0
        rw [← hv]; exact lmb_zero
      clear hv
      go_wp2_with (first
        | (refine wpList_mkL rfl _ _ rfl 0 rfl rfl rfl rfl (by omega) w.heap.size (Nat.le_refl _) ?_; intro w2 hown hg2)
        | (refine wpList_copyL (o := ⟨some 23, _, _, _, _, _⟩) rfl (.tmp 21) (.tmp 22) rfl hown rfl (hr.below (below_none (Below.refl _ _) hg2 (Nat.le_refl _))) rfl ?_; intro w3 hown3 hg3))
      go_ret
      refine ⟨_, 0, rfl, by omega, ?_, (below_none (Below.refl _ _) hg2 (Nat.le_refl _)).grown hg3 hg2.size (by simp)⟩
      rw [HV.out]
      simpa [hlen, hk] using hown3
    · obtain ⟨b, o, x, rfl, _, hx, hxl, hc⟩ := hr.get (k := k - 1) (by omega)
      have k1 : (k : Int) - 1 = ((k - 1 : Nat) : Int) := by omega
      have hs : l.take k = l.take (k - 1) ++ [x] := by
        rw [show k = (k - 1) + 1 by omega, List.take_add_one, hx]; rfl
      by_cases hx0 : x = 0
      · have hv2 : vl (l.take (k - 1)) = vl l := by
          rw [← hv, hs, hx0]
          unfold vl
          rw [Num.val_snoc]; simp
        have HV := Lib.hid hv2
        subst hx0
        clear hv hv2 hs hx
        go_wp2_with fail
        exact ⟨⟨k - 1, by omega, by go_num, HV.out⟩, by simp [intOf]; omega⟩
      · have HV : Hid (lmb (vl l) = l.take k) := by
          show lmb (vl l) = l.take k
          rw [← hv]
          refine Num.dig_val (by decide) _ (fun y hy => hr.lt y (List.mem_of_mem_take hy)) ?_
          intro y hy
          rw [List.length_take, Nat.min_eq_left (by omega), List.getElem?_take, if_pos (by omega), hx] at hy
          cases hy
          exact hx0
        have ht : ((x : Int) == 0) = false := by simp; exact hx0
        clear hv hs hx
        go_wp2_with (first
          | (refine wpList_mkL rfl _ _ rfl k rfl rfl rfl rfl (by omega) w.heap.size (Nat.le_refl _) ?_; intro w2 hown hg2)
          | (refine wpList_copyL (o := ⟨some 23, _, _, _, _, _⟩) rfl (.tmp 21) (.tmp 22) rfl hown rfl (hr.below (below_none (Below.refl _ _) hg2 (Nat.le_refl _))) rfl ?_; intro w3 hown3 hg3))
        go_ret
        refine ⟨_, k, rfl, by omega, ?_, (below_none (Below.refl _ _) hg2 (Nat.le_refl _)).grown hg3 hg2.size (by simp)⟩
        rw [HV.out]
        simpa [hlen, hk] using hown3
end Go.Proofs.YticheiocmhaakaaDoor
