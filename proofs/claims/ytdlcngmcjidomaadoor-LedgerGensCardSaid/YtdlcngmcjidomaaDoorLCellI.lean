/- cell.parts: a record's parts, one by one. No condition but the reach of a slice. -/
import Derived.Test.YtdlcngmcjidomaaDoorGCE
import Derived.Test.YtdlcngmcjidomaaDoorRange
namespace Go.Proofs.YtdlcngmcjidomaaDoor
set_option linter.unusedSimpArgs false
set_option linter.unusedVariables false
open Go.RowKit Go.Shelf
attribute [local go_sem] Oper.semAt_some

/-- The iterator's own variable, k parts being told. -/
structure PBox (W : World) (Bn b o n c k : Nat) : Prop where
  ex : ∃ A c', (49 * k < n → A = some ⟨b, o + 49 * k, none⟩ ∧ c' = c - 49 * k) ∧ Blk W Bn 22 #[.slice A (n - 49 * k) c']
def partEnc (b o n : Nat) (k : Nat) : Array Value := #[.int .i64 (k : Int), .slice (some ⟨b, o + 49 * k, none⟩) (min 49 (n - 49 * k)) (min 49 (n - 49 * k))]
theorem pre_range {pre : List Nat} {x q : Nat} (h : (pre ++ [x]) <+: List.range q) : pre = List.range x ∧ x < q := by
  obtain ⟨t, ht⟩ := h
  have hl := congrArg List.length ht
  simp only [List.length_append, List.length_cons, List.length_nil, List.length_range] at hl
  have hx : (List.range q)[pre.length]? = some x := by rw [← ht, List.append_assoc, List.getElem?_append_right (Nat.le_refl _), Nat.sub_self]; rfl
  rw [List.getElem?_range (by omega)] at hx
  have hx := Option.some.inj hx
  refine ⟨?_, by omega⟩
  have hp : pre = (List.range q).take pre.length := by rw [← ht, List.append_assoc]; exact (List.take_left' rfl).symm
  rw [hp, List.take_range, Nat.min_eq_left (by omega), ← hx]
theorem range_pre {k q : Nat} (h : k < q) : (List.range k ++ [k]) <+: List.range q := by
  rw [← List.range_succ]
  exact ⟨(List.range q).drop (k + 1), by conv => rhs; rw [← List.take_append_drop (k + 1) (List.range q), List.take_range, Nat.min_eq_left (by omega)]⟩

set_option maxRecDepth 100000 in
set_option maxHeartbeats 3200000 in
theorem parts1_in (F : Fence) (m : Nat) (hf : F.fn 78) (hro : F.round = none) (hm : 1 ≤ m) (l Bn b o n c q : Nat) (hq : 49 * q < n + 49) (hq2 : n ≤ 49 * q) (hnc : n ≤ c) (hn : n ≤ 392) (J : List Nat → World → Prop)
    (hJ : ∀ s A B, J s A → A.grownBy B (some Bn) → J s B)
    (hY : ∀ pre x W, J pre W → (pre ++ [x]) <+: List.range q → YieldAt F (m - 1) Tryd.prog l (partEnc b o n x) W fun e W' => e = .returned (.bool true) ∧ J (pre ++ [x]) W' ∧ W'.heap[Bn]? = W.heap[Bn]? ∧ Below 0 W W')
    (W : World) (hP : PBox W Bn b o n c 0) (h0 : J [] W) :
    CallsIn F m Tryd.prog 78 #[.func (.yield l) #[] #[], .pointer (some ⟨Bn, 0, none⟩)] W fun e W' => (∃ v, e = .returned v) ∧ J (List.range q) W' := by
  refine callsIn_of_wp Tryd.func78 rfl hf ?_ hro
  simp only [Tryd.ntmps78, List.size_toArray, List.length_cons, List.length_nil, Nat.reduceAdd, Nat.reduceSub, Array.replicate_succ, Array.replicate_zero, List.push_toArray, List.append_toArray, List.nil_append, List.cons_append]
  gi_wp2
  gi_loopw [3] (fun i wr => ∃ k : Nat, k ≤ q ∧ i = .int .i64 (k : Int) ∧ J (List.range k) wr ∧ PBox wr Bn b o n c k) (fun i _ => q - (intOf i).toNat)
  case atStart => exact ⟨0, Nat.zero_le _, rfl, h0, hP⟩
  case round =>
    obtain ⟨k, hk, rfl, hJs, hP⟩ := hrel
    obtain ⟨A, c', hA, hB⟩ := hP.ex
    have cb : wr.cell? ⟨Bn, 0, none⟩ = some (.slice A (n - 49 * k) c') := hB.cell 0
    by_cases hlt : k < q
    · have hkn : 49 * k < n := by omega
      obtain ⟨rfl, rfl⟩ := hA hkn
      obtain ⟨r, hr⟩ : ∃ r, n - 49 * k = r := ⟨_, rfl⟩
      obtain ⟨d, hd⟩ : ∃ d, c - 49 * k = d := ⟨_, rfl⟩
      obtain ⟨s, hs⟩ : ∃ s, min 49 r = s := ⟨_, rfl⟩
      rw [hr, hd] at cb hB
      obtain ⟨fn, tmps, assign, body, hy, hRd⟩ := hY (List.range k) k wr hJs (range_pre hlt)
      unfold partEnc at hy
      rw [hr, hs] at hy
      have hr0 : (0 : Int) < (r : Int) := by omega
      have hrr : 0 < r := by omega
      have hrd : r ≤ d := by omega
      have hrdi : (r : Int) ≤ (d : Int) := by omega
      have HB := Lib.hid (And.intro hB (And.intro hr hd))
      by_cases h49 : 49 ≤ r
      · obtain rfl : 49 = s := by omega
        have h49i : (49 : Int) ≤ (r : Int) := by omega
        clear hB hr hd hs h49
        gi_wp2
        refine hRd.mono ?_
        rintro e W3 ⟨rfl, hJ3, hB3, hb3⟩
        have hBW : Blk W3 Bn 22 #[.slice (some ⟨b, o + 49 * k, none⟩) r d] := ⟨hB3.trans HB.out.1.is⟩
        have cb3 : W3.cell? ⟨Bn, 0, none⟩ = some (.slice (some ⟨b, o + 49 * k, none⟩) r d) := hBW.cell 0
        have fb3 := hBW.frozen 0
        obtain ⟨A', hA'⟩ : ∃ A', (if d = 49 then (some ⟨b, o + 49 * k, none⟩ : Option Addr) else some ⟨b, o + 49 * k + 49, none⟩) = A' := ⟨_, rfl⟩
        have hgr : W3.grownBy (W3.setCell ⟨Bn, 0, none⟩ (.slice A' (r - 49) (d - 49))) (some Bn) := ⟨rfl, rfl, rfl, by simp [World.setCell], fun j _ hj => heap_setCell_other W3 _ j _ (fun e => hj (by rw [e]))⟩
        have hJ4 := hJ _ _ _ hJ3 hgr
        have hB4 := hBW.set_ 0 (.slice A' (r - 49) (d - 49))
        have hP4 : PBox (W3.setCell ⟨Bn, 0, none⟩ (.slice A' (r - 49) (d - 49))) Bn b o n c (k + 1) := by
          refine ⟨A', d - 49, fun h => ⟨?_, ?_⟩, ?_⟩
          · have := HB.out.2.1
            have := HB.out.2.2
            rw [← hA', if_neg (by omega)]
            have e : 49 * (k + 1) = 49 * k + 49 := by omega
            rw [e, ← Nat.add_assoc]
          · have := HB.out.2.2; omega
          · have e1 : n - 49 * (k + 1) = r - 49 := by have := HB.out.2.1; omega
            rw [e1]
            exact hB4
        have HF := Lib.hid (And.intro hJ4 hP4)
        clear hgr hJ4 hB4 hP4 hBW hJ3
        gi_wp2
        skip
        go_roundw
        case rel => exact ⟨k + 1, by omega, by go_num, by rw [List.range_succ]; exact HF.out.1, HF.out.2⟩
        case measure => simp [intOf]; omega
      · obtain rfl : r = s := by omega
        have h49i : (r : Int) < 49 := by omega
        clear hB hr hd hs h49
        gi_wp2
        refine hRd.mono ?_
        rintro e W3 ⟨rfl, hJ3, hB3, hb3⟩
        have hBW : Blk W3 Bn 22 #[.slice (some ⟨b, o + 49 * k, none⟩) r d] := ⟨hB3.trans HB.out.1.is⟩
        have cb3 : W3.cell? ⟨Bn, 0, none⟩ = some (.slice (some ⟨b, o + 49 * k, none⟩) r d) := hBW.cell 0
        have fb3 := hBW.frozen 0
        obtain ⟨A', hA'⟩ : ∃ A', (if d = r then (some ⟨b, o + 49 * k, none⟩ : Option Addr) else some ⟨b, o + 49 * k + r, none⟩) = A' := ⟨_, rfl⟩
        have hgr : W3.grownBy (W3.setCell ⟨Bn, 0, none⟩ (.slice A' 0 (d - r))) (some Bn) := ⟨rfl, rfl, rfl, by simp [World.setCell], fun j _ hj => heap_setCell_other W3 _ j _ (fun e => hj (by rw [e]))⟩
        have hJ4 := hJ _ _ _ hJ3 hgr
        have hB4 := hBW.set_ 0 (.slice A' 0 (d - r))
        have hP4 : PBox (W3.setCell ⟨Bn, 0, none⟩ (.slice A' 0 (d - r))) Bn b o n c (k + 1) := by
          refine ⟨A', d - r, fun h => ⟨?_, ?_⟩, ?_⟩
          · have := HB.out.2.1
            omega
          · have := HB.out.2.1; omega
          · have e1 : n - 49 * (k + 1) = 0 := by have := HB.out.2.1; omega
            rw [e1]
            exact hB4
        have HF := Lib.hid (And.intro hJ4 hP4)
        clear hgr hJ4 hB4 hP4 hBW hJ3
        gi_wp2
        skip
        go_roundw
        case rel => exact ⟨k + 1, by omega, by go_num, by rw [List.range_succ]; exact HF.out.1, HF.out.2⟩
        case measure => simp [intOf]; omega
    · obtain rfl : k = q := by omega
      have hr0 : n - 49 * k = 0 := by omega
      rw [hr0] at cb
      gi_wp2
      go_end0
      exact ⟨⟨_, rfl⟩, hJs⟩
end Go.Proofs.YtdlcngmcjidomaaDoor
