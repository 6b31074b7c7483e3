/- slices.Backward at a row of limbs, as a sequence that is ranged over; the contract of nat.small. -/
import Derived.Test.YticheiocmhaakaaDoorNatA
import Derived.Test.YticheiocmhaakaaDoorBits
import Derived.RangeFuncNested
import Derived.RangeFuncBound
import Derived.RangeFuncCalls
import Derived.RangeFuncLeaves
import Derived.RangeFuncBox
import Derived.Shelf.Abstract
import Derived.Shelf.RegionOpen
import Derived.OwnWalkIn
import Derived.TacticsInMore
import Derived.LoopNIn
import Derived.LoopIn
import Derived.OrdersHeld
namespace Go.Proofs.YticheiocmhaakaaDoor
open Go.RowKit Go.Shelf
attribute [local go_sem] Oper.semAt_some

/-- A limb with its place, as Backward hands it over. -/
abbrev LimbAt (len : Nat) : Type := { p : Nat × Nat // p.1 < len ∧ p.2 < 4294967296 }
/-- What a round must keep: the box in which the slice lies, and the limbs. -/
structure RsB (Bs b off len cap : Nat) (zs : List Nat) (W : World) : Prop where
  box : W.cell? ⟨Bs, 0, none⟩ = some (.slice (some ⟨b, off, none⟩) len cap)
  at_ : ∀ (j x : Nat), zs[j]? = some x → W.cell? ⟨b, off + j, none⟩ = some (.int .u32 (x : Int))
/-- The places from the end down, with their limbs. -/
def downs (zs : List Nat) (k : Nat) : List (Nat × Nat) := (List.range k).map fun j => (zs.length - 1 - j, zs[zs.length - 1 - j]?.getD 0)
theorem downs_succ (zs : List Nat) (k : Nat) : downs zs (k + 1) = downs zs k ++ [(zs.length - 1 - k, zs[zs.length - 1 - k]?.getD 0)] := by simp [downs, List.range_succ]
theorem downs_len (zs : List Nat) (k : Nat) : (downs zs k).length = k := by simp [downs]

set_option maxRecDepth 100000 in
set_option maxHeartbeats 1600000 in
theorem back1_in (F : Fence) (n : Nat) (hf : F.fn 72) (hro : F.round = none) (hn : 1 ≤ n) (l Bs b off len cap : Nat) (zs : List Nat) (hz : zs.length = len) (hzl : ∀ x ∈ zs, x < 4294967296) (hreach : len ≤ 1099511627776) (J Jx : List (LimbAt len) → World → Prop)
    (hY : ∀ pre x W, J pre W → pre.length < len → YieldAt F (n - 1) Tryd.prog l #[.int .i64 (x.1.1 : Int), .int .u32 (x.1.2 : Int)] W fun e W' =>
      (e = .returned (.bool true) ∧ J (pre ++ [x]) W' ∧ (RsB Bs b off len cap zs W → RsB Bs b off len cap zs W')) ∨ (e = .returned (.bool false) ∧ Jx (pre ++ [x]) W'))
    (W : World) (hR : RsB Bs b off len cap zs W) (h0 : J [] W) :
    CallsIn F n Tryd.prog 72 #[.func (.yield l) #[] #[], .pointer (some ⟨Bs, 0, none⟩)] W fun e W' => (∃ v, e = .returned v) ∧
      ((∃ ys, ys.map Subtype.val = downs zs len ∧ J ys W') ∨ (∃ pre, True ∧ Jx pre W')) := by
  have hbox := hR.box
  refine callsIn_of_wp Tryd.func72 rfl hf ?_ hro
  simp only [Tryd.ntmps72, List.size_toArray, List.length_cons, List.length_nil, Nat.reduceAdd, Nat.reduceSub, Array.replicate_succ, Array.replicate_zero, List.push_toArray, List.append_toArray, List.nil_append, List.cons_append]
  gi_wp2
  gi_loopw [3] (fun i wr => ∃ (k : Nat) (pre : List (LimbAt len)), k ≤ len ∧ i = .int .i64 ((len : Int) - 1 - k) ∧ pre.map Subtype.val = downs zs k ∧ J pre wr ∧ RsB Bs b off len cap zs wr)
    (fun i _ => ((intOf i) + 1).toNat)
  case atStart => exact ⟨0, [], Nat.zero_le _, by simp, rfl, h0, hR⟩
  case round =>
    obtain ⟨k, pre, hk, rfl, hp, hJs, hRs⟩ := hrel
    by_cases hlt : k < len
    · have hl : pre.length = k := by rw [← downs_len zs k, ← hp, List.length_map]
      have e1 : (len : Int) - 1 - k = ((len - 1 - k : Nat) : Int) := by omega
      rw [e1]
      obtain ⟨x, hx⟩ : ∃ x, zs[len - 1 - k]? = some x := ⟨_, List.getElem?_eq_getElem (by omega)⟩
      have hxl := hzl x (List.mem_of_getElem? hx)
      have hcx := hRs.at_ _ x hx
      have hbx := hRs.box
      have hdn : downs zs (k + 1) = downs zs k ++ [(len - 1 - k, x)] := by rw [downs_succ, hz, hx]; rfl
      obtain ⟨j, hj⟩ : ∃ j, len - 1 - k = j := ⟨_, rfl⟩
      rw [hj] at hcx hdn hx ⊢
      have hjl : j < len := by omega
      obtain ⟨fn, tmps, assign, body, hy, hRd⟩ := hY pre ⟨(j, x), hjl, hxl⟩ wr hJs (by omega)
      dsimp only at hy
      have e2 : (j : Int) - 1 = (len : Int) - 1 - ((k + 1 : Nat) : Int) := by omega
      have HE := Lib.hid e2
      have HD := Lib.hid hdn
      have HP := Lib.hid hp
      have HK : Hid (RsB Bs b off len cap zs wr) := hRs
      clear e1 e2 hdn hp hj hx hRs
      gi_wp2
      refine hRd.mono ?_
      rintro e W3 (⟨rfl, hJ3, hk3⟩ | ⟨rfl, hJx3⟩)
      · have hk4 := hk3 HK.out
        have HK4 : Hid (RsB Bs b off len cap zs W3) := hk4
        clear hk3 hk4
        gi_wp2
        go_roundw
        case rel => exact ⟨k + 1, pre ++ [⟨(j, x), hjl, hxl⟩], by omega, by rw [HE.out], by rw [HD.out, List.map_append, HP.out]; rfl, hJ3, HK4.out⟩
        case measure => simp [intOf]
      · gi_wp2
        refine bodyPost_ret (results_none rfl _ _ _) rfl ?_
        exact ⟨⟨_, rfl⟩, .inr ⟨_, trivial, hJx3⟩⟩
    · obtain rfl : k = len := by omega
      gi_wp2
      go_end0
      exact ⟨⟨_, rfl⟩, .inl ⟨_, hp, hJs⟩⟩
theorem back_in (F : Fence) (n : Nat) (hf : F.fn 57) (hro : F.round = none) (a : Option Addr) (len cap : Nat) (w : World) :
    CallsIn F n Tryd.prog 57 #[.slice a len cap] w fun e w' => e = .returned (.func (.func 72) #[] #[.pointer (some ⟨w.heap.size, 0, none⟩)]) ∧ w' = w.alloc (.cells #[.slice a len cap] 22) := by
  refine callsIn_of_wp Tryd.func57 rfl hf ?_ hro
  simp only [Tryd.ntmps57, List.size_toArray, List.length_cons, List.length_nil, Nat.reduceAdd, Nat.reduceSub, Array.replicate_succ, Array.replicate_zero, List.push_toArray, List.append_toArray, List.nil_append, List.cons_append]
  gi_wp2
  go_ret
  exact ⟨rfl, rfl⟩
theorem back_stops (F : Fence) (n : Nat) (hf : F.fn 72) (hro : F.round = none) (hn : 1 ≤ n) (Bs b off len cap : Nat) (zs : List Nat) (hz : zs.length = len) (hzl : ∀ x ∈ zs, x < 4294967296) (hreach : len ≤ 1099511627776) (w : World) (hBs : Bs < w.heap.size) (hb : b < w.heap.size)
    (hR : RsB Bs b off len cap zs w) :
    SeqStopsK F n Tryd.prog 72 #[.pointer (some ⟨Bs, 0, none⟩)] (fun x : LimbAt len => #[.int .i64 (x.1.1 : Int), .int .u32 (x.1.2 : Int)])
      (fun A B => RsB Bs b off len cap zs A → RsB Bs b off len cap zs B) (fun ys => ys.map Subtype.val = downs zs len) (fun _ => True) len w := fun l J Jx W hW _ _ hY h0 =>
  back1_in F n hf hro hn l Bs b off len cap zs hz hzl hreach J Jx hY W ⟨(hW.cell (p := ⟨Bs, 0, none⟩) hBs).trans hR.box, fun j x hx => (hW.cell (p := ⟨b, off + j, none⟩) hb).trans (hR.at_ j x hx)⟩ h0
end Go.Proofs.YticheiocmhaakaaDoor
