/- (without Open of the reference) The contracts of package crc and of its reference. No condition but the reach of a slice. -/
import Derived.Test.YtdlcngmcjidomaaDoorBase
import Derived.Test.YtdlcngmcjidomaaDoorCrcMath
import Derived.Deep.WholeRow
namespace Go.Proofs.YtdlcngmcjidomaaDoor
open Go.RowKit

def Z256 : Array Value := Array.replicate 256 (.int .u32 0)
theorem zero256 : (Tryd.prog.info? 125).map (fun i => (i.zero, i.size)) = some (some (.agg Z256), 256) := by kernel_rfl

/-- The cells of the table up to k; all are numbers. -/
structure TabTo (k : Nat) (cs : Array Value) : Prop where
  size : cs.size = 256
  at_ : ∀ j, j < k → cs[j]? = some (.int .u32 (Crc.tab j : Nat))
  one : cs.all (·.oneCell') = true
theorem TabTo.set {k : Nat} {cs : Array Value} (h : TabTo k cs) (hk : k < 256) : TabTo (k + 1) (cs.setIfInBounds k (.int .u32 (Crc.tab k : Nat))) where
  size := by simp [h.size]
  at_ j hj := by
    by_cases e : k = j
    · subst e; simp [h.size, hk]
    · rw [Array.getElem?_setIfInBounds_ne e]; exact h.at_ j (by omega)
  one := by
    have h1 := h.one
    rw [Array.all_eq_true_iff_forall_mem] at h1 ⊢
    intro x hx
    rcases Array.mem_or_eq_of_mem_setIfInBounds hx with hx | rfl
    · exact h1 x hx
    · rfl
theorem TabTo.zero : TabTo 0 Z256 where
  size := by simp [Z256]
  at_ j hj := by omega
  one := by
    rw [Array.all_eq_true_iff_forall_mem]
    intro x hx
    obtain rfl : x = .int .u32 0 := by simpa [Z256] using hx
    rfl

theorem cstep_go (y : Nat) (hy : y < 4294967296) : bits .xor .u32 ((y : Int) / 2) (3988292384 * bits .and .u32 (y : Int) 1 % 4294967296) = (Crc.cstep y : Nat) := by
  have h1 : bits .and .u32 (y : Int) 1 = ((y % 2 : Nat) : Int) := by
    have := u32_and_nat y 1 hy (by omega)
    rw [nat_mask1] at this
    exact this
  rw [h1]
  have h2 : (3988292384 * ((y % 2 : Nat) : Int) % 4294967296) = ((Crc.poly * (y % 2) : Nat) : Int) := by
    unfold Crc.poly; omega
  have h3 : (y : Int) / 2 = ((y / 2 : Nat) : Int) := by omega
  rw [h2, h3, u32_xor_nat _ _ (by omega) (by unfold Crc.poly; omega)]
  rfl

set_option maxRecDepth 100000 in
set_option maxHeartbeats 400000 in
theorem table_any (w : World) :
    Calls Tryd.prog 79 #[] w fun e w' => ∃ cs : Array Value, TabTo 256 cs ∧ e = .returned (.agg cs) ∧ Below w.heap.size w w' := by
  have hz := (zero_of_info zero256).1
  go_enter Tryd.func79, Tryd.ntmps79
  go_wp2
  go_loopw [5] (fun i wr => ∃ k : Nat, k ≤ 256 ∧ i = .int .i64 k ∧ ∃ cs : Array Value, TabTo k cs ∧ Blk wr (w.heap.size + 1) 125 cs ∧ Blk wr w.heap.size 125 Z256 ∧ Below w.heap.size w wr)
     (fun i _ => 256 - (intOf i).toNat)
  case atStart =>
    refine ⟨0, by omega, rfl, Z256, TabTo.zero, ?_, ?_, ?_⟩
    · have := Blk.new (w.alloc (.cells Z256 125)) 125 Z256
      simpa using this
    · exact (Blk.new w 125 Z256).alloc _
    · exact ((Below.refl _ _).alloc (Nat.le_refl _) _).alloc (by simp) _
  case round =>
    obtain ⟨k, hk, rfl, cs, hcs, hb1, hb0, hbel⟩ := hrel
    by_cases hlt : k < 256
    · obtain ⟨v, hv⟩ : ∃ v, cs[k]? = some v := ⟨cs[k]'(by rw [hcs.size]; exact hlt), by simp⟩
      have hc := (hb1.cell k).trans hv
      have hf := hb1.frozen k
      clear hv
      go_wp2_with fail
      go_loop [3, 10] (fun x j => ∃ m : Nat, m ≤ 8 ∧ j = .int .i64 m ∧ x = .int .u32 (Crc.citer m k : Nat)) (fun _ j => 8 - (intOf j).toNat)
      case atStart => exact ⟨0, by omega, rfl, rfl⟩
      case round =>
        obtain ⟨m, hm, rfl, rfl⟩ := hrel
        have hy : Crc.citer m k < 4294967296 := Crc.citer_lt m k (by omega)
        by_cases hlm : m < 8
        · go_wp2_with fail
          refine ⟨⟨m + 1, by omega, by go_num, ?_⟩, by simp [intOf]; omega⟩
          rw [cstep_go _ hy, ← Crc.citer_succ]
        · obtain rfl : m = 8 := by omega
          go_wp2_with fail
          refine ⟨⟨k + 1, by omega, by go_num, _, hcs.set hlt, hb1.set_ k _, hb0.far (by simp) _, hbel.setCell (by simp) _⟩, by simp [intOf]; omega⟩
    · obtain rfl : k = 256 := by omega
      go_wp2_with (first
        | (refine wpList_load_blk rfl 125 _ rfl (w.heap.size + 1) rfl 125 cs _ hb1 Tryd.underlying125 rfl (by rw [hcs.size]; exact (zero_of_info zero256).2) ?_)
        | (refine wpList_store_blk rfl 125 _ _ rfl w.heap.size rfl 125 Z256 cs rfl hb0 (by rw [hcs.size]; exact (zero_of_info zero256).2) (by rw [hcs.size]; simp [Z256]) hcs.one ?_; intro w1 hb2 hg2))
      refine bodyPost_ret (results_cell_row rfl _ _ w.heap.size 125 cs (0, 0) _ rfl hb2.is Tryd.underlying125 rfl (by rw [hcs.size]; exact (zero_of_info zero256).2)) rfl ?_
      exact ⟨cs, hcs, rfl, hbel.grown hg2 hbel.size (by simp)⟩
theorem reg_take_succ {l : List Nat} {k x : Nat} (hx : l[k]? = some x) (s : Nat) : Crc.reg s (l.take (k + 1)) = Crc.citer 8 (Crc.reg s (l.take k) ^^^ x) := by
  rw [List.take_add_one, hx, Option.toList_some, Crc.reg_append]
  rfl
theorem tab_step (y x j : Nat) (hy : y < 2 ^ 32) (hx : x < 256) (hj : (y % 256) ^^^ x = j) :
    bits .xor .u32 ((y : Int) / 256) ((Crc.tab j : Nat) : Int) = ((Crc.citer 8 (y ^^^ x) : Nat) : Int) := by
  have hjl : j < 256 := by rw [← hj]; exact Nat.xor_lt_two_pow (n := 8) (by omega) (by omega)
  have e : (y : Int) / 256 = ((y / 256 : Nat) : Int) := by omega
  have ht := Crc.tab_lt j hjl
  rw [e, u32_xor_nat _ _ (by omega) (by omega), Crc.reg_step, hj]
theorem index_byte (y x j : Nat) (hx : x < 256) (hj : (y % 256) ^^^ x = j) : bits .xor .u8 ((y : Int) % 256) (x : Int) = (j : Int) := by
  have e : (y : Int) % 256 = ((y % 256 : Nat) : Int) := by omega
  rw [e, u8_xor_nat _ _ (by omega) hx, hj]
theorem ret_int {k : IntKind} {a b : Int} (h : a = b) : Ending.returned (.int k a) = .returned (.int k b) := by rw [h]

theorem ones_xor (y : Nat) (h : y < 4294967296) : bits .xor .u32 IntKind.u32.max (y : Int) = ((4294967295 - y : Nat) : Int) := by
  have e : IntKind.u32.max = ((4294967295 : Nat) : Int) := by decide
  rw [e, u32_xor_nat _ _ (by omega) h]
  have h1 : (BitVec.allOnes 32 ^^^ BitVec.ofNat 32 y).toNat = (~~~ (BitVec.ofNat 32 y)).toNat := by rw [BitVec.allOnes_xor]
  rw [BitVec.toNat_xor, BitVec.toNat_not, BitVec.toNat_allOnes, BitVec.toNat_ofNat, Nat.mod_eq_of_lt (by simpa using h)] at h1
  exact congrArg _ h1

set_option maxRecDepth 100000 in
set_option maxHeartbeats 400000 in
theorem sum_any (A : Option Addr) (n c : Nat) (l : List Nat) (w : World) (hr : Ints w .u8 256 A n c l) (hn : n ≤ 140737488355328) :
    Calls Tryd.prog 70 #[.slice A n c] w fun e w' => e = .returned (.int .u32 (Crc.sum l : Nat)) ∧ Below w.heap.size w w' := by
  have hz := (zero_of_info zero256).1
  go_enter Tryd.func70, Tryd.ntmps70
  go_wp2_with (first
    | (go_at_call 79; refine (table_any _).mono ?_; rintro e w1 ⟨cs, hcs, rfl, hb1⟩)
    | (refine wpList_store_blk rfl 125 _ _ rfl w1.heap.size rfl 125 Z256 cs rfl (Blk.new _ _ _) (by rw [hcs.size]; exact (zero_of_info zero256).2) (by rw [hcs.size]; simp [Z256]) hcs.one ?_; intro w2 hb2 hg2))
  have hbel : Below w.heap.size w w2 := (hb1.alloc hb1.size _).grown hg2 (by simp; have := hb1.size; omega) (by simp; exact hb1.size)
  have hr2 := hr.below hbel
  go_loop [4, 10] (fun x i => ∃ k : Nat, k ≤ n ∧ i = .int .i64 k ∧ x = .int .u32 (Crc.reg 4294967295 (l.take k) : Nat)) (fun _ i => n - (intOf i).toNat)
  case atStart => exact ⟨0, by omega, rfl, by simp [Crc.reg]⟩
  case round =>
    obtain ⟨k, hk, rfl, rfl⟩ := hrel
    have hy := Crc.reg_lt (l.take k) 4294967295 (by decide) (fun c hc => hr.lt c (List.mem_of_mem_take hc))
    by_cases hlt : k < n
    · obtain ⟨b, o, x, rfl, _, hx, hxl, hc⟩ := hr2.get hlt
      have hst := reg_take_succ hx 4294967295
      generalize Crc.reg 4294967295 (l.take k) = y at *
      obtain ⟨j, hj⟩ : ∃ j, (y % 256) ^^^ x = j := ⟨_, rfl⟩
      have hjl : j < 256 := by rw [← hj]; exact Nat.xor_lt_two_pow (n := 8) (by omega) (by omega)
      have hix := index_byte y x j hxl hj
      have hct := (hb2.cell j).trans (hcs.at_ j hjl)
      have hfin := tab_step y x j hy hxl hj
      have HS := Lib.hid hst
      have HF := Lib.hid hfin
      clear hst hx hj hfin
      go_wp2_with fail
      exact ⟨⟨k + 1, by omega, by go_num, by rw [HF.out, HS.out]⟩, by simp [intOf]; omega⟩
    · obtain rfl : k = n := by omega
      have hl : l.take k = l := List.take_of_length_le (by rw [hr.len]; omega)
      rw [hl] at hy ⊢
      have hfin := ones_xor _ hy
      rw [show 4294967295 - Crc.reg 4294967295 l = Crc.sum l from rfl] at hfin
      generalize Crc.reg 4294967295 l = y at *
      have HF := Lib.hid hfin
      clear hfin hl
      go_wp2_with fail
      go_ret
      exact ⟨ret_int HF.out, hbel⟩
theorem info_u8 : (Tryd.prog.info? 5).map (fun i => (i.zero, i.size, i.bytes)) = some (some (.int .u8 0), 1, 1) := by kernel_rfl
/-- The four bytes of a sum. -/
def four (s : Nat) : List Nat := [s % 256, s / 256 % 256, s / 65536 % 256, s / 16777216 % 256]
theorem four_succ (s k : Nat) (h : k < 4) : (four s).take (k + 1) = (four s).take k ++ [s / 2 ^ (8 * k) % 256] := by
  obtain rfl | rfl | rfl | rfl : k = 0 ∨ k = 1 ∨ k = 2 ∨ k = 3 := by omega
  all_goals simp [four]
def seal_ (l : List Nat) : List Nat := four (Crc.sum l) ++ l
theorem byte_of (s k : Nat) (hs : s < 4294967296) : bits .and .u32 ((s : Int) / 2 ^ (8 * k)) 255 % 256 = ((s / 2 ^ (8 * k) % 256 : Nat) : Int) := by
  have e : (s : Int) / 2 ^ (8 * k) = ((s / 2 ^ (8 * k) : Nat) : Int) := by simp
  have h := u32_and_nat (s / 2 ^ (8 * k)) 255 (Nat.lt_of_le_of_lt (Nat.div_le_self _ _) hs) (by omega)
  rw [nat_mask8] at h
  rw [e]
  refine (congrArg (· % (256 : Int)) h).trans ?_
  omega

set_option maxRecDepth 100000 in
set_option maxHeartbeats 400000 in
theorem seal_any (A : Option Addr) (n c : Nat) (l : List Nat) (w : World) (hr : Ints w .u8 256 A n c l) (hn : n ≤ 140737488355000) :
    Calls Tryd.prog 61 #[.slice A n c] w fun e w' => ∃ A' c', e = .returned (.slice A' (4 + n) c') ∧
      OwnI w' w.heap.size .u8 256 5 A' (4 + n) c' (seal_ l) ∧ Below w.heap.size w w' := by
  have hs := Crc.sum_lt l
  have HS : Hid (seal_ l = four (Crc.sum l) ++ l) := rfl
  have hsum := fun w0 h0 => sum_any A n c l w0 h0 (by omega)
  generalize Crc.sum l = s at *
  go_enter Tryd.func61, Tryd.ntmps61
  go_wp2_with (first
    | (go_at_call 70; refine (hsum _ hr).mono ?_; rintro e w1 ⟨rfl, hb1⟩; clear hsum)
    | (refine wpList_mk0 _ rfl _ _ 22 rfl 5 _ 1 Tryd.underlying22 info_u8 .i64 .i64 _ (4 + n) rfl rfl (by omega) (by omega) (by simp only [maxLen]; omega) w.heap.size hb1.size ?_; intro w2 hown hg2))
  have hbel : Below w.heap.size w w2 := below_none hb1 hg2 hb1.size
  go_loopw [4, 12] (fun v i wr => ∃ k : Nat, k ≤ 4 ∧ i = .int .i64 k ∧ ∃ A1 c1, v = .slice A1 k c1 ∧ OwnI wr w.heap.size .u8 256 5 A1 k c1 ((four s).take k) ∧ Below w.heap.size w wr) (fun _ i _ => 4 - (intOf i).toNat)
  case atStart => exact ⟨0, by omega, rfl, _, _, rfl, ⟨hown, by simp⟩, hbel⟩
  case round =>
    obtain ⟨k, hk, rfl, A1, c1, rfl, ho, hbr⟩ := hrel
    by_cases hlt : k < 4
    · have hx := byte_of s k hs
      have H4 := Lib.hid (four_succ s k hlt)
      have hxl : s / 2 ^ (8 * k) % 256 < 256 := Nat.mod_lt _ (by decide)
      generalize s / 2 ^ (8 * k) % 256 = x at *
      go_wp2_with (at_builtin; refine wpList_appI _ rfl _ _ _ rfl 5 1 Tryd.underlying22 info_u8 (by omega) (ho.alloc _) rfl (Ints.one .u8 256 5 x rfl hxl rfl) rfl (by omega) (by simp; have := hbr.size; omega) ?_; intro A2 c2 w3 ho3 hg3 ha3)
      refine ⟨⟨k + 1, by omega, by go_num, A2, c2, rfl, by rw [H4.out]; exact ho3, below_own (hbr.alloc hbr.size _) hg3 (by simp; have := hbr.size; omega) (fun ad h => (ho.lt_ ad h).1)⟩, by simp [intOf]; omega⟩
    · obtain rfl : k = 4 := by omega
      go_wp2_with (at_builtin; refine wpList_appI _ rfl _ _ _ rfl 5 1 Tryd.underlying22 info_u8 (by omega) ho rfl (hr.below hbr) rfl (by omega) hbr.size ?_; intro A2 c2 w3 ho3 hg3 ha3)
      go_ret
      exact ⟨A2, c2, rfl, by rw [HS.out]; exact ho3, below_own hbr hg3 hbr.size (fun ad h => (ho.lt_ ad h).1)⟩
/-- Four bytes as a number, as the walk spells it. -/
theorem or4 (x0 x1 x2 x3 : Nat) (h0 : x0 < 256) (h1 : x1 < 256) (h2 : x2 < 256) (h3 : x3 < 256) :
    bits .or .u32 (bits .or .u32 (bits .or .u32 (x0 : Int) ((x1 : Int) * 256)) ((x2 : Int) * 65536)) ((x3 : Int) * 16777216) = ((x0 + 256 * x1 + 65536 * x2 + 16777216 * x3 : Nat) : Int) := by
  have e1 : (x1 : Int) * 256 = ((x1 * 256 : Nat) : Int) := by omega
  have e2 : (x2 : Int) * 65536 = ((x2 * 65536 : Nat) : Int) := by omega
  have e3 : (x3 : Int) * 16777216 = ((x3 * 16777216 : Nat) : Int) := by omega
  have k1 : x0 ||| x1 * 256 = x0 + 256 * x1 := by rw [Nat.or_comm, nat_join 8 _ _ (by omega) (by omega)]; omega
  have k2 : (x0 + 256 * x1) ||| x2 * 65536 = x0 + 256 * x1 + 65536 * x2 := by rw [Nat.or_comm, nat_join 16 _ _ (by omega) (by omega)]; omega
  have k3 : (x0 + 256 * x1 + 65536 * x2) ||| x3 * 16777216 = x0 + 256 * x1 + 65536 * x2 + 16777216 * x3 := by rw [Nat.or_comm, nat_join 24 _ _ (by omega) (by omega)]; omega
  rw [e1, e2, e3, u32_or_nat _ _ (by omega) (by omega), k1, u32_or_nat _ _ (by omega) (by omega), k2, u32_or_nat _ _ (by omega) (by omega), k3]
theorem four_eq (l : List Nat) (x0 x1 x2 x3 : Nat) (h0 : l[0]? = some x0) (h1 : l[1]? = some x1) (h2 : l[2]? = some x2) (h3 : l[3]? = some x3) : l = [x0, x1, x2, x3] ++ l.drop 4 := by
  match l, h0, h1, h2, h3 with
  | a :: b :: c :: d :: r, h0, h1, h2, h3 => simp_all

set_option maxRecDepth 100000 in
set_option maxHeartbeats 400000 in
theorem open_both (A : Option Addr) (n c : Nat) (l : List Nat) (w : World) (hr : Ints w .u8 256 A n c l) (hn : n ≤ 140737488355000) (h4 : 4 ≤ n) :
    Calls Tryd.prog 66 #[.slice A n c] w fun e w' => Below w.heap.size w w' ∧
      ((Crc.sum (l.drop 4) = Crc.num (l.take 4) → ∃ A' c', e = .returned (.tuple #[.slice A' (n - 4) c', .bool true]) ∧ OwnI w' w.heap.size .u8 256 5 A' (n - 4) c' (l.drop 4)) ∧
       (Crc.sum (l.drop 4) ≠ Crc.num (l.take 4) → e = .returned (.tuple #[.slice none 0 0, .bool false]))) := by
  obtain ⟨b, o, x0, rfl, hb0, hx0, hl0, hc0⟩ := hr.get (k := 0) (by omega)
  obtain ⟨x1, hx1, hl1, hc1⟩ := hr.get' (k := 1) (by omega)
  obtain ⟨x2, hx2, hl2, hc2⟩ := hr.get' (k := 2) (by omega)
  obtain ⟨x3, hx3, hl3, hc3⟩ := hr.get' (k := 3) (by omega)
  rw [Nat.add_zero] at hc0
  have hcap := hr.rd.cap
  obtain ⟨A4, hA4, hcut⟩ := hr.cutAt h4
  have hnum : Crc.num (l.take 4) = x0 + 256 * x1 + 65536 * x2 + 16777216 * x3 := by
    rw [four_eq l x0 x1 x2 x3 hx0 hx1 hx2 hx3]
    simp [Crc.num]; omega
  have hor := or4 x0 x1 x2 x3 hl0 hl1 hl2 hl3
  rw [hnum]
  have hs := Crc.sum_lt (l.drop 4)
  have hml : x0 + 256 * x1 + 65536 * x2 + 16777216 * x3 < 4294967296 := by omega
  generalize x0 + 256 * x1 + 65536 * x2 + 16777216 * x3 = m at *
  have hsum := fun A2 c2 w0 h0 => sum_any A2 (n - 4) c2 (l.drop 4) w0 h0 (by omega)
  generalize Crc.sum (l.drop 4) = s at *
  clear hx0 hx1 hx2 hx3 hnum
  go_enter Tryd.func66, Tryd.ntmps66
  go_wp2_with (at_builtin; go_must (refine wpList_appI _ rfl _ _ _ rfl 5 1 Tryd.underlying22 info_u8 (by omega) (OwnI.empty .u8 256 5 rfl (Nat.le_refl _)) rfl (hcut.alloc _) rfl (by omega) (by simp) ?_); intro A2 c2 w3 ho3 hg3 ha3)
  have hbel : Below w.heap.size w w3 := below_own ((Below.refl _ _).alloc (Nat.le_refl _) _) hg3 (by simp) (by simp)
  have k0 := (hbel.cell (p := ⟨b, o, none⟩) hb0).trans hc0
  have k1 := (hbel.cell (p := ⟨b, o + 1, none⟩) hb0).trans hc1
  have k2 := (hbel.cell (p := ⟨b, o + 2, none⟩) hb0).trans hc2
  have k3 := (hbel.cell (p := ⟨b, o + 3, none⟩) hb0).trans hc3
  clear hc0 hc1 hc2 hc3
  go_quiet (fail)
  go_wp2_with (go_at_call 70; refine (hsum _ _ _ (by simpa using (ho3.drewN _).ints)).mono ?_; rintro e w1 ⟨rfl, hb1⟩; clear hsum)
  all_goals
    have hbw : Below w.heap.size w w1 := below_step (below_drewN hbel _) hb1 hbel.size
    go_ret2
  · have h : ((s : Int) != (m : Int)) = true := by assumption
    have hne : s ≠ m := by rintro rfl; simp at h
    exact ⟨hbw, fun e => (hne e).elim, fun _ => rfl⟩
  · have h : ((s : Int) != (m : Int)) = false := by assumption
    have he : s = m := by simp at h; omega
    exact ⟨hbw, fun _ => ⟨A2, c2, rfl, by simpa using (ho3.drewN _).below hb1⟩, fun hn => (hn he).elim⟩
theorem open_short (A : Option Addr) (n c : Nat) (w : World) (hn : n < 4) :
    Calls Tryd.prog 66 #[.slice A n c] w fun e w' => w = w' ∧ e = .returned (.tuple #[.slice none 0 0, .bool false]) := by
  go_enter Tryd.func66, Tryd.ntmps66
  go_wp2
  go_ret2
  exact ⟨rfl, rfl⟩
theorem xor_byte (y x : Nat) (hy : y < 4294967296) (hx : x < 256) : bits .xor .u32 (y : Int) (x : Int) = ((y ^^^ x : Nat) : Int) := u32_xor_nat y x hy (by omega)
theorem xor_poly (y : Nat) (hy : y < 4294967296) : bits .xor .u32 ((y : Int) / 2) 3988292384 = (((y / 2) ^^^ Crc.poly : Nat) : Int) := by
  have e : (y : Int) / 2 = ((y / 2 : Nat) : Int) := by omega
  rw [e]
  exact u32_xor_nat (y / 2) 3988292384 (by omega) (by omega)

theorem four_lt (s : Nat) : ∀ x ∈ four s, x < 256 := by
  intro x hx
  simp only [four, List.mem_cons, List.not_mem_nil, or_false] at hx
  omega
theorem four_iff (s : Nat) (m : List Nat) (hs : s < 2 ^ 32) (hl : m.length = 4) (hm : ∀ x ∈ m, x < 256) : four s = m ↔ s = Crc.num m := by
  match m, hl with
  | [a, b, c, d], _ =>
    have h1 := hm a (by simp)
    have h2 := hm b (by simp)
    have h3 := hm c (by simp)
    have h4 := hm d (by simp)
    simp only [four, Crc.num, List.cons.injEq, and_true]
    omega
/-- What Open answers. -/
def openL (l : List Nat) : List Nat × Bool := if 4 ≤ l.length ∧ Crc.sum (l.drop 4) = Crc.num (l.take 4) then (l.drop 4, true) else ([], false)
theorem openL_yes {l : List Nat} (h4 : 4 ≤ l.length) (h : Crc.sum (l.drop 4) = Crc.num (l.take 4)) : openL l = (l.drop 4, true) := by unfold openL; rw [if_pos ⟨h4, h⟩]
theorem openL_no {l : List Nat} (h : ¬ (4 ≤ l.length ∧ Crc.sum (l.drop 4) = Crc.num (l.take 4))) : openL l = ([], false) := by unfold openL; rw [if_neg h]

theorem open_any (A : Option Addr) (n c : Nat) (l : List Nat) (w : World) (hr : Ints w .u8 256 A n c l) (hn : n ≤ 140737488355000) :
    Calls Tryd.prog 66 #[.slice A n c] w fun e w' => ∃ A' m c', e = .returned (.tuple #[.slice A' m c', .bool (openL l).2]) ∧ OwnI w' w.heap.size .u8 256 5 A' m c' (openL l).1 ∧ Below w.heap.size w w' := by
  have hlen := hr.len
  by_cases h4 : 4 ≤ n
  · refine (open_both A n c l w hr hn h4).mono ?_
    rintro e w' ⟨hb, hy, hno⟩
    by_cases hs : Crc.sum (l.drop 4) = Crc.num (l.take 4)
    · obtain ⟨A', c', rfl, ho⟩ := hy hs
      rw [openL_yes (by omega) hs]
      exact ⟨A', n - 4, c', rfl, ho, hb⟩
    · rw [hno hs, openL_no (fun h => hs h.2)]
      exact ⟨none, 0, 0, rfl, OwnI.nil_ .., hb⟩
  · refine (open_short A n c w (by omega)).mono ?_
    rintro e w' ⟨rfl, rfl⟩
    rw [openL_no (fun h => h4 (by omega))]
    exact ⟨none, 0, 0, rfl, OwnI.nil_ .., Below.refl _ _⟩
theorem four_len (s : Nat) : (four s).length = 4 := rfl
theorem num_four (s : Nat) (h : s < 2 ^ 32) : Crc.num (four s) = s := ((four_iff s (four s) h rfl (four_lt s)).1 rfl).symm
theorem openL_len (l : List Nat) : (openL l).1.length ≤ l.length := by
  unfold openL
  split <;> simp
theorem openL_seal (l : List Nat) : openL (seal_ l) = (l, true) := by
  have h1 : (seal_ l).take 4 = four (Crc.sum l) := by unfold seal_; exact List.take_left' rfl
  have h2 : (seal_ l).drop 4 = l := by unfold seal_; exact List.drop_left' rfl
  rw [openL_yes (by simp [seal_, four]) (by rw [h1, h2, num_four _ (Crc.sum_lt l)]), h2]

end Go.Proofs.YtdlcngmcjidomaaDoor
