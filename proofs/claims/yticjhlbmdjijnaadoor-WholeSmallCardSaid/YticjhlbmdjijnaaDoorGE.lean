/- Texts of several parts in one: NatE. Each says what it proves; no condition but those named there. -/
import Derived.Test.YticjhlbmdjijnaaDoorG1
import Derived.IntWalk
import Derived.StillTailTactics
/- The contract of nat.Sub. No condition but the reach of a slice. -/
namespace Go.Proofs.YticjhlbmdjijnaaDoor
open Go.RowKit

theorem sub_fin (l l' o : List Nat) (n b : Nat) (hl : l.length = n) (ho : o.length = n) (hll : ∀ x ∈ l, x < 4294967296) (hol : ∀ x ∈ o, x < 4294967296) (hle : vl l' ≤ vl l) (hs : vl o + vl (l'.take n) = vl l + 4294967296 ^ n * b) :
    vl o = vl l - vl l' := by
  have h1 : vl l < 4294967296 ^ n := by rw [← hl]; exact Num.val_lt _ l hll
  have h2 : vl o < 4294967296 ^ n := by rw [← ho]; exact Num.val_lt _ o hol
  have h3 : vl l' = vl (l'.take n) + 4294967296 ^ n * vl (l'.drop n) := by
    rcases Nat.lt_or_ge l'.length n with h | h
    · rw [List.take_of_length_le (by omega), List.drop_eq_nil_of_le (by omega)]; rfl
    · exact Num.val_take_drop _ l' n h
  have h4 : vl (l'.drop n) = 0 := by
    rcases Nat.eq_zero_or_pos (vl (l'.drop n)) with h | h
    · exact h
    · have := Nat.mul_le_mul_left (4294967296 ^ n) h
      omega
  have h5 : b = 0 := by
    rcases Nat.eq_zero_or_pos b with h | h
    · exact h
    · have := Nat.mul_le_mul_left (4294967296 ^ n) h
      omega
  rw [h4, Nat.mul_zero, Nat.add_zero] at h3
  rw [h5, Nat.mul_zero, Nat.add_zero] at hs
  omega

set_option maxRecDepth 100000 in
set_option maxHeartbeats 400000 in
theorem sub_any (A A' : Option Addr) (n c n' c' : Nat) (l l' : List Nat) (w : World) (hr : Lim w A n c l) (hr' : Lim w A' n' c' l') (hn : n ≤ 549755813888) (hn' : n' ≤ 549755813888) (hle : vl l' ≤ vl l) :
    Calls Tryd.prog 30 #[.slice A n c, .slice A' n' c'] w fun e w' => ∃ A2 m, e = .returned (.tuple #[.slice A2 m m, .bool true]) ∧ m ≤ n ∧ OwnL w' w.heap.size A2 m m (lmb (vl l - vl l')) ∧ Below w.heap.size w w' := by
  have hlen := hr.len
  have hlen' := hr'.len
  have hz : decide (Num.cmp (vl l) (vl l') < 0) = false := by
    rcases Nat.lt_or_eq_of_le hle with h | h
    · rw [Num.cmp_gt h]; rfl
    · rw [h, Num.cmp_eq]; rfl
  have hcc := cmp_any A A' n c n' c' l l' w hr hr' (by omega) (by omega)
  generalize Num.cmp (vl l) (vl l') = z at *
  have hz0 : 0 ≤ z := by simpa using hz
  go_enter Tryd.func30, Tryd.ntmps30
  go_wp2_with fail
  refine hcc.mono ?_; rintro e w1 ⟨rfl, hb1⟩
  go_wp2_with (refine wpList_mkL rfl _ _ rfl n rfl rfl (by omega) (by omega) (by omega) w.heap.size hb1.size ?_; intro w2 hown hg2)
  have hb2 := below_none hb1 hg2 hb1.size
  clear hcc
  go_loopw [7, 18] (fun bw i wr => ∃ k b : Nat, k ≤ n ∧ i = .int .i64 k ∧ bw = .int .u32 b ∧ b ≤ 1 ∧ ∃ o : List Nat, OwnL wr w.heap.size (some ⟨w1.heap.size, 0, none⟩) n n o ∧
      vl (o.take k) + vl (l'.take k) = vl (l.take k) + 4294967296 ^ k * b ∧ Below w.heap.size w wr) (fun _ i _ => n - (intOf i).toNat)
  case atStart => exact ⟨0, 0, by omega, rfl, rfl, by omega, _, hown, by simp [vl, Num.val], hb2⟩
  case round =>
    obtain ⟨k, b, hk, rfl, rfl, hbb, o, ho, hs, hb⟩ := hrel
    by_cases hlt : k < n
    · obtain ⟨ba, off, x, rfl, hbs, hx, hxl, hc⟩ := hr.get hlt
      have hc2 := (hb.cell (p := ⟨ba, off + k, none⟩) hbs).trans hc
      obtain ⟨y, hy⟩ : ∃ y, l'[k]?.getD 0 = y := ⟨_, rfl⟩
      have hyl := getD_lt (by omega) hr'.lt k y hy
      obtain ⟨g', z', he, _, _, _, _, hco, hf⟩ := ho.get (k := k) (by omega)
      cases he
      have hL := fun w0 h0 => limb_any A' n' c' l' w0 h0 k y hy
      obtain ⟨d, bo, hd, hbo, hdb⟩ : ∃ d bo, d < 4294967296 ∧ bo ≤ 1 ∧ d + y + b = x + 4294967296 * bo := by
        by_cases h : x < y + b
        · exact ⟨x + 4294967296 - y - b, 1, by omega, by omega, by omega⟩
        · exact ⟨x - y - b, 0, by omega, by omega, by omega⟩
      have hS := fun w0 => sub32_any x y b d bo w0 hxl hyl hbb hd hbo hdb
      have hw : Lim wr A' n' c' l' := hr'.below hb
      go_wp2_with fail
      have hy1 : (y : Int) % 4294967296 = (y : Int) := by omega
      have kn : (k : Int) < (n : Int) := by omega
      have hy2 : IntKind.u32.wrap (y : Int) = (y : Int) := IntWalk.u32_in _ (by omega)
      go_region_held3 (fun w' => w'.cell? ⟨ba, off + k, none⟩ = some (.int .u32 (x : Int))) (first | exact hc2 | exact (World.cell?_setCell_other wr ⟨w1.heap.size, k, none⟩ ⟨ba, off + k, none⟩ _ (by intro e; have := congrArg Addr.block e; simp at this; omega)).trans hc2)
        ((first
          | (go_at_call 47; refine (hL _ ?_).mono ?_; (first | exact hw.drew | exact hw); rintro e w' ⟨rfl, rfl⟩)
          | (go_at_call 48; refine (hS _).mono ?_; rintro e w' ⟨rfl, rfl⟩)))
      go_wp2_with fail
      refine ⟨⟨k + 1, bo, by omega, by go_num, rfl, hbo, _, (ho.stored k d hd).drew, ?_, (hb.setCell hb1.size _).drew⟩, by simp [intOf]; omega⟩
      rw [vl_take_set _ (by rw [ho.len]; omega), vl_take_succ hx, vl_take_getD l' k y hy, Nat.pow_succ]
      have e : 4294967296 ^ k * (d + y + b) = 4294967296 ^ k * (x + 4294967296 * bo) := by rw [hdb]
      simp only [Nat.mul_add, ← Nat.mul_assoc] at e
      omega
    · obtain rfl : k = n := by omega
      have hfin : vl o = vl l - vl l' := sub_fin l l' o k b hlen (by rw [ho.len]) hr.lt ho.lt hle (by
        have h1 := hs
        rw [List.take_of_length_le (l := o) (by rw [ho.len]; omega), List.take_of_length_le (l := l) (by omega)] at h1
        exact h1)
      have HF := Lib.hid hfin
      have ht := trim_any (some ⟨w1.heap.size, 0, none⟩) k k o _ ho.ints (by omega)
      clear hfin hs
      go_wp2_with fail
      refine ht.mono ?_; rintro e w' ⟨A2, m, rfl, hm, hO, hB⟩
      rw [HF.out] at hO
      go_wp2_with fail
      go_ret2
      exact ⟨_, _, rfl, hm, hO.mono hb.size, below_step hb hB hb.size⟩
theorem sub_less (A A' : Option Addr) (n c n' c' : Nat) (l l' : List Nat) (w : World) (hr : Lim w A n c l) (hr' : Lim w A' n' c' l') (hn : n ≤ 549755813888) (hn' : n' ≤ 549755813888) (hlt : vl l < vl l') :
    Calls Tryd.prog 30 #[.slice A n c, .slice A' n' c'] w fun e w' => e = .returned (.tuple #[.slice none 0 0, .bool false]) ∧ Below w.heap.size w w' := by
  have hcc := cmp_any A A' n c n' c' l l' w hr hr' (by omega) (by omega)
  rw [Num.cmp_lt hlt] at hcc
  go_enter Tryd.func30, Tryd.ntmps30
  go_wp2_with fail
  refine hcc.mono ?_; rintro e w1 ⟨rfl, hb1⟩
  go_wp2_with fail
  go_ret2
  exact ⟨rfl, hb1⟩
end Go.Proofs.YticjhlbmdjijnaaDoor
