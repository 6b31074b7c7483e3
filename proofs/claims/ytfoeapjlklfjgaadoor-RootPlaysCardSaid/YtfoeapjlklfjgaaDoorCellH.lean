/- The contract of heijunkaref06.Split. No condition but the reach of a slice. -/
import Derived.Test.YtfoeapjlklfjgaaDoorCellG
namespace Go.Proofs.YtfoeapjlklfjgaaDoor
set_option linter.unusedSimpArgs false
set_option linter.unusedVariables false
open Go.RowKit

theorem clinfo : (Tryd.prog.info? 25).map (fun i => (i.zero, i.size, i.bytes)) = some (some (.agg #[.int .u32 0, .int .u32 0, .int .i64 0, .int .i64 0, .slice none 0 0]), 5, 48) := by kernel_rfl
theorem cflat_snoc (xs : List CEl) (e : CEl) : cflat (xs ++ [e]) = cflat xs ++ e.vs := by rw [cflat_append]; congr 1
theorem vs_one (e : CEl) : ∀ u ∈ e.vs, u.oneCell' = true := by
  intro u hu
  simp only [CEl.vs, List.mem_cons, List.not_mem_nil, or_false] at hu
  rcases hu with rfl | rfl | rfl | rfl | rfl <;> rfl
/-- A part of a record, where the record lies. -/
def cutAtEl (gs sq : Nat) (l : List Nat) (b o n c k : Nat) : CEl := ⟨Cl.cellAt gs sq l k, some ⟨b, o + 49 * k, none⟩, min 49 (n - 49 * k), c - 49 * k⟩
theorem cutAtEl_in {w : World} {gs sq b o n c k : Nat} {l : List Nat} (hr : Ints w .u8 256 (some ⟨b, o, none⟩) n c l) (hg : gs < 4294967296) (hs : sq < 4294967296) (hk : 49 * k < n) (hn : n ≤ 392) : (cutAtEl gs sq l b o n c k).In w := by
  have h1 := hr.cut (k := 49 * k) (by omega)
  have hc := hr.rd.cap
  rw [if_neg (by omega), Option.map_some, add_plain] at h1
  have h2 := h1.take (k := min 49 (n - 49 * k)) (c' := c - 49 * k) (by omega) (by omega)
  have hl := hr.len
  refine ⟨?_, hg, hs, ?_, ?_, ?_⟩
  · show Ints w .u8 256 _ _ _ ((l.drop (49 * k)).take 49)
    have e : (l.drop (49 * k)).take (min 49 (n - 49 * k)) = (l.drop (49 * k)).take 49 := by
      rcases Nat.le_total 49 (n - 49 * k) with h | h
      · rw [Nat.min_eq_left h]
      · rw [Nat.min_eq_right h, List.take_of_length_le (by rw [List.length_drop]; omega), List.take_of_length_le (by rw [List.length_drop]; omega)]
    rw [← e]; exact h2
  · show -9223372036854775808 ≤ ((k : Nat) : Int) ∧ ((k : Nat) : Int) ≤ 9223372036854775807
    omega
  · show -9223372036854775808 ≤ ((Cl.need l.length : Nat) : Int) ∧ ((Cl.need l.length : Nat) : Int) ≤ 9223372036854775807
    have := Cl.need_le l.length
    omega
  · show min 49 (n - 49 * k) ≤ 140737488355000
    omega
/-- What Split hands back. -/
def SplitPost (w : World) (gs sq : Nat) (l : List Nat) (e : Ending) (w' : World) : Prop :=
  ∃ A m c xs, e = .returned (.tuple #[.slice A m c, .int .i64 (Cl.splitCode l)]) ∧ OwnR w' w.heap.size 25 5 A m c (cflat xs) ∧ (∀ e ∈ xs, e.In w') ∧ xs.map (·.x) = Cl.split gs sq l ∧ Below w.heap.size w w'
theorem SplitPost.len {w w' : World} {A : Option Addr} {m c : Nat} {xs : List CEl} {gs sq : Nat} {l : List Nat} (h : OwnR w' w.heap.size 25 5 A m c (cflat xs)) (hx : xs.map (·.x) = Cl.split gs sq l) : m = Cl.need l.length ∧ m ≤ 8 := by
  have h1 := h.len
  rw [cflat_len] at h1
  have h2 := congrArg List.length hx
  rw [List.length_map, Cl.split_len] at h2
  have := Cl.need_le l.length
  omega
theorem split_nil {gs sq : Nat} {l : List Nat} (h : Cl.need l.length = 0) : Cl.split gs sq l = [] := by unfold Cl.split; rw [h]; rfl
theorem split_upto (gs sq : Nat) (l : List Nat) (b o n c : Nat) : ((List.range (Cl.need l.length)).map (cutAtEl gs sq l b o n c)).map (·.x) = Cl.split gs sq l := by
  rw [List.map_map]; rfl

set_option maxRecDepth 100000 in
set_option maxHeartbeats 3200000 in
theorem rsplit_any {A : Option Addr} {n c : Nat} {l : List Nat} {w : World} (gs sq : Nat) (hg : gs < 4294967296) (hs : sq < 4294967296) (hr : Ints w .u8 256 A n c l) (hn : (n : Int) ≤ 9223372036854775807) :
    Calls Tryd.prog 26 #[.int .u32 (gs : Int), .int .u32 (sq : Int), .slice A n c] w (SplitPost w gs sq l) := by
  have hl := hr.len
  have hcode : Cl.splitCode l = if Cl.need l.length = 0 then 1 else 0 := rfl
  obtain ⟨q, hq⟩ : ∃ q, Cl.need l.length = q := ⟨_, rfl⟩
  have hneed : Cl.need ((n : Int).toNat) = q := by rw [Int.toNat_natCast, ← hl]; exact hq
  by_cases h0 : q = 0
  · subst h0
    have e1 : Cl.splitCode l = 1 := by rw [hcode, hq]; rfl
    have HP := Lib.hid (And.intro e1 (split_nil (gs := gs) (sq := sq) hq))
    have HN := Lib.hid hneed
    clear e1 hq hcode hneed hl hr
    go_enter Tryd.func26, Tryd.ntmps26
    go_wp2_with fail
    refine (rneed_any _ _ (by omega) hn).mono ?_; rintro e w1 ⟨rfl, rfl⟩
    rw [HN.out]
    go_wp2_with fail
    go_ret2
    exact ⟨none, 0, 0, [], by rw [HP.out.1]; rfl, OwnR.nil_ .., fun _ h => (by cases h), by rw [HP.out.2]; rfl, Below.refl _ _⟩
  have hc1 : ¬ (n < 1 ∨ 392 < n) := fun e => h0 (by rw [← hq, hl]; exact Cl.need_zero e)
  have hq2 := (Cl.need_pos (n := n) (by omega) (by omega))
  rw [hl] at hq
  rw [hq] at hq2
  obtain ⟨b, o, rfl, hb0, _⟩ := hr.rd.at_ (by omega)
  have e0 : Cl.splitCode l = 0 := by rw [hcode, hl, hq, if_neg h0]
  have hup := split_upto gs sq l b o n c
  rw [hl, hq] at hup
  have HP := Lib.hid (And.intro e0 (And.intro hup hr))
  have HN := Lib.hid hneed
  have hn392 : n ≤ 392 := by omega
  have hq8 : q ≤ 8 := by omega
  have hcap := hr.rd.cap
  have hqi : ((q : Int) == 0) = false := by simp; omega
  have HQ := Lib.hid hq2
  clear e0 hup hr hneed hcode hl hq hq2 hc1
  go_enter Tryd.func26, Tryd.ntmps26
  go_wp2_with fail
  refine (rneed_any _ _ (by omega) hn).mono ?_; rintro e w1 ⟨rfl, rfl⟩
  rw [HN.out]
  go_wp2_with fail
  go_loopw [9, 10] (fun v i wr => ∃ (k : Nat) (A2 : Option Addr) (c2 : Nat), k ≤ q ∧ i = .int .i64 k ∧ v = .slice A2 k c2 ∧ OwnR wr w.heap.size 25 5 A2 k c2 (cflat ((List.range k).map (cutAtEl gs sq l b o n c))) ∧ Below w.heap.size w wr) (fun _ i _ => q - (intOf i).toNat)
  case atStart => exact ⟨0, none, 0, by omega, rfl, rfl, OwnR.nil_ .., Below.refl _ _⟩
  case round =>
    obtain ⟨k, A2, c2, hk, rfl, rfl, ho, hb⟩ := hrel
    have hbs := hb.size
    by_cases hlt : k < q
    case neg =>
      obtain rfl : k = q := by omega
      have HO := Lib.hid (And.intro ho hb)
      clear ho hb
      go_wp2_with fail
      go_ret2
      refine ⟨A2, k, c2, _, by rw [HP.out.1]; rfl, HO.out.1, fun e he => ?_, HP.out.2.1, HO.out.2⟩
      obtain ⟨i, hi, rfl⟩ := List.mem_map.1 he
      have hi := List.mem_range.1 hi
      exact cutAtEl_in (HP.out.2.2.below HO.out.2) hg hs (by have := HQ.out; omega) hn392
    have hk49 : 49 * k < n := by have := HQ.out; omega
    have hki : (k : Int) < (q : Int) := by omega
    have hk0 : (0 : Int) ≤ (k : Int) := by omega
    have hk8 : (k : Int) ≤ 8 := by omega
    obtain ⟨lo, hlo⟩ : ∃ lo : Nat, 49 * k = lo := ⟨_, rfl⟩
    have elo : 49 * (k : Int) = (lo : Int) := by omega
    have hloc : ¬ c = lo := by omega
    obtain ⟨hi_, hhi⟩ : ∃ hi_ : Nat, min (lo + 49) n = hi_ := ⟨_, rfl⟩
    have hsnoc : cflat ((List.range (k + 1)).map (cutAtEl gs sq l b o n c)) = cflat ((List.range k).map (cutAtEl gs sq l b o n c)) ++ (cutAtEl gs sq l b o n c k).vs := by
      rw [List.range_succ, List.map_append, List.map_singleton, cflat_snoc]
    have hel : (cutAtEl gs sq l b o n c k).vs = [.int .u32 (gs : Int), .int .u32 (sq : Int), .int .i64 (k : Int), .int .i64 (q : Int), .slice (some ⟨b, o + lo, none⟩) (hi_ - lo) (c - lo)] := by
      have e1 : min 49 (n - 49 * k) = hi_ - lo := by omega
      have e2 : Cl.need l.length = q := by rw [HP.out.2.2.len, ← HN.out, Int.toNat_natCast]
      unfold cutAtEl CEl.vs Cl.cellAt
      dsimp only
      rw [e1, e2, hlo]
    rw [hel] at hsnoc
    have HS := Lib.hid hsnoc
    have hlh : lo ≤ hi_ := by omega
    have hhc : hi_ ≤ c := by omega
    have hlhi : (lo : Int) ≤ (hi_ : Int) := by omega
    have hhci : (hi_ : Int) ≤ (c : Int) := by omega
    have hlo0 : (0 : Int) ≤ (lo : Int) := by omega
    have hlo4 : (lo : Int) ≤ 400 := by omega
    have hoa := ho.alloc (.cells #[.int .u32 (gs : Int), .int .u32 (sq : Int), .int .i64 (k : Int), .int .i64 (q : Int), .slice (some ⟨b, o + lo, none⟩) (hi_ - lo) (c - lo)] 25)
    have hcs := cells_new wr #[.int .u32 (gs : Int), .int .u32 (sq : Int), .int .i64 (k : Int), .int .i64 (q : Int), .slice (some ⟨b, o + lo, none⟩) (hi_ - lo) (c - lo)] 25 (g := wr.heap.size) rfl
    have HB := Lib.hid (And.intro hb (And.intro hoa (And.intro hcs ho)))
    clear hb ho hoa hcs hel hsnoc
    by_cases hend : n < lo + 49
    · have hh : hi_ = n := by omega
      subst hh
      have hei : (hi_ : Int) < (lo : Int) + 49 := by omega
      clear hhi hend
      go_wp2_with (at_builtin; go_loud (refine wpList_appR _ rfl (.tmp 31) (.tmp 42) 34 rfl 25 _ 5 48 Tryd.underlying34 clinfo rfl (by omega) (by omega) rfl HB.out.2.1 (ad := ⟨wr.heap.size, 0, none⟩) (m := 1) (c' := 1) [.int .u32 (gs : Int), .int .u32 (sq : Int), .int .i64 (k : Int), .int .i64 (q : Int), .slice (some ⟨b, o + lo, none⟩) (hi_ - lo) (c - lo)] rfl rfl HB.out.2.2.1 (by intro u hu; simp only [List.mem_cons, List.not_mem_nil, or_false] at hu; rcases hu with rfl | rfl | rfl | rfl | rfl <;> rfl) (by omega) (by simp; omega) ?_); intro A5 c5 w5 hown hg5 hA)
      exact ⟨⟨k + 1, A5, c5, by omega, by go_num, rfl, by rw [HS.out]; exact hown, below_own (HB.out.1.alloc hbs _) hg5 (by simp; omega) (fun ad he => (HB.out.2.2.2.lt ad he).1)⟩, by simp [intOf]; omega⟩
    · have hh : hi_ = lo + 49 := by omega
      have hei : ¬ (n : Int) < (lo : Int) + 49 := by omega
      have ehi : (lo : Int) + 49 = (hi_ : Int) := by omega
      clear hhi hend hh
      go_wp2_with (at_builtin; go_loud (refine wpList_appR _ rfl (.tmp 31) (.tmp 42) 34 rfl 25 _ 5 48 Tryd.underlying34 clinfo rfl (by omega) (by omega) rfl HB.out.2.1 (ad := ⟨wr.heap.size, 0, none⟩) (m := 1) (c' := 1) [.int .u32 (gs : Int), .int .u32 (sq : Int), .int .i64 (k : Int), .int .i64 (q : Int), .slice (some ⟨b, o + lo, none⟩) (hi_ - lo) (c - lo)] rfl rfl HB.out.2.2.1 (by intro u hu; simp only [List.mem_cons, List.not_mem_nil, or_false] at hu; rcases hu with rfl | rfl | rfl | rfl | rfl <;> rfl) (by omega) (by simp; omega) ?_); intro A5 c5 w5 hown hg5 hA)
      exact ⟨⟨k + 1, A5, c5, by omega, by go_num, rfl, by rw [HS.out]; exact hown, below_own (HB.out.1.alloc hbs _) hg5 (by simp; omega) (fun ad he => (HB.out.2.2.2.lt ad he).1)⟩, by simp [intOf]; omega⟩
end Go.Proofs.YtfoeapjlklfjgaaDoor
