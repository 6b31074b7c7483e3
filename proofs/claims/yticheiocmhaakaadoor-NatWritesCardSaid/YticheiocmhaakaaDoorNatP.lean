/- The contracts of nat.Read and of heijunkaref01.Read. No condition but the reach of a slice. -/
import Derived.Test.YticheiocmhaakaaDoorNatO
import Derived.IntWalk
import Derived.Lib.SliceRun
namespace Go.Proofs.YticheiocmhaakaaDoor
open Go.RowKit

theorem i64_or_small (a b : Nat) (ha : a < 9223372036854775808) (hb : b < 9223372036854775808) : bits .or .i64 (a : Int) (b : Int) = ((a ||| b : Nat) : Int) := by
  have hx : a ||| b < 2 ^ 63 := Nat.or_lt_two_pow (by omega) (by omega)
  show IntKind.i64.wrap ((BitVec.ofInt 64 (a : Int) ||| BitVec.ofInt 64 (b : Int)).toNat : Int) = _
  rw [BitVec.toNat_or, ofInt_u64 a (by omega), ofInt_u64 b (by omega)]
  exact IntWalk.i64_in _ (by omega)
theorem or2 (x0 x1 : Nat) (h0 : x0 < 256) (h1 : x1 < 256) : bits .or .i64 (x0 : Int) ((x1 : Int) * 256) = ((x0 + 256 * x1 : Nat) : Int) := by
  have e1 : (x1 : Int) * 256 = ((x1 * 256 : Nat) : Int) := by omega
  rw [e1, i64_or_small _ _ (by omega) (by omega), Nat.or_comm, nat_join 8 _ _ (by omega) (by omega)]
  omega
theorem or4 (x0 x1 x2 x3 : Nat) (h0 : x0 < 256) (h1 : x1 < 256) (h2 : x2 < 256) (h3 : x3 < 256) :
    bits .or .u32 (bits .or .u32 (bits .or .u32 (x0 : Int) ((x1 : Int) * 256)) ((x2 : Int) * 65536)) ((x3 : Int) * 16777216) = ((x0 + 256 * x1 + 65536 * x2 + 16777216 * x3 : Nat) : Int) := by
  have e1 : (x1 : Int) * 256 = ((x1 * 256 : Nat) : Int) := by omega
  have e2 : (x2 : Int) * 65536 = ((x2 * 65536 : Nat) : Int) := by omega
  have e3 : (x3 : Int) * 16777216 = ((x3 * 16777216 : Nat) : Int) := by omega
  have k1 : x0 ||| x1 * 256 = x0 + 256 * x1 := by rw [Nat.or_comm, nat_join 8 _ _ (by omega) (by omega)]; omega
  have k2 : (x0 + 256 * x1) ||| x2 * 65536 = x0 + 256 * x1 + 65536 * x2 := by rw [Nat.or_comm, nat_join 16 _ _ (by omega) (by omega)]; omega
  have k3 : (x0 + 256 * x1 + 65536 * x2) ||| x3 * 16777216 = x0 + 256 * x1 + 65536 * x2 + 16777216 * x3 := by rw [Nat.or_comm, nat_join 24 _ _ (by omega) (by omega)]; omega
  rw [e1, e2, e3, u32_or_nat _ _ (by omega) (by omega), k1, u32_or_nat _ _ (by omega) (by omega), k2, u32_or_nat _ _ (by omega) (by omega), k3]

/-- The limb that lies at a place; the count ahead; all limbs. -/
def le4 (l : List Nat) (p : Nat) : Nat := l[p]?.getD 0 + 256 * l[p + 1]?.getD 0 + 65536 * l[p + 2]?.getD 0 + 16777216 * l[p + 3]?.getD 0
def cnt (l : List Nat) : Nat := l[0]?.getD 0 + 256 * l[1]?.getD 0
def limbsAt (l : List Nat) (N : Nat) : List Nat := (List.range N).map fun i => le4 l (2 + 4 * i)
structure ReadOk (l : List Nat) : Prop where
  two : 2 ≤ l.length
  few : cnt l ≤ 4096
  long : 2 + 4 * cnt l ≤ l.length
  top : cnt l = 0 ∨ le4 l (2 + 4 * (cnt l - 1)) ≠ 0
theorem limbsAt_len (l : List Nat) (N : Nat) : (limbsAt l N).length = N := by simp [limbsAt]
theorem limbsAt_get (l : List Nat) {N k : Nat} (h : k < N) : (limbsAt l N)[k]? = some (le4 l (2 + 4 * k)) := by simp [limbsAt, h]
theorem le4_of {l : List Nat} {p y0 y1 y2 y3 : Nat} (h0 : l[p]? = some y0) (h1 : l[p + 1]? = some y1) (h2 : l[p + 2]? = some y2) (h3 : l[p + 3]? = some y3) : le4 l p = y0 + 256 * y1 + 65536 * y2 + 16777216 * y3 := by
  unfold le4; rw [h0, h1, h2, h3]; rfl

set_option maxRecDepth 100000 in
theorem clone_any (b o n c : Nat) (l : List Nat) (w : World) (hr : Byt w (some ⟨b, o, none⟩) n c l) (hn : n ≤ 70368744177664) :
    Calls Tryd.prog 54 #[.slice (some ⟨b, o, none⟩) n c] w fun e w' => ∃ A2 c2, e = .returned (.slice A2 n c2) ∧ OwnB w' w.heap.size A2 n c2 l ∧ Below w.heap.size w w' := by
  have q22 : ∀ (w : World) (a : Option Addr) (n c n' c' : Nat), (binOp .eql 36 (.slice a n c) (.slice none n' c')).run Tryd.prog w = .ok (.bool a.isNone) w := fun w a n c n' c' => Lib.run_eql_slice_nil w _ _ a n c n' c' Tryd.underlying36
  go_enter Tryd.func54, Tryd.ntmps54
  go_wp2_with (at_builtin; refine wpList_appI _ rfl _ _ _ rfl 5 1 Tryd.underlying36 info_byte (by omega) (base := w.heap.size) (OwnI.empty .u8 256 5 rfl (Nat.le_refl _)) rfl (hr.alloc _) rfl (by omega) (by simp) ?_; intro A3 c3 w3 ho3 hg3 ha3)
  go_ret
  rw [Nat.zero_add] at ho3
  exact ⟨A3, c3, rfl, ho3, below_own ((Below.refl _ _).alloc (Nat.le_refl _) _) hg3 (by simp) (fun ad h => by cases h; exact Nat.le_refl _)⟩

set_option maxRecDepth 100000 in
set_option maxHeartbeats 3200000 in
theorem read_any (A : Option Addr) (n c : Nat) (l : List Nat) (w : World) (hr : Byt w A n c l) (hn : n ≤ 70368744177664) :
    Calls Tryd.prog 32 #[.slice A n c] w fun e w' => ((ReadOk l ∧ ∃ A2 A3 m3 c3, e = .returned (.tuple #[.slice A2 (cnt l) (cnt l), .slice A3 m3 c3, .bool true]) ∧ OwnL w' w.heap.size A2 (cnt l) (cnt l) (limbsAt l (cnt l)) ∧ OwnB w' w.heap.size A3 m3 c3 (l.drop (2 + 4 * cnt l))) ∨
      (¬ ReadOk l ∧ e = .returned (.tuple #[.slice none 0 0, .slice none 0 0, .bool false]))) ∧ Below w.heap.size w w' := by
  have hlen := hr.len
  by_cases h2 : n < 2
  · have hbad : ¬ ReadOk l := fun h => by have := h.two; omega
    have HB := Lib.hid hbad
    clear hbad
    go_enter Tryd.func32, Tryd.ntmps32
    go_wp2_with fail
    go_ret3
    exact ⟨.inr ⟨HB.out, rfl⟩, Below.refl _ _⟩
  obtain ⟨b, o, x0, rfl, hb, hx0, hl0, hc0⟩ := hr.get (k := 0) (by omega)
  obtain ⟨x1, hx1, hl1, hc1⟩ := hr.get' (k := 1) (by omega)
  rw [Nat.add_zero] at hc0
  have hcap := hr.rd.cap
  obtain ⟨N, hN⟩ : ∃ N, cnt l = N := ⟨_, rfl⟩
  have hNe : x0 + 256 * x1 = N := by rw [← hN]; unfold cnt; rw [hx0, hx1]; rfl
  have hor := or2 x0 x1 hl0 hl1
  rw [hNe] at hor
  have hNl : N < 65536 := by omega
  obtain ⟨A4, hA4, hcut⟩ := hr.cutAt (k := 2) (by omega)
  obtain ⟨b4, o4, rfl⟩ : ∃ b4 o4, A4 = some ⟨b4, o4, none⟩ := by rw [← hA4]; split <;> exact ⟨_, _, rfl⟩
  obtain ⟨n2, hn2⟩ : ∃ n2, n - 2 = n2 := ⟨_, rfl⟩
  obtain ⟨c2, hc2⟩ : ∃ c2, c - 2 = c2 := ⟨_, rfl⟩
  rw [hn2, hc2] at hcut
  have s1 : IntKind.i64.wrap (x0 : Int) = (x0 : Int) := IntWalk.i64_in _ (by omega)
  have s2 : IntKind.i64.wrap (x1 : Int) = (x1 : Int) := IntWalk.i64_in _ (by omega)
  have p1 : (1 : Int) < (n : Int) := by omega
  have p2 : (2 : Int) ≤ (n : Int) := by omega
  have p3 : (2 : Int) ≤ (c : Int) := by omega
  have p0 : (0 : Int) < (n : Int) := by omega
  have HN := Lib.hid hN
  have HN2 := Lib.hid hn2
  have HC := Lib.hid hlen
  clear hx0 hx1 hN hNe hlen
  go_enter Tryd.func32, Tryd.ntmps32
  by_cases hbig : 4096 < N ∨ n2 < 4 * N
  · have hbad : ¬ ReadOk l := fun h => by
      have h1 := h.few
      have h2 := h.long
      have h3 := HC.out
      rw [HN.out] at h1 h2
      omega
    have HB := Lib.hid hbad
    clear hbad
    rcases (show 4096 < N ∨ (N ≤ 4096 ∧ n2 < 4 * N) by omega) with h4 | ⟨h4, h5⟩
    all_goals
      go_wp2_with (go_quiet (fail))
      go_ret3
      exact ⟨.inr ⟨HB.out, rfl⟩, below_drewN (Below.refl _ _) _⟩
  · have hN4 : N ≤ 4096 := by omega
    have hn4 : 4 * N ≤ n2 := by omega
    have q1 : ¬ ((4096 : Int) < (N : Int)) := by omega
    have q2 : ¬ ((n2 : Int) < 4 * (N : Int)) := by omega
    go_wp2_with (first | (go_quiet (fail)) | (refine wpList_mkL rfl _ _ rfl N rfl rfl rfl rfl (by omega) w.heap.size (by simp) ?_; intro w2 hown hg2))
    have hb2 : Below w.heap.size w w2 := below_none (below_drewN (Below.refl _ _) _) hg2 (by simp)
    have hcut2 := hcut.below hb2
    go_loopw [38] (fun iv wr => ∃ k : Nat, k ≤ N ∧ iv = .int .i64 k ∧ ∃ a, OwnL wr w.heap.size (some ⟨w.heap.size, 0, none⟩) N N a ∧ Hid (a.take k = (limbsAt l N).take k) ∧ Below w.heap.size w wr) (fun iv _ => N - (intOf iv).toNat)
    case atStart => exact ⟨0, by omega, rfl, _, hown, rfl, hb2⟩
    case round =>
      obtain ⟨k, hk, rfl, a, hoa, HA, hbr⟩ := hrel
      by_cases hlt : k < N
      · obtain ⟨p, hp⟩ : ∃ p, 4 * k = p := ⟨_, rfl⟩
        have ep : 4 * (k : Int) = (p : Int) := by omega
        have hpn : p + 4 ≤ n2 := by omega
        have hrw := hcut.below hbr
        have hcap4 := hcut.rd.cap
        obtain ⟨A5, hA5, hrow⟩ := hrw.cutAt (k := p) (by omega)
        obtain ⟨n3, hn3⟩ : ∃ n3, n2 - p = n3 := ⟨_, rfl⟩
        obtain ⟨c3, hc3⟩ : ∃ c3, c2 - p = c3 := ⟨_, rfl⟩
        rw [hn3, hc3] at hrow
        have hcap4' := hrow.rd.cap
        rw [if_neg (show ¬ c2 = p by omega)] at hA5
        subst hA5
        obtain ⟨y0, hy0, hl0', hd0⟩ := hrow.get' (k := 0) (by omega)
        obtain ⟨y1, hy1, hl1', hd1⟩ := hrow.get' (k := 1) (by omega)
        obtain ⟨y2, hy2, hl2', hd2⟩ := hrow.get' (k := 2) (by omega)
        obtain ⟨y3, hy3, hl3', hd3⟩ := hrow.get' (k := 3) (by omega)
        rw [Nat.add_zero] at hd0
        obtain ⟨m, hm⟩ : ∃ m, y0 + 256 * y1 + 65536 * y2 + 16777216 * y3 = m := ⟨_, rfl⟩
        have hml : m < 4294967296 := by omega
        have hor4 := or4 y0 y1 y2 y3 hl0' hl1' hl2' hl3'
        rw [hm] at hor4
        have hle : le4 l (2 + 4 * k) = m := by
          rw [List.drop_drop, List.getElem?_drop] at hy0 hy1 hy2 hy3
          rw [← hm, hp]
          exact le4_of (by simpa using hy0) (by rw [← hy1]) (by rw [← hy2]) (by rw [← hy3])
        have HA2 : Hid ((a.set k m).take (k + 1) = (limbsAt l N).take (k + 1)) := by
          show _ = _
          rw [Num.take_set_succ m (by rw [hoa.len]; exact hlt), HA.out, List.take_add_one, limbsAt_get l hlt, hle]; rfl
        obtain ⟨g, z, he, _, _, _, _, hco, hf⟩ := hoa.get (k := k) hlt
        cases he
        have t0 : IntKind.u32.wrap (y0 : Int) = (y0 : Int) := IntWalk.u32_in _ (by omega)
        have t1 : IntKind.u32.wrap (y1 : Int) = (y1 : Int) := IntWalk.u32_in _ (by omega)
        have t2 : IntKind.u32.wrap (y2 : Int) = (y2 : Int) := IntWalk.u32_in _ (by omega)
        have t3 : IntKind.u32.wrap (y3 : Int) = (y3 : Int) := IntWalk.u32_in _ (by omega)
        have r0 : (0 : Int) < (n3 : Int) := by omega
        have r1 : (1 : Int) < (n3 : Int) := by omega
        have r2 : (2 : Int) < (n3 : Int) := by omega
        have r3 : (3 : Int) < (n3 : Int) := by omega
        have rk : (k : Int) < (N : Int) := by omega
        have rp : (p : Int) ≤ (n2 : Int) := by omega
        have rc : (p : Int) ≤ (c2 : Int) := by omega
        have rp0 : (0 : Int) ≤ (p : Int) := by omega
        clear hy0 hy1 hy2 hy3 hm hp hle
        go_wp2_with fail
        go_region
        go_wp2_with fail
        exact ⟨⟨k + 1, by omega, by go_num, _, (hoa.stored k m hml).drew, HA2, (hbr.setCell (Nat.le_refl _) _).drew⟩, by simp [intOf]; omega⟩
      · obtain rfl : k = N := by omega
        have hal : a = limbsAt l k := by
          have h1 := HA.out
          rw [List.take_of_length_le (by rw [hoa.len]; omega), List.take_of_length_le (by rw [limbsAt_len]; omega)] at h1
          exact h1
        obtain ⟨P, hP⟩ : ∃ P, 4 * k = P := ⟨_, rfl⟩
        have eP : 4 * (k : Int) = (P : Int) := by omega
        have hrw := hcut.below hbr
        obtain ⟨A6, hA6, hrow⟩ := hrw.cutAt (k := P) (by omega)
        obtain ⟨b6, o6, rfl⟩ : ∃ b6 o6, A6 = some ⟨b6, o6, none⟩ := by rw [← hA6]; split <;> exact ⟨_, _, rfl⟩
        obtain ⟨n6, hn6⟩ : ∃ n6, n2 - P = n6 := ⟨_, rfl⟩
        obtain ⟨c6, hc6⟩ : ∃ c6, c2 - P = c6 := ⟨_, rfl⟩
        rw [hn6, hc6, List.drop_drop, ← hP] at hrow
        have hcap4 := hcut.rd.cap
        have rp : (P : Int) ≤ (n2 : Int) := by omega
        have rc : (P : Int) ≤ (c2 : Int) := by omega
        have hcl := fun w0 h0 => clone_any b6 o6 n6 c6 (l.drop (2 + 4 * k)) w0 h0 (by omega)
        have hlong : 2 + 4 * k ≤ l.length := by have := HC.out; have := HN2.out; omega
        have htwo : 2 ≤ l.length := by have := HC.out; omega
        have HAL := Lib.hid hal
        have HP := Lib.hid hP
        have hs := hbr.size
        have hok : (k = 0 ∨ le4 l (2 + 4 * (k - 1)) ≠ 0) → ReadOk l := fun h => ⟨htwo, by rw [HN.out]; exact hN4, by rw [HN.out]; exact hlong, by rw [HN.out]; exact h⟩
        have HOK := Lib.hid hok
        rcases Nat.eq_zero_or_pos k with hk0 | hk0
        · subst hk0
          have HO := Lib.hid (HOK.out (.inl rfl))
          have hcl2 := fun w0 h0 => clone_any b4 o4 n2 c2 (l.drop 2) w0 h0 (by omega)
          clear hal hP hlong htwo hok
          go_wp2_with fail
          refine (hcl2 _ hrw).mono ?_; rintro e w5 ⟨A5, c5, rfl, ho5, hb5⟩
          go_wp2_with fail
          go_ret3
          rw [HN.out, ← HAL.out]
          exact ⟨.inl ⟨HO.out, _, A5, n2, c5, rfl, hoa.below hb5, ho5.mono hs⟩, below_step hbr hb5 hs⟩
        · obtain ⟨k1, hk1⟩ : ∃ k1, k - 1 = k1 := ⟨_, rfl⟩
          have ek1 : (k : Int) - 1 = (k1 : Int) := by omega
          obtain ⟨g, z, he, _, _, hz, hzl, hcz, _⟩ := hoa.get (k := k1) (by omega)
          cases he
          have hzv : z = le4 l (2 + 4 * (k - 1)) := by
            rw [hal, limbsAt_get l (by omega)] at hz
            rw [hk1]; exact (Option.some.inj hz).symm
          have rk : (k1 : Int) < (k : Int) := by omega
          by_cases hz0 : z = 0
          · have hbad : ¬ ReadOk l := fun h => by
              have h1 := h.top
              rw [HN.out] at h1
              rcases h1 with h1 | h1
              · omega
              · exact h1 (by rw [← hzv]; exact hz0)
            have HB := Lib.hid hbad
            subst hz0
            clear hal hP hlong htwo hok hz hzv hbad hk1
            go_wp2_with fail
            go_ret3
            exact ⟨.inr ⟨HB.out, rfl⟩, hbr⟩
          · have HO := Lib.hid (HOK.out (.inr (by rw [← hzv]; exact hz0)))
            have hze : ((z : Int) == 0) = false := by simp; exact hz0
            clear hal hP hlong htwo hok hz hzv hk1
            go_wp2_with fail
            refine (hcl _ hrow).mono ?_; rintro e w5 ⟨A5, c5, rfl, ho5, hb5⟩
            go_wp2_with fail
            go_ret3
            rw [HN.out, ← HAL.out]
            exact ⟨.inl ⟨HO.out, _, A5, n6, c5, rfl, hoa.below hb5, ho5.mono hs⟩, below_step hbr hb5 hs⟩
end Go.Proofs.YticheiocmhaakaaDoor
