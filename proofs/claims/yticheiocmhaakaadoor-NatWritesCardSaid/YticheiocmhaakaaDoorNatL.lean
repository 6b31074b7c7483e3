/- The contract of nat.Text. No condition but the reach of a slice. -/
import Derived.Test.YticheiocmhaakaaDoorNatK
import Derived.Test.YticheiocmhaakaaDoorDec
import Derived.Laws.IdiomStrings
namespace Go.Proofs.YticheiocmhaakaaDoor
open Go.RowKit

abbrev Byt (w : World) (A : Option Addr) (n c : Nat) (l : List Nat) : Prop := Ints w .u8 256 A n c l
abbrev OwnB (w : World) (base : Nat) (A : Option Addr) (n c : Nat) (l : List Nat) : Prop := OwnI w base .u8 256 5 A n c l
theorem info_byte : (Tryd.prog.info? 5).map (fun i => (i.zero, i.size, i.bytes)) = some (some (.int .u8 0), 1, 1) := by kernel_rfl
/-- 'string(b)'. -/
theorem conv_str {P : Program} {w : World} {A : Option Addr} {n c : Nat} {l : List Nat} (src dst e : TypeId) (hs : P.underlying src = some (.slice e)) (he : P.underlying e = some (.int .u8)) (hd : P.underlying dst = some .string) (h : Byt w A n c l) :
    (convert src dst (.slice A n c)).run P w = .ok (.string (str l)) w := by
  cases A with
  | none =>
    have h0 : n = 0 := by
      rcases Nat.eq_zero_or_pos n with h0 | h0
      · exact h0
      · obtain ⟨_, _, _, he, _⟩ := h.get h0
        cases he
    subst h0
    have := h.len
    rw [List.eq_nil_of_length_eq_zero this]
    rw [run_convert_bytes_string w src dst e none 0 c hs he hd]
    simp [Conv.bytesToString, str]
    rfl
  | some ad =>
    have hl : (l.map UInt8.ofNat).length = n := by rw [List.length_map, h.len]
    have hb := run_convert_bytes_back (P := P) w src dst e ad c (l.map UInt8.ofNat) hs he hd (fun j hj => by
      have hjn : j < n := by omega
      obtain ⟨b, o, x, hA, _, hx, hxl, hc⟩ := h.get hjn
      cases hA
      rw [add_plain, hc]
      have e1 : (l.map UInt8.ofNat)[j]? = some (UInt8.ofNat x) := by rw [List.getElem?_map, hx]; rfl
      rw [List.getElem?_eq_getElem hj] at e1
      rw [Option.some.inj e1]
      simp only [UInt8.toNat_ofNat']
      rw [Nat.mod_eq_of_lt hxl])
    rw [hl] at hb
    exact hb

set_option maxRecDepth 100000 in
set_option maxHeartbeats 800000 in
theorem rev8_any (base : Nat) (A : Option Addr) (n c : Nat) (l : List Nat) (w : World) (ho : OwnB w base A n c l) (hn : n ≤ 1099511627776) :
    Calls Tryd.prog 49 #[.slice A n c] w fun e w' => (∃ v, e = .returned v) ∧ OwnB w' base A n c l.reverse ∧ w.grownBy w' (A.map (·.block)) := by
  have hlen := ho.len
  go_enter Tryd.func49, Tryd.ntmps49
  go_wp2
  go_loopw [2, 3] (fun i j wr => ∃ k : Nat, k ≤ n ∧ i = .int .i64 k ∧ j = .int .i64 ((n : Int) - 1 - k) ∧ ∃ cur : List Nat, RevTo l cur k ∧ OwnB wr base A n c cur ∧ w.grownBy wr (A.map (·.block))) (fun i _ _ => n - (intOf i).toNat)
  case atStart => exact ⟨0, by omega, rfl, by simp, l, RevTo.zero l, ho, World.grownBy.refl _ _⟩
  case round =>
    obtain ⟨k, hk, rfl, rfl, cur, hR, ho, hg⟩ := hrel
    by_cases hlt : k < n - 1 - k
    · obtain ⟨g, x, rfl, hgb, hgs, hx, hxl, hc, hf⟩ := ho.get (k := k) (by omega)
      obtain ⟨g', y, he, _, _, hy, hyl, hc', hf'⟩ := ho.get (k := n - 1 - k) (by omega)
      cases he
      have e1 : (n : Int) - 1 - k = ((n - 1 - k : Nat) : Int) := by omega
      obtain ⟨j, hj⟩ : ∃ j, n - 1 - k = j := ⟨_, rfl⟩
      have hR' := hR.step (x := x) (y := y) (by omega) hx (by rw [hlen]; exact hy)
      rw [hlen] at hR'
      rw [e1]
      rw [hj] at hc' hf' hR' hlt ⊢
      have HR := Lib.hid hR'
      have hjn : j < n := by omega
      have hj2 : (j : Int) - 1 = (n : Int) - 1 - ((k + 1 : Nat) : Int) := by omega
      have HJ := Lib.hid hj2
      clear hR' hx hy e1 hj hj2
      go_wp2_with fail
      go_region
      go_wp2_with fail
      exact ⟨⟨k + 1, by omega, by go_num, by rw [HJ.out], _, HR.out, ((ho.stored k y hyl).stored j x hxl).drew, grown_drew (grown_set (grown_set hg k _) j _)⟩, by simp [intOf]; omega⟩
    · have hl : cur = l.reverse := hR.done (by omega)
      subst hl
      clear hR
      go_wp2_with fail
      go_end0
      exact ⟨⟨_, rfl⟩, ho, hg⟩


theorem text_len {v n k rest V : Nat} (hv : v < 4294967296 ^ n) (h : V + 10 ^ (9 * k) * rest = v) (hr : 0 < rest) : k ≤ 2 * n := by
  have h1 : 10 ^ (9 * k) ≤ v := by
    have := Nat.mul_le_mul_left (10 ^ (9 * k)) hr
    omega
  have h2 : 4294967296 ^ n ≤ (10 ^ 18) ^ n := Nat.pow_le_pow_left (by decide) n
  rw [← Nat.pow_mul] at h2
  have h3 := (Nat.pow_lt_pow_iff_right (a := 10) (by decide)).1 (Nat.lt_of_le_of_lt h1 (Nat.lt_of_lt_of_le hv h2))
  omega
set_option maxRecDepth 100000 in
set_option maxHeartbeats 1600000 in
theorem text_any (A : Option Addr) (n c : Nat) (l : List Nat) (w : World) (hr : Lim w A n c l) (hn : n ≤ 34359738368) :
    Calls Tryd.prog 25 #[.slice A n c] w fun e w' => e = .returned (.string (str (decTxt (vl l)))) ∧ Below w.heap.size w w' := by
  have t1 := fun w0 h0 => trim_any A n c l w0 h0 (by omega)
  have hvn : vl l < 4294967296 ^ n := by rw [← hr.len]; exact Num.val_lt _ l hr.lt
  generalize vl l = v at *
  have HN := Lib.hid hvn
  clear hvn
  go_enter Tryd.func25, Tryd.ntmps25
  go_wp2_with fail
  refine (t1 _ hr).mono ?_; rintro e w1 ⟨A1, m1, rfl, hm1, ho1, hb1⟩
  have h1 := ho1.len
  clear t1
  by_cases hv0 : v = 0
  · subst hv0
    rw [lmb_zero] at h1
    obtain rfl : 0 = m1 := h1
    clear ho1
    go_wp2_with fail
    go_ret
    exact ⟨rfl, hb1⟩
  · have hp : 0 < m1 := by
      rcases Nat.eq_zero_or_pos m1 with h | h
      · rw [h] at h1
        have := (Num.dig_eq_nil (b := 4294967296) (by decide) v).1 (List.eq_nil_of_length_eq_zero h1)
        omega
      · exact h
    have HV0 := Lib.hid hv0
    have hz : ((m1 : Int) == 0) = false := by simp; omega
    clear hv0 h1
    go_wp2_with fail
    go_loopg [0, 3] v (fun rest av dv wr => ∃ k B m C x y D, av = .slice B m m ∧ dv = .slice C x y ∧ k ≤ 2 * n + 1 ∧ m ≤ n ∧ OwnL wr w.heap.size B m m (lmb rest) ∧ OwnB wr w.heap.size C x y (D.map (48 + ·)) ∧ Hid (∀ z ∈ D, z < 10) ∧ x = 9 * k ∧ Hid (Num.val 10 D + 10 ^ (9 * k) * rest = v) ∧ Dis C B ∧ Below w.heap.size w wr)
    case atStart =>
      refine ⟨0, A1, m1, none, 0, 0, [], rfl, rfl, by omega, hm1, ho1, OwnI.nil_ .., ?_, rfl, ?_, Dis.none_l _, hb1⟩
      · show ∀ z ∈ [], _
        intro z hz
        cases hz
      · show _ = _
        simp [Num.val]
    case round =>
      obtain ⟨k, B, m, C, x, y, D, rfl, rfl, hk1, hm, hoa, hod, HD, rfl, HE, hdis, hb⟩ := hrel
      have hlm := hoa.len
      by_cases hr0 : gk = 0
      · subst hr0
        rw [lmb_zero] at hlm
        obtain rfl : 0 = m := hlm
        have hval : Num.val 10 D = v := by
          have := HE.out
          rwa [Nat.mul_zero, Nat.add_zero] at this
        have HF := Lib.hid (trim_dec D v HD.out hval (Nat.pos_of_ne_zero HV0.out))
        have hk9 : 9 * k ≤ 1099511627776 := by omega
        have hrv := fun w0 h0 => rev8_any w.heap.size C (9 * k) y (D.map (48 + ·)) w0 h0 hk9
        clear hval
        go_wp2_with fail
        refine (hrv _ hod).mono ?_; rintro e w2 ⟨⟨u, rfl⟩, ho2, hg2⟩
        have hcv := fun w0 (h0 : Byt w0 C (9 * k) y (D.map (48 + ·)).reverse) => conv_str 36 9 5 Tryd.underlying36 Tryd.underlying5 Tryd.underlying9 h0
        have hcv2 := hcv _ ho2.ints
        have htl := Tryd.strings_TrimLeft_one (str (D.map (48 + ·)).reverse) 48 (by decide) w2
        rw [HF.out] at htl
        generalize str (D.map (48 + ·)).reverse = S at *
        clear hrv hcv
        go_wp2_with fail
        refine htl.mono ?_; rintro e w3 ⟨rfl, rfl⟩
        go_wp2_with fail
        go_ret
        exact ⟨rfl, below_own hb hg2 hb.size (fun ad h => (hod.lt_ ad h).1)⟩
      · have hmp : 0 < m := by
          rcases Nat.eq_zero_or_pos m with h | h
          · rw [h] at hlm
            have := (Num.dig_eq_nil (b := 4294967296) (by decide) gk).1 (List.eq_nil_of_length_eq_zero hlm)
            omega
          · exact h
        have hk2 : k ≤ 2 * n := text_len HN.out HE.out (Nat.pos_of_ne_zero hr0)
        obtain ⟨r, hr⟩ : ∃ r, gk % 1000000000 = r := ⟨_, rfl⟩
        obtain ⟨q, hq⟩ : ∃ q, gk / 1000000000 = q := ⟨_, rfl⟩
        have hrl : r < 1000000000 := by omega
        have hsm := small_any B m m (lmb gk) wr hoa.ints (by omega) hmp 1000000000 (by omega) (by omega)
        rw [vl_lmb, hr, hq] at hsm
        have HQ : Hid (q < gk) := by show q < gk; omega
        have HR : Hid (r + 1000000000 * q = gk) := by show _ = _; omega
        clear hr hq hr0 hlm
        go_wp2_with fail
        refine hsm.mono ?_; rintro e w2 ⟨B2, m2, rfl, hm2, ho2, hb2⟩
        have hod2 := hod.below hb2
        have hbe := below_step hb hb2 hb.size
        have hdis2 : Dis C B2 := ⟨fun a b ha hb e => by have h1 := (hod.lt_ a ha).2; have h2 := (ho2.lt_ b hb).1; omega⟩
        have ho2' := ho2.mono hb.size
        go_wp2_with fail
        go_loopw [3, 4, 18] (fun dv xv jv wk => ∃ (j d : Nat) (E : List Nat) (C : Option Addr) (x y : Nat), j ≤ 9 ∧ jv = .int .i64 j ∧ xv = .int .u32 d ∧ d < 1000000000 ∧ dv = .slice C x y ∧ x = 9 * k + j ∧ OwnB wk w.heap.size C x y ((D ++ E).map (48 + ·)) ∧ Hid (E.length = j) ∧ Hid (∀ z ∈ E, z < 10) ∧ Hid (Num.val 10 E + 10 ^ j * d = r) ∧
          OwnL wk w.heap.size B2 m2 m2 (lmb q) ∧ Dis C B2 ∧ Below w.heap.size w wk) (fun _ _ jv _ => 9 - (intOf jv).toNat)
        case atStart =>
          refine ⟨0, r, [], C, 9 * k, y, by omega, rfl, rfl, hrl, rfl, rfl, by simpa using hod2, rfl, ?_, ?_, ho2', hdis2, hbe⟩
          · show ∀ z ∈ [], _
            intro z hz
            cases hz
          · show _ = _
            simp [Num.val]
        case round =>
          obtain ⟨j, d, E, C, x, y, hj, rfl, rfl, hd, rfl, rfl, hod, HL, HZ, HS, hoq, hdis, hb⟩ := hrel
          by_cases hlt : j < 9
          · obtain ⟨z, hz⟩ : ∃ z, d % 10 = z := ⟨_, rfl⟩
            obtain ⟨d1, hd1⟩ : ∃ d1, d / 10 = d1 := ⟨_, rfl⟩
            have hzl : z < 10 := by omega
            have hd1l : d1 < 1000000000 := by omega
            have e1 : (d : Int) % 10 = (z : Int) := by omega
            have e2 : (d : Int) / 10 = (d1 : Int) := by omega
            have HS2 : Hid (Num.val 10 (E ++ [z]) + 10 ^ (j + 1) * d1 = r) := by
              show _ = _
              rw [Num.val_snoc, HL.out, Nat.pow_succ, ← HS.out, show d = z + 10 * d1 by omega, Nat.mul_add]
              simp only [Nat.mul_assoc]
              omega
            have HZ2 : Hid (∀ u ∈ E ++ [z], u < 10) := by
              show ∀ u ∈ E ++ [z], _
              intro u hu
              rcases List.mem_append.1 hu with hu | hu
              · exact HZ.out u hu
              · rw [List.mem_singleton.1 hu]; exact hzl
            clear hz hd1
            go_wp2_with (at_builtin; refine wpList_appI _ rfl _ _ _ rfl 5 1 Tryd.underlying36 info_byte (by omega) (hod.alloc _) rfl (Ints.one .u8 256 5 (48 + z) (by omega) (by omega) rfl) rfl (by omega) (by simp; have := hb.size; omega) ?_; intro A3 c3 w3 ho3 hg3 ha3)
            have hn3 := hod.len
            have e3 : 9 * k + j + 1 = 9 * k + (j + 1) := by omega
            rw [e3]
            refine ⟨⟨j + 1, d1, E ++ [z], A3, _, c3, by omega, by go_num, rfl, hd1l, rfl, rfl, ?_, ?_, HZ2, HS2, ?_, ?_, ?_⟩, by simp [intOf]; omega⟩
            · rw [e3] at ho3
              simpa using ho3
            · show _ = _
              rw [List.length_append, HL.out]; rfl
            · exact (hoq.alloc _).beside hg3 hdis
            · exact Dis.beside (w := wr.alloc (.cells #[.int .u8 ((48 : Int) + z)] 5)) (fun ad h => by have := (hoq.lt_ ad h).2; simp; omega) hdis ha3
            · exact below_own (hb.alloc hb.size _) hg3 (by simp; have := hb.size; omega) (fun ad h => (hod.lt_ ad h).1)
          · obtain rfl : j = 9 := by omega
            have hd0 : d = 0 := by
              have h1 := HS.out
              have : 0 ≤ Num.val 10 E := Nat.zero_le _
              rcases Nat.eq_zero_or_pos d with h | h
              · exact h
              · have h2 := Nat.mul_le_mul_left (10 ^ 9) h
                simp only [show (10 : Nat) ^ 9 = 1000000000 from rfl] at h1 h2
                omega
            subst hd0
            have HF : Hid (Num.val 10 (D ++ E) + 10 ^ (9 * (k + 1)) * q = v) := by
              show _ = _
              have h1 := HS.out
              have h2 := hod.len
              rw [List.length_map, List.length_append, HL.out] at h2
              rw [Nat.mul_zero, Nat.add_zero] at h1
              rw [Num.val_append, h1, show D.length = 9 * k by omega, ← HE.out, ← HR.out, show 9 * (k + 1) = 9 * k + 9 by omega, Nat.pow_add, Nat.mul_add, Nat.mul_assoc]
              simp only [show (10 : Nat) ^ 9 = 1000000000 from rfl]
              omega
            have HZ2 : Hid (∀ u ∈ D ++ E, u < 10) := by
              show ∀ u ∈ D ++ E, _
              intro u hu
              rcases List.mem_append.1 hu with hu | hu
              · exact HD.out u hu
              · exact HZ.out u hu
            go_wp2_with fail
            go_roundg q
            case measure => exact HQ.out
            case rel => exact ⟨k + 1, B2, m2, C, _, y, D ++ E, rfl, rfl, by omega, by omega, hoq, hod, HZ2, rfl, HF, hdis, hb⟩
end Go.Proofs.YticheiocmhaakaaDoor
