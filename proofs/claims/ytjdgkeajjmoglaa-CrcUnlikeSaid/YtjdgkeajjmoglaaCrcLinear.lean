/- CrcLinear: of three rows of one length, exclusive or'd, the sum is that of their sums. No condition. -/
import Derived.Test.YtjdgkeajjmoglaaCrcAwake
namespace Go.Proofs.Ytjdgkeajjmoglaa
open Go.RowKit

/-- A slice of rows of three bytes. -/
structure Rows3 (w : World) (A : Option Addr) (n c : Nat) (r : List (Nat × Nat × Nat)) : Prop where
  len : r.length = n
  at_ : 0 < n → ∃ b o, A = some ⟨b, o, none⟩ ∧ b < w.heap.size ∧ ∀ j x, r[j]? = some x →
    w.cell? ⟨b, o + j * 3, none⟩ = some (.int .u8 (x.1 : Int)) ∧ w.cell? ⟨b, o + j * 3 + 1, none⟩ = some (.int .u8 (x.2.1 : Int)) ∧ w.cell? ⟨b, o + j * 3 + 2, none⟩ = some (.int .u8 (x.2.2 : Int))
  lt : ∀ x ∈ r, x.1 < 256 ∧ x.2.1 < 256 ∧ x.2.2 < 256

def xor3 (x : Nat × Nat × Nat) : Nat := x.1 ^^^ x.2.1 ^^^ x.2.2
theorem num_xor3 (r : List (Nat × Nat × Nat)) (h : ∀ x ∈ r, x.1 < 256 ∧ x.2.1 < 256 ∧ x.2.2 < 256) :
    Crc.num (r.map xor3) = Crc.num (r.map (·.1)) ^^^ Crc.num (r.map (·.2.1)) ^^^ Crc.num (r.map (·.2.2)) := by
  induction r with
  | nil => rfl
  | cons x r ih =>
    obtain ⟨h1, h2, h3⟩ := h x (List.mem_cons_self ..)
    have h4 : xor3 x < 256 := Nat.xor_lt_two_pow (n := 8) (Nat.xor_lt_two_pow (n := 8) h1 h2) h3
    simp only [List.map_cons, Crc.num]
    rw [ih (fun y hy => h y (List.mem_cons_of_mem _ hy)), Crc.low_xor _ _ h4, Crc.low_xor _ _ h1, Crc.low_xor _ _ h2, Crc.low_xor _ _ h3]
    have e := fun a b => (Crc.mul_xor 8 a b).symm
    rw [show (256 : Nat) = 2 ^ 8 from rfl, e, e]
    unfold xor3
    ac_rfl
theorem sum_xor3 (r : List (Nat × Nat × Nat)) (h : ∀ x ∈ r, x.1 < 256 ∧ x.2.1 < 256 ∧ x.2.2 < 256) :
    Crc.sum (r.map xor3) = Crc.sum (r.map (·.1)) ^^^ Crc.sum (r.map (·.2.1)) ^^^ Crc.sum (r.map (·.2.2)) := by
  have hx : ∀ c ∈ r.map xor3, c < 256 := fun c hc => by
    obtain ⟨x, hx, rfl⟩ := List.mem_map.1 hc
    obtain ⟨h1, h2, h3⟩ := h x hx
    exact Nat.xor_lt_two_pow (n := 8) (Nat.xor_lt_two_pow (n := 8) h1 h2) h3
  have ha : ∀ c ∈ r.map (·.1), c < 256 := fun c hc => by obtain ⟨x, hx, rfl⟩ := List.mem_map.1 hc; exact (h x hx).1
  have hb : ∀ c ∈ r.map (·.2.1), c < 256 := fun c hc => by obtain ⟨x, hx, rfl⟩ := List.mem_map.1 hc; exact (h x hx).2.1
  have hc : ∀ c ∈ r.map (·.2.2), c < 256 := fun c hc => by obtain ⟨x, hx, rfl⟩ := List.mem_map.1 hc; exact (h x hx).2.2
  have key : Crc.reg 4294967295 (r.map xor3) = Crc.reg 4294967295 (r.map (·.1)) ^^^ Crc.reg 4294967295 (r.map (·.2.1)) ^^^ Crc.reg 4294967295 (r.map (·.2.2)) := by
    rw [Crc.reg_num _ _ hx, Crc.reg_num _ _ ha, Crc.reg_num _ _ hb, Crc.reg_num _ _ hc]
    simp only [List.length_map]
    rw [← Crc.citer_xor, ← Crc.citer_xor, num_xor3 r h]
    congr 1
    generalize Crc.num (r.map (·.1)) = x
    generalize Crc.num (r.map (·.2.1)) = y
    generalize Crc.num (r.map (·.2.2)) = z
    have e : 4294967295 ^^^ x ^^^ (4294967295 ^^^ y) ^^^ (4294967295 ^^^ z) = (4294967295 ^^^ 4294967295) ^^^ (4294967295 ^^^ (x ^^^ y ^^^ z)) := by ac_rfl
    rw [e, Nat.xor_self, Nat.zero_xor]
  have neg : ∀ x, x < 2 ^ 32 → 4294967295 - x = 4294967295 ^^^ x := fun x hx => by
    have h1 := ones_xor x (by omega)
    have h2 := u32_xor_nat 4294967295 x (by omega) (by omega)
    have e : IntKind.u32.max = ((4294967295 : Nat) : Int) := by decide
    rw [e, h2] at h1
    omega
  have la := Crc.reg_lt _ 4294967295 (by decide) ha
  have lb := Crc.reg_lt _ 4294967295 (by decide) hb
  have lc := Crc.reg_lt _ 4294967295 (by decide) hc
  unfold Crc.sum
  rw [neg _ (Crc.reg_lt _ 4294967295 (by decide) hx), neg _ la, neg _ lb, neg _ lc, key]
  generalize Crc.reg 4294967295 (r.map (·.1)) = x
  generalize Crc.reg 4294967295 (r.map (·.2.1)) = y
  generalize Crc.reg 4294967295 (r.map (·.2.2)) = z
  have e : 4294967295 ^^^ x ^^^ (4294967295 ^^^ y) ^^^ (4294967295 ^^^ z) = (4294967295 ^^^ 4294967295) ^^^ (4294967295 ^^^ (x ^^^ y ^^^ z)) := by ac_rfl
  rw [e, Nat.xor_self, Nat.zero_xor]

theorem Rows3.get {w : World} {A : Option Addr} {n c k : Nat} {r : List (Nat × Nat × Nat)} (h : Rows3 w A n c r) (hk : k < n) : ∃ b o x y z, A = some ⟨b, o, none⟩ ∧ b < w.heap.size ∧ r[k]? = some (x, y, z) ∧ x < 256 ∧ y < 256 ∧ z < 256 ∧
    w.cell? ⟨b, o + k * 3, none⟩ = some (.int .u8 (x : Int)) ∧ w.cell? ⟨b, o + k * 3 + 1, none⟩ = some (.int .u8 (y : Int)) ∧ w.cell? ⟨b, o + k * 3 + 2, none⟩ = some (.int .u8 (z : Int)) := by
  obtain ⟨b, o, e, hb, hc⟩ := h.at_ (by omega)
  have hl : k < r.length := by have := h.len; omega
  have hx := List.getElem?_eq_getElem hl
  obtain ⟨h1, h2, h3⟩ := h.lt _ (List.getElem_mem hl)
  exact ⟨b, o, r[k].1, r[k].2.1, r[k].2.2, e, hb, hx, h1, h2, h3, hc k _ hx⟩
theorem Rows3.below {w w' : World} {A : Option Addr} {n c : Nat} {r : List (Nat × Nat × Nat)} (h : Rows3 w A n c r) (hb : Below w.heap.size w w') : Rows3 w' A n c r :=
  ⟨h.len, fun hn => by
    obtain ⟨b, o, e, hlt, hc⟩ := h.at_ hn
    refine ⟨b, o, e, Nat.lt_of_lt_of_le hlt hb.size, fun j x hx => ?_⟩
    obtain ⟨h1, h2, h3⟩ := hc j x hx
    exact ⟨(hb.cell (p := ⟨b, o + j * 3, none⟩) hlt).trans h1, (hb.cell (p := ⟨b, o + j * 3 + 1, none⟩) hlt).trans h2, (hb.cell (p := ⟨b, o + j * 3 + 2, none⟩) hlt).trans h3⟩, h.lt⟩

set_option maxRecDepth 100000 in
set_option maxHeartbeats 1600000 in
theorem crcLinear_any (A : Option Addr) (n c : Nat) (r : List (Nat × Nat × Nat)) (w : World) (hr : Rows3 w A n c r) (hn : n ≤ maxLen) :
    Calls Try.prog 6 #[.slice A n c] w fun e w' => e = .returned (.bool true) ∧ Below w.heap.size w w' := by
  unfold maxLen at hn
  by_cases h3 : 1000 < n
  · go_enter Try.func6, Try.ntmps6
    go_wp2_with (go_at_call 14; refine (awake_any _).mono ?_; rintro e w1 ⟨rfl, b1⟩)
    go_ret
    exact ⟨rfl, b1⟩
  go_enter Try.func6, Try.ntmps6
  go_wp2_with (go_at_call 14; refine (awake_any _).mono ?_; rintro e w1 ⟨rfl, b1⟩)
  have B := b1.size
  go_loopw [3, 4, 5, 6, 7] (fun va vb vc vd i wr => ∃ k : Nat, k ≤ n ∧ i = .int .i64 k ∧ ∃ Aa ca Ab cb Ac cc Ad cd, va = .slice Aa k ca ∧ vb = .slice Ab k cb ∧ vc = .slice Ac k cc ∧ vd = .slice Ad k cd ∧
      OwnI wr w.heap.size .u8 256 5 Aa k ca ((r.take k).map (·.1)) ∧ OwnI wr w.heap.size .u8 256 5 Ab k cb ((r.take k).map (·.2.1)) ∧
      OwnI wr w.heap.size .u8 256 5 Ac k cc ((r.take k).map (·.2.2)) ∧ OwnI wr w.heap.size .u8 256 5 Ad k cd ((r.take k).map xor3) ∧
      Dis Aa Ab ∧ Dis Aa Ac ∧ Dis Aa Ad ∧ Dis Ab Ac ∧ Dis Ab Ad ∧ Dis Ac Ad ∧ Below w.heap.size w wr) (fun _ _ _ _ i _ => n - (intOf i).toNat)
  case atStart => exact ⟨0, by omega, rfl, none, 0, none, 0, none, 0, none, 0, rfl, rfl, rfl, rfl, OwnI.nil_ .., OwnI.nil_ .., OwnI.nil_ .., OwnI.nil_ .., Dis.none_l _, Dis.none_l _, Dis.none_l _, Dis.none_l _, Dis.none_l _, Dis.none_l _, b1⟩
  case round =>
    obtain ⟨k, hk, rfl, Aa, ca, Ab, cb, Ac, cc, Ad, cd, rfl, rfl, rfl, rfl, oa, ob, oc, od, dab, dac, dad, dbc, dbd, dcd, bw⟩ := hrel
    by_cases hlt : k < n
    · obtain ⟨b, o, x, y, z, rfl, hb, hx, hxl, hyl, hzl, c0, c1, c2⟩ := hr.get hlt
      have HX := Lib.hid hx
      clear hx
      have S := bw.size
      have C0 : wr.cell? ⟨b, o + k * 3, none⟩ = some (.int .u8 (x : Int)) := (bw.cell (p := ⟨b, _, none⟩) hb).trans c0
      go_wp2_with (first
        | (at_builtin; refine wpList_appI _ rfl (.tmp 19) (.tmp 25) _ rfl 5 1 Try.underlying22 info_u8 (by omega) (oa.alloc _) rfl (Ints.one .u8 256 5 x rfl hxl rfl) rfl (by omega) (by simp; omega) ?_; intro Aa2 ca2 w2 oa2 ga2 aa2; have b2 : Below w.heap.size w w2 := below_own (bw.alloc S _) ga2 (by simp; omega) (fun ad h => (oa.lt_ ad h).1); have S2 := b2.size; have C1 : w2.cell? ⟨b, o + k * 3 + 1, none⟩ = some (.int .u8 (y : Int)) := (b2.cell (p := ⟨b, _, none⟩) hb).trans c1; have ob2 := (ob.alloc _).beside ga2 dab; have oc2 := (oc.alloc _).beside ga2 dac; have od2 := (od.alloc _).beside ga2 dad; have dab2 := dab.beside (fun ad h => ((ob.alloc _).lt_ ad h).2) aa2; have dac2 := dac.beside (fun ad h => ((oc.alloc _).lt_ ad h).2) aa2; have dad2 := dad.beside (fun ad h => ((od.alloc _).lt_ ad h).2) aa2; clear oa ob oc od dab dac dad aa2)
        | (at_builtin; refine wpList_appI _ rfl (.tmp 27) (.tmp 33) _ rfl 5 1 Try.underlying22 info_u8 (by omega) (ob2.alloc _) rfl (Ints.one .u8 256 5 y rfl hyl rfl) rfl (by omega) (by simp; omega) ?_; intro Ab3 cb3 w3 ob3 gb3 ab3; have b3 : Below w.heap.size w w3 := below_own (b2.alloc S2 _) gb3 (by simp; omega) (fun ad h => (ob2.lt_ ad h).1); have S3 := b3.size; have C2 : w3.cell? ⟨b, o + k * 3 + 2, none⟩ = some (.int .u8 (z : Int)) := (b3.cell (p := ⟨b, _, none⟩) hb).trans c2; have oa3 := (oa2.alloc _).beside gb3 dab2.symm; have oc3 := (oc2.alloc _).beside gb3 dbc; have od3 := (od2.alloc _).beside gb3 dbd; have dab3 := (dab2.symm.beside (fun ad h => ((oa2.alloc _).lt_ ad h).2) ab3).symm; have dbc3 := dbc.beside (fun ad h => ((oc2.alloc _).lt_ ad h).2) ab3; have dbd3 := dbd.beside (fun ad h => ((od2.alloc _).lt_ ad h).2) ab3; clear oa2 ob2 oc2 od2 dab2 dbc dbd ab3)
        | (at_builtin; refine wpList_appI _ rfl (.tmp 35) (.tmp 41) _ rfl 5 1 Try.underlying22 info_u8 (by omega) (oc3.alloc _) rfl (Ints.one .u8 256 5 z rfl hzl rfl) rfl (by omega) (by simp; omega) ?_; intro Ac4 cc4 w4 oc4 gc4 ac4; have b4 : Below w.heap.size w w4 := below_own (b3.alloc S3 _) gc4 (by simp; omega) (fun ad h => (oc3.lt_ ad h).1); have S4 := b4.size; have oa4 := (oa3.alloc _).beside gc4 dac2.symm; have ob4 := (ob3.alloc _).beside gc4 dbc3.symm; have od4 := (od3.alloc _).beside gc4 dcd; have dac4 := (dac2.symm.beside (fun ad h => ((oa3.alloc _).lt_ ad h).2) ac4).symm; have dbc4 := (dbc3.symm.beside (fun ad h => ((ob3.alloc _).lt_ ad h).2) ac4).symm; have dcd4 := dcd.beside (fun ad h => ((od3.alloc _).lt_ ad h).2) ac4; have K0 : w4.cell? ⟨b, o + k * 3, none⟩ = some (.int .u8 (x : Int)) := (b4.cell (p := ⟨b, _, none⟩) hb).trans c0; have K1 : w4.cell? ⟨b, o + k * 3 + 1, none⟩ = some (.int .u8 (y : Int)) := (b4.cell (p := ⟨b, _, none⟩) hb).trans c1; have K2 : w4.cell? ⟨b, o + k * 3 + 2, none⟩ = some (.int .u8 (z : Int)) := (b4.cell (p := ⟨b, _, none⟩) hb).trans c2; clear oa3 ob3 oc3 od3 dac2 dbc3 dcd ac4))
      have hxy : bits .xor .u8 (x : Int) (y : Int) = ((x ^^^ y : Nat) : Int) := u8_xor_nat x y hxl hyl
      have hxyl : x ^^^ y < 256 := Nat.xor_lt_two_pow (n := 8) hxl hyl
      have hxyz : bits .xor .u8 ((x ^^^ y : Nat) : Int) (z : Int) = ((x ^^^ y ^^^ z : Nat) : Int) := u8_xor_nat _ z hxyl hzl
      have hxyzl : x ^^^ y ^^^ z < 256 := Nat.xor_lt_two_pow (n := 8) hxyl hzl
      have hv : xor3 (x, y, z) = x ^^^ y ^^^ z := rfl
      generalize x ^^^ y ^^^ z = v at *
      generalize x ^^^ y = u at *
      have HV := Lib.hid hv
      have kn : (k : Int) < (n : Int) := by omega
      clear hv C0 C1 C2
      go_region_held3 (fun w' => w'.cell? ⟨b, o + k * 3, none⟩ = some (.int .u8 (x : Int)) ∧ w'.cell? ⟨b, o + k * 3 + 1, none⟩ = some (.int .u8 (y : Int)) ∧ w'.cell? ⟨b, o + k * 3 + 2, none⟩ = some (.int .u8 (z : Int)))
        (first | exact ⟨K0, K1, K2⟩ | (have b5 : Below w.heap.size w w5 := below_own ((b4.alloc S4 _).drew) gd5 (by simp; omega) (fun ad h => (od4.lt_ ad h).1); exact ⟨(b5.cell (p := ⟨b, _, none⟩) hb).trans c0, (b5.cell (p := ⟨b, _, none⟩) hb).trans c1, (b5.cell (p := ⟨b, _, none⟩) hb).trans c2⟩) | (refine ⟨?_, ?_, ?_⟩ <;> (simp [go_sem]; first | exact (World.cell?_alloc_past _ _ _ (by omega)).trans (by assumption) | assumption)))
        ((refine step_appI _ rfl _ _ _ rfl 5 1 Try.underlying22 info_u8 (by omega) ((od4.alloc _).drew) rfl ((Ints.one .u8 256 5 v rfl hxyzl rfl).drew) rfl (by omega) (by simp; omega) ?_; intro Ad5 cd5 w5 od5 gd5 ad5))
      go_wp2_with fail
      have b5 : Below w.heap.size w w5 := below_own ((b4.alloc S4 _).drew) gd5 (by simp; omega) (fun ad h => (od4.lt_ ad h).1)
      have oa5 := ((oa4.alloc _).drew).beside gd5 dad2.symm
      have ob5 := ((ob4.alloc _).drew).beside gd5 dbd3.symm
      have oc5 := ((oc4.alloc _).drew).beside gd5 dcd4.symm
      have dad5 := (dad2.symm.beside (fun ad h => (((oa4.alloc _).drew).lt_ ad h).2) ad5).symm
      have dbd5 := (dbd3.symm.beside (fun ad h => (((ob4.alloc _).drew).lt_ ad h).2) ad5).symm
      have dcd5 := (dcd4.symm.beside (fun ad h => (((oc4.alloc _).drew).lt_ ad h).2) ad5).symm
      have ht : r.take (k + 1) = r.take k ++ [(x, y, z)] := by rw [List.take_add_one, HX.out]; rfl
      refine ⟨⟨k + 1, by omega, by go_num, Aa2, ca2, Ab3, cb3, Ac4, cc4, Ad5, cd5, rfl, rfl, rfl, rfl, ?_, ?_, ?_, ?_, dab3, dac4, dad5, dbc4, dbd5, dcd5, b5⟩, by simp [intOf]; omega⟩
      · rw [ht, List.map_append]; exact oa5
      · rw [ht, List.map_append]; exact ob5
      · rw [ht, List.map_append]; exact oc5
      · rw [ht, List.map_append, List.map_singleton, HV.out]; exact od5
    · obtain rfl : k = n := by omega
      rw [List.take_of_length_le (by rw [hr.len]; omega)] at oa ob oc od
      have hsum := sum_xor3 r hr.lt
      have la := Crc.sum_lt (r.map (·.1))
      have lb := Crc.sum_lt (r.map (·.2.1))
      have lc := Crc.sum_lt (r.map (·.2.2))
      have h1 : bits .xor .u32 ((Crc.sum (r.map (·.1)) : Nat) : Int) ((Crc.sum (r.map (·.2.1)) : Nat) : Int) = ((Crc.sum (r.map (·.1)) ^^^ Crc.sum (r.map (·.2.1)) : Nat) : Int) := u32_xor_nat _ _ la lb
      have h2 : bits .xor .u32 ((Crc.sum (r.map (·.1)) ^^^ Crc.sum (r.map (·.2.1)) : Nat) : Int) ((Crc.sum (r.map (·.2.2)) : Nat) : Int) = ((Crc.sum (r.map xor3) : Nat) : Int) := by
        rw [hsum]; exact u32_xor_nat _ _ (Nat.xor_lt_two_pow la lb) lc
      have S := bw.size
      go_wp2_with fail
      refine (sum_any _ _ _ _ _ od.ints (by omega)).mono ?_
      rintro e w4 ⟨rfl, b4⟩
      go_wp2_with fail
      refine (sum_any _ _ _ _ _ (oa.below b4).ints (by omega)).mono ?_
      rintro e w5 ⟨rfl, b5⟩
      go_wp2_with fail
      refine (sum_any _ _ _ _ _ ((ob.below b4).below b5).ints (by omega)).mono ?_
      rintro e w6 ⟨rfl, b6⟩
      go_wp2_with fail
      refine (sum_any _ _ _ _ _ (((oc.below b4).below b5).below b6).ints (by omega)).mono ?_
      rintro e w7 ⟨rfl, b7⟩
      go_wp2_with fail
      go_ret
      have B4 := below_step bw b4 bw.size
      have B5 := below_step B4 b5 B4.size
      have B6 := below_step B5 b6 B5.size
      exact ⟨rfl, below_step B6 b7 B6.size⟩
end Go.Proofs.Ytjdgkeajjmoglaa
