/- The law CellTurned, walked. No condition but the reach of a slice. -/
import Derived.Test.YtfoeapjlklfjgaaDoorCellN
namespace Go.Proofs.YtfoeapjlklfjgaaDoor
set_option linter.unusedSimpArgs false
set_option linter.unusedVariables false
open Go.RowKit

set_option maxRecDepth 100000 in
set_option maxHeartbeats 6400000 in
theorem cellTurned_any (gs sq : Nat) (pt ps : Int) (A : Option Addr) (n c : Nat) (l : List Nat) (at_ y : Nat) (w : World) (hX : CEl.Lim w ⟨⟨gs, sq, pt, ps, l⟩, A, n, c⟩) (hat : at_ < 256) (hy : y < 256) :
    Calls Tryd.prog 6 #[.agg #[.int .u32 (gs : Int), .int .u32 (sq : Int), .int .i64 pt, .int .i64 ps, .slice A n c], .int .u8 (at_ : Int), .int .u8 (y : Int)] w fun e w' => e = .returned (.bool true) ∧ Below w.heap.size w w' := by
  have hgs := hX.gen
  have hsq := hX.seq
  have hps := hX.parts
  have hok := hX.ok
  have hlen := hX.ints.len
  dsimp only at hgs hsq hps hok hlen
  have hml : Cl.may ⟨gs, sq, pt, ps, l⟩ = mayN pt ps n := by rw [may_eq, hlen]
  have E0 := ((CE.nil_ w).addI hX.ints).alloc 25 #[.int .u32 (gs : Int), .int .u32 (sq : Int), .int .i64 pt, .int .i64 ps, .slice A n c] rfl
  dsimp only at E0
  clear hX
  cases hm : mayN pt ps n with
  | false =>
    rw [hm] at hml
    have HE := Lib.hid (And.intro (encL_no hml) hm)
    clear hml hm hok hlen
    go_enter Tryd.func6, Tryd.ntmps6
    go_wp2_with fail
    refine (cawake_any _).mono ?_; rintro e w1 ⟨rfl, hb1⟩
    have E1 := E0.below hb1
    clear E0 hb1
    have k0 := E1.cell 0 0 rfl rfl
    have k1 := E1.cell 0 1 rfl rfl
    have k2 := E1.cell 0 2 rfl rfl
    have k3 := E1.cell 0 3 rfl rfl
    have k4 := E1.cell 0 4 rfl rfl
    go_wp2_with fail
    refine (enc_c hgs hsq hps (E1.i 0 rfl) HE.out.1.2 HE.out.1.1 (m := 0) rfl).mono ?_; rintro e w2 ⟨A2, c2, rfl, hi2, hb2⟩
    have E2 := E1.below hb2
    clear E1 hi2 hb2 k0 k1 k2 k3 k4
    have k0 := E2.cell 0 0 rfl rfl
    have k1 := E2.cell 0 1 rfl rfl
    have k2 := E2.cell 0 2 rfl rfl
    have k3 := E2.cell 0 3 rfl rfl
    have k4 := E2.cell 0 4 rfl rfl
    go_wp2_with fail
    refine (may_c gs sq pt ps A n c _ hps HE.out.2).mono ?_; rintro e w3 ⟨rfl, hb3⟩
    have E3 := E2.below hb3
    clear E2 hb3 k0 k1 k2 k3 k4
    go_wp2_with fail
    go_ret
    exact ⟨rfl, E3.bel⟩
  | true =>
    rw [hm] at hml
    have h49 := (mayN_iff.1 hm).2.2.2.2.2.1
    obtain ⟨sq', hsq'⟩ : ∃ q, (sq + 1) % 4294967296 = q := ⟨_, rfl⟩
    have hsq2 : sq' < 4294967296 := by rw [← hsq']; exact Nat.mod_lt _ (by decide)
    have hsqi : ((sq : Int) + 1) % 4294967296 = (sq' : Int) := by omega
    have hne : sq ≠ sq' := by omega
    have hmy : Cl.may ⟨gs, sq', pt, ps, l⟩ = true := by rw [may_eq, hlen]; exact hm
    have hoky : Cl.Ok ⟨gs, sq', pt, ps, l⟩ := ⟨hok.gen, hsq2, hok.data⟩
    obtain ⟨S, hS⟩ : ∃ S, Cl.enc ⟨gs, sq, pt, ps, l⟩ = S := ⟨_, rfl⟩
    obtain ⟨T, hT⟩ : ∃ S, Cl.enc ⟨gs, sq', pt, ps, l⟩ = S := ⟨_, rfl⟩
    have hST : decide (S = T) = false := decide_eq_false (fun e => hne (congrArg Cl.seq (Cl.enc_inj hok hoky hml hmy (by rw [hS, hT]; exact e))))
    have hSl : S.length = 64 := by rw [← hS]; exact Cl.enc_len (by show l.length ≤ 49; omega)
    have hTl : T.length = 64 := by rw [← hT]; exact Cl.enc_len (by show l.length ≤ 49; omega)
    have hE1 := encL_yes hml
    have hE2 := encL_yes hmy
    rw [hS] at hE1
    rw [hT] at hE2
    obtain ⟨k, hk⟩ : ∃ k, at_ % 64 = k := ⟨_, rfl⟩
    have hk64 : k < 64 := by omega
    have hki : (at_ : Int) % 64 = (k : Int) := by omega
    have hturn := fun v hv => Cl.isEnc_turned (k := k) (v := v) (y := y) hok hml hv hy
    rw [hS] at hturn
    have HE := Lib.hid (And.intro hE1 (And.intro hE2 (And.intro hST (And.intro hSl (And.intro hTl hturn)))))
    clear hml hm hok hlen hS hT hST hSl hTl hE1 hE2 hturn hmy hoky hne hsq' hk h49
    go_enter Tryd.func6, Tryd.ntmps6
    go_wp2_with fail
    refine (cawake_any _).mono ?_; rintro e w1 ⟨rfl, hb1⟩
    have E1 := E0.below hb1
    clear E0 hb1
    have k0 := E1.cell 0 0 rfl rfl
    have k1 := E1.cell 0 1 rfl rfl
    have k2 := E1.cell 0 2 rfl rfl
    have k3 := E1.cell 0 3 rfl rfl
    have k4 := E1.cell 0 4 rfl rfl
    go_wp2_with fail
    refine (enc_c hgs hsq hps (E1.i 0 rfl) HE.out.1.2 HE.out.1.1 HE.out.2.2.2.1).mono ?_; rintro e w2 ⟨A2, c2, rfl, hi2, hb2⟩
    have E2 := (E1.below hb2).addI hi2
    clear E1 hi2 hb2 k0 k1 k2 k3 k4
    go_upto_region 9 with (at_builtin; refine wpList_appI _ rfl (.tmp 34) (.tmp 35) _ rfl 5 1 Tryd.underlying23 dinfo_u8 (by omega) (OwnI.empty (base := w2.heap.size) .u8 256 5 rfl (Nat.le_refl _)) rfl ((E2.i 0 rfl).alloc _) rfl (by omega) (by simp) ?_; intro A3 c3 w3 o3 g3 a3)
    simp only [List.nil_append, Nat.zero_add] at o3
    have b3 : Below w2.heap.size w2 w3 := below_own ((Below.refl w2.heap.size w2).alloc (Nat.le_refl _) _) g3 (by simp) (by simp)
    obtain ⟨g, v, rfl, hg1, hg2, hv, hvl, hcell, hfr⟩ := o3.get (k := k) (by omega)
    have hx := u8_xor_nat v y hvl hy
    have hz : v ^^^ y < 256 := Nat.xor_lt_two_pow (n := 8) hvl hy
    have o4 := o3.stored k (v ^^^ y) hz
    have E4 := ((E2.below (b3.setCell (p := ⟨g, k, none⟩) hg1 (.int .u8 ((v ^^^ y : Nat) : Int))))).addI o4.ints
    obtain ⟨d, hd⟩ : ∃ d, Cl.dec (S.set k (v ^^^ y)) = d := ⟨_, rfl⟩
    obtain ⟨dg, ds, dp, dq, dd⟩ := d
    obtain ⟨bb, hbb⟩ : ∃ b, decide (y = 0) = b := ⟨_, rfl⟩
    have hen := HE.out.2.2.2.2.2 v hv
    rw [hbb] at hen
    obtain ⟨cd, hcd⟩ : ∃ d, Cl.code (S.set k (v ^^^ y)) = d := ⟨_, rfl⟩
    have hcq : (cd == 0) = bb := by rw [← hcd]; unfold Cl.code; rw [hen]; cases bb <;> rfl
    have hyq : ((y : Int) == 0) = bb := by
      cases bb with
      | true => have := of_decide_eq_true hbb; simp [this]
      | false => have := of_decide_eq_false hbb; simp; omega
    have HD := Lib.hid (And.intro hd hcd)
    clear hd hcd hen hbb o3 g3 a3 b3 o4 hv E2
    go_wp2_with fail
    refine (dec_c (E4.i 0 rfl) (by decide) HD.out.1 HD.out.2 rfl).mono ?_; rintro e w5 ⟨A5, c5, rfl, hi5, hb5⟩
    have E5 := ((E4.below hb5).alloc 25 #[.int .u32 (dg : Int), .int .u32 (ds : Int), .int .i64 dp, .int .i64 dq, .slice A5 dd.length c5] rfl)
    clear E4 hi5 hb5 hcell hfr hx
    have k0 := E5.cell 1 0 rfl rfl
    have k1 := E5.cell 1 1 rfl rfl
    have k2 := E5.cell 1 2 rfl rfl
    have k3 := E5.cell 1 3 rfl rfl
    have k4 := E5.cell 1 4 rfl rfl
    go_upto_region 12 with (fail)
    have E6 := E5.alloc 25 #[.int .u32 (gs : Int), .int .u32 (sq : Int), .int .i64 pt, .int .i64 ps, .slice A n c] rfl
    clear k0 k1 k2 k3 k4
    have k0 := E6.cell 2 0 rfl rfl
    have k1 := E6.cell 2 1 rfl rfl
    have k2 := E6.cell 2 2 rfl rfl
    have k3 := E6.cell 2 3 rfl rfl
    have k4 := E6.cell 2 4 rfl rfl
    have j0 := E6.cell 0 0 rfl rfl
    have j1 := E6.cell 0 1 rfl rfl
    have j2 := E6.cell 0 2 rfl rfl
    have j3 := E6.cell 0 3 rfl rfl
    have j4 := E6.cell 0 4 rfl rfl
    have fr := E6.frozen 0 1 rfl
    go_upto_region 13 with (fail)
    have E7 := E5.alloc 25 #[.int .u32 (gs : Int), .int .u32 (sq' : Int), .int .i64 pt, .int .i64 ps, .slice A n c] rfl
    clear k0 k1 k2 k3 k4 j0 j1 j2 j3 j4 fr E5 E6
    have k0 := E7.cell 0 0 rfl rfl
    have k1 := E7.cell 0 1 rfl rfl
    have k2 := E7.cell 0 2 rfl rfl
    have k3 := E7.cell 0 3 rfl rfl
    have k4 := E7.cell 0 4 rfl rfl
    go_wp2_with fail
    refine (enc_c hgs hsq2 hps (E7.i 2 rfl) HE.out.2.1.2 HE.out.2.1.1 HE.out.2.2.2.2.1).mono ?_; rintro e w8 ⟨A8, c8, rfl, hi8, hb8⟩
    have E8 := (E7.below hb8).addI hi8
    clear E7 hi8 hb8 k0 k1 k2 k3 k4
    have hbb : (bb == bb) = true := by simp
    go_wp2_with fail
    refine (rows_c (E8.i 2 rfl) (E8.i 0 rfl) (by omega) (by omega) HE.out.2.2.1).mono ?_; rintro e w9 ⟨rfl, hb9⟩
    have E9 := E8.below hb9
    clear E8 hb9
    go_wp2_with fail
    go_ret
    exact ⟨rfl, E9.bel⟩
end Go.Proofs.YtfoeapjlklfjgaaDoor
