/- CrcSums: any bytes' sum, they sealed, and opened, are what the document says; what is sealed is opened. No condition. -/
import Derived.Test.YtjdgkeajjmoglaaCrcWalks
import Derived.Test.YtjdgkeajjmoglaaLaw
namespace Go.Proofs.Ytjdgkeajjmoglaa
open Go.ChangeShapes Go.WideShapes Go.ChangeAt Go.RowKit

def probe : List Nat := [38, 57, 244, 203, 49, 50, 51, 52, 53, 54, 55, 56, 57]
def digits9 : List Nat := [49, 50, 51, 52, 53, 54, 55, 56, 57]
theorem probe_sum : Crc.sum digits9 = 3421780262 := by decide +kernel
set_option maxRecDepth 100000 in
set_option maxHeartbeats 400000 in
theorem awake_any (w : World) : Calls Try.prog 14 #[] w fun e w' => e = .returned (.bool true) ∧ Below w.heap.size w w' := by
  have hp : Crc.sum (probe.drop 4) = Crc.num (probe.take 4) := by decide +kernel
  have kc := conv_const (P := Try.prog) 22 5 Try.underlying22 Try.underlying5
  go_enter Try.func14, Try.ntmps14
  go_wp2_with fail
  refine (open_both _ 13 13 probe _ (Ints.lit .u8 256 5 (n := 13) probe rfl rfl rfl (by decide)) (by omega) (by omega)).mono ?_
  rintro e w1 ⟨hb1, hy, _⟩
  obtain ⟨A1, c1, rfl, ho1⟩ := hy hp
  clear hy hp
  have hbel1 : Below w.heap.size w w1 := below_step ((Below.refl _ _).alloc (Nat.le_refl _) _) hb1 (by simp)
  go_wp2_with fail
  refine (open_short _ 3 3 _ (by omega)).mono ?_
  rintro e w2 ⟨rfl, rfl⟩
  go_wp2_with fail
  refine (sum_any _ 9 9 digits9 _ (Ints.lit .u8 256 5 (n := 9) digits9 (by simp) rfl rfl (by decide)) (by omega)).mono ?_
  rintro e w3 ⟨rfl, hb3⟩
  rw [probe_sum]
  go_wp2_with fail
  refine (seal_any none 0 0 [] _ (Ints.nil_ _ _ _ _ _) (by omega)).mono ?_
  rintro e w4 ⟨A4, c4, rfl, ho4, hb4⟩
  go_wp2_with fail
  go_ret
  have hs3 := hb3.size
  have hb2 := below_step ((hbel1.alloc hbel1.size (.cells #[.int .u8 1, .int .u8 2, .int .u8 3] 5)).alloc (by simp; have := hbel1.size; omega) _) hb3 (by simp; have := hbel1.size; omega)
  exact ⟨rfl, below_step hb2 hb4 hb2.size⟩

set_option maxRecDepth 100000 in
set_option maxHeartbeats 800000 in
theorem crcSums_any (A : Option Addr) (n c : Nat) (l : List Nat) (w : World) (hr : Ints w .u8 256 A n c l) (hn : n ≤ maxLen) :
    Calls Try.prog 3 #[.slice A n c] w fun e w' => e = .returned (.bool true) ∧ Below w.heap.size w w' := by
  unfold maxLen at hn
  by_cases h3 : n ≤ 3000
  · go_enter Try.func3, Try.ntmps3
    go_wp2_with fail
    refine (awake_any _).mono ?_
    rintro e w1 ⟨rfl, b1⟩
    go_wp2_with fail
    refine (open_any _ _ _ l _ (hr.below b1) (by omega)).mono ?_
    rintro e w2 ⟨A2, m2, c2, rfl, o2, b2'⟩
    have b2 := below_step b1 b2' b1.size
    go_wp2_with fail
    refine (refOpen_any _ _ _ l _ (hr.below b2) (by omega)).mono ?_
    rintro e w3 ⟨A3, m3, c3, rfl, o3, b3'⟩
    have b3 := below_step b2 b3' b2.size
    go_wp2_with fail
    refine (seal_any _ _ _ l _ (hr.below b3) (by omega)).mono ?_
    rintro e w4 ⟨A4, c4, rfl, o4, b4'⟩
    have b4 := below_step b3 b4' b3.size
    go_wp2_with fail
    refine (open_any _ _ _ _ _ o4.ints (by omega)).mono ?_
    rw [openL_seal]
    rintro e w5 ⟨A5, m5, c5, rfl, o5, b5'⟩
    have b5 := below_step b4 b5' b4.size
    go_wp2_with fail
    refine (sum_any _ _ _ l _ (hr.below b5) (by omega)).mono ?_
    rintro e w6 ⟨rfl, b6'⟩
    have b6 := below_step b5 b6' b5.size
    go_wp2_with fail
    refine (refSum_any _ _ _ l _ (hr.below b6) (by omega)).mono ?_
    rintro e w7 ⟨rfl, rfl⟩
    go_wp2_with fail
    have l2 := o2.len
    have l5 := o5.len
    have hol := openL_len l
    have hll := hr.len
    refine (rows_any _ _ _ _ _ _ _ _ _ ((((o2.below b3').below b4').below b5').below b6').ints (((o3.below b4').below b5').below b6') (by omega) (by have := o3.len; omega)).mono ?_
    rintro e w8 ⟨⟨q8, rfl⟩, rfl⟩
    go_wp2_with fail
    have b8 := below_drewN b6 q8
    refine (refSeal_any _ _ _ l _ (hr.below b8) (by omega)).mono ?_
    rintro e w9 ⟨A9, c9, rfl, o9, b9'⟩
    have b9 := below_step b8 b9' b8.size
    go_wp2_with fail
    refine (rows_any _ _ _ _ _ _ _ _ _ ((((o4.below b5').below b6').drewN q8).below b9').ints o9.ints (by omega) (by omega)).mono ?_
    rintro e w10 ⟨⟨q10, rfl⟩, rfl⟩
    go_wp2_with fail
    have b10 := below_drewN b9 q10
    refine (rows_any _ _ _ _ _ _ _ _ _ (((((o5.below b6').drewN q8).below b9').drewN q10)).ints (hr.below b10) (by omega) (by omega)).mono ?_
    rintro e w11 ⟨⟨q11, rfl⟩, rfl⟩
    go_wp2_with fail
    go_ret
    exact ⟨rfl, below_drewN b9 (q10 + q11)⟩
  · go_enter Try.func3, Try.ntmps3
    go_wp2_with (go_at_call 14; refine (awake_any _).mono ?_; rintro e w1 ⟨rfl, b1⟩)
    go_ret
    exact ⟨rfl, b1⟩

set_option maxRecDepth 100000 in
theorem crcSums_lifted (os : Os) (started : os.Started) (H : Type) (enc : TypeId × Value → H) :
    ReturnsInHanded {} Try.checked os 3 .any (Rows.crcSumsSpec.pre6 enc Try.prog Try.f3 Rows.crcSumsRow.domain false) (Rows.crcSumsSpec.post enc Try.prog Try.f3 false true false false) := by
  refine returnsInHanded_of_change (C := Try.checked) (by kernel_rfl) started (by kernel_rfl) Try.func3
    (ChangeSpec.witness6 (enc := enc) (C := Try.checked) false ⟨#[], #[.slice none 0 0], []⟩ 8 (by kernel_rfl) (by kernel_rfl) (by kernel_rfl) (by kernel_rfl)) ?_
  intro W base args ds gs before hval0 hW _ _
  have hval : ∀ (j : Nat) t v, Try.f3.params[j]? = some t → args[j]? = some v → Value.okWide Try.prog W .any base t v := hval0
  have hlt : ∀ x ∈ before, x.block < W.heap.size := fun x hx => hW.lt x hx
  have hW' := hW
  obtain ⟨p, q, hA0, hV, rfl, _, _⟩ := hW
  have hA : DataW.TrodAll enc Try.prog W 0 (fun _ => true) true Try.f3.params.toList args.toList ds p := hA0
  rw [Try.params3] at hA hval
  obtain ⟨v0, d0, rfl, rfl, h0⟩ := trodAll_one hA
  obtain ⟨rfl, rfl⟩ := trodVars_none hV
  obtain ⟨A, n, c, l, rfl, hr, hn⟩ := arg_ints 256 Try.underlying22 Try.underlying5 (by kernel_rfl) wf_u8 (hval 0 22 v0 rfl rfl) h0 (fun x hx => hlt x (by simp [hx]))
  refine (crcSums_any A n c l W hr hn).mono fun e W' ⟨he, hb⟩ => ?_
  subst he
  exact ⟨_, rfl, law_post (by kernel_rfl) (by kernel_rfl) rfl rfl Try.underlying4 hW' rfl rfl rfl hb⟩

theorem crcSums_holds : Rows.CrcSumsSaid :=
  OpenClaim.holds_of_wide 3 Try.f3 rfl rfl rfl rfl rfl rfl rfl ⟨rfl, rfl, rfl, rfl, rfl⟩ rfl rfl rfl rfl rfl (by kernel_rfl) Try.func3 (by kernel_rfl)
    (of_decide_eq_true (by kernel_rfl)) (by unfold Func.isWrapper; rw [if_neg (of_decide_eq_false (by kernel_rfl))]; exact ⟨rfl, rfl⟩)
    (fun os started H enc _ => crcSums_lifted os started H enc)
#print axioms crcSums_holds
end Go.Proofs.Ytjdgkeajjmoglaa
