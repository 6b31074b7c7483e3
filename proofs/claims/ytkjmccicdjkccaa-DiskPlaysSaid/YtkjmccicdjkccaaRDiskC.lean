/- The contract of heijunkaref05's lay. No condition but that its choices lie off the disk. -/
import Derived.Test.YtkjmccicdjkccaaRDiskB
import Derived.Deep.DeepCutAuto
namespace Go.Proofs.Ytkjmccicdjkccaa
set_option linter.unusedSimpArgs false
set_option linter.unusedVariables false
open Go.RowKit

/-- What is there behind 'lay'. -/
def layOf (s : DSt) (all : Bool) (cl : List Nat) : List (List Nat) := if all then DSt.lay s.sure s.pend else DSt.layBy s.sure s.pend cl
/-- What is still to be laid comes to that. -/
def layTo (s : DSt) (all : Bool) (cl : List Nat) (k : Nat) (su : List (List Nat)) : Prop := (if all then DSt.lay su (s.pend.drop k) else DSt.layBy su (s.pend.drop k) (cl.drop k)) = layOf s all cl
theorem layTo_zero (s : DSt) (all : Bool) (cl : List Nat) : layTo s all cl 0 s.sure := rfl
theorem layTo_end {s : DSt} {all : Bool} {cl : List Nat} {k : Nat} {su : List (List Nat)} (h : layTo s all cl k su) (hk : s.pend.length ≤ k) : su = layOf s all cl := by
  unfold layTo at h
  rw [List.drop_eq_nil_of_le hk] at h
  rw [← h]
  cases all <;> rfl
theorem layTo_all {s : DSt} {cl : List Nat} {k i : Nat} {l : List Nat} {su : List (List Nat)} (h : layTo s true cl k su) (hp : s.pend[k]? = some (i, l)) : layTo s true cl (k + 1) (su.set i l) := by
  unfold layTo at h ⊢
  rw [if_pos rfl] at h ⊢
  rw [← h]
  exact (lay_drop hp).symm
theorem layTo_by {s : DSt} {cl : List Nat} {k i : Nat} {l : List Nat} {su : List (List Nat)} (h : layTo s false cl k su) (hp : s.pend[k]? = some (i, l)) : layTo s false cl (k + 1) (if cl.getD k 0 % 3 = 1 then su.set i l else if cl.getD k 0 % 3 = 2 then su.set i [] else su) := by
  unfold layTo at h ⊢
  rw [if_neg (by decide)] at h ⊢
  rw [← h]
  exact (layBy_step hp).symm

section
variable {w : World} {T : List Nat} {g : Nat} {s : DSt} {BA : Option Addr} {n bc : Nat} {GA : Option Addr} {gc : Nat} {AA : Option Addr} {m ac : Nat} {NA : Option Addr} {nc : Nat} {st : Int} {xs : List BEl} {bs : List Bool} {ks : List Nat} {ys : List BEl}
set_option maxRecDepth 100000 in
set_option maxHeartbeats 12800000 in
theorem rlay_in (h : RIn w T g s BA n bc GA gc AA m ac NA nc st xs bs ks ys) (all : Bool) {cA : Option Addr} {cn cc : Nat} {cl : List Nat} (hC : Ints w .u8 256 cA cn cc cl) (hoff : 0 < cn → ∀ ad, cA = some ad → ad.block ∉ T) (hcn : cn ≤ 1099511627776) (hm1 : m < 1099511627776) :
    Calls Try.prog 36 #[.pointer (some ⟨g, 0, none⟩), .slice cA cn cc, .bool all] w fun e w' => (∃ v, e = .returned v) ∧ ∃ T' xs' bs', RIn w' T' g { s with sure := layOf s all cl, pend := [] } BA n bc GA gc none 0 0 none 0 st xs' bs' [] [] ∧ Moved w w' T T' := by
  have HO := Lib.hid hoff
  have HC := Lib.hid hC
  have hcl := hC.len
  have hwf := h.wf
  have hpm := h.m_eq
  have HP := Lib.hid hpm
  clear hC hoff hpm
  have R0 : RIn w T g { s with sure := s.sure } BA n bc GA gc AA m ac NA nc st xs bs ks ys := h
  have hs0 : ∀ z, z = s.sure → RIn w T g { s with sure := z } BA n bc GA gc AA m ac NA nc st xs bs ks ys := fun z e => by subst e; exact h
  have R00 := hs0 _ h.es.symm
  have HES := Lib.hid h.es
  clear h R0 hs0
  go_enter Try.func36, Try.ntmps36
  go_wp2_with fail
  go_loopw [6] (fun v wr => ∃ (k : Nat) (xs : List BEl) (bs : List Bool), k ≤ m ∧ v = .int .i64 (k : Int) ∧ RIn wr T g { s with sure := tornBy bs xs } BA n bc GA gc AA m ac NA nc st xs bs ks ys ∧ Moved w wr T T ∧ Hid (layTo s all cl k (tornBy bs xs))) (fun v _ => m - (intOf v).toNat)
  case atStart => exact ⟨0, xs, bs, Nat.zero_le _, rfl, R00, Moved.refl w T, (show layTo s all cl 0 (tornBy bs xs) by rw [← HES.out]; exact layTo_zero s all cl)⟩
  case round =>
    obtain ⟨k, xs, bs, hk, rfl, R, M, hL⟩ := hrel
    clear R00
    have HL := Lib.hid hL.out
    clear hL
    by_cases hkm : k < m
    · obtain ⟨i, y, a, e, hki, hyk, yin, rfl, rfl, ca, ce, hpk, hin, hyl⟩ := R.py hkm
      obtain ⟨x0, q0, b, d, hx0, _, hq0, rfl, rfl, cb, fb, cdd, fd, hs0⟩ := R.sx hin
      have hbl : bs.length = xs.length := by rw [R.bl, R.xl]
      have HPK := Lib.hid (And.intro hpk hbl)
      clear ca ce cb fb cdd fd hs0 hx0 hq0 yin hpk hyl hbl
      have g2 := R.c2
      have t1 : (k : Int) < (m : Int) := by omega
      have hi0 : (i : Int) < (n : Int) := by omega
      have hC2 := ints_moved HC.out HO.out M
      obtain ⟨cv, hcv⟩ : ∃ z, cl.getD k 0 % 3 = z := ⟨_, rfl⟩
      have hcv3 : cv < 3 := by rw [← hcv]; exact Nat.mod_lt _ (by decide)
      have HCV := Lib.hid hcv
      go_upto_if 20 with (fail)
      go_cut [7] (fun v7 wx => v7 = .int .i64 (cv : Int) ∧ wx = wr)
      case first =>
        by_cases hkc : k < cn
        · have t2 : (k : Int) < (cn : Int) := by omega
          obtain ⟨bb, oo, xx, eA, _, hxx, hxl, hc⟩ := hC2.get hkc
          subst eA
          have hx3 : xx % 3 = cv := by rw [← hcv, List.getD_eq_getElem?_getD, hxx]; rfl
          have hxi : (xx : Int) % 3 = (cv : Int) := by omega
          clear hx3 hcv hxx
          go_wp2_with fail
          go_meet
          exact ⟨rfl, rfl⟩
        · have t2 : ¬ (k : Int) < (cn : Int) := by omega
          have hcv0 : cv = 0 := by rw [← hcv, List.getD_eq_getElem?_getD, List.getElem?_eq_none (by omega)]; rfl
          subst hcv0
          clear hcv
          go_wp2_with fail
          go_meet
          exact ⟨rfl, rfl⟩
      case rest =>
        obtain ⟨rfl, rfl⟩ := hcut
        clear hC2 g2 hcv
        cases all with
        | true =>
          have HLW := Lib.hid (show layTo s true cl (k + 1) (tornBy (bs.set i false) (xs.set i y)) by rw [tornBy_write HPK.out.2]; exact layTo_all HL.out HPK.out.1)
          go_wp2_with fail
          have yin0 := R.yin y (List.mem_of_getElem? hyk)
          have R1 := R.drew
          have M1 := M.drew
          obtain ⟨x1, q1, _, _, hx1, _, hq1, eb1, ed1, cb1, fb1, cd1, fd1, hs1⟩ := R1.sx hin
          cases eb1
          cases ed1
          obtain ⟨i1, y1, _, _, hi1, hy1, yin1, ea1, ee1, ca1, ce1, _, _, hyl1⟩ := R1.py hkm
          cases ea1
          cases ee1
          rw [hki] at hi1
          cases hi1
          rw [hyk] at hy1
          cases hy1
          have s7 := And.intro R1.c0 (And.intro R1.c2 (And.intro R1.c3 (And.intro ca1 ce1)))
          have R2 := R.setB (i := i) yin0 hyl1
          have HR2 := Lib.hid (And.intro R2.1.drew (M.trans R2.2).drew)
          clear R1 M1 R M R2 hx1 hq1 cd1 fd1 hs1 ca1 ce1 yin1 yin0
          refine wp_region_late [19] (fun w' => w'.cell? ⟨g, 0, none⟩ = some (.slice (some ⟨b, 0, none⟩) n bc) ∧ w'.cell? ⟨g, 2, none⟩ = some (.slice (some ⟨a, 0, none⟩) m ac) ∧ w'.cell? ⟨g, 3, none⟩ = some (.slice (some ⟨e, 0, none⟩) m nc) ∧ w'.cell? ⟨a, k, none⟩ = some (.int .i64 (i : Int)) ∧ w'.cell? ⟨e, k, none⟩ = some (.slice y.A y.n y.c)) (by kernel_rfl) ?_
          refine wpAnyL_take (i := 0) (v := ?_) rfl (by kernel_rfl) (by kernel_rfl) (by kernel_rfl) (by kernel_rfl) (by kernel_rfl) (fun _ _ _ h => h) (Or.inl ⟨by kernel_rfl, ?_⟩) s7 ?_
          rotate_left
          · rintro w0 ⟨h1_, h2_, h3_, h4_, h5_⟩; go_simp; (try with_reducible rfl)
          try simp only [Act.put, List.getElem_toArray, List.getElem_cons_succ, List.getElem_cons_zero, List.setIfInBounds_toArray, List.set_cons_zero, List.set_cons_succ]
          refine wpAnyL_take (i := 1) (v := ?_) rfl (by kernel_rfl) (by kernel_rfl) (by kernel_rfl) (by kernel_rfl) (by kernel_rfl) (fun _ _ _ h => h) (Or.inl ⟨by kernel_rfl, ?_⟩) s7 ?_
          rotate_left
          · rintro w0 ⟨h1_, h2_, h3_, h4_, h5_⟩; go_simp; (try with_reducible rfl)
          try simp only [Act.put, List.getElem_toArray, List.getElem_cons_succ, List.getElem_cons_zero, List.setIfInBounds_toArray, List.set_cons_zero, List.set_cons_succ]
          refine wpAnyL_take (i := 2) (v := ?_) rfl (by kernel_rfl) (by kernel_rfl) (by kernel_rfl) (by kernel_rfl) (by kernel_rfl) (fun _ _ _ h => h) (Or.inl ⟨by kernel_rfl, ?_⟩) s7 ?_
          rotate_left
          · rintro w0 ⟨h1_, h2_, h3_, h4_, h5_⟩; go_simp; (try with_reducible rfl)
          try simp only [Act.put, List.getElem_toArray, List.getElem_cons_succ, List.getElem_cons_zero, List.setIfInBounds_toArray, List.set_cons_zero, List.set_cons_succ]
          refine wpAnyL_take (i := 3) (v := ?_) rfl (by kernel_rfl) (by kernel_rfl) (by kernel_rfl) (by kernel_rfl) (by kernel_rfl) (fun _ _ _ h => h) (Or.inl ⟨by kernel_rfl, ?_⟩) s7 ?_
          rotate_left
          · rintro w0 ⟨h1_, h2_, h3_, h4_, h5_⟩; go_simp; (try with_reducible rfl)
          try simp only [Act.put, List.getElem_toArray, List.getElem_cons_succ, List.getElem_cons_zero, List.setIfInBounds_toArray, List.set_cons_zero, List.set_cons_succ]
          refine wpAnyL_take (i := 4) (v := ?_) rfl (by kernel_rfl) (by kernel_rfl) (by kernel_rfl) (by kernel_rfl) (by kernel_rfl) (fun _ _ _ h => h) (Or.inl ⟨by kernel_rfl, ?_⟩) s7 ?_
          rotate_left
          · rintro w0 ⟨h1_, h2_, h3_, h4_, h5_⟩; go_simp; (try with_reducible rfl)
          try simp only [Act.put, List.getElem_toArray, List.getElem_cons_succ, List.getElem_cons_zero, List.setIfInBounds_toArray, List.set_cons_zero, List.set_cons_succ]
          refine wpAnyL_take (i := 5) (v := ?_) rfl (by kernel_rfl) (by kernel_rfl) (by kernel_rfl) (by kernel_rfl) (by kernel_rfl) (fun _ _ _ h => h) (Or.inl ⟨by kernel_rfl, ?_⟩) s7 ?_
          rotate_left
          · rintro w0 ⟨h1_, h2_, h3_, h4_, h5_⟩; go_simp; (try with_reducible rfl)
          try simp only [Act.put, List.getElem_toArray, List.getElem_cons_succ, List.getElem_cons_zero, List.setIfInBounds_toArray, List.set_cons_zero, List.set_cons_succ]
          refine wpAnyL_take (i := 6) (v := ?_) rfl (by kernel_rfl) (by kernel_rfl) (by kernel_rfl) (by kernel_rfl) (by kernel_rfl) (fun _ _ _ h => h) (Or.inl ⟨by kernel_rfl, ?_⟩) s7 ?_
          rotate_left
          · rintro w0 ⟨h1_, h2_, h3_, h4_, h5_⟩; go_simp; (try with_reducible rfl)
          try simp only [Act.put, List.getElem_toArray, List.getElem_cons_succ, List.getElem_cons_zero, List.setIfInBounds_toArray, List.set_cons_zero, List.set_cons_succ]
          refine wpAnyL_take (i := 7) (v := ?_) rfl (by kernel_rfl) (by kernel_rfl) (by kernel_rfl) (by kernel_rfl) (by kernel_rfl) (fun _ _ _ h => h) (Or.inl ⟨by kernel_rfl, ?_⟩) s7 ?_
          rotate_left
          · rintro w0 ⟨h1_, h2_, h3_, h4_, h5_⟩; go_simp; (try with_reducible rfl)
          try simp only [Act.put, List.getElem_toArray, List.getElem_cons_succ, List.getElem_cons_zero, List.setIfInBounds_toArray, List.set_cons_zero, List.set_cons_succ]
          refine wpAnyL_take (i := 8) (v := ?_) rfl (by kernel_rfl) (by kernel_rfl) (by kernel_rfl) (by kernel_rfl) (by kernel_rfl) (fun _ _ _ h => h) (Or.inl ⟨by kernel_rfl, ?_⟩) s7 ?_
          rotate_left
          · rintro w0 ⟨h1_, h2_, h3_, h4_, h5_⟩; go_simp; (try with_reducible rfl)
          try simp only [Act.put, List.getElem_toArray, List.getElem_cons_succ, List.getElem_cons_zero, List.setIfInBounds_toArray, List.set_cons_zero, List.set_cons_succ]
          refine wpAnyL_take (i := 9) (v := ?_) rfl (by kernel_rfl) (by kernel_rfl) (by kernel_rfl) (by kernel_rfl) (by kernel_rfl) (fun _ _ _ h => h) (Or.inl ⟨by kernel_rfl, ?_⟩) s7 ?_
          rotate_left
          · rintro w0 ⟨h1_, h2_, h3_, h4_, h5_⟩; go_simp; (try with_reducible rfl)
          try simp only [Act.put, List.getElem_toArray, List.getElem_cons_succ, List.getElem_cons_zero, List.setIfInBounds_toArray, List.set_cons_zero, List.set_cons_succ]
          refine wpAnyL_take (i := 10) (v := ?_) rfl (by kernel_rfl) (by kernel_rfl) (by kernel_rfl) (by kernel_rfl) (by kernel_rfl) (fun _ _ _ h => h) (Or.inl ⟨by kernel_rfl, ?_⟩) s7 ?_
          rotate_left
          · rintro w0 ⟨h1_, h2_, h3_, h4_, h5_⟩; go_simp; (try with_reducible rfl)
          try simp only [Act.put, List.getElem_toArray, List.getElem_cons_succ, List.getElem_cons_zero, List.setIfInBounds_toArray, List.set_cons_zero, List.set_cons_succ]
          refine wpAnyL_take (i := 11) (v := ?_) rfl (by kernel_rfl) (by kernel_rfl) (by kernel_rfl) (by kernel_rfl) (by kernel_rfl) (fun _ _ _ h => h) (Or.inl ⟨by kernel_rfl, ?_⟩) s7 ?_
          rotate_left
          · rintro w0 ⟨h1_, h2_, h3_, h4_, h5_⟩; go_simp; (try with_reducible rfl)
          try simp only [Act.put, List.getElem_toArray, List.getElem_cons_succ, List.getElem_cons_zero, List.setIfInBounds_toArray, List.set_cons_zero, List.set_cons_succ]
          refine wpAnyL_take (i := 12) (v := ?_) rfl (by kernel_rfl) (by kernel_rfl) (by kernel_rfl) (by kernel_rfl) (by kernel_rfl) (fun _ _ _ h => h) (Or.inl ⟨by kernel_rfl, ?_⟩) s7 ?_
          rotate_left
          · rintro w0 ⟨h1_, h2_, h3_, h4_, h5_⟩; go_simp; (try with_reducible rfl)
          try simp only [Act.put, List.getElem_toArray, List.getElem_cons_succ, List.getElem_cons_zero, List.setIfInBounds_toArray, List.set_cons_zero, List.set_cons_succ]
          refine wpAnyL_take (i := 13) (v := ?_) rfl (by kernel_rfl) (by kernel_rfl) (by kernel_rfl) (by kernel_rfl) (by kernel_rfl) (fun _ _ _ h => h) (Or.inl ⟨by kernel_rfl, ?_⟩) s7 ?_
          rotate_left
          · rintro w0 ⟨h1_, h2_, h3_, h4_, h5_⟩; go_simp; (try with_reducible rfl)
          try simp only [Act.put, List.getElem_toArray, List.getElem_cons_succ, List.getElem_cons_zero, List.setIfInBounds_toArray, List.set_cons_zero, List.set_cons_succ]
          refine wpAnyL_take (i := 14) (v := ?_) rfl (by kernel_rfl) (by kernel_rfl) (by kernel_rfl) (by kernel_rfl) (by kernel_rfl) (fun _ _ _ h => h) (Or.inl ⟨by kernel_rfl, ?_⟩) s7 ?_
          rotate_left
          · rintro w0 ⟨h1_, h2_, h3_, h4_, h5_⟩; go_simp; (try with_reducible rfl)
          try simp only [Act.put, List.getElem_toArray, List.getElem_cons_succ, List.getElem_cons_zero, List.setIfInBounds_toArray, List.set_cons_zero, List.set_cons_succ]
          refine wpAnyL_take (i := 15) (v := ?_) rfl (by kernel_rfl) (by kernel_rfl) (by kernel_rfl) (by kernel_rfl) (by kernel_rfl) (fun _ _ _ h => h) (Or.inl ⟨by kernel_rfl, ?_⟩) s7 ?_
          rotate_left
          · rintro w0 ⟨h1_, h2_, h3_, h4_, h5_⟩; go_simp; (try with_reducible rfl)
          try simp only [Act.put, List.getElem_toArray, List.getElem_cons_succ, List.getElem_cons_zero, List.setIfInBounds_toArray, List.set_cons_zero, List.set_cons_succ]
          refine wpAnyL_take (i := 16) (v := ?_) rfl (by kernel_rfl) (by kernel_rfl) (by kernel_rfl) (by kernel_rfl) (by kernel_rfl) (fun _ _ _ h => h) (Or.inl ⟨by kernel_rfl, ?_⟩) s7 ?_
          rotate_left
          · rintro w0 ⟨h1_, h2_, h3_, h4_, h5_⟩; go_simp; (try with_reducible rfl)
          try simp only [Act.put, List.getElem_toArray, List.getElem_cons_succ, List.getElem_cons_zero, List.setIfInBounds_toArray, List.set_cons_zero, List.set_cons_succ]
          refine wpAnyL_take (i := 17) (v := ?_) rfl (by kernel_rfl) (by kernel_rfl) (by kernel_rfl) (by kernel_rfl) (by kernel_rfl) (fun _ _ _ h => h) (Or.inl ⟨by kernel_rfl, ?_⟩) s7 ?_
          rotate_left
          · rintro w0 ⟨h1_, h2_, h3_, h4_, h5_⟩; go_simp; (try with_reducible rfl)
          try simp only [Act.put, List.getElem_toArray, List.getElem_cons_succ, List.getElem_cons_zero, List.setIfInBounds_toArray, List.set_cons_zero, List.set_cons_succ]
          refine wpAnyL_take (i := 18) (v := ?_) rfl (by kernel_rfl) (by kernel_rfl) (by kernel_rfl) (by kernel_rfl) (by kernel_rfl) (fun _ _ _ h => h) (Or.inl ⟨by kernel_rfl, ?_⟩) s7 ?_
          rotate_left
          · rintro w0 ⟨h1_, h2_, h3_, h4_, h5_⟩; go_simp; (try with_reducible rfl)
          try simp only [Act.put, List.getElem_toArray, List.getElem_cons_succ, List.getElem_cons_zero, List.setIfInBounds_toArray, List.set_cons_zero, List.set_cons_succ]
          refine wpAnyL_one (i := 19) (by kernel_rfl) rfl (fun K hK => ?_)
          go_simp
          refine hK.out _ _ (fun h => absurd (by simp) h) ?_
          clear hK K
          try simp only [Act.put, List.getElem_toArray, List.getElem_cons_succ, List.getElem_cons_zero, List.setIfInBounds_toArray, List.set_cons_zero, List.set_cons_succ]
          refine wpAnyL_done (by kernel_rfl) ?_ _
          obtain ⟨R, M⟩ := HR2.out
          clear cb1 fb1 s7 HR2
          dsimp only [BEl.v] at R M
          generalize World.drew (World.setCell _ ⟨b, i, none⟩ _) = w7 at *
          go_wp2_with fail
          have R1 := R.drew
          have M1 := M.drew
          obtain ⟨x1, q1, _, _, hx1, _, hq1, eb1, ed1, cb1, fb1, cd1, fd1, hs1⟩ := R1.sx hin
          cases eb1
          cases ed1
          obtain ⟨i1, y1, _, _, hi1, hy1, yin1, ea1, ee1, ca1, ce1, _, _, hyl1⟩ := R1.py hkm
          cases ea1
          cases ee1
          rw [hki] at hi1
          cases hi1
          rw [hyk] at hy1
          cases hy1
          have s8 := And.intro R1.c1 (And.intro R1.c2 ca1)
          have R2 := R.setG (i := i) (q := false)
          have HR2 := Lib.hid (And.intro R2.1.drew (M.trans R2.2).drew)
          clear R1 M1 R M R2 hx1 hq1 cb1 fb1 hs1 ca1 ce1 yin1
          refine wp_region_late [12] (fun w' => w'.cell? ⟨g, 1, none⟩ = some (.slice (some ⟨d, 0, none⟩) n gc) ∧ w'.cell? ⟨g, 2, none⟩ = some (.slice (some ⟨a, 0, none⟩) m ac) ∧ w'.cell? ⟨a, k, none⟩ = some (.int .i64 (i : Int))) (by kernel_rfl) ?_
          refine wpAnyL_take (i := 0) (v := ?_) rfl (by kernel_rfl) (by kernel_rfl) (by kernel_rfl) (by kernel_rfl) (by kernel_rfl) (fun _ _ _ h => h) (Or.inl ⟨by kernel_rfl, ?_⟩) s8 ?_
          rotate_left
          · rintro w0 ⟨h1_, h2_, h3_⟩; go_simp; (try with_reducible rfl)
          try simp only [Act.put, List.getElem_toArray, List.getElem_cons_succ, List.getElem_cons_zero, List.setIfInBounds_toArray, List.set_cons_zero, List.set_cons_succ]
          refine wpAnyL_take (i := 1) (v := ?_) rfl (by kernel_rfl) (by kernel_rfl) (by kernel_rfl) (by kernel_rfl) (by kernel_rfl) (fun _ _ _ h => h) (Or.inl ⟨by kernel_rfl, ?_⟩) s8 ?_
          rotate_left
          · rintro w0 ⟨h1_, h2_, h3_⟩; go_simp; (try with_reducible rfl)
          try simp only [Act.put, List.getElem_toArray, List.getElem_cons_succ, List.getElem_cons_zero, List.setIfInBounds_toArray, List.set_cons_zero, List.set_cons_succ]
          refine wpAnyL_take (i := 2) (v := ?_) rfl (by kernel_rfl) (by kernel_rfl) (by kernel_rfl) (by kernel_rfl) (by kernel_rfl) (fun _ _ _ h => h) (Or.inl ⟨by kernel_rfl, ?_⟩) s8 ?_
          rotate_left
          · rintro w0 ⟨h1_, h2_, h3_⟩; go_simp; (try with_reducible rfl)
          try simp only [Act.put, List.getElem_toArray, List.getElem_cons_succ, List.getElem_cons_zero, List.setIfInBounds_toArray, List.set_cons_zero, List.set_cons_succ]
          refine wpAnyL_take (i := 3) (v := ?_) rfl (by kernel_rfl) (by kernel_rfl) (by kernel_rfl) (by kernel_rfl) (by kernel_rfl) (fun _ _ _ h => h) (Or.inl ⟨by kernel_rfl, ?_⟩) s8 ?_
          rotate_left
          · rintro w0 ⟨h1_, h2_, h3_⟩; go_simp; (try with_reducible rfl)
          try simp only [Act.put, List.getElem_toArray, List.getElem_cons_succ, List.getElem_cons_zero, List.setIfInBounds_toArray, List.set_cons_zero, List.set_cons_succ]
          refine wpAnyL_take (i := 4) (v := ?_) rfl (by kernel_rfl) (by kernel_rfl) (by kernel_rfl) (by kernel_rfl) (by kernel_rfl) (fun _ _ _ h => h) (Or.inl ⟨by kernel_rfl, ?_⟩) s8 ?_
          rotate_left
          · rintro w0 ⟨h1_, h2_, h3_⟩; go_simp; (try with_reducible rfl)
          try simp only [Act.put, List.getElem_toArray, List.getElem_cons_succ, List.getElem_cons_zero, List.setIfInBounds_toArray, List.set_cons_zero, List.set_cons_succ]
          refine wpAnyL_take (i := 5) (v := ?_) rfl (by kernel_rfl) (by kernel_rfl) (by kernel_rfl) (by kernel_rfl) (by kernel_rfl) (fun _ _ _ h => h) (Or.inl ⟨by kernel_rfl, ?_⟩) s8 ?_
          rotate_left
          · rintro w0 ⟨h1_, h2_, h3_⟩; go_simp; (try with_reducible rfl)
          try simp only [Act.put, List.getElem_toArray, List.getElem_cons_succ, List.getElem_cons_zero, List.setIfInBounds_toArray, List.set_cons_zero, List.set_cons_succ]
          refine wpAnyL_take (i := 6) (v := ?_) rfl (by kernel_rfl) (by kernel_rfl) (by kernel_rfl) (by kernel_rfl) (by kernel_rfl) (fun _ _ _ h => h) (Or.inl ⟨by kernel_rfl, ?_⟩) s8 ?_
          rotate_left
          · rintro w0 ⟨h1_, h2_, h3_⟩; go_simp; (try with_reducible rfl)
          try simp only [Act.put, List.getElem_toArray, List.getElem_cons_succ, List.getElem_cons_zero, List.setIfInBounds_toArray, List.set_cons_zero, List.set_cons_succ]
          refine wpAnyL_take (i := 7) (v := ?_) rfl (by kernel_rfl) (by kernel_rfl) (by kernel_rfl) (by kernel_rfl) (by kernel_rfl) (fun _ _ _ h => h) (Or.inl ⟨by kernel_rfl, ?_⟩) s8 ?_
          rotate_left
          · rintro w0 ⟨h1_, h2_, h3_⟩; go_simp; (try with_reducible rfl)
          try simp only [Act.put, List.getElem_toArray, List.getElem_cons_succ, List.getElem_cons_zero, List.setIfInBounds_toArray, List.set_cons_zero, List.set_cons_succ]
          refine wpAnyL_take (i := 8) (v := ?_) rfl (by kernel_rfl) (by kernel_rfl) (by kernel_rfl) (by kernel_rfl) (by kernel_rfl) (fun _ _ _ h => h) (Or.inl ⟨by kernel_rfl, ?_⟩) s8 ?_
          rotate_left
          · rintro w0 ⟨h1_, h2_, h3_⟩; go_simp; (try with_reducible rfl)
          try simp only [Act.put, List.getElem_toArray, List.getElem_cons_succ, List.getElem_cons_zero, List.setIfInBounds_toArray, List.set_cons_zero, List.set_cons_succ]
          refine wpAnyL_take (i := 9) (v := ?_) rfl (by kernel_rfl) (by kernel_rfl) (by kernel_rfl) (by kernel_rfl) (by kernel_rfl) (fun _ _ _ h => h) (Or.inl ⟨by kernel_rfl, ?_⟩) s8 ?_
          rotate_left
          · rintro w0 ⟨h1_, h2_, h3_⟩; go_simp; (try with_reducible rfl)
          try simp only [Act.put, List.getElem_toArray, List.getElem_cons_succ, List.getElem_cons_zero, List.setIfInBounds_toArray, List.set_cons_zero, List.set_cons_succ]
          refine wpAnyL_take (i := 10) (v := ?_) rfl (by kernel_rfl) (by kernel_rfl) (by kernel_rfl) (by kernel_rfl) (by kernel_rfl) (fun _ _ _ h => h) (Or.inl ⟨by kernel_rfl, ?_⟩) s8 ?_
          rotate_left
          · rintro w0 ⟨h1_, h2_, h3_⟩; go_simp; (try with_reducible rfl)
          try simp only [Act.put, List.getElem_toArray, List.getElem_cons_succ, List.getElem_cons_zero, List.setIfInBounds_toArray, List.set_cons_zero, List.set_cons_succ]
          refine wpAnyL_take (i := 11) (v := ?_) rfl (by kernel_rfl) (by kernel_rfl) (by kernel_rfl) (by kernel_rfl) (by kernel_rfl) (fun _ _ _ h => h) (Or.inl ⟨by kernel_rfl, ?_⟩) s8 ?_
          rotate_left
          · rintro w0 ⟨h1_, h2_, h3_⟩; go_simp; (try with_reducible rfl)
          try simp only [Act.put, List.getElem_toArray, List.getElem_cons_succ, List.getElem_cons_zero, List.setIfInBounds_toArray, List.set_cons_zero, List.set_cons_succ]
          refine wpAnyL_one (i := 12) (by kernel_rfl) rfl (fun K hK => ?_)
          go_simp
          refine hK.out _ _ (fun h => absurd (by simp) h) ?_
          clear hK K
          try simp only [Act.put, List.getElem_toArray, List.getElem_cons_succ, List.getElem_cons_zero, List.setIfInBounds_toArray, List.set_cons_zero, List.set_cons_succ]
          refine wpAnyL_done (by kernel_rfl) ?_ _
          obtain ⟨R, M⟩ := HR2.out
          clear cd1 fd1 s8 HR2
          generalize World.drew (World.setCell _ ⟨d, i, none⟩ _) = w8 at *
          go_wp2_with fail
          go_roundw
          case rel => exact ⟨k + 1, xs.set i y, bs.set i false, by omega, by go_num, R, M, HLW.out⟩
          case measure => simp [intOf]; omega
        | false =>
          have hby := layTo_by HL.out HPK.out.1
          rw [HCV.out] at hby
          rcases (show cv = 1 ∨ cv = 2 ∨ cv = 0 by omega) with rfl | rfl | rfl
          · have HLW := Lib.hid (show layTo s false cl (k + 1) (tornBy (bs.set i false) (xs.set i y)) by rw [tornBy_write HPK.out.2]; exact hby)
            clear hby
            go_wp2_with fail
            have yin0 := R.yin y (List.mem_of_getElem? hyk)
            have R1 := R.drew
            have M1 := M.drew
            obtain ⟨x1, q1, _, _, hx1, _, hq1, eb1, ed1, cb1, fb1, cd1, fd1, hs1⟩ := R1.sx hin
            cases eb1
            cases ed1
            obtain ⟨i1, y1, _, _, hi1, hy1, yin1, ea1, ee1, ca1, ce1, _, _, hyl1⟩ := R1.py hkm
            cases ea1
            cases ee1
            rw [hki] at hi1
            cases hi1
            rw [hyk] at hy1
            cases hy1
            have s7 := And.intro R1.c0 (And.intro R1.c2 (And.intro R1.c3 (And.intro ca1 ce1)))
            have R2 := R.setB (i := i) yin0 hyl1
            have HR2 := Lib.hid (And.intro R2.1.drew (M.trans R2.2).drew)
            clear R1 M1 R M R2 hx1 hq1 cd1 fd1 hs1 ca1 ce1 yin1 yin0
            refine wp_region_late [19] (fun w' => w'.cell? ⟨g, 0, none⟩ = some (.slice (some ⟨b, 0, none⟩) n bc) ∧ w'.cell? ⟨g, 2, none⟩ = some (.slice (some ⟨a, 0, none⟩) m ac) ∧ w'.cell? ⟨g, 3, none⟩ = some (.slice (some ⟨e, 0, none⟩) m nc) ∧ w'.cell? ⟨a, k, none⟩ = some (.int .i64 (i : Int)) ∧ w'.cell? ⟨e, k, none⟩ = some (.slice y.A y.n y.c)) (by kernel_rfl) ?_
            refine wpAnyL_take (i := 0) (v := ?_) rfl (by kernel_rfl) (by kernel_rfl) (by kernel_rfl) (by kernel_rfl) (by kernel_rfl) (fun _ _ _ h => h) (Or.inl ⟨by kernel_rfl, ?_⟩) s7 ?_
            rotate_left
            · rintro w0 ⟨h1_, h2_, h3_, h4_, h5_⟩; go_simp; (try with_reducible rfl)
            try simp only [Act.put, List.getElem_toArray, List.getElem_cons_succ, List.getElem_cons_zero, List.setIfInBounds_toArray, List.set_cons_zero, List.set_cons_succ]
            refine wpAnyL_take (i := 1) (v := ?_) rfl (by kernel_rfl) (by kernel_rfl) (by kernel_rfl) (by kernel_rfl) (by kernel_rfl) (fun _ _ _ h => h) (Or.inl ⟨by kernel_rfl, ?_⟩) s7 ?_
            rotate_left
            · rintro w0 ⟨h1_, h2_, h3_, h4_, h5_⟩; go_simp; (try with_reducible rfl)
            try simp only [Act.put, List.getElem_toArray, List.getElem_cons_succ, List.getElem_cons_zero, List.setIfInBounds_toArray, List.set_cons_zero, List.set_cons_succ]
            refine wpAnyL_take (i := 2) (v := ?_) rfl (by kernel_rfl) (by kernel_rfl) (by kernel_rfl) (by kernel_rfl) (by kernel_rfl) (fun _ _ _ h => h) (Or.inl ⟨by kernel_rfl, ?_⟩) s7 ?_
            rotate_left
            · rintro w0 ⟨h1_, h2_, h3_, h4_, h5_⟩; go_simp; (try with_reducible rfl)
            try simp only [Act.put, List.getElem_toArray, List.getElem_cons_succ, List.getElem_cons_zero, List.setIfInBounds_toArray, List.set_cons_zero, List.set_cons_succ]
            refine wpAnyL_take (i := 3) (v := ?_) rfl (by kernel_rfl) (by kernel_rfl) (by kernel_rfl) (by kernel_rfl) (by kernel_rfl) (fun _ _ _ h => h) (Or.inl ⟨by kernel_rfl, ?_⟩) s7 ?_
            rotate_left
            · rintro w0 ⟨h1_, h2_, h3_, h4_, h5_⟩; go_simp; (try with_reducible rfl)
            try simp only [Act.put, List.getElem_toArray, List.getElem_cons_succ, List.getElem_cons_zero, List.setIfInBounds_toArray, List.set_cons_zero, List.set_cons_succ]
            refine wpAnyL_take (i := 4) (v := ?_) rfl (by kernel_rfl) (by kernel_rfl) (by kernel_rfl) (by kernel_rfl) (by kernel_rfl) (fun _ _ _ h => h) (Or.inl ⟨by kernel_rfl, ?_⟩) s7 ?_
            rotate_left
            · rintro w0 ⟨h1_, h2_, h3_, h4_, h5_⟩; go_simp; (try with_reducible rfl)
            try simp only [Act.put, List.getElem_toArray, List.getElem_cons_succ, List.getElem_cons_zero, List.setIfInBounds_toArray, List.set_cons_zero, List.set_cons_succ]
            refine wpAnyL_take (i := 5) (v := ?_) rfl (by kernel_rfl) (by kernel_rfl) (by kernel_rfl) (by kernel_rfl) (by kernel_rfl) (fun _ _ _ h => h) (Or.inl ⟨by kernel_rfl, ?_⟩) s7 ?_
            rotate_left
            · rintro w0 ⟨h1_, h2_, h3_, h4_, h5_⟩; go_simp; (try with_reducible rfl)
            try simp only [Act.put, List.getElem_toArray, List.getElem_cons_succ, List.getElem_cons_zero, List.setIfInBounds_toArray, List.set_cons_zero, List.set_cons_succ]
            refine wpAnyL_take (i := 6) (v := ?_) rfl (by kernel_rfl) (by kernel_rfl) (by kernel_rfl) (by kernel_rfl) (by kernel_rfl) (fun _ _ _ h => h) (Or.inl ⟨by kernel_rfl, ?_⟩) s7 ?_
            rotate_left
            · rintro w0 ⟨h1_, h2_, h3_, h4_, h5_⟩; go_simp; (try with_reducible rfl)
            try simp only [Act.put, List.getElem_toArray, List.getElem_cons_succ, List.getElem_cons_zero, List.setIfInBounds_toArray, List.set_cons_zero, List.set_cons_succ]
            refine wpAnyL_take (i := 7) (v := ?_) rfl (by kernel_rfl) (by kernel_rfl) (by kernel_rfl) (by kernel_rfl) (by kernel_rfl) (fun _ _ _ h => h) (Or.inl ⟨by kernel_rfl, ?_⟩) s7 ?_
            rotate_left
            · rintro w0 ⟨h1_, h2_, h3_, h4_, h5_⟩; go_simp; (try with_reducible rfl)
            try simp only [Act.put, List.getElem_toArray, List.getElem_cons_succ, List.getElem_cons_zero, List.setIfInBounds_toArray, List.set_cons_zero, List.set_cons_succ]
            refine wpAnyL_take (i := 8) (v := ?_) rfl (by kernel_rfl) (by kernel_rfl) (by kernel_rfl) (by kernel_rfl) (by kernel_rfl) (fun _ _ _ h => h) (Or.inl ⟨by kernel_rfl, ?_⟩) s7 ?_
            rotate_left
            · rintro w0 ⟨h1_, h2_, h3_, h4_, h5_⟩; go_simp; (try with_reducible rfl)
            try simp only [Act.put, List.getElem_toArray, List.getElem_cons_succ, List.getElem_cons_zero, List.setIfInBounds_toArray, List.set_cons_zero, List.set_cons_succ]
            refine wpAnyL_take (i := 9) (v := ?_) rfl (by kernel_rfl) (by kernel_rfl) (by kernel_rfl) (by kernel_rfl) (by kernel_rfl) (fun _ _ _ h => h) (Or.inl ⟨by kernel_rfl, ?_⟩) s7 ?_
            rotate_left
            · rintro w0 ⟨h1_, h2_, h3_, h4_, h5_⟩; go_simp; (try with_reducible rfl)
            try simp only [Act.put, List.getElem_toArray, List.getElem_cons_succ, List.getElem_cons_zero, List.setIfInBounds_toArray, List.set_cons_zero, List.set_cons_succ]
            refine wpAnyL_take (i := 10) (v := ?_) rfl (by kernel_rfl) (by kernel_rfl) (by kernel_rfl) (by kernel_rfl) (by kernel_rfl) (fun _ _ _ h => h) (Or.inl ⟨by kernel_rfl, ?_⟩) s7 ?_
            rotate_left
            · rintro w0 ⟨h1_, h2_, h3_, h4_, h5_⟩; go_simp; (try with_reducible rfl)
            try simp only [Act.put, List.getElem_toArray, List.getElem_cons_succ, List.getElem_cons_zero, List.setIfInBounds_toArray, List.set_cons_zero, List.set_cons_succ]
            refine wpAnyL_take (i := 11) (v := ?_) rfl (by kernel_rfl) (by kernel_rfl) (by kernel_rfl) (by kernel_rfl) (by kernel_rfl) (fun _ _ _ h => h) (Or.inl ⟨by kernel_rfl, ?_⟩) s7 ?_
            rotate_left
            · rintro w0 ⟨h1_, h2_, h3_, h4_, h5_⟩; go_simp; (try with_reducible rfl)
            try simp only [Act.put, List.getElem_toArray, List.getElem_cons_succ, List.getElem_cons_zero, List.setIfInBounds_toArray, List.set_cons_zero, List.set_cons_succ]
            refine wpAnyL_take (i := 12) (v := ?_) rfl (by kernel_rfl) (by kernel_rfl) (by kernel_rfl) (by kernel_rfl) (by kernel_rfl) (fun _ _ _ h => h) (Or.inl ⟨by kernel_rfl, ?_⟩) s7 ?_
            rotate_left
            · rintro w0 ⟨h1_, h2_, h3_, h4_, h5_⟩; go_simp; (try with_reducible rfl)
            try simp only [Act.put, List.getElem_toArray, List.getElem_cons_succ, List.getElem_cons_zero, List.setIfInBounds_toArray, List.set_cons_zero, List.set_cons_succ]
            refine wpAnyL_take (i := 13) (v := ?_) rfl (by kernel_rfl) (by kernel_rfl) (by kernel_rfl) (by kernel_rfl) (by kernel_rfl) (fun _ _ _ h => h) (Or.inl ⟨by kernel_rfl, ?_⟩) s7 ?_
            rotate_left
            · rintro w0 ⟨h1_, h2_, h3_, h4_, h5_⟩; go_simp; (try with_reducible rfl)
            try simp only [Act.put, List.getElem_toArray, List.getElem_cons_succ, List.getElem_cons_zero, List.setIfInBounds_toArray, List.set_cons_zero, List.set_cons_succ]
            refine wpAnyL_take (i := 14) (v := ?_) rfl (by kernel_rfl) (by kernel_rfl) (by kernel_rfl) (by kernel_rfl) (by kernel_rfl) (fun _ _ _ h => h) (Or.inl ⟨by kernel_rfl, ?_⟩) s7 ?_
            rotate_left
            · rintro w0 ⟨h1_, h2_, h3_, h4_, h5_⟩; go_simp; (try with_reducible rfl)
            try simp only [Act.put, List.getElem_toArray, List.getElem_cons_succ, List.getElem_cons_zero, List.setIfInBounds_toArray, List.set_cons_zero, List.set_cons_succ]
            refine wpAnyL_take (i := 15) (v := ?_) rfl (by kernel_rfl) (by kernel_rfl) (by kernel_rfl) (by kernel_rfl) (by kernel_rfl) (fun _ _ _ h => h) (Or.inl ⟨by kernel_rfl, ?_⟩) s7 ?_
            rotate_left
            · rintro w0 ⟨h1_, h2_, h3_, h4_, h5_⟩; go_simp; (try with_reducible rfl)
            try simp only [Act.put, List.getElem_toArray, List.getElem_cons_succ, List.getElem_cons_zero, List.setIfInBounds_toArray, List.set_cons_zero, List.set_cons_succ]
            refine wpAnyL_take (i := 16) (v := ?_) rfl (by kernel_rfl) (by kernel_rfl) (by kernel_rfl) (by kernel_rfl) (by kernel_rfl) (fun _ _ _ h => h) (Or.inl ⟨by kernel_rfl, ?_⟩) s7 ?_
            rotate_left
            · rintro w0 ⟨h1_, h2_, h3_, h4_, h5_⟩; go_simp; (try with_reducible rfl)
            try simp only [Act.put, List.getElem_toArray, List.getElem_cons_succ, List.getElem_cons_zero, List.setIfInBounds_toArray, List.set_cons_zero, List.set_cons_succ]
            refine wpAnyL_take (i := 17) (v := ?_) rfl (by kernel_rfl) (by kernel_rfl) (by kernel_rfl) (by kernel_rfl) (by kernel_rfl) (fun _ _ _ h => h) (Or.inl ⟨by kernel_rfl, ?_⟩) s7 ?_
            rotate_left
            · rintro w0 ⟨h1_, h2_, h3_, h4_, h5_⟩; go_simp; (try with_reducible rfl)
            try simp only [Act.put, List.getElem_toArray, List.getElem_cons_succ, List.getElem_cons_zero, List.setIfInBounds_toArray, List.set_cons_zero, List.set_cons_succ]
            refine wpAnyL_take (i := 18) (v := ?_) rfl (by kernel_rfl) (by kernel_rfl) (by kernel_rfl) (by kernel_rfl) (by kernel_rfl) (fun _ _ _ h => h) (Or.inl ⟨by kernel_rfl, ?_⟩) s7 ?_
            rotate_left
            · rintro w0 ⟨h1_, h2_, h3_, h4_, h5_⟩; go_simp; (try with_reducible rfl)
            try simp only [Act.put, List.getElem_toArray, List.getElem_cons_succ, List.getElem_cons_zero, List.setIfInBounds_toArray, List.set_cons_zero, List.set_cons_succ]
            refine wpAnyL_one (i := 19) (by kernel_rfl) rfl (fun K hK => ?_)
            go_simp
            refine hK.out _ _ (fun h => absurd (by simp) h) ?_
            clear hK K
            try simp only [Act.put, List.getElem_toArray, List.getElem_cons_succ, List.getElem_cons_zero, List.setIfInBounds_toArray, List.set_cons_zero, List.set_cons_succ]
            refine wpAnyL_done (by kernel_rfl) ?_ _
            obtain ⟨R, M⟩ := HR2.out
            clear cb1 fb1 s7 HR2
            dsimp only [BEl.v] at R M
            generalize World.drew (World.setCell _ ⟨b, i, none⟩ _) = w7 at *
            go_wp2_with fail
            have R1 := R.drew
            have M1 := M.drew
            obtain ⟨x1, q1, _, _, hx1, _, hq1, eb1, ed1, cb1, fb1, cd1, fd1, hs1⟩ := R1.sx hin
            cases eb1
            cases ed1
            obtain ⟨i1, y1, _, _, hi1, hy1, yin1, ea1, ee1, ca1, ce1, _, _, hyl1⟩ := R1.py hkm
            cases ea1
            cases ee1
            rw [hki] at hi1
            cases hi1
            rw [hyk] at hy1
            cases hy1
            have s8 := And.intro R1.c1 (And.intro R1.c2 ca1)
            have R2 := R.setG (i := i) (q := false)
            have HR2 := Lib.hid (And.intro R2.1.drew (M.trans R2.2).drew)
            clear R1 M1 R M R2 hx1 hq1 cb1 fb1 hs1 ca1 ce1 yin1
            refine wp_region_late [12] (fun w' => w'.cell? ⟨g, 1, none⟩ = some (.slice (some ⟨d, 0, none⟩) n gc) ∧ w'.cell? ⟨g, 2, none⟩ = some (.slice (some ⟨a, 0, none⟩) m ac) ∧ w'.cell? ⟨a, k, none⟩ = some (.int .i64 (i : Int))) (by kernel_rfl) ?_
            refine wpAnyL_take (i := 0) (v := ?_) rfl (by kernel_rfl) (by kernel_rfl) (by kernel_rfl) (by kernel_rfl) (by kernel_rfl) (fun _ _ _ h => h) (Or.inl ⟨by kernel_rfl, ?_⟩) s8 ?_
            rotate_left
            · rintro w0 ⟨h1_, h2_, h3_⟩; go_simp; (try with_reducible rfl)
            try simp only [Act.put, List.getElem_toArray, List.getElem_cons_succ, List.getElem_cons_zero, List.setIfInBounds_toArray, List.set_cons_zero, List.set_cons_succ]
            refine wpAnyL_take (i := 1) (v := ?_) rfl (by kernel_rfl) (by kernel_rfl) (by kernel_rfl) (by kernel_rfl) (by kernel_rfl) (fun _ _ _ h => h) (Or.inl ⟨by kernel_rfl, ?_⟩) s8 ?_
            rotate_left
            · rintro w0 ⟨h1_, h2_, h3_⟩; go_simp; (try with_reducible rfl)
            try simp only [Act.put, List.getElem_toArray, List.getElem_cons_succ, List.getElem_cons_zero, List.setIfInBounds_toArray, List.set_cons_zero, List.set_cons_succ]
            refine wpAnyL_take (i := 2) (v := ?_) rfl (by kernel_rfl) (by kernel_rfl) (by kernel_rfl) (by kernel_rfl) (by kernel_rfl) (fun _ _ _ h => h) (Or.inl ⟨by kernel_rfl, ?_⟩) s8 ?_
            rotate_left
            · rintro w0 ⟨h1_, h2_, h3_⟩; go_simp; (try with_reducible rfl)
            try simp only [Act.put, List.getElem_toArray, List.getElem_cons_succ, List.getElem_cons_zero, List.setIfInBounds_toArray, List.set_cons_zero, List.set_cons_succ]
            refine wpAnyL_take (i := 3) (v := ?_) rfl (by kernel_rfl) (by kernel_rfl) (by kernel_rfl) (by kernel_rfl) (by kernel_rfl) (fun _ _ _ h => h) (Or.inl ⟨by kernel_rfl, ?_⟩) s8 ?_
            rotate_left
            · rintro w0 ⟨h1_, h2_, h3_⟩; go_simp; (try with_reducible rfl)
            try simp only [Act.put, List.getElem_toArray, List.getElem_cons_succ, List.getElem_cons_zero, List.setIfInBounds_toArray, List.set_cons_zero, List.set_cons_succ]
            refine wpAnyL_take (i := 4) (v := ?_) rfl (by kernel_rfl) (by kernel_rfl) (by kernel_rfl) (by kernel_rfl) (by kernel_rfl) (fun _ _ _ h => h) (Or.inl ⟨by kernel_rfl, ?_⟩) s8 ?_
            rotate_left
            · rintro w0 ⟨h1_, h2_, h3_⟩; go_simp; (try with_reducible rfl)
            try simp only [Act.put, List.getElem_toArray, List.getElem_cons_succ, List.getElem_cons_zero, List.setIfInBounds_toArray, List.set_cons_zero, List.set_cons_succ]
            refine wpAnyL_take (i := 5) (v := ?_) rfl (by kernel_rfl) (by kernel_rfl) (by kernel_rfl) (by kernel_rfl) (by kernel_rfl) (fun _ _ _ h => h) (Or.inl ⟨by kernel_rfl, ?_⟩) s8 ?_
            rotate_left
            · rintro w0 ⟨h1_, h2_, h3_⟩; go_simp; (try with_reducible rfl)
            try simp only [Act.put, List.getElem_toArray, List.getElem_cons_succ, List.getElem_cons_zero, List.setIfInBounds_toArray, List.set_cons_zero, List.set_cons_succ]
            refine wpAnyL_take (i := 6) (v := ?_) rfl (by kernel_rfl) (by kernel_rfl) (by kernel_rfl) (by kernel_rfl) (by kernel_rfl) (fun _ _ _ h => h) (Or.inl ⟨by kernel_rfl, ?_⟩) s8 ?_
            rotate_left
            · rintro w0 ⟨h1_, h2_, h3_⟩; go_simp; (try with_reducible rfl)
            try simp only [Act.put, List.getElem_toArray, List.getElem_cons_succ, List.getElem_cons_zero, List.setIfInBounds_toArray, List.set_cons_zero, List.set_cons_succ]
            refine wpAnyL_take (i := 7) (v := ?_) rfl (by kernel_rfl) (by kernel_rfl) (by kernel_rfl) (by kernel_rfl) (by kernel_rfl) (fun _ _ _ h => h) (Or.inl ⟨by kernel_rfl, ?_⟩) s8 ?_
            rotate_left
            · rintro w0 ⟨h1_, h2_, h3_⟩; go_simp; (try with_reducible rfl)
            try simp only [Act.put, List.getElem_toArray, List.getElem_cons_succ, List.getElem_cons_zero, List.setIfInBounds_toArray, List.set_cons_zero, List.set_cons_succ]
            refine wpAnyL_take (i := 8) (v := ?_) rfl (by kernel_rfl) (by kernel_rfl) (by kernel_rfl) (by kernel_rfl) (by kernel_rfl) (fun _ _ _ h => h) (Or.inl ⟨by kernel_rfl, ?_⟩) s8 ?_
            rotate_left
            · rintro w0 ⟨h1_, h2_, h3_⟩; go_simp; (try with_reducible rfl)
            try simp only [Act.put, List.getElem_toArray, List.getElem_cons_succ, List.getElem_cons_zero, List.setIfInBounds_toArray, List.set_cons_zero, List.set_cons_succ]
            refine wpAnyL_take (i := 9) (v := ?_) rfl (by kernel_rfl) (by kernel_rfl) (by kernel_rfl) (by kernel_rfl) (by kernel_rfl) (fun _ _ _ h => h) (Or.inl ⟨by kernel_rfl, ?_⟩) s8 ?_
            rotate_left
            · rintro w0 ⟨h1_, h2_, h3_⟩; go_simp; (try with_reducible rfl)
            try simp only [Act.put, List.getElem_toArray, List.getElem_cons_succ, List.getElem_cons_zero, List.setIfInBounds_toArray, List.set_cons_zero, List.set_cons_succ]
            refine wpAnyL_take (i := 10) (v := ?_) rfl (by kernel_rfl) (by kernel_rfl) (by kernel_rfl) (by kernel_rfl) (by kernel_rfl) (fun _ _ _ h => h) (Or.inl ⟨by kernel_rfl, ?_⟩) s8 ?_
            rotate_left
            · rintro w0 ⟨h1_, h2_, h3_⟩; go_simp; (try with_reducible rfl)
            try simp only [Act.put, List.getElem_toArray, List.getElem_cons_succ, List.getElem_cons_zero, List.setIfInBounds_toArray, List.set_cons_zero, List.set_cons_succ]
            refine wpAnyL_take (i := 11) (v := ?_) rfl (by kernel_rfl) (by kernel_rfl) (by kernel_rfl) (by kernel_rfl) (by kernel_rfl) (fun _ _ _ h => h) (Or.inl ⟨by kernel_rfl, ?_⟩) s8 ?_
            rotate_left
            · rintro w0 ⟨h1_, h2_, h3_⟩; go_simp; (try with_reducible rfl)
            try simp only [Act.put, List.getElem_toArray, List.getElem_cons_succ, List.getElem_cons_zero, List.setIfInBounds_toArray, List.set_cons_zero, List.set_cons_succ]
            refine wpAnyL_one (i := 12) (by kernel_rfl) rfl (fun K hK => ?_)
            go_simp
            refine hK.out _ _ (fun h => absurd (by simp) h) ?_
            clear hK K
            try simp only [Act.put, List.getElem_toArray, List.getElem_cons_succ, List.getElem_cons_zero, List.setIfInBounds_toArray, List.set_cons_zero, List.set_cons_succ]
            refine wpAnyL_done (by kernel_rfl) ?_ _
            obtain ⟨R, M⟩ := HR2.out
            clear cd1 fd1 s8 HR2
            generalize World.drew (World.setCell _ ⟨d, i, none⟩ _) = w8 at *
            go_wp2_with fail
            go_roundw
            case rel => exact ⟨k + 1, xs.set i y, bs.set i false, by omega, by go_num, R, M, HLW.out⟩
            case measure => simp [intOf]; omega
          · have HLW := Lib.hid (show layTo s false cl (k + 1) (tornBy (bs.set i true) xs) by rw [tornBy_tear HPK.out.2]; exact hby)
            clear hby
            go_wp2_with fail
            have R1 := R.drew
            have M1 := M.drew
            obtain ⟨x1, q1, _, _, hx1, _, hq1, eb1, ed1, cb1, fb1, cd1, fd1, hs1⟩ := R1.sx hin
            cases eb1
            cases ed1
            obtain ⟨i1, y1, _, _, hi1, hy1, yin1, ea1, ee1, ca1, ce1, _, _, hyl1⟩ := R1.py hkm
            cases ea1
            cases ee1
            rw [hki] at hi1
            cases hi1
            rw [hyk] at hy1
            cases hy1
            have s8 := And.intro R1.c1 (And.intro R1.c2 ca1)
            have R2 := R.setG (i := i) (q := true)
            have HR2 := Lib.hid (And.intro R2.1.drew (M.trans R2.2).drew)
            clear R1 M1 R M R2 hx1 hq1 cb1 fb1 hs1 ca1 ce1 yin1
            refine wp_region_late [12] (fun w' => w'.cell? ⟨g, 1, none⟩ = some (.slice (some ⟨d, 0, none⟩) n gc) ∧ w'.cell? ⟨g, 2, none⟩ = some (.slice (some ⟨a, 0, none⟩) m ac) ∧ w'.cell? ⟨a, k, none⟩ = some (.int .i64 (i : Int))) (by kernel_rfl) ?_
            refine wpAnyL_take (i := 0) (v := ?_) rfl (by kernel_rfl) (by kernel_rfl) (by kernel_rfl) (by kernel_rfl) (by kernel_rfl) (fun _ _ _ h => h) (Or.inl ⟨by kernel_rfl, ?_⟩) s8 ?_
            rotate_left
            · rintro w0 ⟨h1_, h2_, h3_⟩; go_simp; (try with_reducible rfl)
            try simp only [Act.put, List.getElem_toArray, List.getElem_cons_succ, List.getElem_cons_zero, List.setIfInBounds_toArray, List.set_cons_zero, List.set_cons_succ]
            refine wpAnyL_take (i := 1) (v := ?_) rfl (by kernel_rfl) (by kernel_rfl) (by kernel_rfl) (by kernel_rfl) (by kernel_rfl) (fun _ _ _ h => h) (Or.inl ⟨by kernel_rfl, ?_⟩) s8 ?_
            rotate_left
            · rintro w0 ⟨h1_, h2_, h3_⟩; go_simp; (try with_reducible rfl)
            try simp only [Act.put, List.getElem_toArray, List.getElem_cons_succ, List.getElem_cons_zero, List.setIfInBounds_toArray, List.set_cons_zero, List.set_cons_succ]
            refine wpAnyL_take (i := 2) (v := ?_) rfl (by kernel_rfl) (by kernel_rfl) (by kernel_rfl) (by kernel_rfl) (by kernel_rfl) (fun _ _ _ h => h) (Or.inl ⟨by kernel_rfl, ?_⟩) s8 ?_
            rotate_left
            · rintro w0 ⟨h1_, h2_, h3_⟩; go_simp; (try with_reducible rfl)
            try simp only [Act.put, List.getElem_toArray, List.getElem_cons_succ, List.getElem_cons_zero, List.setIfInBounds_toArray, List.set_cons_zero, List.set_cons_succ]
            refine wpAnyL_take (i := 3) (v := ?_) rfl (by kernel_rfl) (by kernel_rfl) (by kernel_rfl) (by kernel_rfl) (by kernel_rfl) (fun _ _ _ h => h) (Or.inl ⟨by kernel_rfl, ?_⟩) s8 ?_
            rotate_left
            · rintro w0 ⟨h1_, h2_, h3_⟩; go_simp; (try with_reducible rfl)
            try simp only [Act.put, List.getElem_toArray, List.getElem_cons_succ, List.getElem_cons_zero, List.setIfInBounds_toArray, List.set_cons_zero, List.set_cons_succ]
            refine wpAnyL_take (i := 4) (v := ?_) rfl (by kernel_rfl) (by kernel_rfl) (by kernel_rfl) (by kernel_rfl) (by kernel_rfl) (fun _ _ _ h => h) (Or.inl ⟨by kernel_rfl, ?_⟩) s8 ?_
            rotate_left
            · rintro w0 ⟨h1_, h2_, h3_⟩; go_simp; (try with_reducible rfl)
            try simp only [Act.put, List.getElem_toArray, List.getElem_cons_succ, List.getElem_cons_zero, List.setIfInBounds_toArray, List.set_cons_zero, List.set_cons_succ]
            refine wpAnyL_take (i := 5) (v := ?_) rfl (by kernel_rfl) (by kernel_rfl) (by kernel_rfl) (by kernel_rfl) (by kernel_rfl) (fun _ _ _ h => h) (Or.inl ⟨by kernel_rfl, ?_⟩) s8 ?_
            rotate_left
            · rintro w0 ⟨h1_, h2_, h3_⟩; go_simp; (try with_reducible rfl)
            try simp only [Act.put, List.getElem_toArray, List.getElem_cons_succ, List.getElem_cons_zero, List.setIfInBounds_toArray, List.set_cons_zero, List.set_cons_succ]
            refine wpAnyL_take (i := 6) (v := ?_) rfl (by kernel_rfl) (by kernel_rfl) (by kernel_rfl) (by kernel_rfl) (by kernel_rfl) (fun _ _ _ h => h) (Or.inl ⟨by kernel_rfl, ?_⟩) s8 ?_
            rotate_left
            · rintro w0 ⟨h1_, h2_, h3_⟩; go_simp; (try with_reducible rfl)
            try simp only [Act.put, List.getElem_toArray, List.getElem_cons_succ, List.getElem_cons_zero, List.setIfInBounds_toArray, List.set_cons_zero, List.set_cons_succ]
            refine wpAnyL_take (i := 7) (v := ?_) rfl (by kernel_rfl) (by kernel_rfl) (by kernel_rfl) (by kernel_rfl) (by kernel_rfl) (fun _ _ _ h => h) (Or.inl ⟨by kernel_rfl, ?_⟩) s8 ?_
            rotate_left
            · rintro w0 ⟨h1_, h2_, h3_⟩; go_simp; (try with_reducible rfl)
            try simp only [Act.put, List.getElem_toArray, List.getElem_cons_succ, List.getElem_cons_zero, List.setIfInBounds_toArray, List.set_cons_zero, List.set_cons_succ]
            refine wpAnyL_take (i := 8) (v := ?_) rfl (by kernel_rfl) (by kernel_rfl) (by kernel_rfl) (by kernel_rfl) (by kernel_rfl) (fun _ _ _ h => h) (Or.inl ⟨by kernel_rfl, ?_⟩) s8 ?_
            rotate_left
            · rintro w0 ⟨h1_, h2_, h3_⟩; go_simp; (try with_reducible rfl)
            try simp only [Act.put, List.getElem_toArray, List.getElem_cons_succ, List.getElem_cons_zero, List.setIfInBounds_toArray, List.set_cons_zero, List.set_cons_succ]
            refine wpAnyL_take (i := 9) (v := ?_) rfl (by kernel_rfl) (by kernel_rfl) (by kernel_rfl) (by kernel_rfl) (by kernel_rfl) (fun _ _ _ h => h) (Or.inl ⟨by kernel_rfl, ?_⟩) s8 ?_
            rotate_left
            · rintro w0 ⟨h1_, h2_, h3_⟩; go_simp; (try with_reducible rfl)
            try simp only [Act.put, List.getElem_toArray, List.getElem_cons_succ, List.getElem_cons_zero, List.setIfInBounds_toArray, List.set_cons_zero, List.set_cons_succ]
            refine wpAnyL_take (i := 10) (v := ?_) rfl (by kernel_rfl) (by kernel_rfl) (by kernel_rfl) (by kernel_rfl) (by kernel_rfl) (fun _ _ _ h => h) (Or.inl ⟨by kernel_rfl, ?_⟩) s8 ?_
            rotate_left
            · rintro w0 ⟨h1_, h2_, h3_⟩; go_simp; (try with_reducible rfl)
            try simp only [Act.put, List.getElem_toArray, List.getElem_cons_succ, List.getElem_cons_zero, List.setIfInBounds_toArray, List.set_cons_zero, List.set_cons_succ]
            refine wpAnyL_take (i := 11) (v := ?_) rfl (by kernel_rfl) (by kernel_rfl) (by kernel_rfl) (by kernel_rfl) (by kernel_rfl) (fun _ _ _ h => h) (Or.inl ⟨by kernel_rfl, ?_⟩) s8 ?_
            rotate_left
            · rintro w0 ⟨h1_, h2_, h3_⟩; go_simp; (try with_reducible rfl)
            try simp only [Act.put, List.getElem_toArray, List.getElem_cons_succ, List.getElem_cons_zero, List.setIfInBounds_toArray, List.set_cons_zero, List.set_cons_succ]
            refine wpAnyL_one (i := 12) (by kernel_rfl) rfl (fun K hK => ?_)
            go_simp
            refine hK.out _ _ (fun h => absurd (by simp) h) ?_
            clear hK K
            try simp only [Act.put, List.getElem_toArray, List.getElem_cons_succ, List.getElem_cons_zero, List.setIfInBounds_toArray, List.set_cons_zero, List.set_cons_succ]
            refine wpAnyL_done (by kernel_rfl) ?_ _
            obtain ⟨R, M⟩ := HR2.out
            clear cd1 fd1 s8 HR2
            generalize World.drew (World.setCell _ ⟨d, i, none⟩ _) = w8 at *
            go_wp2_with fail
            go_roundw
            case rel => exact ⟨k + 1, xs, bs.set i true, by omega, by go_num, R, M, HLW.out⟩
            case measure => simp [intOf]; omega
          · have HLW := Lib.hid (show layTo s false cl (k + 1) (tornBy bs xs) from hby)
            clear hby
            go_wp2_with fail
            go_roundw
            case rel => exact ⟨k + 1, xs, bs, by omega, by go_num, R, M, HLW.out⟩
            case measure => simp [intOf]; omega
    · obtain rfl : k = m := by omega
      have g2 := R.c2
      have t1 : ¬ (k : Int) < (k : Int) := by omega
      have f2 := R.blk.frozen 2
      have g3 := R.c3
      have f3 := R.blk.frozen 3
      obtain ⟨T', R2, M2⟩ := R.cleared
      have hfin := layTo_end HL.out (by rw [HP.out]; exact Nat.le_refl _)
      have HF := Lib.hid (And.intro R2 (And.intro (M.trans M2) hfin))
      clear R M R2 M2 hfin
      go_wp2_with fail
      go_end0
      refine ⟨⟨_, rfl⟩, T', ⟨xs, bs, ?_⟩, HF.out.2.1⟩
      rw [← HF.out.2.2]
      exact HF.out.1
end
end Go.Proofs.Ytkjmccicdjkccaa
