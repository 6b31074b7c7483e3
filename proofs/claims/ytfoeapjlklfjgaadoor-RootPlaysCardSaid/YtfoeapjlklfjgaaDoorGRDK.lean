/- Texts of several parts in one: RDiskC, RDiskD, RDiskE, RDiskF, RDiskG, RDiskH, RDiskI. Each says what it proves; no condition but those named there. -/
import Derived.Test.YtfoeapjlklfjgaaDoorGRDA
import Derived.Deep.DeepCutAuto
/- The contract of heijunkaref05's lay. No condition but that its choices lie off the disk. -/
namespace Go.Proofs.YtfoeapjlklfjgaaDoor
set_option linter.unusedSimpArgs false
set_option linter.unusedVariables false
open Go.RowKit

/-- What is there behind 'lay'. -/
def layOf (s : DSt) (all : Bool) (cl : List Nat) : List (List Nat) := if all then DSt.lay s.sure s.pend else DSt.layBy s.sure s.pend cl
/-- What is still to be laid comes to that. -/
def layTo (s : DSt) (all : Bool) (cl : List Nat) (k : Nat) (su : List (List Nat)) : Prop := (if all then DSt.lay su (s.pend.drop k) else DSt.layBy su (s.pend.drop k) (cl.drop k)) = layOf s all cl
theorem layTo_zero (s : DSt) (all : Bool) (cl : List Nat) : layTo s all cl 0 s.sure := rfl
theorem layTo_end {s : DSt} {all : Bool} {cl : List Nat} {k : Nat} {su : List (List Nat)} (h : layTo s all cl k su) (hk : s.pend.length ≤ k) : su = layOf s all cl := by
  unfold layTo at h
  rw [List.drop_eq_nil_of_le hk] at h
  rw [← h]
  cases all <;> rfl
theorem layTo_all {s : DSt} {cl : List Nat} {k i : Nat} {l : List Nat} {su : List (List Nat)} (h : layTo s true cl k su) (hp : s.pend[k]? = some (i, l)) : layTo s true cl (k + 1) (su.set i l) := by
  unfold layTo at h ⊢
  rw [if_pos rfl] at h ⊢
  rw [← h]
  exact (lay_drop hp).symm
theorem layTo_by {s : DSt} {cl : List Nat} {k i : Nat} {l : List Nat} {su : List (List Nat)} (h : layTo s false cl k su) (hp : s.pend[k]? = some (i, l)) : layTo s false cl (k + 1) (if cl.getD k 0 % 3 = 1 then su.set i l else if cl.getD k 0 % 3 = 2 then su.set i [] else su) := by
  unfold layTo at h ⊢
  rw [if_neg (by decide)] at h ⊢
  rw [← h]
  exact (layBy_step hp).symm

section
variable {w : World} {T : List Nat} {g : Nat} {s : DSt} {BA : Option Addr} {n bc : Nat} {GA : Option Addr} {gc : Nat} {AA : Option Addr} {m ac : Nat} {NA : Option Addr} {nc : Nat} {st : Int} {xs : List BEl} {bs : List Bool} {ks : List Nat} {ys : List BEl}
set_option maxRecDepth 100000 in
set_option maxHeartbeats 12800000 in
theorem rlay_in (h : RIn w T g s BA n bc GA gc AA m ac NA nc st xs bs ks ys) (all : Bool) {cA : Option Addr} {cn cc : Nat} {cl : List Nat} (hC : Ints w .u8 256 cA cn cc cl) (hoff : 0 < cn → ∀ ad, cA = some ad → ad.block ∉ T) (hcn : cn ≤ 1099511627776) (hm1 : m < 1099511627776) :
    Calls Tryd.prog 68 #[.pointer (some ⟨g, 0, none⟩), .slice cA cn cc, .bool all] w fun e w' => (∃ v, e = .returned v) ∧ ∃ T' xs' bs', RIn w' T' g { s with sure := layOf s all cl, pend := [] } BA n bc GA gc none 0 0 none 0 st xs' bs' [] [] ∧ Moved w w' T T' := by
  have HO := Lib.hid hoff
  have HC := Lib.hid hC
  have hcl := hC.len
  have hwf := h.wf
  have hpm := h.m_eq
  have HP := Lib.hid hpm
  clear hC hoff hpm
  have R0 : RIn w T g { s with sure := s.sure } BA n bc GA gc AA m ac NA nc st xs bs ks ys := h
  have hs0 : ∀ z, z = s.sure → RIn w T g { s with sure := z } BA n bc GA gc AA m ac NA nc st xs bs ks ys := fun z e => by subst e; exact h
  have R00 := hs0 _ h.es.symm
  have HES := Lib.hid h.es
  clear h R0 hs0
  go_enter Tryd.func68, Tryd.ntmps68
  go_wp2_with fail
  go_loopw [6] (fun v wr => ∃ (k : Nat) (xs : List BEl) (bs : List Bool), k ≤ m ∧ v = .int .i64 (k : Int) ∧ RIn wr T g { s with sure := tornBy bs xs } BA n bc GA gc AA m ac NA nc st xs bs ks ys ∧ Moved w wr T T ∧ Hid (layTo s all cl k (tornBy bs xs))) (fun v _ => m - (intOf v).toNat)
  case atStart => exact ⟨0, xs, bs, Nat.zero_le _, rfl, R00, Moved.refl w T, (show layTo s all cl 0 (tornBy bs xs) by rw [← HES.out]; exact layTo_zero s all cl)⟩
  case round =>
    obtain ⟨k, xs, bs, hk, rfl, R, M, hL⟩ := hrel
    clear R00
    have HL := Lib.hid hL.out
    clear hL
    by_cases hkm : k < m
    · obtain ⟨i, y, a, e, hki, hyk, yin, rfl, rfl, ca, ce, hpk, hin, hyl⟩ := R.py hkm
      obtain ⟨x0, q0, b, d, hx0, _, hq0, rfl, rfl, cb, fb, cdd, fd, hs0⟩ := R.sx hin
      have hbl : bs.length = xs.length := by rw [R.bl, R.xl]
      have HPK := Lib.hid (And.intro hpk hbl)
      clear ca ce cb fb cdd fd hs0 hx0 hq0 yin hpk hyl hbl
      have g2 := R.c2
      have t1 : (k : Int) < (m : Int) := by omega
      have hi0 : (i : Int) < (n : Int) := by omega
      have hC2 := ints_moved HC.out HO.out M
      obtain ⟨cv, hcv⟩ : ∃ z, cl.getD k 0 % 3 = z := ⟨_, rfl⟩
      have hcv3 : cv < 3 := by rw [← hcv]; exact Nat.mod_lt _ (by decide)
      have HCV := Lib.hid hcv
      go_upto_if 20 with (fail)
      go_cut [7] (fun v7 wx => v7 = .int .i64 (cv : Int) ∧ wx = wr)
      case first =>
        by_cases hkc : k < cn
        · have t2 : (k : Int) < (cn : Int) := by omega
          obtain ⟨bb, oo, xx, eA, _, hxx, hxl, hc⟩ := hC2.get hkc
          subst eA
          have hx3 : xx % 3 = cv := by rw [← hcv, List.getD_eq_getElem?_getD, hxx]; rfl
          have hxi : (xx : Int) % 3 = (cv : Int) := by omega
          clear hx3 hcv hxx
          go_wp2_with fail
          go_meet
          exact ⟨rfl, rfl⟩
        · have t2 : ¬ (k : Int) < (cn : Int) := by omega
          have hcv0 : cv = 0 := by rw [← hcv, List.getD_eq_getElem?_getD, List.getElem?_eq_none (by omega)]; rfl
          subst hcv0
          clear hcv
          go_wp2_with fail
          go_meet
          exact ⟨rfl, rfl⟩
      case rest =>
        obtain ⟨rfl, rfl⟩ := hcut
        clear hC2 g2 hcv
        cases all with
        | true =>
          have HLW := Lib.hid (show layTo s true cl (k + 1) (tornBy (bs.set i false) (xs.set i y)) by rw [tornBy_write HPK.out.2]; exact layTo_all HL.out HPK.out.1)
          go_wp2_with fail
          have yin0 := R.yin y (List.mem_of_getElem? hyk)
          have R1 := R.drew
          have M1 := M.drew
          obtain ⟨x1, q1, _, _, hx1, _, hq1, eb1, ed1, cb1, fb1, cd1, fd1, hs1⟩ := R1.sx hin
          cases eb1
          cases ed1
          obtain ⟨i1, y1, _, _, hi1, hy1, yin1, ea1, ee1, ca1, ce1, _, _, hyl1⟩ := R1.py hkm
          cases ea1
          cases ee1
          rw [hki] at hi1
          cases hi1
          rw [hyk] at hy1
          cases hy1
          have s7 := And.intro R1.c0 (And.intro R1.c2 (And.intro R1.c3 (And.intro ca1 ce1)))
          have R2 := R.setB (i := i) yin0 hyl1
          have HR2 := Lib.hid (And.intro R2.1.drew (M.trans R2.2).drew)
          clear R1 M1 R M R2 hx1 hq1 cd1 fd1 hs1 ca1 ce1 yin1 yin0
          refine wp_region_late [19] (fun w' => w'.cell? ⟨g, 0, none⟩ = some (.slice (some ⟨b, 0, none⟩) n bc) ∧ w'.cell? ⟨g, 2, none⟩ = some (.slice (some ⟨a, 0, none⟩) m ac) ∧ w'.cell? ⟨g, 3, none⟩ = some (.slice (some ⟨e, 0, none⟩) m nc) ∧ w'.cell? ⟨a, k, none⟩ = some (.int .i64 (i : Int)) ∧ w'.cell? ⟨e, k, none⟩ = some (.slice y.A y.n y.c)) (by kernel_rfl) ?_
          refine wpAnyL_take (i := 0) (v := ?_) rfl (by kernel_rfl) (by kernel_rfl) (by kernel_rfl) (by kernel_rfl) (by kernel_rfl) (fun _ _ _ h => h) (Or.inl ⟨by kernel_rfl, ?_⟩) s7 ?_
          rotate_left
          · rintro w0 ⟨h1_, h2_, h3_, h4_, h5_⟩; go_simp; (try with_reducible rfl)
          try simp only [Act.put, List.getElem_toArray, List.getElem_cons_succ, List.getElem_cons_zero, List.setIfInBounds_toArray, List.set_cons_zero, List.set_cons_succ]
          refine wpAnyL_take (i := 1) (v := ?_) rfl (by kernel_rfl) (by kernel_rfl) (by kernel_rfl) (by kernel_rfl) (by kernel_rfl) (fun _ _ _ h => h) (Or.inl ⟨by kernel_rfl, ?_⟩) s7 ?_
          rotate_left
          · rintro w0 ⟨h1_, h2_, h3_, h4_, h5_⟩; go_simp; (try with_reducible rfl)
          try simp only [Act.put, List.getElem_toArray, List.getElem_cons_succ, List.getElem_cons_zero, List.setIfInBounds_toArray, List.set_cons_zero, List.set_cons_succ]
          refine wpAnyL_take (i := 2) (v := ?_) rfl (by kernel_rfl) (by kernel_rfl) (by kernel_rfl) (by kernel_rfl) (by kernel_rfl) (fun _ _ _ h => h) (Or.inl ⟨by kernel_rfl, ?_⟩) s7 ?_
          rotate_left
          · rintro w0 ⟨h1_, h2_, h3_, h4_, h5_⟩; go_simp; (try with_reducible rfl)
          try simp only [Act.put, List.getElem_toArray, List.getElem_cons_succ, List.getElem_cons_zero, List.setIfInBounds_toArray, List.set_cons_zero, List.set_cons_succ]
          refine wpAnyL_take (i := 3) (v := ?_) rfl (by kernel_rfl) (by kernel_rfl) (by kernel_rfl) (by kernel_rfl) (by kernel_rfl) (fun _ _ _ h => h) (Or.inl ⟨by kernel_rfl, ?_⟩) s7 ?_
          rotate_left
          · rintro w0 ⟨h1_, h2_, h3_, h4_, h5_⟩; go_simp; (try with_reducible rfl)
          try simp only [Act.put, List.getElem_toArray, List.getElem_cons_succ, List.getElem_cons_zero, List.setIfInBounds_toArray, List.set_cons_zero, List.set_cons_succ]
          refine wpAnyL_take (i := 4) (v := ?_) rfl (by kernel_rfl) (by kernel_rfl) (by kernel_rfl) (by kernel_rfl) (by kernel_rfl) (fun _ _ _ h => h) (Or.inl ⟨by kernel_rfl, ?_⟩) s7 ?_
          rotate_left
          · rintro w0 ⟨h1_, h2_, h3_, h4_, h5_⟩; go_simp; (try with_reducible rfl)
          try simp only [Act.put, List.getElem_toArray, List.getElem_cons_succ, List.getElem_cons_zero, List.setIfInBounds_toArray, List.set_cons_zero, List.set_cons_succ]
          refine wpAnyL_take (i := 5) (v := ?_) rfl (by kernel_rfl) (by kernel_rfl) (by kernel_rfl) (by kernel_rfl) (by kernel_rfl) (fun _ _ _ h => h) (Or.inl ⟨by kernel_rfl, ?_⟩) s7 ?_
          rotate_left
          · rintro w0 ⟨h1_, h2_, h3_, h4_, h5_⟩; go_simp; (try with_reducible rfl)
          try simp only [Act.put, List.getElem_toArray, List.getElem_cons_succ, List.getElem_cons_zero, List.setIfInBounds_toArray, List.set_cons_zero, List.set_cons_succ]
          refine wpAnyL_take (i := 6) (v := ?_) rfl (by kernel_rfl) (by kernel_rfl) (by kernel_rfl) (by kernel_rfl) (by kernel_rfl) (fun _ _ _ h => h) (Or.inl ⟨by kernel_rfl, ?_⟩) s7 ?_
          rotate_left
          · rintro w0 ⟨h1_, h2_, h3_, h4_, h5_⟩; go_simp; (try with_reducible rfl)
          try simp only [Act.put, List.getElem_toArray, List.getElem_cons_succ, List.getElem_cons_zero, List.setIfInBounds_toArray, List.set_cons_zero, List.set_cons_succ]
          refine wpAnyL_take (i := 7) (v := ?_) rfl (by kernel_rfl) (by kernel_rfl) (by kernel_rfl) (by kernel_rfl) (by kernel_rfl) (fun _ _ _ h => h) (Or.inl ⟨by kernel_rfl, ?_⟩) s7 ?_
          rotate_left
          · rintro w0 ⟨h1_, h2_, h3_, h4_, h5_⟩; go_simp; (try with_reducible rfl)
          try simp only [Act.put, List.getElem_toArray, List.getElem_cons_succ, List.getElem_cons_zero, List.setIfInBounds_toArray, List.set_cons_zero, List.set_cons_succ]
          refine wpAnyL_take (i := 8) (v := ?_) rfl (by kernel_rfl) (by kernel_rfl) (by kernel_rfl) (by kernel_rfl) (by kernel_rfl) (fun _ _ _ h => h) (Or.inl ⟨by kernel_rfl, ?_⟩) s7 ?_
          rotate_left
          · rintro w0 ⟨h1_, h2_, h3_, h4_, h5_⟩; go_simp; (try with_reducible rfl)
          try simp only [Act.put, List.getElem_toArray, List.getElem_cons_succ, List.getElem_cons_zero, List.setIfInBounds_toArray, List.set_cons_zero, List.set_cons_succ]
          refine wpAnyL_take (i := 9) (v := ?_) rfl (by kernel_rfl) (by kernel_rfl) (by kernel_rfl) (by kernel_rfl) (by kernel_rfl) (fun _ _ _ h => h) (Or.inl ⟨by kernel_rfl, ?_⟩) s7 ?_
          rotate_left
          · rintro w0 ⟨h1_, h2_, h3_, h4_, h5_⟩; go_simp; (try with_reducible rfl)
          try simp only [Act.put, List.getElem_toArray, List.getElem_cons_succ, List.getElem_cons_zero, List.setIfInBounds_toArray, List.set_cons_zero, List.set_cons_succ]
          refine wpAnyL_take (i := 10) (v := ?_) rfl (by kernel_rfl) (by kernel_rfl) (by kernel_rfl) (by kernel_rfl) (by kernel_rfl) (fun _ _ _ h => h) (Or.inl ⟨by kernel_rfl, ?_⟩) s7 ?_
          rotate_left
          · rintro w0 ⟨h1_, h2_, h3_, h4_, h5_⟩; go_simp; (try with_reducible rfl)
          try simp only [Act.put, List.getElem_toArray, List.getElem_cons_succ, List.getElem_cons_zero, List.setIfInBounds_toArray, List.set_cons_zero, List.set_cons_succ]
          refine wpAnyL_take (i := 11) (v := ?_) rfl (by kernel_rfl) (by kernel_rfl) (by kernel_rfl) (by kernel_rfl) (by kernel_rfl) (fun _ _ _ h => h) (Or.inl ⟨by kernel_rfl, ?_⟩) s7 ?_
          rotate_left
          · rintro w0 ⟨h1_, h2_, h3_, h4_, h5_⟩; go_simp; (try with_reducible rfl)
          try simp only [Act.put, List.getElem_toArray, List.getElem_cons_succ, List.getElem_cons_zero, List.setIfInBounds_toArray, List.set_cons_zero, List.set_cons_succ]
          refine wpAnyL_take (i := 12) (v := ?_) rfl (by kernel_rfl) (by kernel_rfl) (by kernel_rfl) (by kernel_rfl) (by kernel_rfl) (fun _ _ _ h => h) (Or.inl ⟨by kernel_rfl, ?_⟩) s7 ?_
          rotate_left
          · rintro w0 ⟨h1_, h2_, h3_, h4_, h5_⟩; go_simp; (try with_reducible rfl)
          try simp only [Act.put, List.getElem_toArray, List.getElem_cons_succ, List.getElem_cons_zero, List.setIfInBounds_toArray, List.set_cons_zero, List.set_cons_succ]
          refine wpAnyL_take (i := 13) (v := ?_) rfl (by kernel_rfl) (by kernel_rfl) (by kernel_rfl) (by kernel_rfl) (by kernel_rfl) (fun _ _ _ h => h) (Or.inl ⟨by kernel_rfl, ?_⟩) s7 ?_
          rotate_left
          · rintro w0 ⟨h1_, h2_, h3_, h4_, h5_⟩; go_simp; (try with_reducible rfl)
          try simp only [Act.put, List.getElem_toArray, List.getElem_cons_succ, List.getElem_cons_zero, List.setIfInBounds_toArray, List.set_cons_zero, List.set_cons_succ]
          refine wpAnyL_take (i := 14) (v := ?_) rfl (by kernel_rfl) (by kernel_rfl) (by kernel_rfl) (by kernel_rfl) (by kernel_rfl) (fun _ _ _ h => h) (Or.inl ⟨by kernel_rfl, ?_⟩) s7 ?_
          rotate_left
          · rintro w0 ⟨h1_, h2_, h3_, h4_, h5_⟩; go_simp; (try with_reducible rfl)
          try simp only [Act.put, List.getElem_toArray, List.getElem_cons_succ, List.getElem_cons_zero, List.setIfInBounds_toArray, List.set_cons_zero, List.set_cons_succ]
          refine wpAnyL_take (i := 15) (v := ?_) rfl (by kernel_rfl) (by kernel_rfl) (by kernel_rfl) (by kernel_rfl) (by kernel_rfl) (fun _ _ _ h => h) (Or.inl ⟨by kernel_rfl, ?_⟩) s7 ?_
          rotate_left
          · rintro w0 ⟨h1_, h2_, h3_, h4_, h5_⟩; go_simp; (try with_reducible rfl)
          try simp only [Act.put, List.getElem_toArray, List.getElem_cons_succ, List.getElem_cons_zero, List.setIfInBounds_toArray, List.set_cons_zero, List.set_cons_succ]
          refine wpAnyL_take (i := 16) (v := ?_) rfl (by kernel_rfl) (by kernel_rfl) (by kernel_rfl) (by kernel_rfl) (by kernel_rfl) (fun _ _ _ h => h) (Or.inl ⟨by kernel_rfl, ?_⟩) s7 ?_
          rotate_left
          · rintro w0 ⟨h1_, h2_, h3_, h4_, h5_⟩; go_simp; (try with_reducible rfl)
          try simp only [Act.put, List.getElem_toArray, List.getElem_cons_succ, List.getElem_cons_zero, List.setIfInBounds_toArray, List.set_cons_zero, List.set_cons_succ]
          refine wpAnyL_take (i := 17) (v := ?_) rfl (by kernel_rfl) (by kernel_rfl) (by kernel_rfl) (by kernel_rfl) (by kernel_rfl) (fun _ _ _ h => h) (Or.inl ⟨by kernel_rfl, ?_⟩) s7 ?_
          rotate_left
          · rintro w0 ⟨h1_, h2_, h3_, h4_, h5_⟩; go_simp; (try with_reducible rfl)
          try simp only [Act.put, List.getElem_toArray, List.getElem_cons_succ, List.getElem_cons_zero, List.setIfInBounds_toArray, List.set_cons_zero, List.set_cons_succ]
          refine wpAnyL_take (i := 18) (v := ?_) rfl (by kernel_rfl) (by kernel_rfl) (by kernel_rfl) (by kernel_rfl) (by kernel_rfl) (fun _ _ _ h => h) (Or.inl ⟨by kernel_rfl, ?_⟩) s7 ?_
          rotate_left
          · rintro w0 ⟨h1_, h2_, h3_, h4_, h5_⟩; go_simp; (try with_reducible rfl)
          try simp only [Act.put, List.getElem_toArray, List.getElem_cons_succ, List.getElem_cons_zero, List.setIfInBounds_toArray, List.set_cons_zero, List.set_cons_succ]
          refine wpAnyL_one (i := 19) (by kernel_rfl) rfl (fun K hK => ?_)
          go_simp
          refine hK.out _ _ (fun h => absurd (by simp) h) ?_
          clear hK K
          try simp only [Act.put, List.getElem_toArray, List.getElem_cons_succ, List.getElem_cons_zero, List.setIfInBounds_toArray, List.set_cons_zero, List.set_cons_succ]
          refine wpAnyL_done (by kernel_rfl) ?_ _
          obtain ⟨R, M⟩ := HR2.out
          clear cb1 fb1 s7 HR2
          dsimp only [BEl.v] at R M
          generalize World.drew (World.setCell _ ⟨b, i, none⟩ _) = w7 at *
          go_wp2_with fail
          have R1 := R.drew
          have M1 := M.drew
          obtain ⟨x1, q1, _, _, hx1, _, hq1, eb1, ed1, cb1, fb1, cd1, fd1, hs1⟩ := R1.sx hin
          cases eb1
          cases ed1
          obtain ⟨i1, y1, _, _, hi1, hy1, yin1, ea1, ee1, ca1, ce1, _, _, hyl1⟩ := R1.py hkm
          cases ea1
          cases ee1
          rw [hki] at hi1
          cases hi1
          rw [hyk] at hy1
          cases hy1
          have s8 := And.intro R1.c1 (And.intro R1.c2 ca1)
          have R2 := R.setG (i := i) (q := false)
          have HR2 := Lib.hid (And.intro R2.1.drew (M.trans R2.2).drew)
          clear R1 M1 R M R2 hx1 hq1 cb1 fb1 hs1 ca1 ce1 yin1
          refine wp_region_late [12] (fun w' => w'.cell? ⟨g, 1, none⟩ = some (.slice (some ⟨d, 0, none⟩) n gc) ∧ w'.cell? ⟨g, 2, none⟩ = some (.slice (some ⟨a, 0, none⟩) m ac) ∧ w'.cell? ⟨a, k, none⟩ = some (.int .i64 (i : Int))) (by kernel_rfl) ?_
          refine wpAnyL_take (i := 0) (v := ?_) rfl (by kernel_rfl) (by kernel_rfl) (by kernel_rfl) (by kernel_rfl) (by kernel_rfl) (fun _ _ _ h => h) (Or.inl ⟨by kernel_rfl, ?_⟩) s8 ?_
          rotate_left
          · rintro w0 ⟨h1_, h2_, h3_⟩; go_simp; (try with_reducible rfl)
          try simp only [Act.put, List.getElem_toArray, List.getElem_cons_succ, List.getElem_cons_zero, List.setIfInBounds_toArray, List.set_cons_zero, List.set_cons_succ]
          refine wpAnyL_take (i := 1) (v := ?_) rfl (by kernel_rfl) (by kernel_rfl) (by kernel_rfl) (by kernel_rfl) (by kernel_rfl) (fun _ _ _ h => h) (Or.inl ⟨by kernel_rfl, ?_⟩) s8 ?_
          rotate_left
          · rintro w0 ⟨h1_, h2_, h3_⟩; go_simp; (try with_reducible rfl)
          try simp only [Act.put, List.getElem_toArray, List.getElem_cons_succ, List.getElem_cons_zero, List.setIfInBounds_toArray, List.set_cons_zero, List.set_cons_succ]
          refine wpAnyL_take (i := 2) (v := ?_) rfl (by kernel_rfl) (by kernel_rfl) (by kernel_rfl) (by kernel_rfl) (by kernel_rfl) (fun _ _ _ h => h) (Or.inl ⟨by kernel_rfl, ?_⟩) s8 ?_
          rotate_left
          · rintro w0 ⟨h1_, h2_, h3_⟩; go_simp; (try with_reducible rfl)
          try simp only [Act.put, List.getElem_toArray, List.getElem_cons_succ, List.getElem_cons_zero, List.setIfInBounds_toArray, List.set_cons_zero, List.set_cons_succ]
          refine wpAnyL_take (i := 3) (v := ?_) rfl (by kernel_rfl) (by kernel_rfl) (by kernel_rfl) (by kernel_rfl) (by kernel_rfl) (fun _ _ _ h => h) (Or.inl ⟨by kernel_rfl, ?_⟩) s8 ?_
          rotate_left
          · rintro w0 ⟨h1_, h2_, h3_⟩; go_simp; (try with_reducible rfl)
          try simp only [Act.put, List.getElem_toArray, List.getElem_cons_succ, List.getElem_cons_zero, List.setIfInBounds_toArray, List.set_cons_zero, List.set_cons_succ]
          refine wpAnyL_take (i := 4) (v := ?_) rfl (by kernel_rfl) (by kernel_rfl) (by kernel_rfl) (by kernel_rfl) (by kernel_rfl) (fun _ _ _ h => h) (Or.inl ⟨by kernel_rfl, ?_⟩) s8 ?_
          rotate_left
          · rintro w0 ⟨h1_, h2_, h3_⟩; go_simp; (try with_reducible rfl)
          try simp only [Act.put, List.getElem_toArray, List.getElem_cons_succ, List.getElem_cons_zero, List.setIfInBounds_toArray, List.set_cons_zero, List.set_cons_succ]
          refine wpAnyL_take (i := 5) (v := ?_) rfl (by kernel_rfl) (by kernel_rfl) (by kernel_rfl) (by kernel_rfl) (by kernel_rfl) (fun _ _ _ h => h) (Or.inl ⟨by kernel_rfl, ?_⟩) s8 ?_
          rotate_left
          · rintro w0 ⟨h1_, h2_, h3_⟩; go_simp; (try with_reducible rfl)
          try simp only [Act.put, List.getElem_toArray, List.getElem_cons_succ, List.getElem_cons_zero, List.setIfInBounds_toArray, List.set_cons_zero, List.set_cons_succ]
          refine wpAnyL_take (i := 6) (v := ?_) rfl (by kernel_rfl) (by kernel_rfl) (by kernel_rfl) (by kernel_rfl) (by kernel_rfl) (fun _ _ _ h => h) (Or.inl ⟨by kernel_rfl, ?_⟩) s8 ?_
          rotate_left
          · rintro w0 ⟨h1_, h2_, h3_⟩; go_simp; (try with_reducible rfl)
          try simp only [Act.put, List.getElem_toArray, List.getElem_cons_succ, List.getElem_cons_zero, List.setIfInBounds_toArray, List.set_cons_zero, List.set_cons_succ]
          refine wpAnyL_take (i := 7) (v := ?_) rfl (by kernel_rfl) (by kernel_rfl) (by kernel_rfl) (by kernel_rfl) (by kernel_rfl) (fun _ _ _ h => h) (Or.inl ⟨by kernel_rfl, ?_⟩) s8 ?_
          rotate_left
          · rintro w0 ⟨h1_, h2_, h3_⟩; go_simp; (try with_reducible rfl)
          try simp only [Act.put, List.getElem_toArray, List.getElem_cons_succ, List.getElem_cons_zero, List.setIfInBounds_toArray, List.set_cons_zero, List.set_cons_succ]
          refine wpAnyL_take (i := 8) (v := ?_) rfl (by kernel_rfl) (by kernel_rfl) (by kernel_rfl) (by kernel_rfl) (by kernel_rfl) (fun _ _ _ h => h) (Or.inl ⟨by kernel_rfl, ?_⟩) s8 ?_
          rotate_left
          · rintro w0 ⟨h1_, h2_, h3_⟩; go_simp; (try with_reducible rfl)
          try simp only [Act.put, List.getElem_toArray, List.getElem_cons_succ, List.getElem_cons_zero, List.setIfInBounds_toArray, List.set_cons_zero, List.set_cons_succ]
          refine wpAnyL_take (i := 9) (v := ?_) rfl (by kernel_rfl) (by kernel_rfl) (by kernel_rfl) (by kernel_rfl) (by kernel_rfl) (fun _ _ _ h => h) (Or.inl ⟨by kernel_rfl, ?_⟩) s8 ?_
          rotate_left
          · rintro w0 ⟨h1_, h2_, h3_⟩; go_simp; (try with_reducible rfl)
          try simp only [Act.put, List.getElem_toArray, List.getElem_cons_succ, List.getElem_cons_zero, List.setIfInBounds_toArray, List.set_cons_zero, List.set_cons_succ]
          refine wpAnyL_take (i := 10) (v := ?_) rfl (by kernel_rfl) (by kernel_rfl) (by kernel_rfl) (by kernel_rfl) (by kernel_rfl) (fun _ _ _ h => h) (Or.inl ⟨by kernel_rfl, ?_⟩) s8 ?_
          rotate_left
          · rintro w0 ⟨h1_, h2_, h3_⟩; go_simp; (try with_reducible rfl)
          try simp only [Act.put, List.getElem_toArray, List.getElem_cons_succ, List.getElem_cons_zero, List.setIfInBounds_toArray, List.set_cons_zero, List.set_cons_succ]
          refine wpAnyL_take (i := 11) (v := ?_) rfl (by kernel_rfl) (by kernel_rfl) (by kernel_rfl) (by kernel_rfl) (by kernel_rfl) (fun _ _ _ h => h) (Or.inl ⟨by kernel_rfl, ?_⟩) s8 ?_
          rotate_left
          · rintro w0 ⟨h1_, h2_, h3_⟩; go_simp; (try with_reducible rfl)
          try simp only [Act.put, List.getElem_toArray, List.getElem_cons_succ, List.getElem_cons_zero, List.setIfInBounds_toArray, List.set_cons_zero, List.set_cons_succ]
          refine wpAnyL_one (i := 12) (by kernel_rfl) rfl (fun K hK => ?_)
          go_simp
          refine hK.out _ _ (fun h => absurd (by simp) h) ?_
          clear hK K
          try simp only [Act.put, List.getElem_toArray, List.getElem_cons_succ, List.getElem_cons_zero, List.setIfInBounds_toArray, List.set_cons_zero, List.set_cons_succ]
          refine wpAnyL_done (by kernel_rfl) ?_ _
          obtain ⟨R, M⟩ := HR2.out
          clear cd1 fd1 s8 HR2
          generalize World.drew (World.setCell _ ⟨d, i, none⟩ _) = w8 at *
          go_wp2_with fail
          go_roundw
          case rel => exact ⟨k + 1, xs.set i y, bs.set i false, by omega, by go_num, R, M, HLW.out⟩
          case measure => simp [intOf]; omega
        | false =>
          have hby := layTo_by HL.out HPK.out.1
          rw [HCV.out] at hby
          rcases (show cv = 1 ∨ cv = 2 ∨ cv = 0 by omega) with rfl | rfl | rfl
          · have HLW := Lib.hid (show layTo s false cl (k + 1) (tornBy (bs.set i false) (xs.set i y)) by rw [tornBy_write HPK.out.2]; exact hby)
            clear hby
            go_wp2_with fail
            have yin0 := R.yin y (List.mem_of_getElem? hyk)
            have R1 := R.drew
            have M1 := M.drew
            obtain ⟨x1, q1, _, _, hx1, _, hq1, eb1, ed1, cb1, fb1, cd1, fd1, hs1⟩ := R1.sx hin
            cases eb1
            cases ed1
            obtain ⟨i1, y1, _, _, hi1, hy1, yin1, ea1, ee1, ca1, ce1, _, _, hyl1⟩ := R1.py hkm
            cases ea1
            cases ee1
            rw [hki] at hi1
            cases hi1
            rw [hyk] at hy1
            cases hy1
            have s7 := And.intro R1.c0 (And.intro R1.c2 (And.intro R1.c3 (And.intro ca1 ce1)))
            have R2 := R.setB (i := i) yin0 hyl1
            have HR2 := Lib.hid (And.intro R2.1.drew (M.trans R2.2).drew)
            clear R1 M1 R M R2 hx1 hq1 cd1 fd1 hs1 ca1 ce1 yin1 yin0
            refine wp_region_late [19] (fun w' => w'.cell? ⟨g, 0, none⟩ = some (.slice (some ⟨b, 0, none⟩) n bc) ∧ w'.cell? ⟨g, 2, none⟩ = some (.slice (some ⟨a, 0, none⟩) m ac) ∧ w'.cell? ⟨g, 3, none⟩ = some (.slice (some ⟨e, 0, none⟩) m nc) ∧ w'.cell? ⟨a, k, none⟩ = some (.int .i64 (i : Int)) ∧ w'.cell? ⟨e, k, none⟩ = some (.slice y.A y.n y.c)) (by kernel_rfl) ?_
            refine wpAnyL_take (i := 0) (v := ?_) rfl (by kernel_rfl) (by kernel_rfl) (by kernel_rfl) (by kernel_rfl) (by kernel_rfl) (fun _ _ _ h => h) (Or.inl ⟨by kernel_rfl, ?_⟩) s7 ?_
            rotate_left
            · rintro w0 ⟨h1_, h2_, h3_, h4_, h5_⟩; go_simp; (try with_reducible rfl)
            try simp only [Act.put, List.getElem_toArray, List.getElem_cons_succ, List.getElem_cons_zero, List.setIfInBounds_toArray, List.set_cons_zero, List.set_cons_succ]
            refine wpAnyL_take (i := 1) (v := ?_) rfl (by kernel_rfl) (by kernel_rfl) (by kernel_rfl) (by kernel_rfl) (by kernel_rfl) (fun _ _ _ h => h) (Or.inl ⟨by kernel_rfl, ?_⟩) s7 ?_
            rotate_left
            · rintro w0 ⟨h1_, h2_, h3_, h4_, h5_⟩; go_simp; (try with_reducible rfl)
            try simp only [Act.put, List.getElem_toArray, List.getElem_cons_succ, List.getElem_cons_zero, List.setIfInBounds_toArray, List.set_cons_zero, List.set_cons_succ]
            refine wpAnyL_take (i := 2) (v := ?_) rfl (by kernel_rfl) (by kernel_rfl) (by kernel_rfl) (by kernel_rfl) (by kernel_rfl) (fun _ _ _ h => h) (Or.inl ⟨by kernel_rfl, ?_⟩) s7 ?_
            rotate_left
            · rintro w0 ⟨h1_, h2_, h3_, h4_, h5_⟩; go_simp; (try with_reducible rfl)
            try simp only [Act.put, List.getElem_toArray, List.getElem_cons_succ, List.getElem_cons_zero, List.setIfInBounds_toArray, List.set_cons_zero, List.set_cons_succ]
            refine wpAnyL_take (i := 3) (v := ?_) rfl (by kernel_rfl) (by kernel_rfl) (by kernel_rfl) (by kernel_rfl) (by kernel_rfl) (fun _ _ _ h => h) (Or.inl ⟨by kernel_rfl, ?_⟩) s7 ?_
            rotate_left
            · rintro w0 ⟨h1_, h2_, h3_, h4_, h5_⟩; go_simp; (try with_reducible rfl)
            try simp only [Act.put, List.getElem_toArray, List.getElem_cons_succ, List.getElem_cons_zero, List.setIfInBounds_toArray, List.set_cons_zero, List.set_cons_succ]
            refine wpAnyL_take (i := 4) (v := ?_) rfl (by kernel_rfl) (by kernel_rfl) (by kernel_rfl) (by kernel_rfl) (by kernel_rfl) (fun _ _ _ h => h) (Or.inl ⟨by kernel_rfl, ?_⟩) s7 ?_
            rotate_left
            · rintro w0 ⟨h1_, h2_, h3_, h4_, h5_⟩; go_simp; (try with_reducible rfl)
            try simp only [Act.put, List.getElem_toArray, List.getElem_cons_succ, List.getElem_cons_zero, List.setIfInBounds_toArray, List.set_cons_zero, List.set_cons_succ]
            refine wpAnyL_take (i := 5) (v := ?_) rfl (by kernel_rfl) (by kernel_rfl) (by kernel_rfl) (by kernel_rfl) (by kernel_rfl) (fun _ _ _ h => h) (Or.inl ⟨by kernel_rfl, ?_⟩) s7 ?_
            rotate_left
            · rintro w0 ⟨h1_, h2_, h3_, h4_, h5_⟩; go_simp; (try with_reducible rfl)
            try simp only [Act.put, List.getElem_toArray, List.getElem_cons_succ, List.getElem_cons_zero, List.setIfInBounds_toArray, List.set_cons_zero, List.set_cons_succ]
            refine wpAnyL_take (i := 6) (v := ?_) rfl (by kernel_rfl) (by kernel_rfl) (by kernel_rfl) (by kernel_rfl) (by kernel_rfl) (fun _ _ _ h => h) (Or.inl ⟨by kernel_rfl, ?_⟩) s7 ?_
            rotate_left
            · rintro w0 ⟨h1_, h2_, h3_, h4_, h5_⟩; go_simp; (try with_reducible rfl)
            try simp only [Act.put, List.getElem_toArray, List.getElem_cons_succ, List.getElem_cons_zero, List.setIfInBounds_toArray, List.set_cons_zero, List.set_cons_succ]
            refine wpAnyL_take (i := 7) (v := ?_) rfl (by kernel_rfl) (by kernel_rfl) (by kernel_rfl) (by kernel_rfl) (by kernel_rfl) (fun _ _ _ h => h) (Or.inl ⟨by kernel_rfl, ?_⟩) s7 ?_
            rotate_left
            · rintro w0 ⟨h1_, h2_, h3_, h4_, h5_⟩; go_simp; (try with_reducible rfl)
            try simp only [Act.put, List.getElem_toArray, List.getElem_cons_succ, List.getElem_cons_zero, List.setIfInBounds_toArray, List.set_cons_zero, List.set_cons_succ]
            refine wpAnyL_take (i := 8) (v := ?_) rfl (by kernel_rfl) (by kernel_rfl) (by kernel_rfl) (by kernel_rfl) (by kernel_rfl) (fun _ _ _ h => h) (Or.inl ⟨by kernel_rfl, ?_⟩) s7 ?_
            rotate_left
            · rintro w0 ⟨h1_, h2_, h3_, h4_, h5_⟩; go_simp; (try with_reducible rfl)
            try simp only [Act.put, List.getElem_toArray, List.getElem_cons_succ, List.getElem_cons_zero, List.setIfInBounds_toArray, List.set_cons_zero, List.set_cons_succ]
            refine wpAnyL_take (i := 9) (v := ?_) rfl (by kernel_rfl) (by kernel_rfl) (by kernel_rfl) (by kernel_rfl) (by kernel_rfl) (fun _ _ _ h => h) (Or.inl ⟨by kernel_rfl, ?_⟩) s7 ?_
            rotate_left
            · rintro w0 ⟨h1_, h2_, h3_, h4_, h5_⟩; go_simp; (try with_reducible rfl)
            try simp only [Act.put, List.getElem_toArray, List.getElem_cons_succ, List.getElem_cons_zero, List.setIfInBounds_toArray, List.set_cons_zero, List.set_cons_succ]
            refine wpAnyL_take (i := 10) (v := ?_) rfl (by kernel_rfl) (by kernel_rfl) (by kernel_rfl) (by kernel_rfl) (by kernel_rfl) (fun _ _ _ h => h) (Or.inl ⟨by kernel_rfl, ?_⟩) s7 ?_
            rotate_left
            · rintro w0 ⟨h1_, h2_, h3_, h4_, h5_⟩; go_simp; (try with_reducible rfl)
            try simp only [Act.put, List.getElem_toArray, List.getElem_cons_succ, List.getElem_cons_zero, List.setIfInBounds_toArray, List.set_cons_zero, List.set_cons_succ]
            refine wpAnyL_take (i := 11) (v := ?_) rfl (by kernel_rfl) (by kernel_rfl) (by kernel_rfl) (by kernel_rfl) (by kernel_rfl) (fun _ _ _ h => h) (Or.inl ⟨by kernel_rfl, ?_⟩) s7 ?_
            rotate_left
            · rintro w0 ⟨h1_, h2_, h3_, h4_, h5_⟩; go_simp; (try with_reducible rfl)
            try simp only [Act.put, List.getElem_toArray, List.getElem_cons_succ, List.getElem_cons_zero, List.setIfInBounds_toArray, List.set_cons_zero, List.set_cons_succ]
            refine wpAnyL_take (i := 12) (v := ?_) rfl (by kernel_rfl) (by kernel_rfl) (by kernel_rfl) (by kernel_rfl) (by kernel_rfl) (fun _ _ _ h => h) (Or.inl ⟨by kernel_rfl, ?_⟩) s7 ?_
            rotate_left
            · rintro w0 ⟨h1_, h2_, h3_, h4_, h5_⟩; go_simp; (try with_reducible rfl)
            try simp only [Act.put, List.getElem_toArray, List.getElem_cons_succ, List.getElem_cons_zero, List.setIfInBounds_toArray, List.set_cons_zero, List.set_cons_succ]
            refine wpAnyL_take (i := 13) (v := ?_) rfl (by kernel_rfl) (by kernel_rfl) (by kernel_rfl) (by kernel_rfl) (by kernel_rfl) (fun _ _ _ h => h) (Or.inl ⟨by kernel_rfl, ?_⟩) s7 ?_
            rotate_left
            · rintro w0 ⟨h1_, h2_, h3_, h4_, h5_⟩; go_simp; (try with_reducible rfl)
            try simp only [Act.put, List.getElem_toArray, List.getElem_cons_succ, List.getElem_cons_zero, List.setIfInBounds_toArray, List.set_cons_zero, List.set_cons_succ]
            refine wpAnyL_take (i := 14) (v := ?_) rfl (by kernel_rfl) (by kernel_rfl) (by kernel_rfl) (by kernel_rfl) (by kernel_rfl) (fun _ _ _ h => h) (Or.inl ⟨by kernel_rfl, ?_⟩) s7 ?_
            rotate_left
            · rintro w0 ⟨h1_, h2_, h3_, h4_, h5_⟩; go_simp; (try with_reducible rfl)
            try simp only [Act.put, List.getElem_toArray, List.getElem_cons_succ, List.getElem_cons_zero, List.setIfInBounds_toArray, List.set_cons_zero, List.set_cons_succ]
            refine wpAnyL_take (i := 15) (v := ?_) rfl (by kernel_rfl) (by kernel_rfl) (by kernel_rfl) (by kernel_rfl) (by kernel_rfl) (fun _ _ _ h => h) (Or.inl ⟨by kernel_rfl, ?_⟩) s7 ?_
            rotate_left
            · rintro w0 ⟨h1_, h2_, h3_, h4_, h5_⟩; go_simp; (try with_reducible rfl)
            try simp only [Act.put, List.getElem_toArray, List.getElem_cons_succ, List.getElem_cons_zero, List.setIfInBounds_toArray, List.set_cons_zero, List.set_cons_succ]
            refine wpAnyL_take (i := 16) (v := ?_) rfl (by kernel_rfl) (by kernel_rfl) (by kernel_rfl) (by kernel_rfl) (by kernel_rfl) (fun _ _ _ h => h) (Or.inl ⟨by kernel_rfl, ?_⟩) s7 ?_
            rotate_left
            · rintro w0 ⟨h1_, h2_, h3_, h4_, h5_⟩; go_simp; (try with_reducible rfl)
            try simp only [Act.put, List.getElem_toArray, List.getElem_cons_succ, List.getElem_cons_zero, List.setIfInBounds_toArray, List.set_cons_zero, List.set_cons_succ]
            refine wpAnyL_take (i := 17) (v := ?_) rfl (by kernel_rfl) (by kernel_rfl) (by kernel_rfl) (by kernel_rfl) (by kernel_rfl) (fun _ _ _ h => h) (Or.inl ⟨by kernel_rfl, ?_⟩) s7 ?_
            rotate_left
            · rintro w0 ⟨h1_, h2_, h3_, h4_, h5_⟩; go_simp; (try with_reducible rfl)
            try simp only [Act.put, List.getElem_toArray, List.getElem_cons_succ, List.getElem_cons_zero, List.setIfInBounds_toArray, List.set_cons_zero, List.set_cons_succ]
            refine wpAnyL_take (i := 18) (v := ?_) rfl (by kernel_rfl) (by kernel_rfl) (by kernel_rfl) (by kernel_rfl) (by kernel_rfl) (fun _ _ _ h => h) (Or.inl ⟨by kernel_rfl, ?_⟩) s7 ?_
            rotate_left
            · rintro w0 ⟨h1_, h2_, h3_, h4_, h5_⟩; go_simp; (try with_reducible rfl)
            try simp only [Act.put, List.getElem_toArray, List.getElem_cons_succ, List.getElem_cons_zero, List.setIfInBounds_toArray, List.set_cons_zero, List.set_cons_succ]
            refine wpAnyL_one (i := 19) (by kernel_rfl) rfl (fun K hK => ?_)
            go_simp
            refine hK.out _ _ (fun h => absurd (by simp) h) ?_
            clear hK K
            try simp only [Act.put, List.getElem_toArray, List.getElem_cons_succ, List.getElem_cons_zero, List.setIfInBounds_toArray, List.set_cons_zero, List.set_cons_succ]
            refine wpAnyL_done (by kernel_rfl) ?_ _
            obtain ⟨R, M⟩ := HR2.out
            clear cb1 fb1 s7 HR2
            dsimp only [BEl.v] at R M
            generalize World.drew (World.setCell _ ⟨b, i, none⟩ _) = w7 at *
            go_wp2_with fail
            have R1 := R.drew
            have M1 := M.drew
            obtain ⟨x1, q1, _, _, hx1, _, hq1, eb1, ed1, cb1, fb1, cd1, fd1, hs1⟩ := R1.sx hin
            cases eb1
            cases ed1
            obtain ⟨i1, y1, _, _, hi1, hy1, yin1, ea1, ee1, ca1, ce1, _, _, hyl1⟩ := R1.py hkm
            cases ea1
            cases ee1
            rw [hki] at hi1
            cases hi1
            rw [hyk] at hy1
            cases hy1
            have s8 := And.intro R1.c1 (And.intro R1.c2 ca1)
            have R2 := R.setG (i := i) (q := false)
            have HR2 := Lib.hid (And.intro R2.1.drew (M.trans R2.2).drew)
            clear R1 M1 R M R2 hx1 hq1 cb1 fb1 hs1 ca1 ce1 yin1
            refine wp_region_late [12] (fun w' => w'.cell? ⟨g, 1, none⟩ = some (.slice (some ⟨d, 0, none⟩) n gc) ∧ w'.cell? ⟨g, 2, none⟩ = some (.slice (some ⟨a, 0, none⟩) m ac) ∧ w'.cell? ⟨a, k, none⟩ = some (.int .i64 (i : Int))) (by kernel_rfl) ?_
            refine wpAnyL_take (i := 0) (v := ?_) rfl (by kernel_rfl) (by kernel_rfl) (by kernel_rfl) (by kernel_rfl) (by kernel_rfl) (fun _ _ _ h => h) (Or.inl ⟨by kernel_rfl, ?_⟩) s8 ?_
            rotate_left
            · rintro w0 ⟨h1_, h2_, h3_⟩; go_simp; (try with_reducible rfl)
            try simp only [Act.put, List.getElem_toArray, List.getElem_cons_succ, List.getElem_cons_zero, List.setIfInBounds_toArray, List.set_cons_zero, List.set_cons_succ]
            refine wpAnyL_take (i := 1) (v := ?_) rfl (by kernel_rfl) (by kernel_rfl) (by kernel_rfl) (by kernel_rfl) (by kernel_rfl) (fun _ _ _ h => h) (Or.inl ⟨by kernel_rfl, ?_⟩) s8 ?_
            rotate_left
            · rintro w0 ⟨h1_, h2_, h3_⟩; go_simp; (try with_reducible rfl)
            try simp only [Act.put, List.getElem_toArray, List.getElem_cons_succ, List.getElem_cons_zero, List.setIfInBounds_toArray, List.set_cons_zero, List.set_cons_succ]
            refine wpAnyL_take (i := 2) (v := ?_) rfl (by kernel_rfl) (by kernel_rfl) (by kernel_rfl) (by kernel_rfl) (by kernel_rfl) (fun _ _ _ h => h) (Or.inl ⟨by kernel_rfl, ?_⟩) s8 ?_
            rotate_left
            · rintro w0 ⟨h1_, h2_, h3_⟩; go_simp; (try with_reducible rfl)
            try simp only [Act.put, List.getElem_toArray, List.getElem_cons_succ, List.getElem_cons_zero, List.setIfInBounds_toArray, List.set_cons_zero, List.set_cons_succ]
            refine wpAnyL_take (i := 3) (v := ?_) rfl (by kernel_rfl) (by kernel_rfl) (by kernel_rfl) (by kernel_rfl) (by kernel_rfl) (fun _ _ _ h => h) (Or.inl ⟨by kernel_rfl, ?_⟩) s8 ?_
            rotate_left
            · rintro w0 ⟨h1_, h2_, h3_⟩; go_simp; (try with_reducible rfl)
            try simp only [Act.put, List.getElem_toArray, List.getElem_cons_succ, List.getElem_cons_zero, List.setIfInBounds_toArray, List.set_cons_zero, List.set_cons_succ]
            refine wpAnyL_take (i := 4) (v := ?_) rfl (by kernel_rfl) (by kernel_rfl) (by kernel_rfl) (by kernel_rfl) (by kernel_rfl) (fun _ _ _ h => h) (Or.inl ⟨by kernel_rfl, ?_⟩) s8 ?_
            rotate_left
            · rintro w0 ⟨h1_, h2_, h3_⟩; go_simp; (try with_reducible rfl)
            try simp only [Act.put, List.getElem_toArray, List.getElem_cons_succ, List.getElem_cons_zero, List.setIfInBounds_toArray, List.set_cons_zero, List.set_cons_succ]
            refine wpAnyL_take (i := 5) (v := ?_) rfl (by kernel_rfl) (by kernel_rfl) (by kernel_rfl) (by kernel_rfl) (by kernel_rfl) (fun _ _ _ h => h) (Or.inl ⟨by kernel_rfl, ?_⟩) s8 ?_
            rotate_left
            · rintro w0 ⟨h1_, h2_, h3_⟩; go_simp; (try with_reducible rfl)
            try simp only [Act.put, List.getElem_toArray, List.getElem_cons_succ, List.getElem_cons_zero, List.setIfInBounds_toArray, List.set_cons_zero, List.set_cons_succ]
            refine wpAnyL_take (i := 6) (v := ?_) rfl (by kernel_rfl) (by kernel_rfl) (by kernel_rfl) (by kernel_rfl) (by kernel_rfl) (fun _ _ _ h => h) (Or.inl ⟨by kernel_rfl, ?_⟩) s8 ?_
            rotate_left
            · rintro w0 ⟨h1_, h2_, h3_⟩; go_simp; (try with_reducible rfl)
            try simp only [Act.put, List.getElem_toArray, List.getElem_cons_succ, List.getElem_cons_zero, List.setIfInBounds_toArray, List.set_cons_zero, List.set_cons_succ]
            refine wpAnyL_take (i := 7) (v := ?_) rfl (by kernel_rfl) (by kernel_rfl) (by kernel_rfl) (by kernel_rfl) (by kernel_rfl) (fun _ _ _ h => h) (Or.inl ⟨by kernel_rfl, ?_⟩) s8 ?_
            rotate_left
            · rintro w0 ⟨h1_, h2_, h3_⟩; go_simp; (try with_reducible rfl)
            try simp only [Act.put, List.getElem_toArray, List.getElem_cons_succ, List.getElem_cons_zero, List.setIfInBounds_toArray, List.set_cons_zero, List.set_cons_succ]
            refine wpAnyL_take (i := 8) (v := ?_) rfl (by kernel_rfl) (by kernel_rfl) (by kernel_rfl) (by kernel_rfl) (by kernel_rfl) (fun _ _ _ h => h) (Or.inl ⟨by kernel_rfl, ?_⟩) s8 ?_
            rotate_left
            · rintro w0 ⟨h1_, h2_, h3_⟩; go_simp; (try with_reducible rfl)
            try simp only [Act.put, List.getElem_toArray, List.getElem_cons_succ, List.getElem_cons_zero, List.setIfInBounds_toArray, List.set_cons_zero, List.set_cons_succ]
            refine wpAnyL_take (i := 9) (v := ?_) rfl (by kernel_rfl) (by kernel_rfl) (by kernel_rfl) (by kernel_rfl) (by kernel_rfl) (fun _ _ _ h => h) (Or.inl ⟨by kernel_rfl, ?_⟩) s8 ?_
            rotate_left
            · rintro w0 ⟨h1_, h2_, h3_⟩; go_simp; (try with_reducible rfl)
            try simp only [Act.put, List.getElem_toArray, List.getElem_cons_succ, List.getElem_cons_zero, List.setIfInBounds_toArray, List.set_cons_zero, List.set_cons_succ]
            refine wpAnyL_take (i := 10) (v := ?_) rfl (by kernel_rfl) (by kernel_rfl) (by kernel_rfl) (by kernel_rfl) (by kernel_rfl) (fun _ _ _ h => h) (Or.inl ⟨by kernel_rfl, ?_⟩) s8 ?_
            rotate_left
            · rintro w0 ⟨h1_, h2_, h3_⟩; go_simp; (try with_reducible rfl)
            try simp only [Act.put, List.getElem_toArray, List.getElem_cons_succ, List.getElem_cons_zero, List.setIfInBounds_toArray, List.set_cons_zero, List.set_cons_succ]
            refine wpAnyL_take (i := 11) (v := ?_) rfl (by kernel_rfl) (by kernel_rfl) (by kernel_rfl) (by kernel_rfl) (by kernel_rfl) (fun _ _ _ h => h) (Or.inl ⟨by kernel_rfl, ?_⟩) s8 ?_
            rotate_left
            · rintro w0 ⟨h1_, h2_, h3_⟩; go_simp; (try with_reducible rfl)
            try simp only [Act.put, List.getElem_toArray, List.getElem_cons_succ, List.getElem_cons_zero, List.setIfInBounds_toArray, List.set_cons_zero, List.set_cons_succ]
            refine wpAnyL_one (i := 12) (by kernel_rfl) rfl (fun K hK => ?_)
            go_simp
            refine hK.out _ _ (fun h => absurd (by simp) h) ?_
            clear hK K
            try simp only [Act.put, List.getElem_toArray, List.getElem_cons_succ, List.getElem_cons_zero, List.setIfInBounds_toArray, List.set_cons_zero, List.set_cons_succ]
            refine wpAnyL_done (by kernel_rfl) ?_ _
            obtain ⟨R, M⟩ := HR2.out
            clear cd1 fd1 s8 HR2
            generalize World.drew (World.setCell _ ⟨d, i, none⟩ _) = w8 at *
            go_wp2_with fail
            go_roundw
            case rel => exact ⟨k + 1, xs.set i y, bs.set i false, by omega, by go_num, R, M, HLW.out⟩
            case measure => simp [intOf]; omega
          · have HLW := Lib.hid (show layTo s false cl (k + 1) (tornBy (bs.set i true) xs) by rw [tornBy_tear HPK.out.2]; exact hby)
            clear hby
            go_wp2_with fail
            have R1 := R.drew
            have M1 := M.drew
            obtain ⟨x1, q1, _, _, hx1, _, hq1, eb1, ed1, cb1, fb1, cd1, fd1, hs1⟩ := R1.sx hin
            cases eb1
            cases ed1
            obtain ⟨i1, y1, _, _, hi1, hy1, yin1, ea1, ee1, ca1, ce1, _, _, hyl1⟩ := R1.py hkm
            cases ea1
            cases ee1
            rw [hki] at hi1
            cases hi1
            rw [hyk] at hy1
            cases hy1
            have s8 := And.intro R1.c1 (And.intro R1.c2 ca1)
            have R2 := R.setG (i := i) (q := true)
            have HR2 := Lib.hid (And.intro R2.1.drew (M.trans R2.2).drew)
            clear R1 M1 R M R2 hx1 hq1 cb1 fb1 hs1 ca1 ce1 yin1
            refine wp_region_late [12] (fun w' => w'.cell? ⟨g, 1, none⟩ = some (.slice (some ⟨d, 0, none⟩) n gc) ∧ w'.cell? ⟨g, 2, none⟩ = some (.slice (some ⟨a, 0, none⟩) m ac) ∧ w'.cell? ⟨a, k, none⟩ = some (.int .i64 (i : Int))) (by kernel_rfl) ?_
            refine wpAnyL_take (i := 0) (v := ?_) rfl (by kernel_rfl) (by kernel_rfl) (by kernel_rfl) (by kernel_rfl) (by kernel_rfl) (fun _ _ _ h => h) (Or.inl ⟨by kernel_rfl, ?_⟩) s8 ?_
            rotate_left
            · rintro w0 ⟨h1_, h2_, h3_⟩; go_simp; (try with_reducible rfl)
            try simp only [Act.put, List.getElem_toArray, List.getElem_cons_succ, List.getElem_cons_zero, List.setIfInBounds_toArray, List.set_cons_zero, List.set_cons_succ]
            refine wpAnyL_take (i := 1) (v := ?_) rfl (by kernel_rfl) (by kernel_rfl) (by kernel_rfl) (by kernel_rfl) (by kernel_rfl) (fun _ _ _ h => h) (Or.inl ⟨by kernel_rfl, ?_⟩) s8 ?_
            rotate_left
            · rintro w0 ⟨h1_, h2_, h3_⟩; go_simp; (try with_reducible rfl)
            try simp only [Act.put, List.getElem_toArray, List.getElem_cons_succ, List.getElem_cons_zero, List.setIfInBounds_toArray, List.set_cons_zero, List.set_cons_succ]
            refine wpAnyL_take (i := 2) (v := ?_) rfl (by kernel_rfl) (by kernel_rfl) (by kernel_rfl) (by kernel_rfl) (by kernel_rfl) (fun _ _ _ h => h) (Or.inl ⟨by kernel_rfl, ?_⟩) s8 ?_
            rotate_left
            · rintro w0 ⟨h1_, h2_, h3_⟩; go_simp; (try with_reducible rfl)
            try simp only [Act.put, List.getElem_toArray, List.getElem_cons_succ, List.getElem_cons_zero, List.setIfInBounds_toArray, List.set_cons_zero, List.set_cons_succ]
            refine wpAnyL_take (i := 3) (v := ?_) rfl (by kernel_rfl) (by kernel_rfl) (by kernel_rfl) (by kernel_rfl) (by kernel_rfl) (fun _ _ _ h => h) (Or.inl ⟨by kernel_rfl, ?_⟩) s8 ?_
            rotate_left
            · rintro w0 ⟨h1_, h2_, h3_⟩; go_simp; (try with_reducible rfl)
            try simp only [Act.put, List.getElem_toArray, List.getElem_cons_succ, List.getElem_cons_zero, List.setIfInBounds_toArray, List.set_cons_zero, List.set_cons_succ]
            refine wpAnyL_take (i := 4) (v := ?_) rfl (by kernel_rfl) (by kernel_rfl) (by kernel_rfl) (by kernel_rfl) (by kernel_rfl) (fun _ _ _ h => h) (Or.inl ⟨by kernel_rfl, ?_⟩) s8 ?_
            rotate_left
            · rintro w0 ⟨h1_, h2_, h3_⟩; go_simp; (try with_reducible rfl)
            try simp only [Act.put, List.getElem_toArray, List.getElem_cons_succ, List.getElem_cons_zero, List.setIfInBounds_toArray, List.set_cons_zero, List.set_cons_succ]
            refine wpAnyL_take (i := 5) (v := ?_) rfl (by kernel_rfl) (by kernel_rfl) (by kernel_rfl) (by kernel_rfl) (by kernel_rfl) (fun _ _ _ h => h) (Or.inl ⟨by kernel_rfl, ?_⟩) s8 ?_
            rotate_left
            · rintro w0 ⟨h1_, h2_, h3_⟩; go_simp; (try with_reducible rfl)
            try simp only [Act.put, List.getElem_toArray, List.getElem_cons_succ, List.getElem_cons_zero, List.setIfInBounds_toArray, List.set_cons_zero, List.set_cons_succ]
            refine wpAnyL_take (i := 6) (v := ?_) rfl (by kernel_rfl) (by kernel_rfl) (by kernel_rfl) (by kernel_rfl) (by kernel_rfl) (fun _ _ _ h => h) (Or.inl ⟨by kernel_rfl, ?_⟩) s8 ?_
            rotate_left
            · rintro w0 ⟨h1_, h2_, h3_⟩; go_simp; (try with_reducible rfl)
            try simp only [Act.put, List.getElem_toArray, List.getElem_cons_succ, List.getElem_cons_zero, List.setIfInBounds_toArray, List.set_cons_zero, List.set_cons_succ]
            refine wpAnyL_take (i := 7) (v := ?_) rfl (by kernel_rfl) (by kernel_rfl) (by kernel_rfl) (by kernel_rfl) (by kernel_rfl) (fun _ _ _ h => h) (Or.inl ⟨by kernel_rfl, ?_⟩) s8 ?_
            rotate_left
            · rintro w0 ⟨h1_, h2_, h3_⟩; go_simp; (try with_reducible rfl)
            try simp only [Act.put, List.getElem_toArray, List.getElem_cons_succ, List.getElem_cons_zero, List.setIfInBounds_toArray, List.set_cons_zero, List.set_cons_succ]
            refine wpAnyL_take (i := 8) (v := ?_) rfl (by kernel_rfl) (by kernel_rfl) (by kernel_rfl) (by kernel_rfl) (by kernel_rfl) (fun _ _ _ h => h) (Or.inl ⟨by kernel_rfl, ?_⟩) s8 ?_
            rotate_left
            · rintro w0 ⟨h1_, h2_, h3_⟩; go_simp; (try with_reducible rfl)
            try simp only [Act.put, List.getElem_toArray, List.getElem_cons_succ, List.getElem_cons_zero, List.setIfInBounds_toArray, List.set_cons_zero, List.set_cons_succ]
            refine wpAnyL_take (i := 9) (v := ?_) rfl (by kernel_rfl) (by kernel_rfl) (by kernel_rfl) (by kernel_rfl) (by kernel_rfl) (fun _ _ _ h => h) (Or.inl ⟨by kernel_rfl, ?_⟩) s8 ?_
            rotate_left
            · rintro w0 ⟨h1_, h2_, h3_⟩; go_simp; (try with_reducible rfl)
            try simp only [Act.put, List.getElem_toArray, List.getElem_cons_succ, List.getElem_cons_zero, List.setIfInBounds_toArray, List.set_cons_zero, List.set_cons_succ]
            refine wpAnyL_take (i := 10) (v := ?_) rfl (by kernel_rfl) (by kernel_rfl) (by kernel_rfl) (by kernel_rfl) (by kernel_rfl) (fun _ _ _ h => h) (Or.inl ⟨by kernel_rfl, ?_⟩) s8 ?_
            rotate_left
            · rintro w0 ⟨h1_, h2_, h3_⟩; go_simp; (try with_reducible rfl)
            try simp only [Act.put, List.getElem_toArray, List.getElem_cons_succ, List.getElem_cons_zero, List.setIfInBounds_toArray, List.set_cons_zero, List.set_cons_succ]
            refine wpAnyL_take (i := 11) (v := ?_) rfl (by kernel_rfl) (by kernel_rfl) (by kernel_rfl) (by kernel_rfl) (by kernel_rfl) (fun _ _ _ h => h) (Or.inl ⟨by kernel_rfl, ?_⟩) s8 ?_
            rotate_left
            · rintro w0 ⟨h1_, h2_, h3_⟩; go_simp; (try with_reducible rfl)
            try simp only [Act.put, List.getElem_toArray, List.getElem_cons_succ, List.getElem_cons_zero, List.setIfInBounds_toArray, List.set_cons_zero, List.set_cons_succ]
            refine wpAnyL_one (i := 12) (by kernel_rfl) rfl (fun K hK => ?_)
            go_simp
            refine hK.out _ _ (fun h => absurd (by simp) h) ?_
            clear hK K
            try simp only [Act.put, List.getElem_toArray, List.getElem_cons_succ, List.getElem_cons_zero, List.setIfInBounds_toArray, List.set_cons_zero, List.set_cons_succ]
            refine wpAnyL_done (by kernel_rfl) ?_ _
            obtain ⟨R, M⟩ := HR2.out
            clear cd1 fd1 s8 HR2
            generalize World.drew (World.setCell _ ⟨d, i, none⟩ _) = w8 at *
            go_wp2_with fail
            go_roundw
            case rel => exact ⟨k + 1, xs, bs.set i true, by omega, by go_num, R, M, HLW.out⟩
            case measure => simp [intOf]; omega
          · have HLW := Lib.hid (show layTo s false cl (k + 1) (tornBy bs xs) from hby)
            clear hby
            go_wp2_with fail
            go_roundw
            case rel => exact ⟨k + 1, xs, bs, by omega, by go_num, R, M, HLW.out⟩
            case measure => simp [intOf]; omega
    · obtain rfl : k = m := by omega
      have g2 := R.c2
      have t1 : ¬ (k : Int) < (k : Int) := by omega
      have f2 := R.blk.frozen 2
      have g3 := R.c3
      have f3 := R.blk.frozen 3
      obtain ⟨T', R2, M2⟩ := R.cleared
      have hfin := layTo_end HL.out (by rw [HP.out]; exact Nat.le_refl _)
      have HF := Lib.hid (And.intro R2 (And.intro (M.trans M2) hfin))
      clear R M R2 M2 hfin
      go_wp2_with fail
      go_end0
      refine ⟨⟨_, rfl⟩, T', ⟨xs, bs, ?_⟩, HF.out.2.1⟩
      rw [← HF.out.2.2]
      exact HF.out.1
end
end Go.Proofs.YtfoeapjlklfjgaaDoor

/- The contracts of heijunkaref05's Flush, Plan and Up. No condition but those of 'goes' and 'lay'. -/
namespace Go.Proofs.YtfoeapjlklfjgaaDoor
set_option linter.unusedSimpArgs false
set_option linter.unusedVariables false
open Go.RowKit

section
variable {w : World} {T : List Nat} {g : Nat} {s : DSt}
set_option maxRecDepth 100000 in
set_option maxHeartbeats 3200000 in
theorem rflush_any (R : RefAt w T g s) (hb : s.begun < 1152921504606846976) (hp : s.pend.length < 1099511627776) :
    Calls Tryd.prog 66 #[.pointer (some ⟨g, 0, none⟩)] w fun e w' => e = .returned (.int .i64 s.flush.2) ∧ ∃ T', RefAt w' T' g s.flush.1 ∧ Moved w w' T T' := by
  obtain ⟨BA, n, bc, GA, gc, AA, m, ac, NA, nc, st, xs, bs, ks, ys, h⟩ := R.ex
  have c4 := h.c4
  have hm := h.m_eq
  have H := Lib.hid h
  clear R h
  obtain ⟨dn, hdn⟩ : ∃ d, s.down = d := ⟨_, rfl⟩
  rw [hdn] at c4
  cases dn with
  | true =>
    have HF := Lib.hid (DSt.flush_down hdn)
    clear hdn hm
    go_enter Tryd.func66, Tryd.ntmps66
    go_wp2_with fail
    go_ret
    exact ⟨by rw [HF.out]; rfl, T, by rw [HF.out]; exact H.out.mk_, Moved.refl w T⟩
  | false =>
    have HD := Lib.hid hdn
    clear hdn
    go_enter Tryd.func66, Tryd.ntmps66
    go_wp2_with fail
    refine (goes_in H.out hb).mono ?_; rintro e w1 ⟨rfl, R1, M1⟩
    clear c4
    have HR := Lib.hid (And.intro R1 M1)
    clear R1 M1
    obtain ⟨gs, hgs⟩ : ∃ b, s.goes = b := ⟨_, rfl⟩
    rw [hgs]
    cases gs with
    | true =>
      have HF := Lib.hid (DSt.flush_goes HD.out hgs)
      clear hgs hm
      go_wp2_with fail
      go_ret
      exact ⟨by rw [HF.out]; rfl, T, by rw [HF.out]; exact HR.out.1.mk_, HR.out.2⟩
    | false =>
      have HF := Lib.hid (DSt.flush_ok HD.out hgs)
      clear hgs
      go_wp2_with fail
      refine (rlay_in HR.out.1 true (Ints.nil_ _ .u8 256 none 0) (fun h => absurd h (by decide)) (by decide) (by omega)).mono ?_; rintro e w2 ⟨⟨_, rfl⟩, T', xs', bs', R2, M2⟩
      have H2 := Lib.hid (And.intro R2 M2)
      clear R2 M2
      go_wp2_with fail
      go_ret
      refine ⟨by rw [HF.out]; rfl, T', ?_, HR.out.2.trans H2.out.2⟩
      rw [HF.out]
      exact H2.out.1.mk_
theorem rplan_any (R : RefAt w T g s) (k : Int) (hk : k < 9223372036854775808) (hk0 : -9223372036854775808 ≤ k) :
    Calls Tryd.prog 45 #[.pointer (some ⟨g, 0, none⟩), .int .i64 k] w fun e w' => (∃ v, e = .returned v) ∧ RefAt w' T g (s.plan k) ∧ Moved w w' T T := by
  obtain ⟨BA, n, bc, GA, gc, AA, m, ac, NA, nc, st, xs, bs, ks, ys, h⟩ := R.ex
  exact (rplan_in h k hk hk0).mono fun _ _ ⟨he, h1, h2⟩ => ⟨he, h1.mk_, h2⟩
set_option maxRecDepth 100000 in
set_option maxHeartbeats 3200000 in
theorem rup_any (R : RefAt w T g s) {cA : Option Addr} {cn cc : Nat} {cl : List Nat} (hC : Ints w .u8 256 cA cn cc cl) (hoff : 0 < cn → ∀ ad, cA = some ad → ad.block ∉ T) (hcn : cn ≤ 1099511627776) (hp : s.pend.length < 1099511627776) :
    Calls Tryd.prog 46 #[.pointer (some ⟨g, 0, none⟩), .slice cA cn cc] w fun e w' => (∃ v, e = .returned v) ∧ ∃ T', RefAt w' T' g (s.up cl) ∧ Moved w w' T T' := by
  obtain ⟨BA, n, bc, GA, gc, AA, m, ac, NA, nc, st, xs, bs, ks, ys, h⟩ := R.ex
  have hm := h.m_eq
  have HL := Lib.hid (rlay_in h false hC hoff hcn (by omega))
  clear R h hC hoff
  go_enter Tryd.func46, Tryd.ntmps46
  go_wp2_with fail
  refine HL.out.mono ?_; rintro e w2 ⟨⟨_, rfl⟩, T', xs', bs', R2, M2⟩
  have h0 := R2.st0
  have h1 := R2.st1
  have R3 := R2.put { sure := layOf s false cl, pend := [], down := false, stop := s.stop, begun := s.begun } st 4 (.bool false) rfl rfl rfl R2.est h0 h1
  have M3 := M2.set_ (p := ⟨g, 4, none⟩) R2.gT (.bool false)
  have R4 := R3.put { sure := layOf s false cl, pend := [], down := false, stop := 0, begun := s.begun } 0 5 (.int .i64 0) rfl rfl rfl rfl (by decide) (by decide)
  have M4 := M3.set_ (p := ⟨g, 5, none⟩) R3.gT (.int .i64 0)
  have R5 := R4.put (s.up cl) 0 6 (.int .i64 0) rfl rfl rfl rfl (by decide) (by decide)
  have M5 := M4.set_ (p := ⟨g, 6, none⟩) R4.gT (.int .i64 0)
  have c4 := R2.c4
  have f4 := R2.blk.frozen 4
  have c5 := R3.c5
  have f5 := R3.blk.frozen 5
  have c6 := R4.c6
  have f6 := R4.blk.frozen 6
  have H := Lib.hid (And.intro R5 M5)
  clear R2 M2 R3 M3 R4 M4 R5 M5 HL
  go_wp2_with fail
  go_end0
  exact ⟨⟨_, rfl⟩, T', H.out.1.mk_, H.out.2⟩
end
end Go.Proofs.YtfoeapjlklfjgaaDoor

/- The contract of heijunkaref05's Read. No condition but that fewer than 2^40 writes are pending. -/
namespace Go.Proofs.YtfoeapjlklfjgaaDoor
set_option linter.unusedSimpArgs false
set_option linter.unusedVariables false
open Go.RowKit

section
variable {w : World} {T : List Nat} {g : Nat} {s : DSt}
set_option maxRecDepth 100000 in
set_option maxHeartbeats 6400000 in
theorem rread_any (R : RefAt w T g s) (i : Int) (hp : s.pend.length < 1099511627776) :
    Calls Tryd.prog 69 #[.pointer (some ⟨g, 0, none⟩), .int .i64 i] w fun e w' => ∃ A n c, e = .returned (.tuple #[.slice A n c, .int .i64 (s.read i).2]) ∧ Ints w' .u8 256 A n c (s.read i).1 ∧ w = w' := by
  obtain ⟨BA, n, bc, GA, gc, AA, m, ac, NA, nc, st, xs, bs, ks, ys, h⟩ := R.ex
  have c0 := h.c0
  have c1_ := h.c1
  have c2 := h.c2
  have c3 := h.c3
  have c4 := h.c4
  have hm := h.m_eq
  have hn := h.n_eq
  have H := Lib.hid h
  clear R h
  obtain ⟨dn, hdn⟩ : ∃ d, s.down = d := ⟨_, rfl⟩
  rw [hdn] at c4
  cases dn with
  | true =>
    have HF := Lib.hid (DSt.read_down hdn i)
    clear hdn hm hn
    go_enter Tryd.func69, Tryd.ntmps69
    go_wp2_with fail
    go_ret2
    exact ⟨none, 0, 0, by rw [HF.out]; rfl, by rw [HF.out]; exact Ints.nil_ .., rfl⟩
  | false =>
  by_cases hi0 : i < 0
  · have HF := Lib.hid (DSt.read_arg hdn (i := i) (decide_eq_false (fun h => by omega)))
    clear hdn hm hn
    go_enter Tryd.func69, Tryd.ntmps69
    go_wp2_with fail
    go_ret2
    exact ⟨none, 0, 0, by rw [HF.out]; rfl, by rw [HF.out]; exact Ints.nil_ .., rfl⟩
  have hi0d : decide (i < 0) = false := decide_eq_false hi0
  by_cases hin : (n : Int) ≤ i
  · have HF := Lib.hid (DSt.read_arg hdn (i := i) (decide_eq_false (fun h => by omega)))
    have hind : decide ((n : Int) ≤ i) = true := decide_eq_true hin
    clear hdn hm hn
    go_enter Tryd.func69, Tryd.ntmps69
    go_wp2_with fail
    go_ret2
    exact ⟨none, 0, 0, by rw [HF.out]; rfl, by rw [HF.out]; exact Ints.nil_ .., rfl⟩
  have hind : decide ((n : Int) ≤ i) = false := decide_eq_false hin
  obtain ⟨ii, rfl⟩ : ∃ ii : Nat, i = (ii : Int) := ⟨i.toNat, by omega⟩
  have hii : ii < n := by omega
  have hlt : (ii : Int) < (n : Int) := by omega
  have hhas : s.has (ii : Int) = true := decide_eq_true ⟨by omega, by omega⟩
  have HH := Lib.hid (And.intro hdn hhas)
  have hwm : (m : Int) - 1 ≤ 9223372036854775807 := by omega
  obtain ⟨x, q, b, d, hx, xin, hq, rfl, rfl, cb, _, cd, _, hsu⟩ := H.out.sx hii
  have hD : s.sure.getD ii [] = if q then [] else x.l := by rw [List.getD_eq_getElem?_getD, hsu]; rfl
  have HX := Lib.hid (And.intro hD (And.intro xin.ints (H.out.full x (List.mem_of_getElem? hx))))
  have HM := Lib.hid hm
  have HW := Lib.hid (show wrap64 ((m : Int) - 1) = (m : Int) - 1 from IntWalk.wrap64_in _ (by omega))
  clear hdn hhas hm hn hsu hD xin hx hq hin hi0
  go_enter Tryd.func69, Tryd.ntmps69
  have hw := HW.out
  go_wp2_with fail
  clear hw
  go_loopw [6] (fun v wr => ∃ k : Nat, k ≤ m ∧ v = .int .i64 ((k : Int) - 1) ∧ wr = w ∧ Hid (s.cur ii = DSt.lastOf (s.pend.take k) ii (s.sure.getD ii []))) (fun v _ => (intOf v + 1).toNat)
  case atStart => exact ⟨m, Nat.le_refl _, rfl, rfl, (show s.cur ii = DSt.lastOf (s.pend.take m) ii (s.sure.getD ii []) by rw [List.take_of_length_le (by rw [HM.out]; exact Nat.le_refl _)]; rfl)⟩
  case round =>
    obtain ⟨k, hk, rfl, rfl, hL⟩ := hrel
    have HL := Lib.hid hL.out
    clear hL
    by_cases hk0 : k = 0
    · subst hk0
      have hcur : s.cur ii = if q then [] else x.l := HL.out.trans HX.out.1
      cases q with
      | true =>
        have HF := Lib.hid (DSt.read_torn HH.out.1 HH.out.2 (by rw [Int.toNat_natCast]; exact hcur))
        clear hcur
        go_wp2_with fail
        go_ret2
        exact ⟨none, 0, 0, by rw [HF.out]; rfl, by rw [HF.out]; exact Ints.nil_ .., rfl⟩
      | false =>
        have hcur : s.cur ii = x.l := hcur
        have HF := Lib.hid (DSt.read_ok HH.out.1 HH.out.2 (by rw [Int.toNat_natCast, hcur]; intro e; have := HX.out.2.2; rw [e] at this; cases this))
        have HC := Lib.hid hcur
        clear hcur
        go_wp2_with fail
        go_ret2
        exact ⟨x.A, x.n, x.c, by rw [HF.out]; rfl, by rw [HF.out, Int.toNat_natCast, HC.out]; exact HX.out.2.1, rfl⟩
    · obtain ⟨j, rfl⟩ : ∃ j, k = j + 1 := ⟨k - 1, by omega⟩
      obtain ⟨i2, y, a, e, hki, hyk, yin, rfl, rfl, ca, ce, hpk, hin2, hyl⟩ := H.out.py (k := j) (by omega)
      have hjm : (j : Int) < (m : Int) := by omega
      have hjv : (((j + 1 : Nat) : Int) - 1) = (j : Int) := by omega
      rw [hjv]
      have h0j : (0 : Int) ≤ (j : Int) := by omega
      have hst := lastOf_take (i := ii) (d := s.sure.getD ii []) hpk
      by_cases he : i2 = ii
      · have he2 : ((i2 : Int) == (ii : Int)) = true := by simp [he]
        rw [if_pos he] at hst
        have hcur : s.cur ii = y.l := HL.out.trans hst
        have HF := Lib.hid (DSt.read_ok HH.out.1 HH.out.2 (by rw [Int.toNat_natCast, hcur]; intro e; rw [e] at hyl; cases hyl))
        have HC := Lib.hid (And.intro hcur yin.ints)
        clear hcur he hst hki hyk yin hpk hyl
        go_wp2_with fail
        go_ret2
        exact ⟨y.A, y.n, y.c, by rw [HF.out]; rfl, by rw [HF.out, Int.toNat_natCast, HC.out.1]; exact HC.out.2, rfl⟩
      · have he2 : ((i2 : Int) == (ii : Int)) = false := by simp; omega
        rw [if_neg he] at hst
        have HC := Lib.hid (HL.out.trans hst)
        clear he hst hki hyk yin hpk hyl hjv
        go_wp2_with fail
        go_roundw
        case rel => exact ⟨j, by omega, rfl, trivial, HC.out⟩
        case measure => simp [intOf]
end
end Go.Proofs.YtfoeapjlklfjgaaDoor

/- heijunkaref05's disk while a write is being added. No condition. -/
namespace Go.Proofs.YtfoeapjlklfjgaaDoor
set_option linter.unusedSimpArgs false
set_option linter.unusedVariables false
open Go.RowKit

/-- As RIn, the two rows of what is pending each of a length of its own. -/
structure RRaw (w : World) (T : List Nat) (g : Nat) (BA : Option Addr) (n bc : Nat) (GA : Option Addr) (gc : Nat) (AA : Option Addr) (ma ac : Nat) (NA : Option Addr) (mn nc : Nat) (dn : Bool) (st bg : Int) (xs : List BEl) (bs : List Bool) (ks : List Nat) (ys : List BEl) : Prop where
  blk : Blk w g 103 #[.slice BA n bc, .slice GA n gc, .slice AA ma ac, .slice NA mn nc, .bool dn, .int .i64 st, .int .i64 bg]
  b : OwnR w 0 23 1 BA n bc (xs.map BEl.v)
  bad : OwnR w 0 4 1 GA n gc (bs.map Value.bool)
  at_ : OwnR w 0 3 1 AA ma ac (ks.map intV)
  new : OwnR w 0 23 1 NA mn nc (ys.map BEl.v)
  apart : Dis BA NA
  xin : ∀ x ∈ xs, x.In w
  yin : ∀ y ∈ ys, y.In w
  hT : T = g :: (Ab BA ++ (Ab GA ++ (Ab AA ++ Ab NA)))
  no : NoU8 w T
section
variable {w w' : World} {T T1 : List Nat} {g : Nat} {s : DSt} {BA : Option Addr} {n bc : Nat} {GA : Option Addr} {gc : Nat} {AA : Option Addr} {m ma ac : Nat} {NA : Option Addr} {mn nc : Nat} {dn : Bool} {st bg : Int} {xs : List BEl} {bs : List Bool} {ks : List Nat} {ys : List BEl}
theorem RIn.raw (h : RIn w T g s BA n bc GA gc AA m ac NA nc st xs bs ks ys) : RRaw w T g BA n bc GA gc AA m ac NA m nc s.down st (s.begun : Int) xs bs ks ys := ⟨h.blk, h.b, h.bad, h.at_, h.new, h.apart, h.xin, h.yin, h.hT, h.no⟩
theorem RRaw.gT (h : RRaw w T g BA n bc GA gc AA ma ac NA mn nc dn st bg xs bs ks ys) : g ∈ T := by rw [h.hT]; simp
theorem RRaw.lt (h : RRaw w T g BA n bc GA gc AA ma ac NA mn nc dn st bg xs bs ks ys) : ∀ k ∈ T, k < w.heap.size := h.no.lt
theorem RRaw.below (h : RRaw w T g BA n bc GA gc AA ma ac NA mn nc dn st bg xs bs ks ys) (hb : Below w.heap.size w w') : RRaw w' T g BA n bc GA gc AA ma ac NA mn nc dn st bg xs bs ks ys :=
  ⟨h.blk.below hb h.blk.lt, h.b.below hb, h.bad.below hb, h.at_.below hb, h.new.below hb, h.apart, fun x hx => (h.xin x hx).below hb, fun y hy => (h.yin y hy).below hb, h.hT, h.no.moved (Moved.of_below hb []) (fun _ _ h => by cases h)⟩
theorem row_ne {A : Option Addr} {k c : Nat} {e t : TypeId} {vs : List Value} {cs : Array Value} (h : OwnR w 0 e 1 A k c vs) (hb : Blk w g t cs) (ht : e ≠ t) : some g ≠ A.map (·.block) := by
  intro e1
  cases hA : A with
  | none => rw [hA] at e1; cases e1
  | some ad => rw [hA] at e1; cases e1; exact h.type_ne hb ht ad hA rfl
/-- Where one more is pending. -/
theorem RRaw.pushAt (h : RRaw w T g BA n bc GA gc AA ma ac NA mn nc dn st bg xs bs ks ys) {i : Nat} {A2 : Option Addr} {c2 : Nat}
    (hp : OwnR w' 0 3 1 A2 (ma + 1) c2 (ks.map intV ++ [intV i])) (hg : w.grownBy w' (AA.map (·.block))) (hA : A2 = AA ∨ A2 = some ⟨w.heap.size, 0, none⟩) :
    w'.frozen? ⟨g, 2, none⟩ = false ∧ w'.cell? ⟨g, 2, none⟩ = some (.slice AA ma ac) ∧ ∃ T', RRaw (w'.setCell ⟨g, 2, none⟩ (.slice A2 (ma + 1) c2)) T' g BA n bc GA gc A2 (ma + 1) c2 NA mn nc dn st bg xs bs (ks ++ [i]) ys ∧ Moved w (w'.setCell ⟨g, 2, none⟩ (.slice A2 (ma + 1) c2)) T T' := by
  have hAT : ∀ k, AA.map (·.block) = some k → k ∈ T := fun k hk => by
    rw [h.hT]
    cases hA' : AA with
    | none => rw [hA'] at hk; cases hk
    | some ad => rw [hA'] at hk; cases hk; simp [Ab]
  have hm : Moved w w' T T := (Moved.refl w T).grown hg (fun k hk => .inl (hAT k hk))
  have hgp := row_ne h.at_ h.blk (by decide)
  have hb := h.blk.grown hg hgp
  have h1 := h.b.kept hg (h.b.dis h.at_ (by decide))
  have h2 := h.bad.kept hg (h.bad.dis h.at_ (by decide))
  have h3 := h.new.kept hg (h.new.dis h.at_ (by decide))
  have hn := NoU8.cons hb (by decide) ((h1.nou8 (by decide)).app ((h2.nou8 (by decide)).app ((hp.nou8 (by decide)).app (h3.nou8 (by decide)))))
  have hm2 : Moved w w' T (g :: (Ab BA ++ (Ab GA ++ (Ab A2 ++ Ab NA)))) := hm.to' fun k hk => by
    rcases hA with rfl | rfl
    · exact .inr (.inl (by rw [h.hT]; exact hk))
    · simp only [List.mem_cons, List.mem_append] at hk
      rcases hk with hk | hk | hk | hk | hk
      · exact .inr (.inl (by rw [h.hT, hk]; simp))
      · exact .inr (.inl (by rw [h.hT]; simp [hk]))
      · exact .inr (.inl (by rw [h.hT]; simp [hk]))
      · simp only [Ab, Option.map_some, Option.toList_some, List.mem_singleton] at hk
        exact .inr (.inr (by omega))
      · exact .inr (.inl (by rw [h.hT]; simp [hk]))
  have hgT : g ∈ g :: (Ab BA ++ (Ab GA ++ (Ab A2 ++ Ab NA))) := by simp
  have hst := moved_set (w := w') (p := ⟨g, 2, none⟩) hgT (.slice A2 (ma + 1) c2)
  refine ⟨hb.frozen 2, hb.cell 2, g :: (Ab BA ++ (Ab GA ++ (Ab A2 ++ Ab NA))), ⟨hb.set_ 2 _, h1.setCell (h1.type_ne hb (by decide)) _, h2.setCell (h2.type_ne hb (by decide)) _, ?_, h3.setCell (h3.type_ne hb (by decide)) _, h.apart, fun x hx => ((h.xin x hx).stay h.no hm2).stay hn hst, fun y hy => ((h.yin y hy).stay h.no hm2).stay hn hst, rfl, hn.set_ g 2 _⟩, hm2.set_ (p := ⟨g, 2, none⟩) hgT _⟩
  rw [List.map_append]
  exact hp.setCell (hp.type_ne hb (by decide)) _
theorem RRaw.pushNew (h : RRaw w T g BA n bc GA gc AA ma ac NA mn nc dn st bg xs bs ks ys) {y : BEl} (hy : y.In w) {A2 : Option Addr} {c2 : Nat}
    (hp : OwnR w' 0 23 1 A2 (mn + 1) c2 (ys.map BEl.v ++ [y.v])) (hg : w.grownBy w' (NA.map (·.block))) (hA : A2 = NA ∨ A2 = some ⟨w.heap.size, 0, none⟩) :
    w'.frozen? ⟨g, 3, none⟩ = false ∧ w'.cell? ⟨g, 3, none⟩ = some (.slice NA mn nc) ∧ ∃ T', RRaw (w'.setCell ⟨g, 3, none⟩ (.slice A2 (mn + 1) c2)) T' g BA n bc GA gc AA ma ac A2 (mn + 1) c2 dn st bg xs bs ks (ys ++ [y]) ∧ Moved w (w'.setCell ⟨g, 3, none⟩ (.slice A2 (mn + 1) c2)) T T' := by
  have hAT : ∀ k, NA.map (·.block) = some k → k ∈ T := fun k hk => by
    rw [h.hT]
    cases hA' : NA with
    | none => rw [hA'] at hk; cases hk
    | some ad => rw [hA'] at hk; cases hk; simp [Ab]
  have hm : Moved w w' T T := (Moved.refl w T).grown hg (fun k hk => .inl (hAT k hk))
  have hgp := row_ne h.new h.blk (by decide)
  have hb := h.blk.grown hg hgp
  have h1 := h.b.kept hg (fun ad e e2 => by
    cases hN : NA with
    | none => rw [hN] at e2; cases e2
    | some ad2 =>
      rw [hN] at e2
      injection e2 with e2
      exact h.apart.ne ad ad2 e hN e2)
  have h2 := h.bad.kept hg (h.bad.dis h.new (by decide))
  have h3 := h.at_.kept hg (h.at_.dis h.new (by decide))
  have hn := NoU8.cons hb (by decide) ((h1.nou8 (by decide)).app ((h2.nou8 (by decide)).app ((h3.nou8 (by decide)).app (hp.nou8 (by decide)))))
  have hm2 : Moved w w' T (g :: (Ab BA ++ (Ab GA ++ (Ab AA ++ Ab A2)))) := hm.to' fun k hk => by
    rcases hA with rfl | rfl
    · exact .inr (.inl (by rw [h.hT]; exact hk))
    · simp only [List.mem_cons, List.mem_append] at hk
      rcases hk with hk | hk | hk | hk | hk
      · exact .inr (.inl (by rw [h.hT, hk]; simp))
      · exact .inr (.inl (by rw [h.hT]; simp [hk]))
      · exact .inr (.inl (by rw [h.hT]; simp [hk]))
      · exact .inr (.inl (by rw [h.hT]; simp [hk]))
      · simp only [Ab, Option.map_some, Option.toList_some, List.mem_singleton] at hk
        exact .inr (.inr (by omega))
  have hgT : g ∈ g :: (Ab BA ++ (Ab GA ++ (Ab AA ++ Ab A2))) := by simp
  have hst := moved_set (w := w') (p := ⟨g, 3, none⟩) hgT (.slice A2 (mn + 1) c2)
  refine ⟨hb.frozen 3, hb.cell 3, g :: (Ab BA ++ (Ab GA ++ (Ab AA ++ Ab A2))), ⟨hb.set_ 3 _, h1.setCell (h1.type_ne hb (by decide)) _, h2.setCell (h2.type_ne hb (by decide)) _, h3.setCell (h3.type_ne hb (by decide)) _, ?_, ?_, fun x hx => ((h.xin x hx).stay h.no hm2).stay hn hst, fun z hz => ?_, rfl, hn.set_ g 3 _⟩, hm2.set_ (p := ⟨g, 3, none⟩) hgT _⟩
  · rw [List.map_append]
    exact hp.setCell (hp.type_ne hb (by decide)) _
  · rcases hA with rfl | rfl
    · exact h.apart
    · exact ⟨fun x z hx hz e => by cases hz; have := (h.b.lt x hx).2; simp at e; omega⟩
  · rcases List.mem_append.1 hz with hz | hz
    · exact ((h.yin z hz).stay h.no hm2).stay hn hst
    · rw [List.mem_singleton] at hz
      subst hz
      exact (hy.stay h.no hm2).stay hn hst
end
end Go.Proofs.YtfoeapjlklfjgaaDoor

/- The contract of heijunkaref05's Write. No condition but that the row lies off the disk, and few writes are pending. -/
namespace Go.Proofs.YtfoeapjlklfjgaaDoor
set_option linter.unusedSimpArgs false
set_option linter.unusedVariables false
open Go.RowKit

theorem iinfo : (Tryd.prog.info? 3).map (fun i => (i.zero, i.size, i.bytes)) = some (some (.int .i64 0), 1, 8) := by kernel_rfl
theorem bel_of {w : World} {base c : Nat} {A : Option Addr} {l : List Nat} (h : OwnI w base .u8 256 5 A (0 + 64) c l) (hl : l.length = 64) : BEl.In w ⟨A, 0 + 64, c, l⟩ := by
  refine ⟨h.mono (Nat.zero_le _), Iff.intro (fun e => ?_) (fun e => ?_)⟩
  · have e : A = none := e
    rcases h.own.form with ⟨_, h2, _⟩ | ⟨g, cur, h2, _⟩
    · cases h2
    · rw [e] at h2; cases h2
  · have e : l = [] := e
    rw [e] at hl
    cases hl
theorem pendBy_snoc {ks : List Nat} {ys : List BEl} (h : ks.length = ys.length) (i : Nat) (y : BEl) : pendBy (ks ++ [i]) (ys ++ [y]) = pendBy ks ys ++ [(i, y.l)] := by
  unfold pendBy
  rw [List.zipWith_append h]
  rfl
theorem RRaw.rin {w w1 : World} {T T1 : List Nat} {g i m : Nat} {y : BEl} {s : DSt} {BA : Option Addr} {n bc : Nat} {GA : Option Addr} {gc : Nat} {AA AA1 : Option Addr} {ac ac1 : Nat} {NA NA1 : Option Addr} {nc nc1 : Nat} {st : Int} {xs : List BEl} {bs : List Bool} {ks : List Nat} {ys : List BEl}
    (h : RRaw w T g BA n bc GA gc AA (m + 1) ac NA (m + 1) nc s.down st (s.begun : Int) xs bs (ks ++ [i]) (ys ++ [y])) (hk : RIn w1 T1 g s BA n bc GA gc AA1 m ac1 NA1 nc1 st xs bs ks ys) (hi : i < s.sure.length) (hl : y.l.length = 64) :
    RIn w T g { s with pend := s.pend ++ [(i, y.l)] } BA n bc GA gc AA (m + 1) ac NA nc st xs bs (ks ++ [i]) (ys ++ [y]) :=
  ⟨h.blk, h.b, h.bad, h.at_, h.new, h.apart, h.xin, h.yin, hk.full, hk.es, by rw [pendBy_snoc (by rw [hk.kl, hk.yl])]; show s.pend ++ _ = _; rw [hk.ep], hk.est, hk.st0, h.hT, h.no, ⟨hk.wf.sure, fun p hp => by
    have hp : p ∈ s.pend ++ [(i, y.l)] := hp
    rcases List.mem_append.1 hp with hp | hp
    · exact hk.wf.pend p hp
    · rw [List.mem_singleton] at hp
      subst hp
      exact ⟨hi, hl⟩, hk.wf.most, hk.wf.stop0, hk.wf.stop1⟩⟩
section
variable {w : World} {T : List Nat} {g : Nat} {s : DSt}
set_option maxRecDepth 100000 in
set_option maxHeartbeats 12800000 in
theorem rwrite_disk (R : RefAt w T g s) (i : Int) {bA : Option Addr} {bn bc' : Nat} {l : List Nat} (hB : Ints w .u8 256 bA bn bc' l) (hoff : ∀ ad, bA = some ad → ad.block ∉ T) (hbn : (bn : Int) ≤ 9223372036854775807) (hb : s.begun < 1152921504606846976) (hp : s.pend.length < 1099511627776) :
    Calls Tryd.prog 44 #[.pointer (some ⟨g, 0, none⟩), .int .i64 i, .slice bA bn bc'] w fun e w' => e = .returned (.int .i64 (s.write i l).2) ∧ ∃ T', RefAt w' T' g (s.write i l).1 ∧ Moved w w' T T' := by
  obtain ⟨BA, n, bc, GA, gc, AA, m, ac, NA, nc, st, xs, bs, ks, ys, h⟩ := R.ex
  have c0 := h.c0
  have c4 := h.c4
  have hm := h.m_eq
  have hn := h.n_eq
  have hlen := hB.len
  have H := Lib.hid h
  clear R h
  obtain ⟨dn, hdn⟩ : ∃ d, s.down = d := ⟨_, rfl⟩
  rw [hdn] at c4
  cases dn with
  | true =>
    have HF := Lib.hid (DSt.write_down hdn i l)
    clear hdn hm hn
    go_enter Tryd.func44, Tryd.ntmps44
    go_wp2_with fail
    go_ret
    exact ⟨by rw [HF.out]; rfl, T, by rw [HF.out]; exact H.out.mk_, Moved.refl w T⟩
  | false =>
  by_cases hi0 : i < 0
  · have HF := Lib.hid (DSt.write_arg hdn (i := i) (b := l) (by rw [show s.has i = false from decide_eq_false (fun h => by omega)]; rfl))
    clear hdn hm hn
    go_enter Tryd.func44, Tryd.ntmps44
    go_wp2_with fail
    go_ret
    exact ⟨by rw [HF.out]; rfl, T, by rw [HF.out]; exact H.out.mk_, Moved.refl w T⟩
  have hi0d : decide (i < 0) = false := decide_eq_false hi0
  by_cases hin : (n : Int) ≤ i
  · have HF := Lib.hid (DSt.write_arg hdn (i := i) (b := l) (by rw [show s.has i = false from decide_eq_false (fun h => by omega)]; rfl))
    have hind : decide ((n : Int) ≤ i) = true := decide_eq_true hin
    clear hdn hm hn
    go_enter Tryd.func44, Tryd.ntmps44
    go_wp2_with fail
    go_ret
    exact ⟨by rw [HF.out]; rfl, T, by rw [HF.out]; exact H.out.mk_, Moved.refl w T⟩
  have hind : decide ((n : Int) ≤ i) = false := decide_eq_false hin
  by_cases h64 : bn = 64
  case neg =>
    have HF := Lib.hid (DSt.write_arg hdn (i := i) (b := l) (by rw [decide_eq_false (show ¬ l.length = 64 by omega), Bool.and_false]))
    have h64i : ((bn : Int) != 64) = true := by simp; omega
    clear hdn hm hn h64
    go_enter Tryd.func44, Tryd.ntmps44
    go_wp2_with fail
    go_ret
    exact ⟨by rw [HF.out]; rfl, T, by rw [HF.out]; exact H.out.mk_, Moved.refl w T⟩
  subst h64
  obtain ⟨ii, rfl⟩ : ∃ ii : Nat, i = (ii : Int) := ⟨i.toNat, by omega⟩
  have hii : ii < s.sure.length := by omega
  have hltn : ii < n := by omega
  have hw : (s.has (ii : Int) && decide (l.length = 64)) = true := by
    rw [show s.has (ii : Int) = true from decide_eq_true ⟨by omega, by omega⟩, decide_eq_true hlen]; rfl
  have HD := Lib.hid (And.intro hdn (And.intro hw (And.intro hoff hii)))
  have HB := Lib.hid hlen
  have HI := Lib.hid hB
  clear hdn hw hoff hii hi0 hin hB hlen
  go_enter Tryd.func44, Tryd.ntmps44
  go_wp2_with fail
  refine (goes_in H.out hb).mono ?_; rintro e w1 ⟨rfl, R1, M1⟩
  clear c0 c4
  obtain ⟨gs, hgs⟩ : ∃ b, s.goes = b := ⟨_, rfl⟩
  rw [hgs]
  cases gs with
  | true =>
    have HF := Lib.hid (DSt.write_goes HD.out.1 HD.out.2.1 hgs)
    have H1 := Lib.hid (And.intro R1 M1)
    clear hgs hm R1 M1
    go_wp2_with fail
    go_ret
    exact ⟨by rw [HF.out]; rfl, T, by rw [HF.out]; exact H1.out.1.mk_, H1.out.2⟩
  | false =>
    have HF := Lib.hid (DSt.write_ok HD.out.1 HD.out.2.1 hgs)
    have HK := Lib.hid R1
    have hB1 := ints_moved HI.out (fun _ => HD.out.2.2.1) M1
    have hBo : ∀ ad, bA = some ad → ad.block < w.heap.size := fun ad e => by
      obtain ⟨b', o', e', hb', _⟩ := HI.out.rd.at_ (by decide)
      rw [e'] at e; cases e; exact hb'
    have HBO := Lib.hid hBo
    have RR := R1.raw
    have c2 := R1.c2
    have hRR := RR.below ((Below.refl _ _).alloc (Nat.le_refl _) (.cells #[.int .i64 (ii : Int)] 3))
    have hMM := M1.alloc (.cells #[.int .i64 (ii : Int)] 3)
    clear hgs R1 hBo
    go_upto_region 8 with (at_builtin; refine wpList_appR _ rfl (.tmp 33) (.tmp 35) 101 rfl 3 (.int .i64 0) 1 8 Tryd.underlying101 iinfo rfl (by omega) (by omega) rfl hRR.at_ (ad := ⟨w1.heap.size, 0, none⟩) (m := 1) (c' := 1) [.int .i64 (ii : Int)] rfl rfl (cells_new w1 #[.int .i64 (ii : Int)] 3 (g := w1.heap.size) rfl) (by intro u hu; rw [List.mem_singleton] at hu; subst hu; rfl) (by omega) (Nat.zero_le _) ?_; intro A3 c3 w3 o3 g3 a3; obtain ⟨f2, c2_, T4, R4, M4⟩ := hRR.pushAt o3 g3 a3)
    have M4 := hMM.trans M4
    have hB4 := ints_moved HI.out (fun _ => HD.out.2.2.1) M4
    clear RR hRR hMM M1 hB1 o3 g3 a3 f2 c2_ c2
    generalize World.setCell _ ⟨g, 2, none⟩ _ = w4 at *
    have R5 := R4.below (Below.refl _ _).drew
    have M5 := M4.drew
    have hB5 := hB4.below (Below.refl _ _).drew
    generalize hwd : World.drew _ = w5 at *
    have s0 : (fun w' : World => w'.cell? ⟨g, 3, none⟩ = some (.slice NA m nc)) w5 := R5.blk.cell 3
    refine wp_region_late [12] (fun w' : World => w'.cell? ⟨g, 3, none⟩ = some (.slice NA m nc)) (by kernel_rfl) ?_
    rw [hwd]
    refine wpAnyL_take (i := 0) (v := ?_) rfl (by kernel_rfl) (by kernel_rfl) (by kernel_rfl) (by kernel_rfl) (by kernel_rfl) (fun _ _ _ h => h) (Or.inl ⟨by kernel_rfl, ?_⟩) s0 ?_
    rotate_left
    · rintro w0 h1_; go_simp; (try with_reducible rfl)
    try simp only [Act.put, List.getElem_toArray, List.getElem_cons_succ, List.getElem_cons_zero, List.setIfInBounds_toArray, List.set_cons_zero, List.set_cons_succ]
    refine wpAnyL_take (i := 1) (v := ?_) rfl (by kernel_rfl) (by kernel_rfl) (by kernel_rfl) (by kernel_rfl) (by kernel_rfl) (fun _ _ _ h => h) (Or.inl ⟨by kernel_rfl, ?_⟩) s0 ?_
    rotate_left
    · rintro w0 h1_; go_simp; (try with_reducible rfl)
    try simp only [Act.put, List.getElem_toArray, List.getElem_cons_succ, List.getElem_cons_zero, List.setIfInBounds_toArray, List.set_cons_zero, List.set_cons_succ]
    refine wpAnyL_take (i := 2) (v := ?_) rfl (by kernel_rfl) (by kernel_rfl) (by kernel_rfl) (by kernel_rfl) (by kernel_rfl) (fun _ _ _ h => h) (Or.inl ⟨by kernel_rfl, ?_⟩) s0 ?_
    rotate_left
    · rintro w0 h1_; go_simp; (try with_reducible rfl)
    try simp only [Act.put, List.getElem_toArray, List.getElem_cons_succ, List.getElem_cons_zero, List.setIfInBounds_toArray, List.set_cons_zero, List.set_cons_succ]
    refine wpAnyL_take (i := 3) (v := ?_) rfl (by kernel_rfl) (by kernel_rfl) (by kernel_rfl) (by kernel_rfl) (by kernel_rfl) (fun _ _ _ h => h) (Or.inl ⟨by kernel_rfl, ?_⟩) s0 ?_
    rotate_left
    · rintro w0 h1_; go_simp; (try with_reducible rfl)
    try simp only [Act.put, List.getElem_toArray, List.getElem_cons_succ, List.getElem_cons_zero, List.setIfInBounds_toArray, List.set_cons_zero, List.set_cons_succ]
    refine wpAnyL_take (i := 4) (v := ?_) rfl (by kernel_rfl) (by kernel_rfl) (by kernel_rfl) (by kernel_rfl) (by kernel_rfl) (fun _ _ _ h => h) (Or.inl ⟨by kernel_rfl, ?_⟩) s0 ?_
    rotate_left
    · rintro w0 h1_; go_simp; (try with_reducible rfl)
    try simp only [Act.put, List.getElem_toArray, List.getElem_cons_succ, List.getElem_cons_zero, List.setIfInBounds_toArray, List.set_cons_zero, List.set_cons_succ]
    refine wpAnyL_take (i := 6) (v := ?_) rfl (by kernel_rfl) (by kernel_rfl) (by kernel_rfl) (by kernel_rfl) (by kernel_rfl) (fun _ _ _ h => h) (Or.inl ⟨by kernel_rfl, ?_⟩) s0 ?_
    rotate_left
    · rintro w0 h1_; go_simp; (try with_reducible rfl)
    try simp only [Act.put, List.getElem_toArray, List.getElem_cons_succ, List.getElem_cons_zero, List.setIfInBounds_toArray, List.set_cons_zero, List.set_cons_succ]
    refine wpAnyL_one (i := 5) (by kernel_rfl) rfl (fun K hK => ?_)
    go_simp
    have R6 := R5.below ((Below.refl _ _).alloc (Nat.le_refl _) (.cells #[] 5))
    have hB6 := hB5.below ((Below.refl _ _).alloc (Nat.le_refl _) (.cells #[] 5))
    have s1 : (fun w' : World => w'.cell? ⟨g, 3, none⟩ = some (.slice NA m nc)) _ := R6.blk.cell 3
    refine hK.out _ _ (fun _ => s1) ?_
    clear hK K
    try simp only [Act.put, List.getElem_toArray, List.getElem_cons_succ, List.getElem_cons_zero, List.setIfInBounds_toArray, List.set_cons_zero, List.set_cons_succ]
    refine wpAnyL_one (i := 7) (by kernel_rfl) rfl (fun K hK => ?_)
    refine step_appI _ rfl (.tmp 44) (.tmp 45) _ rfl 5 1 Tryd.underlying23 dinfo_u8 (by omega) (OwnI.empty (base := w5.heap.size) .u8 256 5 rfl (Nat.le_refl _)) rfl hB6 rfl (by omega) (by simp) ?_
    intro A7 c7 w7 o7 g7 a7
    rw [List.nil_append] at o7
    have b7 : Below w5.heap.size w5 w7 := below_own ((Below.refl w5.heap.size w5).alloc (Nat.le_refl _) _) g7 (by simp) (by simp)
    have R7 := R5.below b7
    have M7 := M5.below_ b7
    have s2 : (fun w' : World => w'.cell? ⟨g, 3, none⟩ = some (.slice NA m nc)) w7 := R7.blk.cell 3
    refine hK.out _ _ (fun _ => s2) ?_
    clear hK K
    try simp only [Act.put, List.getElem_toArray, List.getElem_cons_succ, List.getElem_cons_zero, List.setIfInBounds_toArray, List.set_cons_zero, List.set_cons_succ]
    refine wpAnyL_one (i := 8) (by kernel_rfl) rfl (fun K hK => ?_)
    go_simp
    have R8 := R7.below ((Below.refl _ _).alloc (Nat.le_refl _) (.cells #[.slice A7 (0 + 64) c7] 23))
    have M8 := M7.alloc (.cells #[.slice A7 (0 + 64) c7] 23)
    have s3 : (fun w' : World => w'.cell? ⟨g, 3, none⟩ = some (.slice NA m nc)) _ := R8.blk.cell 3
    refine hK.out _ _ (fun _ => s3) ?_
    clear hK K
    try simp only [Act.put, List.getElem_toArray, List.getElem_cons_succ, List.getElem_cons_zero, List.setIfInBounds_toArray, List.set_cons_zero, List.set_cons_succ]
    refine wpAnyL_one (i := 9) (by kernel_rfl) rfl (fun K hK => ?_)
    refine step_appR rfl (.tmp 43) (.tmp 47) 63 rfl 23 (.slice none 0 0) 1 24 Tryd.underlying63 binfo rfl (by omega) (by omega) rfl R8.new (ad := ⟨w7.heap.size, 0, none⟩) (m := 1) (c' := 1) [.slice A7 (0 + 64) c7] rfl rfl (cells_new w7 #[.slice A7 (0 + 64) c7] 23 (g := w7.heap.size) rfl) (by intro u hu; rw [List.mem_singleton] at hu; subst hu; rfl) (by omega) (Nat.zero_le _) ?_
    intro A9 c9 w9 o9 g9 a9
    have yin := bel_of o7 HB.out
    have yin8 := yin.below ((Below.refl _ _).alloc (Nat.le_refl _) (.cells #[.slice A7 (0 + 64) c7] 23))
    obtain ⟨f3, c3_, T9, R9, M9⟩ := R8.pushNew yin8 o9 g9 a9
    have HF9 := Lib.hid (And.intro R9 (M8.trans M9))
    have s4 : (fun w' : World => w'.cell? ⟨g, 3, none⟩ = some (.slice NA m nc)) w9 := c3_
    clear R5 R6 R7 R8 R9 M5 M7 M8 M9 o7 o9 g7 g9 a7 a9 b7 hB5 hB6 yin yin8 s0 s1 s2 s3 R4 M4 hB4
    refine hK.out _ _ (fun _ => s4) ?_
    clear hK K
    try simp only [Act.put, List.getElem_toArray, List.getElem_cons_succ, List.getElem_cons_zero, List.setIfInBounds_toArray, List.set_cons_zero, List.set_cons_succ]
    refine wpAnyL_take (i := 10) (v := ?_) rfl (by kernel_rfl) (by kernel_rfl) (by kernel_rfl) (by kernel_rfl) (by kernel_rfl) (fun _ _ _ h => h) (Or.inl ⟨by kernel_rfl, ?_⟩) s4 ?_
    rotate_left
    · rintro w0 h1_; go_simp; (try with_reducible rfl)
    try simp only [Act.put, List.getElem_toArray, List.getElem_cons_succ, List.getElem_cons_zero, List.setIfInBounds_toArray, List.set_cons_zero, List.set_cons_succ]
    refine wpAnyL_take (i := 11) (v := ?_) rfl (by kernel_rfl) (by kernel_rfl) (by kernel_rfl) (by kernel_rfl) (by kernel_rfl) (fun _ _ _ h => h) (Or.inl ⟨by kernel_rfl, ?_⟩) s4 ?_
    rotate_left
    · rintro w0 h1_; go_simp; (try with_reducible rfl)
    try simp only [Act.put, List.getElem_toArray, List.getElem_cons_succ, List.getElem_cons_zero, List.setIfInBounds_toArray, List.set_cons_zero, List.set_cons_succ]
    refine wpAnyL_one (i := 12) (by kernel_rfl) rfl (fun K hK => ?_)
    go_simp
    refine hK.out _ _ (fun h => absurd (by simp) h) ?_
    clear hK K
    try simp only [Act.put, List.getElem_toArray, List.getElem_cons_succ, List.getElem_cons_zero, List.setIfInBounds_toArray, List.set_cons_zero, List.set_cons_succ]
    refine wpAnyL_done (by kernel_rfl) ?_ _
    go_wp2_with fail
    go_ret
    refine ⟨by rw [HF.out]; rfl, _, ?_, HF9.out.2⟩
    rw [HF.out]
    exact (HF9.out.1.rin HK.out (show ii < s.beg.sure.length from HD.out.2.2.2) HB.out).mk_
end
end Go.Proofs.YtfoeapjlklfjgaaDoor

/- The contract of heijunkaref05's Image. No condition. -/
namespace Go.Proofs.YtfoeapjlklfjgaaDoor
set_option linter.unusedSimpArgs false
set_option linter.unusedVariables false
open Go.RowKit

theorem bel_nil (w : World) : BEl.In w ⟨none, 0, 0, []⟩ := ⟨OwnI.nil_ .., Iff.intro (fun _ => rfl) (fun _ => rfl)⟩
section
variable {w : World} {T : List Nat} {g : Nat} {s : DSt}
set_option maxRecDepth 100000 in
set_option maxHeartbeats 6400000 in
theorem rimage_any (R : RefAt w T g s) :
    Calls Tryd.prog 48 #[.pointer (some ⟨g, 0, none⟩)] w fun e w' => ∃ A n c, e = .returned (.slice A n c) ∧ Img w' w.heap.size A n c s.sure ∧ Below w.heap.size w w' := by
  obtain ⟨BA, n, bc, GA, gc, AA, m, ac, NA, nc, st, xs, bs, ks, ys, h⟩ := R.ex
  have hn := h.n_eq
  have hmost := h.wf.most
  have H := Lib.hid h
  clear R h
  go_enter Tryd.func48, Tryd.ntmps48
  go_wp2_with fail
  go_loopw [3, 4] (fun ov iv wr => ∃ (k : Nat) (A2 : Option Addr) (c2 : Nat), k ≤ n ∧ iv = .int .i64 (k : Int) ∧ ov = .slice A2 k c2 ∧ Img wr w.heap.size A2 k c2 (s.sure.take k) ∧ Below w.heap.size w wr) (fun _ iv _ => n - (intOf iv).toNat)
  case atStart => exact ⟨0, none, 0, Nat.zero_le _, rfl, rfl, Img.nil_ .., Below.refl _ _⟩
  case round =>
    obtain ⟨k, A2, c2, hk, rfl, rfl, hI, hb⟩ := hrel
    have hbs := hb.size
    have R := H.out.below hb
    have c0 := R.c0
    have c1_ := R.c1
    by_cases hkn : k < n
    · have hlt : (k : Int) < (n : Int) := by omega
      obtain ⟨zs, z1, z2, z3⟩ := hI.ex
      obtain ⟨x, q, b, d, hx, xin, hq, rfl, rfl, cb, _, cd, _, hsu⟩ := R.sx hkn
      cases q with
      | true =>
        have HS := Lib.hid (show s.sure[k]? = some [] from hsu)
        have hnil := bel_nil (wr.alloc (.cells #[.slice none 0 0] 23))
        clear hsu hx hq R hI
        go_wp2_with (at_builtin; refine wpList_appR _ rfl (.tmp 21) (.tmp 22) 63 rfl 23 (.slice none 0 0) 1 24 Tryd.underlying63 binfo rfl (by omega) (by omega) rfl (z1.alloc _) (ad := ⟨wr.heap.size, 0, none⟩) (m := 1) (c' := 1) [.slice none 0 0] rfl rfl (cells_new wr #[.slice none 0 0] 23 (g := wr.heap.size) rfl) (by intro u hu; rw [List.mem_singleton] at hu; subst hu; rfl) (by omega) (by simp; omega) ?_; intro A6 c6 w6 o6 g6 a6)
        have hI6 := Img.snoc (x := ⟨none, 0, 0, []⟩) (fun z hz => (z2 z hz).alloc (.cells #[.slice none 0 0] 23)) (z1.alloc _) hnil o6 g6
        rw [← z3] at hI6
        have hb6 := below_own (hb.alloc hb.size (.cells #[.slice none 0 0] 23)) g6 (by simp; omega) (fun ad h => (z1.lt ad h).1)
        go_roundw
        case rel => exact ⟨k + 1, A6, c6, by omega, by go_num, rfl, by rw [List.take_add_one, HS.out]; exact hI6, hb6⟩
        case measure => simp [intOf]; omega
      | false =>
        have HS := Lib.hid (show s.sure[k]? = some x.l from hsu)
        have hxin := xin.alloc (.cells #[.slice x.A x.n x.c] 23)
        clear hsu hx hq R hI
        go_wp2_with (at_builtin; refine wpList_appR _ rfl (.tmp 24) (.tmp 32) 63 rfl 23 (.slice none 0 0) 1 24 Tryd.underlying63 binfo rfl (by omega) (by omega) rfl (z1.alloc _) (ad := ⟨wr.heap.size, 0, none⟩) (m := 1) (c' := 1) [.slice x.A x.n x.c] rfl rfl (cells_new wr #[.slice x.A x.n x.c] 23 (g := wr.heap.size) rfl) (by intro u hu; rw [List.mem_singleton] at hu; subst hu; rfl) (by omega) (by simp; omega) ?_; intro A6 c6 w6 o6 g6 a6)
        have hI6 := Img.snoc (x := x) (fun z hz => (z2 z hz).alloc (.cells #[.slice x.A x.n x.c] 23)) (z1.alloc _) hxin o6 g6
        rw [← z3] at hI6
        have hb6 := below_own (hb.alloc hb.size (.cells #[.slice x.A x.n x.c] 23)) g6 (by simp; omega) (fun ad h => (z1.lt ad h).1)
        go_roundw
        case rel => exact ⟨k + 1, A6, c6, by omega, by go_num, rfl, by rw [List.take_add_one, HS.out]; exact hI6, hb6⟩
        case measure => simp [intOf]; omega
    · obtain rfl : k = n := by omega
      have hlt : ¬ (k : Int) < (k : Int) := by omega
      rw [List.take_of_length_le (by omega)] at hI
      have HI := Lib.hid (And.intro hI hb)
      clear hI hb R
      go_wp2_with fail
      go_ret
      exact ⟨A2, k, c2, rfl, HI.out.1, HI.out.2⟩
end
end Go.Proofs.YtfoeapjlklfjgaaDoor

/- The contract of heijunkaref05's Make. No condition but that the count may be. -/
namespace Go.Proofs.YtfoeapjlklfjgaaDoor
set_option linter.unusedSimpArgs false
set_option linter.unusedVariables false
open Go.RowKit

theorem row_ne_ {w : World} {base g k c : Nat} {A : Option Addr} {e t : TypeId} {vs : List Value} {cs : Array Value} (h : OwnR w base e 1 A k c vs) (hb : Blk w g t cs) (ht : e ≠ t) : some g ≠ A.map (·.block) := by
  intro e1
  cases hA : A with
  | none => rw [hA] at e1; cases e1
  | some ad => rw [hA] at e1; cases e1; exact h.type_ne hb ht ad hA rfl
theorem bel_in64 {w : World} {base g c : Nat} {l : List Nat} (h : OwnI w base .u8 256 5 (some ⟨g, 0, none⟩) 64 c l) (hl : l.length = 64) : BEl.In w ⟨some ⟨g, 0, none⟩, 64, c, l⟩ :=
  ⟨h.mono (Nat.zero_le _), Iff.intro (fun e => (by cases e)) (fun e => (by have e : l = [] := e; rw [e] at hl; cases hl))⟩
theorem img_set {w : World} {base g j n c : Nat} {A : Option Addr} {ls : List (List Nat)} {cs : Array Value} (h : Img w base A n c ls) (hb : Blk w g 103 cs) (u : Value) : Img (w.setCell ⟨g, j, none⟩ u) base A n c ls := by
  obtain ⟨xs, h1, h2, h3⟩ := h.ex
  have hne := h1.type_ne hb (by decide)
  have hn : NoU8 w [g] := ⟨fun k hk => by rw [List.mem_singleton] at hk; subst hk; exact ⟨_, _, hb, by decide⟩⟩
  exact h.moved hn (moved_set (p := ⟨g, j, none⟩) (List.mem_singleton.2 rfl) u) (fun ad e hk => hne ad e (List.mem_singleton.1 hk))
theorem tornBy_none (xs : List BEl) : tornBy (List.replicate xs.length false) xs = xs.map (·.l) := by
  induction xs with
  | nil => rfl
  | cons x xs ih =>
    show tornBy (false :: List.replicate xs.length false) (x :: xs) = _
    unfold tornBy at ih ⊢
    rw [List.zipWith_cons_cons, ih]
    rfl
theorem map_torn_len (xs : List BEl) (n : Nat) (h : List.replicate n (List.replicate 64 0) = xs.map (·.l)) : ∀ x ∈ xs, x.l.length = 64 := by
  intro x hx
  have : x.l ∈ xs.map (·.l) := List.mem_map_of_mem hx
  rw [← h] at this
  rw [List.eq_of_mem_replicate this, List.length_replicate]
theorem ref_new {w : World} {base g n gc bc : Nat} {BA GA : Option Addr} (hn : n ≤ 512) (hg : base ≤ g) (hB : Blk w g 103 #[.slice BA n bc, .slice GA n gc, .slice none 0 0, .slice none 0 0, .bool false, .int .i64 0, .int .i64 0]) (hI : Img w base BA n bc (List.replicate n (List.replicate 64 0))) (hG : OwnR w base 4 1 GA n gc (List.replicate n (.bool false))) :
    ∃ T, RefAt w T g (DSt.new n) ∧ ∀ k ∈ T, base ≤ k := by
  obtain ⟨xs, x1, x2, x3⟩ := hI.ex
  have hl : xs.length = n := by have := congrArg List.length x3; simp at this; omega
  refine ⟨g :: (Ab BA ++ (Ab GA ++ (Ab none ++ Ab none))), ⟨BA, n, bc, GA, gc, none, 0, 0, none, 0, 0, xs, List.replicate n false, [], [], hB, x1.mono (Nat.zero_le _), by rw [List.map_replicate]; exact hG.mono (Nat.zero_le _), OwnR.nil_ .., OwnR.nil_ .., Dis.none_r _, x2, (fun _ h => by cases h), map_torn_len xs n x3, ?_, rfl, rfl, by decide, rfl, ?_, ?_⟩, ?_⟩
  · subst hl
    rw [tornBy_none, ← x3]; rfl
  · exact NoU8.cons hB (by decide) ((x1.nou8 (by decide)).app ((hG.nou8 (by decide)).app ⟨fun _ h => by cases h⟩))
  · refine ⟨fun l h => Or.inr ?_, (fun _ h => by cases h), ?_, by show (0 : Int) ≤ 0; omega, by show (0 : Int) < _; decide⟩
    · rw [List.eq_of_mem_replicate (show l ∈ List.replicate n _ from h), List.length_replicate]
    · show (List.replicate n _).length ≤ 512
      rw [List.length_replicate]; exact hn
  · intro k hk
    rcases List.mem_cons.1 hk with rfl | hk
    · exact hg
    rcases List.mem_append.1 hk with hk | hk
    · cases BA with
      | none => cases hk
      | some ad => rw [show Ab (some ad) = [ad.block] from rfl, List.mem_singleton] at hk; subst hk; exact (x1.lt ad rfl).1
    rcases List.mem_append.1 hk with hk | hk
    · cases GA with
      | none => cases hk
      | some ad => rw [show Ab (some ad) = [ad.block] from rfl, List.mem_singleton] at hk; subst hk; exact (hG.lt ad rfl).1
    · cases hk
set_option maxRecDepth 100000 in
set_option maxHeartbeats 6400000 in
theorem rmake_any (n : Nat) (hn1 : 1 ≤ n) (hn2 : n ≤ 512) (w : World) :
    Calls Tryd.prog 41 #[.int .i64 (n : Int)] w fun e w' => ∃ g T, e = .returned (.pointer (some ⟨g, 0, none⟩)) ∧ RefAt w' T g (DSt.new n) ∧ (∀ k ∈ T, w.heap.size ≤ k) ∧ Below w.heap.size w w' := by
  go_enter Tryd.func41, Tryd.ntmps41
  go_wp2_with (refine wpList_mk _ rfl _ _ 100 rfl 4 (.bool false) 1 Tryd.underlying100 (by kernel_rfl) rfl .i64 .i64 _ _ n rfl rfl rfl rfl (by omega) (by unfold maxLen; omega) w.heap.size (Nat.le_refl _) ?_; intro w1 ho1 hg1)
  have hO1 : OwnR (w1.alloc (.cells #[.slice none 0 0, .slice (some ⟨w.heap.size, 0, none⟩) n n, .slice none 0 0, .slice none 0 0, .bool false, .int .i64 0, .int .i64 0] 103)) w.heap.size 4 1 (some ⟨w.heap.size, 0, none⟩) n n (List.replicate n (.bool false)) := OwnR.alloc ⟨ho1.row⟩ _
  have hB1 := Blk.new w1 103 #[.slice none 0 0, .slice (some ⟨w.heap.size, 0, none⟩) n n, .slice none 0 0, .slice none 0 0, .bool false, .int .i64 0, .int .i64 0]
  have hb0 := below_none (Below.refl _ _) hg1 (Nat.le_refl _)
  have hgw := hb0.size
  have hb1 := hb0.alloc hgw (.cells #[.slice none 0 0, .slice (some ⟨w.heap.size, 0, none⟩) n n, .slice none 0 0, .slice none 0 0, .bool false, .int .i64 0, .int .i64 0] 103)
  have H := Lib.hid (And.intro hB1 (And.intro hO1 hb1))
  clear hB1 hO1 hb1 hb0 ho1 hg1
  generalize w1.alloc _ = w2 at *
  generalize w1.heap.size = g at *
  generalize hGA : some (⟨w.heap.size, 0, none⟩ : Addr) = GA at *
  have HGA := Lib.hid hGA
  clear hGA
  go_loopw [4] (fun v wr => ∃ (k : Nat) (BA : Option Addr) (bc : Nat), k ≤ n ∧ v = .int .i64 (k : Int) ∧ Blk wr g 103 #[.slice BA k bc, .slice GA n n, .slice none 0 0, .slice none 0 0, .bool false, .int .i64 0, .int .i64 0] ∧ Img wr w.heap.size BA k bc (List.replicate k (List.replicate 64 0)) ∧ OwnR wr w.heap.size 4 1 GA n n (List.replicate n (.bool false)) ∧ Below w.heap.size w wr) (fun v _ => n - (intOf v).toNat)
  case atStart => exact ⟨0, none, 0, Nat.zero_le _, rfl, H.out.1, Img.nil_ .., H.out.2.1, H.out.2.2⟩
  case round =>
    obtain ⟨k, BA, bc, hk, rfl, hB, hI, hG, hb⟩ := hrel
    clear H
    have s00 := hB.cell 0
    have s01 := hB.cell 1
    by_cases hkn : k < n
    · have hlt : (k : Int) < (n : Int) := by omega
      go_wp2_with fail
      have hB2 := hB.drew
      have hI2 := hI.below (Below.refl _ _).drew
      have hG2 := hG.drew
      have hb2 := hb.drew
      generalize hwd : World.drew _ = w2 at *
      have s0 : (fun w' : World => w'.cell? ⟨g, 0, none⟩ = some (.slice BA k bc)) w2 := hB2.cell 0
      refine wp_region_late [10] (fun w' : World => w'.cell? ⟨g, 0, none⟩ = some (.slice BA k bc)) (by kernel_rfl) ?_
      rw [hwd]
      refine wpAnyL_take (i := 0) (v := ?_) rfl (by kernel_rfl) (by kernel_rfl) (by kernel_rfl) (by kernel_rfl) (by kernel_rfl) (fun _ _ _ h => h) (Or.inl ⟨by kernel_rfl, ?_⟩) s0 ?_
      rotate_left
      · rintro w0 h1_; go_simp; (try with_reducible rfl)
      try simp only [Act.put, List.getElem_toArray, List.getElem_cons_succ, List.getElem_cons_zero, List.setIfInBounds_toArray, List.set_cons_zero, List.set_cons_succ]
      refine wpAnyL_take (i := 1) (v := ?_) rfl (by kernel_rfl) (by kernel_rfl) (by kernel_rfl) (by kernel_rfl) (by kernel_rfl) (fun _ _ _ h => h) (Or.inl ⟨by kernel_rfl, ?_⟩) s0 ?_
      rotate_left
      · rintro w0 h1_; go_simp; (try with_reducible rfl)
      try simp only [Act.put, List.getElem_toArray, List.getElem_cons_succ, List.getElem_cons_zero, List.setIfInBounds_toArray, List.set_cons_zero, List.set_cons_succ]
      refine wpAnyL_take (i := 2) (v := ?_) rfl (by kernel_rfl) (by kernel_rfl) (by kernel_rfl) (by kernel_rfl) (by kernel_rfl) (fun _ _ _ h => h) (Or.inl ⟨by kernel_rfl, ?_⟩) s0 ?_
      rotate_left
      · rintro w0 h1_; go_simp; (try with_reducible rfl)
      try simp only [Act.put, List.getElem_toArray, List.getElem_cons_succ, List.getElem_cons_zero, List.setIfInBounds_toArray, List.set_cons_zero, List.set_cons_succ]
      refine wpAnyL_take (i := 3) (v := ?_) rfl (by kernel_rfl) (by kernel_rfl) (by kernel_rfl) (by kernel_rfl) (by kernel_rfl) (fun _ _ _ h => h) (Or.inl ⟨by kernel_rfl, ?_⟩) s0 ?_
      rotate_left
      · rintro w0 h1_; go_simp; (try with_reducible rfl)
      try simp only [Act.put, List.getElem_toArray, List.getElem_cons_succ, List.getElem_cons_zero, List.setIfInBounds_toArray, List.set_cons_zero, List.set_cons_succ]
      refine wpAnyL_take (i := 4) (v := ?_) rfl (by kernel_rfl) (by kernel_rfl) (by kernel_rfl) (by kernel_rfl) (by kernel_rfl) (fun _ _ _ h => h) (Or.inl ⟨by kernel_rfl, ?_⟩) s0 ?_
      rotate_left
      · rintro w0 h1_; go_simp; (try with_reducible rfl)
      try simp only [Act.put, List.getElem_toArray, List.getElem_cons_succ, List.getElem_cons_zero, List.setIfInBounds_toArray, List.set_cons_zero, List.set_cons_succ]
      refine wpAnyL_one (i := 5) (by kernel_rfl) rfl (fun K hK => ?_)
      refine step_mkI rfl (.const (.int .i64 64)) (.const (.int .i64 64)) 23 rfl (lim := 256) (by omega) 5 1 Tryd.underlying23 dinfo_u8 64 rfl rfl rfl rfl (by omega) (by decide) w2.heap.size (Nat.le_refl _) ?_
      intro w3 ho3 hg3
      have b3 : Below w2.heap.size w2 w3 := below_none (Below.refl _ _) hg3 (Nat.le_refl _)
      have hB3 := hB2.below b3 hB2.lt
      have s1 : (fun w' : World => w'.cell? ⟨g, 0, none⟩ = some (.slice BA k bc)) w3 := hB3.cell 0
      refine hK.out _ _ (fun _ => s1) ?_
      clear hK K
      try simp only [Act.put, List.getElem_toArray, List.getElem_cons_succ, List.getElem_cons_zero, List.setIfInBounds_toArray, List.set_cons_zero, List.set_cons_succ]
      refine wpAnyL_one (i := 6) (by kernel_rfl) rfl (fun K hK => ?_)
      go_simp
      have hB4 := hB3.alloc (.cells #[.slice (some ⟨w2.heap.size, 0, none⟩) 64 64] 23)
      have s2 : (fun w' : World => w'.cell? ⟨g, 0, none⟩ = some (.slice BA k bc)) _ := hB4.cell 0
      refine hK.out _ _ (fun _ => s2) ?_
      clear hK K
      try simp only [Act.put, List.getElem_toArray, List.getElem_cons_succ, List.getElem_cons_zero, List.setIfInBounds_toArray, List.set_cons_zero, List.set_cons_succ]
      refine wpAnyL_one (i := 7) (by kernel_rfl) rfl (fun K hK => ?_)
      obtain ⟨zs, z1, z2, z3⟩ := (hI2.below b3).ex
      refine step_appR rfl (.tmp 18) (.tmp 20) 63 rfl 23 (.slice none 0 0) 1 24 Tryd.underlying63 binfo rfl (by omega) (by omega) rfl (z1.alloc _) (ad := ⟨w3.heap.size, 0, none⟩) (m := 1) (c' := 1) [.slice (some ⟨w2.heap.size, 0, none⟩) 64 64] rfl rfl (cells_new w3 #[.slice (some ⟨w2.heap.size, 0, none⟩) 64 64] 23 (g := w3.heap.size) rfl) (by intro u hu; rw [List.mem_singleton] at hu; subst hu; rfl) (by omega) (by have h1 := hb2.size; have h2 := b3.size; simp; omega) ?_
      intro A6 c6 w6 o6 g6 a6
      have hgp := row_ne_ z1 hB3 (by decide)
      have hB6 := hB4.grown g6 hgp
      have s3 : (fun w' : World => w'.cell? ⟨g, 0, none⟩ = some (.slice BA k bc)) w6 := hB6.cell 0
      have hIn : BEl.In w3 ⟨some ⟨w2.heap.size, 0, none⟩, 64, 64, List.replicate 64 0⟩ := bel_in64 ho3 (List.length_replicate ..)
      have hI6 := Img.snoc (x := ⟨some ⟨w2.heap.size, 0, none⟩, 64, 64, List.replicate 64 0⟩) (fun z hz => (z2 z hz).alloc (.cells #[.slice (some ⟨w2.heap.size, 0, none⟩) 64 64] 23)) (z1.alloc _) (hIn.alloc _) o6 g6
      rw [← z3, ← List.replicate_succ'] at hI6
      have hG4 := (hG2.below b3).alloc (.cells #[.slice (some ⟨w2.heap.size, 0, none⟩) 64 64] 23)
      have hG6 := hG4.kept g6 (hG4.dis (z1.alloc _) (by decide))
      clear hG4
      have hb6 := below_own ((below_step hb2 b3 hb2.size).alloc (by have h1 := hb2.size; have h2 := b3.size; omega) (.cells #[.slice (some ⟨w2.heap.size, 0, none⟩) 64 64] 23)) g6 (by have h1 := hb2.size; have h2 := b3.size; simp; omega) (fun ad h => (z1.lt ad h).1)
      have hf6 := hB6.frozen 0
      have HX := Lib.hid (And.intro hB6 (And.intro hI6 (And.intro hG6 hb6)))
      clear hB2 hB3 hB4 hB6 hI2 hI6 hG2 hG6 hb2 hb6 ho3 hg3 b3 z1 z2 z3 o6 g6 a6 hIn hgp s0 s1 s2
      refine hK.out _ _ (fun _ => s3) ?_
      clear hK K
      try simp only [Act.put, List.getElem_toArray, List.getElem_cons_succ, List.getElem_cons_zero, List.setIfInBounds_toArray, List.set_cons_zero, List.set_cons_succ]
      refine wpAnyL_take (i := 8) (v := ?_) rfl (by kernel_rfl) (by kernel_rfl) (by kernel_rfl) (by kernel_rfl) (by kernel_rfl) (fun _ _ _ h => h) (Or.inl ⟨by kernel_rfl, ?_⟩) s3 ?_
      rotate_left
      · rintro w0 h1_; go_simp; (try with_reducible rfl)
      try simp only [Act.put, List.getElem_toArray, List.getElem_cons_succ, List.getElem_cons_zero, List.setIfInBounds_toArray, List.set_cons_zero, List.set_cons_succ]
      refine wpAnyL_take (i := 9) (v := ?_) rfl (by kernel_rfl) (by kernel_rfl) (by kernel_rfl) (by kernel_rfl) (by kernel_rfl) (fun _ _ _ h => h) (Or.inl ⟨by kernel_rfl, ?_⟩) s3 ?_
      rotate_left
      · rintro w0 h1_; go_simp; (try with_reducible rfl)
      try simp only [Act.put, List.getElem_toArray, List.getElem_cons_succ, List.getElem_cons_zero, List.setIfInBounds_toArray, List.set_cons_zero, List.set_cons_succ]
      refine wpAnyL_one (i := 10) (by kernel_rfl) rfl (fun K hK => ?_)
      go_simp
      refine hK.out _ _ (fun h => absurd (by simp) h) ?_
      clear hK K
      try simp only [Act.put, List.getElem_toArray, List.getElem_cons_succ, List.getElem_cons_zero, List.setIfInBounds_toArray, List.set_cons_zero, List.set_cons_succ]
      refine wpAnyL_done (by kernel_rfl) ?_ _
      obtain ⟨hB6, hI6, hG6, hb6⟩ := HX.out
      have hB7 := hB6.set_ 0 (.slice A6 (k + 1) c6)
      have hI7 := img_set (j := 0) hI6 hB6 (.slice A6 (k + 1) c6)
      have hG7 := hG6.setCell (hG6.type_ne hB6 (by decide)) (p := ⟨g, 0, none⟩) (.slice A6 (k + 1) c6)
      have hb7 := hb6.setCell (p := ⟨g, 0, none⟩) hgw (.slice A6 (k + 1) c6)
      clear hB6 hI6 hG6 hb6 HX hf6 s3
      go_wp2_with fail
      go_roundw
      case rel => exact ⟨k + 1, A6, c6, by omega, by go_num, hB7, hI7, hG7, hb7⟩
      case measure => simp [intOf]; omega
    · obtain rfl : k = n := by omega
      have hlt : ¬ (k : Int) < (k : Int) := by omega
      have H := Lib.hid (And.intro hB (And.intro hI (And.intro hG hb)))
      clear hB hI hG hb
      go_wp2_with fail
      go_ret
      obtain ⟨hB, hI, hG, hb⟩ := H.out
      obtain ⟨T, h1, h2⟩ := ref_new hn2 hgw hB hI hG
      exact ⟨g, rfl, T, h1, h2, hb⟩
end Go.Proofs.YtfoeapjlklfjgaaDoor
