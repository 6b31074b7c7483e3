/- The law DiskStays, walked. No condition but the reach of a slice. -/
import Derived.Test.YtkjmccicdjkccaaDAwake
import Derived.Test.YtkjmccicdjkccaaDMath4
import Derived.Test.YtkjmccicdjkccaaDQuietB
import Derived.Test.YtkjmccicdjkccaaAlike
import Derived.Deep.DeepCutAuto
namespace Go.Proofs.Ytkjmccicdjkccaa
set_option linter.unusedSimpArgs false
set_option linter.unusedVariables false
open Go.RowKit

theorem img_row {w : World} {base : Nat} {A : Option Addr} {n c : Nat} {ls : List (List Nat)} {k : Nat} (h : Img w base A n c ls) (hk : k < n) : ∃ b x, A = some ⟨b, 0, none⟩ ∧ BEl.In w x ∧ ls.getD k [] = x.l ∧ w.cell? ⟨b, k, none⟩ = some (.slice x.A x.n x.c) := by
  obtain ⟨b, x, h1, h2, h3, h4⟩ := h.get hk
  exact ⟨b, x, h1, h2, by rw [List.getD_eq_getElem?_getD, h3]; rfl, h4⟩

set_option maxRecDepth 100000 in
set_option maxHeartbeats 12800000 in
theorem diskStays_any (A : Option Addr) (n c : Nat) (l : List Nat) (A1 : Option Addr) (n1 c1 : Nat) (xs : List ActEl) (A2 : Option Addr) (n2 c2 : Nat) (l2 : List Nat) (w : World) (hr : Ints w .u8 256 A n c l) (hn : n ≤ maxLen) (hr1 : ARows w A1 n1 c1 xs) (hn1 : n1 ≤ maxLen) (hr2 : Ints w .u8 256 A2 n2 c2 l2) (hn2 : n2 ≤ maxLen) :
    Calls Try.prog 6 #[.slice A n c, .slice A1 n1 c1, .slice A2 n2 c2] w fun e w' => e = .returned (.bool true) ∧ Below w.heap.size w w' := by
  have hn' : (n : Int) ≤ 9223372036854775807 := by unfold maxLen at hn; omega
  have hn1' : (n1 : Int) ≤ 9223372036854775807 := by unfold maxLen at hn1; omega
  have hn2' : (n2 : Int) ≤ 9223372036854775807 := by unfold maxLen at hn2; omega
  have HR := Lib.hid (And.intro hr (And.intro hr1 hr2))
  clear hr hn hr1 hn1 hr2 hn2
  by_cases hch : 300 < n2
  · have h300 : decide (300 < (n2 : Int)) = true := by simp; omega
    have h300' : 300 < (n2 : Int) := by omega
    clear hch
    go_enter Try.func6, Try.ntmps6
    go_wp2_with fail
    refine (dawake_any w).mono ?_; rintro e w1 ⟨rfl, hb1⟩
    go_wp2_with fail
    refine (dnew_de 16 (by omega) (by omega) _ hb1).mono ?_; rintro e w2 ⟨g, rfl, E⟩
    go_wp2_with fail
    go_ret
    exact ⟨rfl, E.bel⟩
  have h300 : decide (300 < (n2 : Int)) = false := by simp; omega
  have h300' : ¬ 300 < (n2 : Int) := by omega
  have hc300 : n2 ≤ 300 := by omega
  clear hch
  go_enter Try.func6, Try.ntmps6
  go_wp2_with fail
  refine (dawake_any w).mono ?_; rintro e w1 ⟨rfl, hb1⟩
  go_wp2_with fail
  refine (dnew_de 16 (by omega) (by omega) _ hb1).mono ?_; rintro e w2 ⟨g, rfl, E⟩
  go_wp2_with fail
  clear hb1
  go_loopw [9] (fun v wr => ∃ (i : Nat) (s : DSt), i ≤ 16 ∧ i ≤ n ∧ v = .int .i64 i ∧ DE w wr g s [] [] ∧ Wn s 16 i) (fun i _ => 16 - (intOf i).toNat)
  case atStart => exact ⟨0, _, by omega, by omega, rfl, E, Wn.start 16⟩
  case round =>
    obtain ⟨i, s, hi16, hin, rfl, E, hW⟩ := hrel
    by_cases hgo : i < 16 ∧ i < n
    · obtain ⟨hi1, hi2⟩ := hgo
      have hlt1 : (i : Int) < 16 := by omega
      have hlt2 : (i : Int) < (n : Int) := by omega
      have hlt3 : decide (i < n) = true := decide_eq_true hi2
      have hlt0 : (0 : Int) ≤ (i : Int) := by omega
      obtain ⟨ba, o, x, rfl, _, _, hx, hcx⟩ := (HR.out.1.below E.bel).get hi2
      have hbg := hW.beg
      have hpd := hW.pend
      have HW := Lib.hid (hW.write hi1 (rowL_len x))
      clear hW
      go_wp2_with fail
      refine (row_any x hx false _).mono ?_; rintro e w3 ⟨A3, n3, c3, rfl, ho, hn, hb⟩
      have E := E.below hb
      go_wp2_with fail
      refine (dwrite_de E (i : Int) ho (by omega) (by omega) (by omega)).mono ?_; rintro e w4 ⟨rfl, E⟩
      clear ho hn hb
      go_wp2_with fail
      exact ⟨⟨i + 1, _, by omega, by omega, by go_num, E, HW.out⟩, by simp [intOf]; omega⟩
    · go_upto_region 7 with (fail)
      go_cut [38] (fun s38 wx => s38 = .bool false ∧ wx = wr)
      case first =>
        by_cases hi1 : i < 16
        · have hlt1 : (i : Int) < 16 := by omega
          have hlt2 : ¬ (i : Int) < (n : Int) := by omega
          have hlt3 : decide (i < n) = false := decide_eq_false (by omega)
          clear hgo hi1
          go_wp2_with fail
          go_meet
          exact ⟨rfl, rfl⟩
        · have hlt1 : ¬ (i : Int) < 16 := by omega
          clear hgo hi1
          go_wp2_with fail
          go_meet
          exact ⟨rfl, rfl⟩
      case rest =>
        obtain ⟨rfl, rfl⟩ := hcut
        clear hgo
        have hbg := hW.beg
        have HF := Lib.hid (hW.flushed (by omega) xs)
        clear hW
        go_wp2_with fail
        refine (dflush_de E (by omega)).mono ?_; rintro e w41 ⟨rfl, E⟩
        generalize s.flush.1 = s1 at *
        generalize s.flush.2 = cd1
        go_wp2_with fail
        refine (dimage_de E).mono ?_; rintro e w42 ⟨Ao, no, co, rfl, E⟩
        have HS1 := Lib.hid HF.out.2
        have hno := (E.img 0 rfl).len
        dsimp only at hno
        rw [HF.out.1] at hno
        have HL := Lib.hid HF.out.1
        clear HF
        obtain ⟨su, hsu⟩ : ∃ su, s1.sure = su := ⟨_, rfl⟩
        rw [hsu] at E HS1 HL
        subst hno
        clear hsu
        go_wp2_with fail
        go_loopw [11] (fun v wr => ∃ (k : Nat) (s : DSt), k ≤ n1 ∧ k ≤ 20 ∧ v = .int .i64 k ∧ DE w wr g s [] [⟨Ao, 16, co, su⟩] ∧ Ws s su xs k) (fun i _ => n1 - (intOf i).toNat)
        case atStart => exact ⟨0, _, by omega, by omega, rfl, E, HS1.out⟩
        case round =>
          obtain ⟨k, s2, hkn, hk20, rfl, E2, hW2⟩ := hrel
          clear E HS1
          by_cases hgo : k < n1 ∧ k < 20
          · obtain ⟨hk1, hk2⟩ := hgo
            have hlt1 : (k : Int) < (n1 : Int) := by omega
            have hlt2 : (k : Int) < 20 := by omega
            have hlt3 : decide ((k : Int) < 20) = true := by simp; omega
            have hlt0 : (0 : Int) ≤ (k : Int) := by omega
            obtain ⟨ba, o, x, rfl, hx, hok, _, h1, h2, _, _⟩ := (HR.out.2.1.below E2.bel).get hk1
            have hxc := hok.c
            have hbg := hW2.beg
            have hpd := hW2.pend
            have HW := Lib.hid (And.intro (hW2.write hx) hx)
            clear hW2 hx hok
            go_wp2_with fail
            refine wp_region_late [12] (fun w' => w'.cell? ⟨ba, o + k * 5 + 1, none⟩ = some (.int .i64 x.i) ∧ w'.cell? ⟨ba, o + k * 5 + 2, none⟩ = some (.int .u8 (x.c : Int))) (by kernel_rfl) ?_
            have E2 := E2.drew
            obtain ⟨h1, h2⟩ : (World.drew _).cell? ⟨ba, o + k * 5 + 1, none⟩ = some (.int .i64 x.i) ∧ (World.drew _).cell? ⟨ba, o + k * 5 + 2, none⟩ = some (.int .u8 (x.c : Int)) := ⟨h1, h2⟩
            generalize World.drew _ = w20 at *
            refine wpAnyL_take (i := 0) (v := ?_) rfl (by kernel_rfl) (by kernel_rfl) (by kernel_rfl) (by kernel_rfl) (by kernel_rfl) (fun _ _ _ h => h) (Or.inl ⟨by kernel_rfl, ?_⟩) ⟨h1, h2⟩ ?_
            rotate_left
            · rintro w0 ⟨h1_, h2_⟩; go_simp; (try with_reducible rfl)
            try simp only [Act.put, List.setIfInBounds_toArray, List.set_cons_zero, List.set_cons_succ]
            refine wpAnyL_take (i := 1) (v := ?_) rfl (by kernel_rfl) (by kernel_rfl) (by kernel_rfl) (by kernel_rfl) (by kernel_rfl) (fun _ _ _ h => h) (Or.inl ⟨by kernel_rfl, ?_⟩) ⟨h1, h2⟩ ?_
            rotate_left
            · rintro w0 ⟨h1_, h2_⟩; go_simp; (try with_reducible rfl)
            try simp only [Act.put, List.setIfInBounds_toArray, List.set_cons_zero, List.set_cons_succ]
            refine wpAnyL_take (i := 2) (v := ?_) rfl (by kernel_rfl) (by kernel_rfl) (by kernel_rfl) (by kernel_rfl) (by kernel_rfl) (fun _ _ _ h => h) (Or.inl ⟨by kernel_rfl, ?_⟩) ⟨h1, h2⟩ ?_
            rotate_left
            · rintro w0 ⟨h1_, h2_⟩; go_simp; (try with_reducible rfl)
            try simp only [Act.put, List.setIfInBounds_toArray, List.set_cons_zero, List.set_cons_succ]
            refine wpAnyL_take (i := 3) (v := ?_) rfl (by kernel_rfl) (by kernel_rfl) (by kernel_rfl) (by kernel_rfl) (by kernel_rfl) (fun _ _ _ h => h) (Or.inl ⟨by kernel_rfl, ?_⟩) ⟨h1, h2⟩ ?_
            rotate_left
            · rintro w0 ⟨h1_, h2_⟩; go_simp; (try with_reducible rfl)
            try simp only [Act.put, List.setIfInBounds_toArray, List.set_cons_zero, List.set_cons_succ]
            refine wpAnyL_take (i := 4) (v := ?_) rfl (by kernel_rfl) (by kernel_rfl) (by kernel_rfl) (by kernel_rfl) (by kernel_rfl) (fun _ _ _ h => h) (Or.inl ⟨by kernel_rfl, ?_⟩) ⟨h1, h2⟩ ?_
            rotate_left
            · rintro w0 ⟨h1_, h2_⟩; go_simp; (try with_reducible rfl)
            try simp only [Act.put, List.setIfInBounds_toArray, List.set_cons_zero, List.set_cons_succ]
            refine wpAnyL_take (i := 5) (v := ?_) rfl (by kernel_rfl) (by kernel_rfl) (by kernel_rfl) (by kernel_rfl) (by kernel_rfl) (fun _ _ _ h => h) (Or.inl ⟨by kernel_rfl, ?_⟩) ⟨h1, h2⟩ ?_
            rotate_left
            · rintro w0 ⟨h1_, h2_⟩; go_simp; (try with_reducible rfl)
            try simp only [Act.put, List.setIfInBounds_toArray, List.set_cons_zero, List.set_cons_succ]
            refine wpAnyL_take (i := 6) (v := ?_) rfl (by kernel_rfl) (by kernel_rfl) (by kernel_rfl) (by kernel_rfl) (by kernel_rfl) (fun _ _ _ h => h) (Or.inl ⟨by kernel_rfl, ?_⟩) ⟨h1, h2⟩ ?_
            rotate_left
            · rintro w0 ⟨h1_, h2_⟩; go_simp; (try with_reducible rfl)
            try simp only [Act.put, List.setIfInBounds_toArray, List.set_cons_zero, List.set_cons_succ]
            refine wpAnyL_take (i := 7) (v := ?_) rfl (by kernel_rfl) (by kernel_rfl) (by kernel_rfl) (by kernel_rfl) (by kernel_rfl) (fun _ _ _ h => h) (Or.inl ⟨by kernel_rfl, ?_⟩) ⟨h1, h2⟩ ?_
            rotate_left
            · rintro w0 ⟨h1_, h2_⟩; go_simp; (try with_reducible rfl)
            try simp only [Act.put, List.setIfInBounds_toArray, List.set_cons_zero, List.set_cons_succ]
            refine wpAnyL_take (i := 8) (v := ?_) rfl (by kernel_rfl) (by kernel_rfl) (by kernel_rfl) (by kernel_rfl) (by kernel_rfl) (fun _ _ _ h => h) (Or.inl ⟨by kernel_rfl, ?_⟩) ⟨h1, h2⟩ ?_
            rotate_left
            · rintro w0 ⟨h1_, h2_⟩; go_simp; (try with_reducible rfl)
            try simp only [Act.put, List.setIfInBounds_toArray, List.set_cons_zero, List.set_cons_succ]
            refine wpAnyL_take (i := 9) (v := ?_) rfl (by kernel_rfl) (by kernel_rfl) (by kernel_rfl) (by kernel_rfl) (by kernel_rfl) (fun _ _ _ h => h) (Or.inl ⟨by kernel_rfl, ?_⟩) ⟨h1, h2⟩ ?_
            rotate_left
            · rintro w0 ⟨h1_, h2_⟩; go_simp; (try with_reducible rfl)
            try simp only [Act.put, List.setIfInBounds_toArray, List.set_cons_zero, List.set_cons_succ]
            refine wpAnyL_take (i := 10) (v := ?_) rfl (by kernel_rfl) (by kernel_rfl) (by kernel_rfl) (by kernel_rfl) (by kernel_rfl) (fun _ _ _ h => h) (Or.inl ⟨by kernel_rfl, ?_⟩) ⟨h1, h2⟩ ?_
            rotate_left
            · rintro w0 ⟨h1_, h2_⟩; go_simp; (try with_reducible rfl)
            try simp only [Act.put, List.setIfInBounds_toArray, List.set_cons_zero, List.set_cons_succ]
            refine wpAnyL_one (i := 11) (by kernel_rfl) rfl (fun K hK => ?_)
            go_simp
            refine (row_any x.c hxc false _).mono ?_; rintro e w21 ⟨A21, n21, c21, rfl, ho, hn21, hb21⟩
            have E2 := E2.below hb21
            go_wp2_with fail
            refine hK.out _ _ (fun _ => ⟨cell_below hb21 h1, cell_below hb21 h2⟩) ?_
            clear hK K
            try simp only [Act.put, List.setIfInBounds_toArray, List.set_cons_zero, List.set_cons_succ]
            refine wpAnyL_one (i := 12) (by kernel_rfl) rfl (fun K hK => ?_)
            go_simp
            refine (dwrite_de E2 x.i ho (by omega) (by omega) (by omega)).mono ?_; rintro e w22 ⟨rfl, E2⟩
            generalize (s2.write x.i (rowL x.c false)).2 = cd
            clear ho hn21 hb21 h1 h2
            go_wp2_with fail
            refine hK.out _ _ (fun h => absurd (by simp) h) ?_
            clear hK K
            try simp only [Act.put, List.setIfInBounds_toArray, List.set_cons_zero, List.set_cons_succ]
            refine wpAnyL_done (by kernel_rfl) ?_ _
            go_wp2_with fail
            exact ⟨⟨k + 1, _, by omega, by omega, by go_num, E2, HW.out.1⟩, by simp [intOf]; omega⟩
          · have hkk := Lib.hid (show k = min n1 20 by omega)
            have HY := Lib.hid (mayB_yes hW2 l2)
            have HS2 := Lib.hid (And.intro hW2.sure E2.wf)
            clear hW2
            go_upto_region 13 with (fail)
            go_cut [60] (fun s60 wx => s60 = .bool false ∧ wx = wr)
            case first =>
              by_cases hk1 : k < n1
              · have hlt1 : (k : Int) < (n1 : Int) := by omega
                have hlt2 : ¬ (k : Int) < 20 := by omega
                have hlt3 : decide ((k : Int) < 20) = false := by simp; omega
                clear hgo hk1
                go_wp2_with fail
                go_meet
                exact ⟨rfl, rfl⟩
              · have hlt1 : ¬ (k : Int) < (n1 : Int) := by omega
                clear hgo hk1
                go_wp2_with fail
                go_meet
                exact ⟨rfl, rfl⟩
            case rest =>
              obtain ⟨rfl, rfl⟩ := hcut
              clear hgo
              go_wp2_with fail
              refine (dup_de E2 (HR.out.2.2.below E2.bel) (by omega)).mono ?_; rintro e w61 ⟨⟨_, rfl⟩, E3⟩
              have hul : (s2.up l2).sure.length = 16 := by
                show (DSt.layBy s2.sure s2.pend l2).length = 16
                rw [DSt.len_layBy, HS2.out.1]
                exact HL.out
              generalize s2.up l2 = s3 at *
              go_wp2_with fail
              refine (dimage_de E3).mono ?_; rintro e w61 ⟨An, nn, cn, rfl, E3⟩
              have hnn := (E3.img 0 rfl).len
              dsimp only at hnn
              rw [hul] at hnn
              subst hnn
              clear hul
              go_wp2_with fail
              go_loopw [13] (fun v wr => ∃ i : Nat, i ≤ 16 ∧ v = .int .i64 i ∧ DE w wr g s3 [] [⟨An, 16, cn, s3.sure⟩, ⟨Ao, 16, co, su⟩]) (fun i _ => 16 - (intOf i).toNat)
              case atStart => exact ⟨0, by omega, rfl, E3⟩
              case round =>
                obtain ⟨i, hi16, rfl, E4⟩ := hrel
                clear E3
                by_cases hi : i < 16
                · have hli : (i : Int) < 16 := by omega
                  have hli0 : (0 : Int) ≤ (i : Int) := by omega
                  obtain ⟨bn, x, rfl, hx, hlx, hcx⟩ := img_row (E4.img 0 rfl) hi
                  obtain ⟨bo, y, rfl, hy, hly, hcy⟩ := img_row (E4.img 1 rfl) hi
                  have hx64 := E4.wf.getD i
                  have hy64 := HS2.out.2.getD i
                  rw [HS2.out.1] at hy64
                  have HYi := Lib.hid (HY.out i)
                  dsimp only at hlx hly
                  rw [hlx] at hx64
                  rw [hly] at hy64
                  rw [hlx, hly] at HYi
                  have hxl := hx.len
                  have hyl := hy.len
                  have hxn : x.n ≤ 64 := by rcases hx64 with e | e <;> rw [← hxl, e] <;> simp
                  have hyn : y.n ≤ 64 := by rcases hy64 with e | e <;> rw [← hyl, e] <;> simp
                  clear hx64 hy64 hlx hly hyl
                  go_wp2_with fail
                  refine wp_region_late [8, 9] (fun w' => w'.cell? ⟨bo, i, none⟩ = some (.slice y.A y.n y.c) ∧ w'.cell? ⟨bn, i, none⟩ = some (.slice x.A x.n x.c)) (by kernel_rfl) ?_
                  have E4 := E4.drew
                  have hx := hx.drew
                  have hy := hy.drew
                  obtain ⟨h1, h2⟩ : (World.drew _).cell? ⟨bo, i, none⟩ = some (.slice y.A y.n y.c) ∧ (World.drew _).cell? ⟨bn, i, none⟩ = some (.slice x.A x.n x.c) := ⟨hcy, hcx⟩
                  clear hcx hcy
                  generalize World.drew _ = w70 at *
                  refine wpAnyL_take (i := 0) (v := ?_) rfl (by kernel_rfl) (by kernel_rfl) (by kernel_rfl) (by kernel_rfl) (by kernel_rfl) (fun _ _ _ h => h) (Or.inl ⟨by kernel_rfl, ?_⟩) ⟨h1, h2⟩ ?_
                  rotate_left
                  · rintro w0 ⟨h1_, h2_⟩; go_simp; (try with_reducible rfl)
                  try simp only [Act.put, List.setIfInBounds_toArray, List.set_cons_zero, List.set_cons_succ]
                  refine wpAnyL_take (i := 1) (v := ?_) rfl (by kernel_rfl) (by kernel_rfl) (by kernel_rfl) (by kernel_rfl) (by kernel_rfl) (fun _ _ _ h => h) (Or.inl ⟨by kernel_rfl, ?_⟩) ⟨h1, h2⟩ ?_
                  rotate_left
                  · rintro w0 ⟨h1_, h2_⟩; go_simp; (try with_reducible rfl)
                  try simp only [Act.put, List.setIfInBounds_toArray, List.set_cons_zero, List.set_cons_succ]
                  refine wpAnyL_take (i := 2) (v := ?_) rfl (by kernel_rfl) (by kernel_rfl) (by kernel_rfl) (by kernel_rfl) (by kernel_rfl) (fun _ _ _ h => h) (Or.inl ⟨by kernel_rfl, ?_⟩) ⟨h1, h2⟩ ?_
                  rotate_left
                  · rintro w0 ⟨h1_, h2_⟩; go_simp; (try with_reducible rfl)
                  try simp only [Act.put, List.setIfInBounds_toArray, List.set_cons_zero, List.set_cons_succ]
                  refine wpAnyL_take (i := 3) (v := ?_) rfl (by kernel_rfl) (by kernel_rfl) (by kernel_rfl) (by kernel_rfl) (by kernel_rfl) (fun _ _ _ h => h) (Or.inl ⟨by kernel_rfl, ?_⟩) ⟨h1, h2⟩ ?_
                  rotate_left
                  · rintro w0 ⟨h1_, h2_⟩; go_simp; (try with_reducible rfl)
                  try simp only [Act.put, List.setIfInBounds_toArray, List.set_cons_zero, List.set_cons_succ]
                  refine wpAnyL_take (i := 4) (v := ?_) rfl (by kernel_rfl) (by kernel_rfl) (by kernel_rfl) (by kernel_rfl) (by kernel_rfl) (fun _ _ _ h => h) (Or.inl ⟨by kernel_rfl, ?_⟩) ⟨h1, h2⟩ ?_
                  rotate_left
                  · rintro w0 ⟨h1_, h2_⟩; go_simp; (try with_reducible rfl)
                  try simp only [Act.put, List.setIfInBounds_toArray, List.set_cons_zero, List.set_cons_succ]
                  refine wpAnyL_take (i := 5) (v := ?_) rfl (by kernel_rfl) (by kernel_rfl) (by kernel_rfl) (by kernel_rfl) (by kernel_rfl) (fun _ _ _ h => h) (Or.inl ⟨by kernel_rfl, ?_⟩) ⟨h1, h2⟩ ?_
                  rotate_left
                  · rintro w0 ⟨h1_, h2_⟩; go_simp; (try with_reducible rfl)
                  try simp only [Act.put, List.setIfInBounds_toArray, List.set_cons_zero, List.set_cons_succ]
                  refine wpAnyL_take (i := 6) (v := ?_) rfl (by kernel_rfl) (by kernel_rfl) (by kernel_rfl) (by kernel_rfl) (by kernel_rfl) (fun _ _ _ h => h) (Or.inl ⟨by kernel_rfl, ?_⟩) ⟨h1, h2⟩ ?_
                  rotate_left
                  · rintro w0 ⟨h1_, h2_⟩; go_simp; (try with_reducible rfl)
                  try simp only [Act.put, List.setIfInBounds_toArray, List.set_cons_zero, List.set_cons_succ]
                  refine wpAnyL_take (i := 7) (v := ?_) rfl (by kernel_rfl) (by kernel_rfl) (by kernel_rfl) (by kernel_rfl) (by kernel_rfl) (fun _ _ _ h => h) (Or.inl ⟨by kernel_rfl, ?_⟩) ⟨h1, h2⟩ ?_
                  rotate_left
                  · rintro w0 ⟨h1_, h2_⟩; go_simp; (try with_reducible rfl)
                  try simp only [Act.put, List.setIfInBounds_toArray, List.set_cons_zero, List.set_cons_succ]
                  refine wpAnyL_one (i := 8) (by kernel_rfl) rfl (fun K hK => ?_)
                  go_simp
                  refine (rows_any _ _ _ _ _ _ _ _ _ hy.ints hx.ints (by omega) (by omega)).mono ?_; rintro e w71 ⟨⟨q71, rfl⟩, rfl⟩
                  have E4 := E4.drewN q71
                  go_wp2_with fail
                  refine hK.out _ _ (fun h => absurd (by simp) h) ?_
                  clear hK K
                  try simp only [Act.put, List.setIfInBounds_toArray, List.set_cons_zero, List.set_cons_succ]
                  refine wpAnyL_one (i := 9) (by kernel_rfl) rfl (fun K hK => ?_)
                  go_simp
                  refine hK.out _ _ (fun h => absurd (by simp) h) ?_
                  clear hK K
                  try simp only [Act.put, List.setIfInBounds_toArray, List.set_cons_zero, List.set_cons_succ]
                  refine wpAnyL_done (by kernel_rfl) ?_ _
                  obtain ⟨mb0, hmb0⟩ : ∃ b, decide (y.l = x.l) = b := ⟨_, rfl⟩
                  rw [hmb0]
                  have HM0 := Lib.hid (hmb0.symm.trans (mayB_zero xs i y.l x.l).symm)
                  have hxq := BEl.In.below hx (((Moved.refl w70 []).drewN q71).below0)
                  have hcxq : (w70.drewN q71).cell? ⟨bn, i, none⟩ = some (.slice x.A x.n x.c) := h2
                  clear hmb0 h1 h2 hx hy
                  go_wp2_with fail
                  go_loopw [14, 15] (fun m v wr => ∃ (k : Nat) (mb : Bool), k ≤ n1 ∧ k ≤ 20 ∧ v = .int .i64 k ∧ m = .bool mb ∧ mb = mayB xs i y.l x.l k ∧ DE w wr g s3 [] [⟨some ⟨bn, 0, none⟩, 16, cn, s3.sure⟩, ⟨some ⟨bo, 0, none⟩, 16, co, su⟩] ∧ x.In wr ∧ wr.cell? ⟨bn, i, none⟩ = some (.slice x.A x.n x.c)) (fun _ v _ => n1 - (intOf v).toNat)
                  case atStart => exact ⟨0, mb0, by omega, by omega, rfl, rfl, HM0.out, E4, hxq, hcxq⟩
                  case round =>
                    obtain ⟨k2, mb, hkn2, hk202, rfl, rfl, hmb, E5, hx, h3⟩ := hrel
                    clear E4
                    by_cases hgo2 : k2 < n1 ∧ k2 < 20
                    · obtain ⟨hk1, hk2⟩ := hgo2
                      have hlt1 : (k2 : Int) < (n1 : Int) := by omega
                      have hlt2 : (k2 : Int) < 20 := by omega
                      have hlt3 : decide ((k2 : Int) < 20) = true := by simp; omega
                      have hlt0 : (0 : Int) ≤ (k2 : Int) := by omega
                      obtain ⟨ba, o, z, rfl, hz, hok, _, h1, h2, _, _⟩ := (HR.out.2.1.below E5.bel).get hk1
                      have hzc := hok.c
                      have HM := mayB_succ (i := i) (o := y.l) (nw := x.l) hz
                      rw [← hmb] at HM
                      have HM := Lib.hid HM
                      clear hmb hz hok
                      cases mb with
                      | true =>
                        go_wp2_with fail
                        refine wp_region_late [] (fun w' => w'.cell? ⟨ba, o + k2 * 5 + 1, none⟩ = some (.int .i64 z.i) ∧ w'.cell? ⟨ba, o + k2 * 5 + 2, none⟩ = some (.int .u8 (z.c : Int)) ∧ w'.cell? ⟨bn, i, none⟩ = some (.slice x.A x.n x.c)) (by kernel_rfl) ?_
                        have E5 := E5.drew
                        have hx := hx.drew
                        obtain ⟨h1, h2, h3⟩ : (World.drew _).cell? ⟨ba, o + k2 * 5 + 1, none⟩ = some (.int .i64 z.i) ∧ (World.drew _).cell? ⟨ba, o + k2 * 5 + 2, none⟩ = some (.int .u8 (z.c : Int)) ∧ (World.drew _).cell? ⟨bn, i, none⟩ = some (.slice x.A x.n x.c) := ⟨h1, h2, h3⟩
                        generalize World.drew _ = w80 at *
                        refine wpAnyL_take (i := 0) (v := ?_) rfl (by kernel_rfl) (by kernel_rfl) (by kernel_rfl) (by kernel_rfl) (by kernel_rfl) (fun _ _ _ h => h) (Or.inl ⟨by kernel_rfl, ?_⟩) ⟨h1, h2, h3⟩ ?_
                        rotate_left
                        · rintro w0 ⟨h1_, h2_, h3_⟩; go_simp; (try with_reducible rfl)
                        try simp only [Act.put, List.setIfInBounds_toArray, List.set_cons_zero, List.set_cons_succ]
                        refine wpAnyL_take (i := 1) (v := ?_) rfl (by kernel_rfl) (by kernel_rfl) (by kernel_rfl) (by kernel_rfl) (by kernel_rfl) (fun _ _ _ h => h) (Or.inl ⟨by kernel_rfl, ?_⟩) ⟨h1, h2, h3⟩ ?_
                        rotate_left
                        · rintro w0 ⟨h1_, h2_, h3_⟩; go_simp; (try with_reducible rfl)
                        try simp only [Act.put, List.setIfInBounds_toArray, List.set_cons_zero, List.set_cons_succ]
                        refine wpAnyL_take (i := 2) (v := undef) rfl (by kernel_rfl) (by kernel_rfl) (by kernel_rfl) (by kernel_rfl) (by kernel_rfl) (fun _ _ _ h => h) (Or.inr ⟨by kernel_rfl, rfl⟩) ⟨h1, h2, h3⟩ ?_
                        try simp only [Act.put, List.setIfInBounds_toArray, List.set_cons_zero, List.set_cons_succ]
                        refine wpAnyL_take (i := 3) (v := undef) rfl (by kernel_rfl) (by kernel_rfl) (by kernel_rfl) (by kernel_rfl) (by kernel_rfl) (fun _ _ _ h => h) (Or.inr ⟨by kernel_rfl, rfl⟩) ⟨h1, h2, h3⟩ ?_
                        try simp only [Act.put, List.setIfInBounds_toArray, List.set_cons_zero, List.set_cons_succ]
                        refine wpAnyL_take (i := 4) (v := undef) rfl (by kernel_rfl) (by kernel_rfl) (by kernel_rfl) (by kernel_rfl) (by kernel_rfl) (fun _ _ _ h => h) (Or.inr ⟨by kernel_rfl, rfl⟩) ⟨h1, h2, h3⟩ ?_
                        try simp only [Act.put, List.setIfInBounds_toArray, List.set_cons_zero, List.set_cons_succ]
                        refine wpAnyL_take (i := 5) (v := undef) rfl (by kernel_rfl) (by kernel_rfl) (by kernel_rfl) (by kernel_rfl) (by kernel_rfl) (fun _ _ _ h => h) (Or.inr ⟨by kernel_rfl, rfl⟩) ⟨h1, h2, h3⟩ ?_
                        try simp only [Act.put, List.setIfInBounds_toArray, List.set_cons_zero, List.set_cons_succ]
                        refine wpAnyL_take (i := 6) (v := undef) rfl (by kernel_rfl) (by kernel_rfl) (by kernel_rfl) (by kernel_rfl) (by kernel_rfl) (fun _ _ _ h => h) (Or.inr ⟨by kernel_rfl, rfl⟩) ⟨h1, h2, h3⟩ ?_
                        try simp only [Act.put, List.setIfInBounds_toArray, List.set_cons_zero, List.set_cons_succ]
                        refine wpAnyL_take (i := 7) (v := undef) rfl (by kernel_rfl) (by kernel_rfl) (by kernel_rfl) (by kernel_rfl) (by kernel_rfl) (fun _ _ _ h => h) (Or.inr ⟨by kernel_rfl, rfl⟩) ⟨h1, h2, h3⟩ ?_
                        try simp only [Act.put, List.setIfInBounds_toArray, List.set_cons_zero, List.set_cons_succ]
                        refine wpAnyL_take (i := 8) (v := undef) rfl (by kernel_rfl) (by kernel_rfl) (by kernel_rfl) (by kernel_rfl) (by kernel_rfl) (fun _ _ _ h => h) (Or.inr ⟨by kernel_rfl, rfl⟩) ⟨h1, h2, h3⟩ ?_
                        try simp only [Act.put, List.setIfInBounds_toArray, List.set_cons_zero, List.set_cons_succ]
                        refine wpAnyL_take (i := 9) (v := undef) rfl (by kernel_rfl) (by kernel_rfl) (by kernel_rfl) (by kernel_rfl) (by kernel_rfl) (fun _ _ _ h => h) (Or.inr ⟨by kernel_rfl, rfl⟩) ⟨h1, h2, h3⟩ ?_
                        try simp only [Act.put, List.setIfInBounds_toArray, List.set_cons_zero, List.set_cons_succ]
                        refine wpAnyL_take (i := 10) (v := undef) rfl (by kernel_rfl) (by kernel_rfl) (by kernel_rfl) (by kernel_rfl) (by kernel_rfl) (fun _ _ _ h => h) (Or.inr ⟨by kernel_rfl, rfl⟩) ⟨h1, h2, h3⟩ ?_
                        try simp only [Act.put, List.setIfInBounds_toArray, List.set_cons_zero, List.set_cons_succ]
                        refine wpAnyL_take (i := 11) (v := undef) rfl (by kernel_rfl) (by kernel_rfl) (by kernel_rfl) (by kernel_rfl) (by kernel_rfl) (fun _ _ _ h => h) (Or.inr ⟨by kernel_rfl, rfl⟩) ⟨h1, h2, h3⟩ ?_
                        try simp only [Act.put, List.setIfInBounds_toArray, List.set_cons_zero, List.set_cons_succ]
                        refine wpAnyL_take (i := 12) (v := undef) rfl (by kernel_rfl) (by kernel_rfl) (by kernel_rfl) (by kernel_rfl) (by kernel_rfl) (fun _ _ _ h => h) (Or.inr ⟨by kernel_rfl, rfl⟩) ⟨h1, h2, h3⟩ ?_
                        try simp only [Act.put, List.setIfInBounds_toArray, List.set_cons_zero, List.set_cons_succ]
                        refine wpAnyL_take (i := 13) (v := undef) rfl (by kernel_rfl) (by kernel_rfl) (by kernel_rfl) (by kernel_rfl) (by kernel_rfl) (fun _ _ _ h => h) (Or.inr ⟨by kernel_rfl, rfl⟩) ⟨h1, h2, h3⟩ ?_
                        try simp only [Act.put, List.setIfInBounds_toArray, List.set_cons_zero, List.set_cons_succ]
                        refine wpAnyL_take (i := 14) (v := undef) rfl (by kernel_rfl) (by kernel_rfl) (by kernel_rfl) (by kernel_rfl) (by kernel_rfl) (fun _ _ _ h => h) (Or.inr ⟨by kernel_rfl, rfl⟩) ⟨h1, h2, h3⟩ ?_
                        try simp only [Act.put, List.setIfInBounds_toArray, List.set_cons_zero, List.set_cons_succ]
                        refine wpAnyL_take (i := 15) (v := undef) rfl (by kernel_rfl) (by kernel_rfl) (by kernel_rfl) (by kernel_rfl) (by kernel_rfl) (fun _ _ _ h => h) (Or.inr ⟨by kernel_rfl, rfl⟩) ⟨h1, h2, h3⟩ ?_
                        try simp only [Act.put, List.setIfInBounds_toArray, List.set_cons_zero, List.set_cons_succ]
                        refine wpAnyL_take (i := 16) (v := undef) rfl (by kernel_rfl) (by kernel_rfl) (by kernel_rfl) (by kernel_rfl) (by kernel_rfl) (fun _ _ _ h => h) (Or.inr ⟨by kernel_rfl, rfl⟩) ⟨h1, h2, h3⟩ ?_
                        try simp only [Act.put, List.setIfInBounds_toArray, List.set_cons_zero, List.set_cons_succ]
                        refine wpAnyL_take (i := 17) (v := undef) rfl (by kernel_rfl) (by kernel_rfl) (by kernel_rfl) (by kernel_rfl) (by kernel_rfl) (fun _ _ _ h => h) (Or.inr ⟨by kernel_rfl, rfl⟩) ⟨h1, h2, h3⟩ ?_
                        try simp only [Act.put, List.setIfInBounds_toArray, List.set_cons_zero, List.set_cons_succ]
                        refine wpAnyL_take (i := 18) (v := undef) rfl (by kernel_rfl) (by kernel_rfl) (by kernel_rfl) (by kernel_rfl) (by kernel_rfl) (fun _ _ _ h => h) (Or.inr ⟨by kernel_rfl, rfl⟩) ⟨h1, h2, h3⟩ ?_
                        try simp only [Act.put, List.setIfInBounds_toArray, List.set_cons_zero, List.set_cons_succ]
                        refine wpAnyL_take (i := 19) (v := undef) rfl (by kernel_rfl) (by kernel_rfl) (by kernel_rfl) (by kernel_rfl) (by kernel_rfl) (fun _ _ _ h => h) (Or.inr ⟨by kernel_rfl, rfl⟩) ⟨h1, h2, h3⟩ ?_
                        try simp only [Act.put, List.setIfInBounds_toArray, List.set_cons_zero, List.set_cons_succ]
                        refine wpAnyL_take (i := 20) (v := undef) rfl (by kernel_rfl) (by kernel_rfl) (by kernel_rfl) (by kernel_rfl) (by kernel_rfl) (fun _ _ _ h => h) (Or.inr ⟨by kernel_rfl, rfl⟩) ⟨h1, h2, h3⟩ ?_
                        try simp only [Act.put, List.setIfInBounds_toArray, List.set_cons_zero, List.set_cons_succ]
                        refine wpAnyL_take (i := 21) (v := undef) rfl (by kernel_rfl) (by kernel_rfl) (by kernel_rfl) (by kernel_rfl) (by kernel_rfl) (fun _ _ _ h => h) (Or.inr ⟨by kernel_rfl, rfl⟩) ⟨h1, h2, h3⟩ ?_
                        try simp only [Act.put, List.setIfInBounds_toArray, List.set_cons_zero, List.set_cons_succ]
                        refine wpAnyL_take (i := 22) (v := undef) rfl (by kernel_rfl) (by kernel_rfl) (by kernel_rfl) (by kernel_rfl) (by kernel_rfl) (fun _ _ _ h => h) (Or.inr ⟨by kernel_rfl, rfl⟩) ⟨h1, h2, h3⟩ ?_
                        try simp only [Act.put, List.setIfInBounds_toArray, List.set_cons_zero, List.set_cons_succ]
                        refine wpAnyL_take (i := 23) (v := undef) rfl (by kernel_rfl) (by kernel_rfl) (by kernel_rfl) (by kernel_rfl) (by kernel_rfl) (fun _ _ _ h => h) (Or.inr ⟨by kernel_rfl, rfl⟩) ⟨h1, h2, h3⟩ ?_
                        try simp only [Act.put, List.setIfInBounds_toArray, List.set_cons_zero, List.set_cons_succ]
                        refine wpAnyL_take (i := 24) (v := undef) rfl (by kernel_rfl) (by kernel_rfl) (by kernel_rfl) (by kernel_rfl) (by kernel_rfl) (fun _ _ _ h => h) (Or.inr ⟨by kernel_rfl, rfl⟩) ⟨h1, h2, h3⟩ ?_
                        try simp only [Act.put, List.setIfInBounds_toArray, List.set_cons_zero, List.set_cons_succ]
                        refine wpAnyL_take (i := 25) (v := undef) rfl (by kernel_rfl) (by kernel_rfl) (by kernel_rfl) (by kernel_rfl) (by kernel_rfl) (fun _ _ _ h => h) (Or.inr ⟨by kernel_rfl, rfl⟩) ⟨h1, h2, h3⟩ ?_
                        try simp only [Act.put, List.setIfInBounds_toArray, List.set_cons_zero, List.set_cons_succ]
                        refine wpAnyL_one (i := 26) (by kernel_rfl) rfl (fun K hK => ?_)
                        rw [if_neg (Bool.eq_false_iff.1 (by kernel_rfl))]
                        refine hK.out _ _ (fun _ => ⟨h1, h2, h3⟩) ?_
                        clear hK K
                        try simp only [Act.put, List.setIfInBounds_toArray, List.set_cons_zero, List.set_cons_succ]
                        refine wpAnyL_one (i := 27) (by kernel_rfl) rfl (fun K hK => ?_)
                        rw [if_neg (Bool.eq_false_iff.1 (by kernel_rfl))]
                        refine hK.out _ _ (fun _ => ⟨h1, h2, h3⟩) ?_
                        clear hK K
                        try simp only [Act.put, List.setIfInBounds_toArray, List.set_cons_zero, List.set_cons_succ]
                        refine wpAnyL_take (i := 28) (v := undef) rfl (by kernel_rfl) (by kernel_rfl) (by kernel_rfl) (by kernel_rfl) (by kernel_rfl) (fun _ _ _ h => h) (Or.inr ⟨by kernel_rfl, rfl⟩) ⟨h1, h2, h3⟩ ?_
                        try simp only [Act.put, List.setIfInBounds_toArray, List.set_cons_zero, List.set_cons_succ]
                        refine wpAnyL_take (i := 29) (v := undef) rfl (by kernel_rfl) (by kernel_rfl) (by kernel_rfl) (by kernel_rfl) (by kernel_rfl) (fun _ _ _ h => h) (Or.inr ⟨by kernel_rfl, rfl⟩) ⟨h1, h2, h3⟩ ?_
                        try simp only [Act.put, List.setIfInBounds_toArray, List.set_cons_zero, List.set_cons_succ]
                        refine wpAnyL_take (i := 30) (v := ?_) rfl (by kernel_rfl) (by kernel_rfl) (by kernel_rfl) (by kernel_rfl) (by kernel_rfl) (fun _ _ _ h => h) (Or.inl ⟨by kernel_rfl, ?_⟩) ⟨h1, h2, h3⟩ ?_
                        rotate_left
                        · rintro w0 ⟨h1_, h2_, h3_⟩; go_simp; (try with_reducible rfl)
                        try simp only [Act.put, List.setIfInBounds_toArray, List.set_cons_zero, List.set_cons_succ]
                        refine wpAnyL_one (i := 31) (by kernel_rfl) rfl (fun K hK => ?_)
                        go_simp
                        refine hK.out _ _ (fun _ => ⟨h1, h2, h3⟩) ?_
                        clear hK K
                        try simp only [Act.put, List.setIfInBounds_toArray, List.set_cons_zero, List.set_cons_succ]
                        refine wpAnyL_done (by kernel_rfl) ?_ _
                        clear h1 h2
                        go_wp2_with fail
                        exact ⟨⟨k2 + 1, true, by omega, by omega, by go_num, rfl, by rw [HM.out]; rfl, E5, hx, h3⟩, by simp [intOf]; omega⟩
                      | false =>
                        by_cases hzi : z.i = (i : Int)
                        · have ezi : (z.i == (i : Int)) = true := by simp [hzi]
                          have HZ := Lib.hid (decide_eq_true hzi)
                          clear hzi
                          by_cases hx0 : x.l = []
                          · have hxn0 : x.n = 0 := by rw [← hxl, hx0]; rfl
                            have en : ((x.n : Int) == 0) = true := by simp [hxn0]
                            have HX := Lib.hid (decide_eq_true hx0)
                            clear hx0 hxn0
                            go_wp2_with fail
                            refine wp_region_late [] (fun w' => w'.cell? ⟨ba, o + k2 * 5 + 1, none⟩ = some (.int .i64 z.i) ∧ w'.cell? ⟨ba, o + k2 * 5 + 2, none⟩ = some (.int .u8 (z.c : Int)) ∧ w'.cell? ⟨bn, i, none⟩ = some (.slice x.A x.n x.c)) (by kernel_rfl) ?_
                            have E5 := E5.drew
                            have hx := hx.drew
                            obtain ⟨h1, h2, h3⟩ : (World.drew _).cell? ⟨ba, o + k2 * 5 + 1, none⟩ = some (.int .i64 z.i) ∧ (World.drew _).cell? ⟨ba, o + k2 * 5 + 2, none⟩ = some (.int .u8 (z.c : Int)) ∧ (World.drew _).cell? ⟨bn, i, none⟩ = some (.slice x.A x.n x.c) := ⟨h1, h2, h3⟩
                            generalize World.drew _ = w80 at *
                            refine wpAnyL_take (i := 0) (v := ?_) rfl (by kernel_rfl) (by kernel_rfl) (by kernel_rfl) (by kernel_rfl) (by kernel_rfl) (fun _ _ _ h => h) (Or.inl ⟨by kernel_rfl, ?_⟩) ⟨h1, h2, h3⟩ ?_
                            rotate_left
                            · rintro w0 ⟨h1_, h2_, h3_⟩; go_simp; (try with_reducible rfl)
                            try simp only [Act.put, List.setIfInBounds_toArray, List.set_cons_zero, List.set_cons_succ]
                            refine wpAnyL_take (i := 1) (v := ?_) rfl (by kernel_rfl) (by kernel_rfl) (by kernel_rfl) (by kernel_rfl) (by kernel_rfl) (fun _ _ _ h => h) (Or.inl ⟨by kernel_rfl, ?_⟩) ⟨h1, h2, h3⟩ ?_
                            rotate_left
                            · rintro w0 ⟨h1_, h2_, h3_⟩; go_simp; (try with_reducible rfl)
                            try simp only [Act.put, List.setIfInBounds_toArray, List.set_cons_zero, List.set_cons_succ]
                            refine wpAnyL_take (i := 2) (v := ?_) rfl (by kernel_rfl) (by kernel_rfl) (by kernel_rfl) (by kernel_rfl) (by kernel_rfl) (fun _ _ _ h => h) (Or.inl ⟨by kernel_rfl, ?_⟩) ⟨h1, h2, h3⟩ ?_
                            rotate_left
                            · rintro w0 ⟨h1_, h2_, h3_⟩; go_simp; (try with_reducible rfl)
                            try simp only [Act.put, List.setIfInBounds_toArray, List.set_cons_zero, List.set_cons_succ]
                            refine wpAnyL_take (i := 3) (v := ?_) rfl (by kernel_rfl) (by kernel_rfl) (by kernel_rfl) (by kernel_rfl) (by kernel_rfl) (fun _ _ _ h => h) (Or.inl ⟨by kernel_rfl, ?_⟩) ⟨h1, h2, h3⟩ ?_
                            rotate_left
                            · rintro w0 ⟨h1_, h2_, h3_⟩; go_simp; (try with_reducible rfl)
                            try simp only [Act.put, List.setIfInBounds_toArray, List.set_cons_zero, List.set_cons_succ]
                            refine wpAnyL_take (i := 4) (v := ?_) rfl (by kernel_rfl) (by kernel_rfl) (by kernel_rfl) (by kernel_rfl) (by kernel_rfl) (fun _ _ _ h => h) (Or.inl ⟨by kernel_rfl, ?_⟩) ⟨h1, h2, h3⟩ ?_
                            rotate_left
                            · rintro w0 ⟨h1_, h2_, h3_⟩; go_simp; (try with_reducible rfl)
                            try simp only [Act.put, List.setIfInBounds_toArray, List.set_cons_zero, List.set_cons_succ]
                            refine wpAnyL_take (i := 5) (v := ?_) rfl (by kernel_rfl) (by kernel_rfl) (by kernel_rfl) (by kernel_rfl) (by kernel_rfl) (fun _ _ _ h => h) (Or.inl ⟨by kernel_rfl, ?_⟩) ⟨h1, h2, h3⟩ ?_
                            rotate_left
                            · rintro w0 ⟨h1_, h2_, h3_⟩; go_simp; (try with_reducible rfl)
                            try simp only [Act.put, List.setIfInBounds_toArray, List.set_cons_zero, List.set_cons_succ]
                            refine wpAnyL_take (i := 6) (v := ?_) rfl (by kernel_rfl) (by kernel_rfl) (by kernel_rfl) (by kernel_rfl) (by kernel_rfl) (fun _ _ _ h => h) (Or.inl ⟨by kernel_rfl, ?_⟩) ⟨h1, h2, h3⟩ ?_
                            rotate_left
                            · rintro w0 ⟨h1_, h2_, h3_⟩; go_simp; (try with_reducible rfl)
                            try simp only [Act.put, List.setIfInBounds_toArray, List.set_cons_zero, List.set_cons_succ]
                            refine wpAnyL_take (i := 7) (v := ?_) rfl (by kernel_rfl) (by kernel_rfl) (by kernel_rfl) (by kernel_rfl) (by kernel_rfl) (fun _ _ _ h => h) (Or.inl ⟨by kernel_rfl, ?_⟩) ⟨h1, h2, h3⟩ ?_
                            rotate_left
                            · rintro w0 ⟨h1_, h2_, h3_⟩; go_simp; (try with_reducible rfl)
                            try simp only [Act.put, List.setIfInBounds_toArray, List.set_cons_zero, List.set_cons_succ]
                            refine wpAnyL_take (i := 8) (v := ?_) rfl (by kernel_rfl) (by kernel_rfl) (by kernel_rfl) (by kernel_rfl) (by kernel_rfl) (fun _ _ _ h => h) (Or.inl ⟨by kernel_rfl, ?_⟩) ⟨h1, h2, h3⟩ ?_
                            rotate_left
                            · rintro w0 ⟨h1_, h2_, h3_⟩; go_simp; (try with_reducible rfl)
                            try simp only [Act.put, List.setIfInBounds_toArray, List.set_cons_zero, List.set_cons_succ]
                            refine wpAnyL_take (i := 9) (v := ?_) rfl (by kernel_rfl) (by kernel_rfl) (by kernel_rfl) (by kernel_rfl) (by kernel_rfl) (fun _ _ _ h => h) (Or.inl ⟨by kernel_rfl, ?_⟩) ⟨h1, h2, h3⟩ ?_
                            rotate_left
                            · rintro w0 ⟨h1_, h2_, h3_⟩; go_simp; (try with_reducible rfl)
                            try simp only [Act.put, List.setIfInBounds_toArray, List.set_cons_zero, List.set_cons_succ]
                            refine wpAnyL_take (i := 10) (v := ?_) rfl (by kernel_rfl) (by kernel_rfl) (by kernel_rfl) (by kernel_rfl) (by kernel_rfl) (fun _ _ _ h => h) (Or.inl ⟨by kernel_rfl, ?_⟩) ⟨h1, h2, h3⟩ ?_
                            rotate_left
                            · rintro w0 ⟨h1_, h2_, h3_⟩; go_simp; (try with_reducible rfl)
                            try simp only [Act.put, List.setIfInBounds_toArray, List.set_cons_zero, List.set_cons_succ]
                            refine wpAnyL_take (i := 11) (v := ?_) rfl (by kernel_rfl) (by kernel_rfl) (by kernel_rfl) (by kernel_rfl) (by kernel_rfl) (fun _ _ _ h => h) (Or.inl ⟨by kernel_rfl, ?_⟩) ⟨h1, h2, h3⟩ ?_
                            rotate_left
                            · rintro w0 ⟨h1_, h2_, h3_⟩; go_simp; (try with_reducible rfl)
                            try simp only [Act.put, List.setIfInBounds_toArray, List.set_cons_zero, List.set_cons_succ]
                            refine wpAnyL_take (i := 12) (v := ?_) rfl (by kernel_rfl) (by kernel_rfl) (by kernel_rfl) (by kernel_rfl) (by kernel_rfl) (fun _ _ _ h => h) (Or.inl ⟨by kernel_rfl, ?_⟩) ⟨h1, h2, h3⟩ ?_
                            rotate_left
                            · rintro w0 ⟨h1_, h2_, h3_⟩; go_simp; (try with_reducible rfl)
                            try simp only [Act.put, List.setIfInBounds_toArray, List.set_cons_zero, List.set_cons_succ]
                            refine wpAnyL_take (i := 13) (v := ?_) rfl (by kernel_rfl) (by kernel_rfl) (by kernel_rfl) (by kernel_rfl) (by kernel_rfl) (fun _ _ _ h => h) (Or.inl ⟨by kernel_rfl, ?_⟩) ⟨h1, h2, h3⟩ ?_
                            rotate_left
                            · rintro w0 ⟨h1_, h2_, h3_⟩; go_simp; (try with_reducible rfl)
                            try simp only [Act.put, List.setIfInBounds_toArray, List.set_cons_zero, List.set_cons_succ]
                            refine wpAnyL_take (i := 14) (v := ?_) rfl (by kernel_rfl) (by kernel_rfl) (by kernel_rfl) (by kernel_rfl) (by kernel_rfl) (fun _ _ _ h => h) (Or.inl ⟨by kernel_rfl, ?_⟩) ⟨h1, h2, h3⟩ ?_
                            rotate_left
                            · rintro w0 ⟨h1_, h2_, h3_⟩; go_simp; (try with_reducible rfl)
                            try simp only [Act.put, List.setIfInBounds_toArray, List.set_cons_zero, List.set_cons_succ]
                            refine wpAnyL_take (i := 15) (v := ?_) rfl (by kernel_rfl) (by kernel_rfl) (by kernel_rfl) (by kernel_rfl) (by kernel_rfl) (fun _ _ _ h => h) (Or.inl ⟨by kernel_rfl, ?_⟩) ⟨h1, h2, h3⟩ ?_
                            rotate_left
                            · rintro w0 ⟨h1_, h2_, h3_⟩; go_simp; (try with_reducible rfl)
                            try simp only [Act.put, List.setIfInBounds_toArray, List.set_cons_zero, List.set_cons_succ]
                            refine wpAnyL_take (i := 16) (v := ?_) rfl (by kernel_rfl) (by kernel_rfl) (by kernel_rfl) (by kernel_rfl) (by kernel_rfl) (fun _ _ _ h => h) (Or.inl ⟨by kernel_rfl, ?_⟩) ⟨h1, h2, h3⟩ ?_
                            rotate_left
                            · rintro w0 ⟨h1_, h2_, h3_⟩; go_simp; (try with_reducible rfl)
                            try simp only [Act.put, List.setIfInBounds_toArray, List.set_cons_zero, List.set_cons_succ]
                            refine wpAnyL_take (i := 17) (v := undef) rfl (by kernel_rfl) (by kernel_rfl) (by kernel_rfl) (by kernel_rfl) (by kernel_rfl) (fun _ _ _ h => h) (Or.inr ⟨by kernel_rfl, rfl⟩) ⟨h1, h2, h3⟩ ?_
                            try simp only [Act.put, List.setIfInBounds_toArray, List.set_cons_zero, List.set_cons_succ]
                            refine wpAnyL_take (i := 18) (v := undef) rfl (by kernel_rfl) (by kernel_rfl) (by kernel_rfl) (by kernel_rfl) (by kernel_rfl) (fun _ _ _ h => h) (Or.inr ⟨by kernel_rfl, rfl⟩) ⟨h1, h2, h3⟩ ?_
                            try simp only [Act.put, List.setIfInBounds_toArray, List.set_cons_zero, List.set_cons_succ]
                            refine wpAnyL_take (i := 19) (v := undef) rfl (by kernel_rfl) (by kernel_rfl) (by kernel_rfl) (by kernel_rfl) (by kernel_rfl) (fun _ _ _ h => h) (Or.inr ⟨by kernel_rfl, rfl⟩) ⟨h1, h2, h3⟩ ?_
                            try simp only [Act.put, List.setIfInBounds_toArray, List.set_cons_zero, List.set_cons_succ]
                            refine wpAnyL_take (i := 20) (v := undef) rfl (by kernel_rfl) (by kernel_rfl) (by kernel_rfl) (by kernel_rfl) (by kernel_rfl) (fun _ _ _ h => h) (Or.inr ⟨by kernel_rfl, rfl⟩) ⟨h1, h2, h3⟩ ?_
                            try simp only [Act.put, List.setIfInBounds_toArray, List.set_cons_zero, List.set_cons_succ]
                            refine wpAnyL_take (i := 21) (v := undef) rfl (by kernel_rfl) (by kernel_rfl) (by kernel_rfl) (by kernel_rfl) (by kernel_rfl) (fun _ _ _ h => h) (Or.inr ⟨by kernel_rfl, rfl⟩) ⟨h1, h2, h3⟩ ?_
                            try simp only [Act.put, List.setIfInBounds_toArray, List.set_cons_zero, List.set_cons_succ]
                            refine wpAnyL_take (i := 22) (v := undef) rfl (by kernel_rfl) (by kernel_rfl) (by kernel_rfl) (by kernel_rfl) (by kernel_rfl) (fun _ _ _ h => h) (Or.inr ⟨by kernel_rfl, rfl⟩) ⟨h1, h2, h3⟩ ?_
                            try simp only [Act.put, List.setIfInBounds_toArray, List.set_cons_zero, List.set_cons_succ]
                            refine wpAnyL_take (i := 23) (v := undef) rfl (by kernel_rfl) (by kernel_rfl) (by kernel_rfl) (by kernel_rfl) (by kernel_rfl) (fun _ _ _ h => h) (Or.inr ⟨by kernel_rfl, rfl⟩) ⟨h1, h2, h3⟩ ?_
                            try simp only [Act.put, List.setIfInBounds_toArray, List.set_cons_zero, List.set_cons_succ]
                            refine wpAnyL_take (i := 24) (v := undef) rfl (by kernel_rfl) (by kernel_rfl) (by kernel_rfl) (by kernel_rfl) (by kernel_rfl) (fun _ _ _ h => h) (Or.inr ⟨by kernel_rfl, rfl⟩) ⟨h1, h2, h3⟩ ?_
                            try simp only [Act.put, List.setIfInBounds_toArray, List.set_cons_zero, List.set_cons_succ]
                            refine wpAnyL_take (i := 25) (v := undef) rfl (by kernel_rfl) (by kernel_rfl) (by kernel_rfl) (by kernel_rfl) (by kernel_rfl) (fun _ _ _ h => h) (Or.inr ⟨by kernel_rfl, rfl⟩) ⟨h1, h2, h3⟩ ?_
                            try simp only [Act.put, List.setIfInBounds_toArray, List.set_cons_zero, List.set_cons_succ]
                            refine wpAnyL_one (i := 26) (by kernel_rfl) rfl (fun K hK => ?_)
                            rw [if_neg (Bool.eq_false_iff.1 (by kernel_rfl))]
                            refine hK.out _ _ (fun _ => ⟨h1, h2, h3⟩) ?_
                            clear hK K
                            try simp only [Act.put, List.setIfInBounds_toArray, List.set_cons_zero, List.set_cons_succ]
                            refine wpAnyL_one (i := 27) (by kernel_rfl) rfl (fun K hK => ?_)
                            rw [if_neg (Bool.eq_false_iff.1 (by kernel_rfl))]
                            refine hK.out _ _ (fun _ => ⟨h1, h2, h3⟩) ?_
                            clear hK K
                            try simp only [Act.put, List.setIfInBounds_toArray, List.set_cons_zero, List.set_cons_succ]
                            refine wpAnyL_take (i := 28) (v := ?_) rfl (by kernel_rfl) (by kernel_rfl) (by kernel_rfl) (by kernel_rfl) (by kernel_rfl) (fun _ _ _ h => h) (Or.inl ⟨by kernel_rfl, ?_⟩) ⟨h1, h2, h3⟩ ?_
                            rotate_left
                            · rintro w0 ⟨h1_, h2_, h3_⟩; go_simp; (try with_reducible rfl)
                            try simp only [Act.put, List.setIfInBounds_toArray, List.set_cons_zero, List.set_cons_succ]
                            refine wpAnyL_take (i := 29) (v := ?_) rfl (by kernel_rfl) (by kernel_rfl) (by kernel_rfl) (by kernel_rfl) (by kernel_rfl) (fun _ _ _ h => h) (Or.inl ⟨by kernel_rfl, ?_⟩) ⟨h1, h2, h3⟩ ?_
                            rotate_left
                            · rintro w0 ⟨h1_, h2_, h3_⟩; go_simp; (try with_reducible rfl)
                            try simp only [Act.put, List.setIfInBounds_toArray, List.set_cons_zero, List.set_cons_succ]
                            refine wpAnyL_take (i := 30) (v := ?_) rfl (by kernel_rfl) (by kernel_rfl) (by kernel_rfl) (by kernel_rfl) (by kernel_rfl) (fun _ _ _ h => h) (Or.inl ⟨by kernel_rfl, ?_⟩) ⟨h1, h2, h3⟩ ?_
                            rotate_left
                            · rintro w0 ⟨h1_, h2_, h3_⟩; go_simp; (try with_reducible rfl)
                            try simp only [Act.put, List.setIfInBounds_toArray, List.set_cons_zero, List.set_cons_succ]
                            refine wpAnyL_one (i := 31) (by kernel_rfl) rfl (fun K hK => ?_)
                            go_simp
                            refine hK.out _ _ (fun _ => ⟨h1, h2, h3⟩) ?_
                            clear hK K
                            try simp only [Act.put, List.setIfInBounds_toArray, List.set_cons_zero, List.set_cons_succ]
                            refine wpAnyL_done (by kernel_rfl) ?_ _
                            clear h1 h2
                            go_wp2_with fail
                            exact ⟨⟨k2 + 1, true, by omega, by omega, by go_num, rfl, by rw [HM.out, HZ.out, HX.out]; rfl, E5, hx, h3⟩, by simp [intOf]; omega⟩
                          · have hxn0 : x.n ≠ 0 := fun e => hx0 (List.eq_nil_of_length_eq_zero (hxl.trans e))
                            have en : ((x.n : Int) == 0) = false := by simp; omega
                            have HX := Lib.hid (decide_eq_false hx0)
                            clear hx0 hxn0
                            go_wp2_with fail
                            refine wp_region_late [] (fun w' => w'.cell? ⟨ba, o + k2 * 5 + 1, none⟩ = some (.int .i64 z.i) ∧ w'.cell? ⟨ba, o + k2 * 5 + 2, none⟩ = some (.int .u8 (z.c : Int)) ∧ w'.cell? ⟨bn, i, none⟩ = some (.slice x.A x.n x.c)) (by kernel_rfl) ?_
                            have E5 := E5.drew
                            have hx := hx.drew
                            obtain ⟨h1, h2, h3⟩ : (World.drew _).cell? ⟨ba, o + k2 * 5 + 1, none⟩ = some (.int .i64 z.i) ∧ (World.drew _).cell? ⟨ba, o + k2 * 5 + 2, none⟩ = some (.int .u8 (z.c : Int)) ∧ (World.drew _).cell? ⟨bn, i, none⟩ = some (.slice x.A x.n x.c) := ⟨h1, h2, h3⟩
                            generalize World.drew _ = w80 at *
                            refine wpAnyL_take (i := 0) (v := ?_) rfl (by kernel_rfl) (by kernel_rfl) (by kernel_rfl) (by kernel_rfl) (by kernel_rfl) (fun _ _ _ h => h) (Or.inl ⟨by kernel_rfl, ?_⟩) ⟨h1, h2, h3⟩ ?_
                            rotate_left
                            · rintro w0 ⟨h1_, h2_, h3_⟩; go_simp; (try with_reducible rfl)
                            try simp only [Act.put, List.setIfInBounds_toArray, List.set_cons_zero, List.set_cons_succ]
                            refine wpAnyL_take (i := 1) (v := ?_) rfl (by kernel_rfl) (by kernel_rfl) (by kernel_rfl) (by kernel_rfl) (by kernel_rfl) (fun _ _ _ h => h) (Or.inl ⟨by kernel_rfl, ?_⟩) ⟨h1, h2, h3⟩ ?_
                            rotate_left
                            · rintro w0 ⟨h1_, h2_, h3_⟩; go_simp; (try with_reducible rfl)
                            try simp only [Act.put, List.setIfInBounds_toArray, List.set_cons_zero, List.set_cons_succ]
                            refine wpAnyL_take (i := 2) (v := ?_) rfl (by kernel_rfl) (by kernel_rfl) (by kernel_rfl) (by kernel_rfl) (by kernel_rfl) (fun _ _ _ h => h) (Or.inl ⟨by kernel_rfl, ?_⟩) ⟨h1, h2, h3⟩ ?_
                            rotate_left
                            · rintro w0 ⟨h1_, h2_, h3_⟩; go_simp; (try with_reducible rfl)
                            try simp only [Act.put, List.setIfInBounds_toArray, List.set_cons_zero, List.set_cons_succ]
                            refine wpAnyL_take (i := 3) (v := ?_) rfl (by kernel_rfl) (by kernel_rfl) (by kernel_rfl) (by kernel_rfl) (by kernel_rfl) (fun _ _ _ h => h) (Or.inl ⟨by kernel_rfl, ?_⟩) ⟨h1, h2, h3⟩ ?_
                            rotate_left
                            · rintro w0 ⟨h1_, h2_, h3_⟩; go_simp; (try with_reducible rfl)
                            try simp only [Act.put, List.setIfInBounds_toArray, List.set_cons_zero, List.set_cons_succ]
                            refine wpAnyL_take (i := 4) (v := ?_) rfl (by kernel_rfl) (by kernel_rfl) (by kernel_rfl) (by kernel_rfl) (by kernel_rfl) (fun _ _ _ h => h) (Or.inl ⟨by kernel_rfl, ?_⟩) ⟨h1, h2, h3⟩ ?_
                            rotate_left
                            · rintro w0 ⟨h1_, h2_, h3_⟩; go_simp; (try with_reducible rfl)
                            try simp only [Act.put, List.setIfInBounds_toArray, List.set_cons_zero, List.set_cons_succ]
                            refine wpAnyL_take (i := 5) (v := ?_) rfl (by kernel_rfl) (by kernel_rfl) (by kernel_rfl) (by kernel_rfl) (by kernel_rfl) (fun _ _ _ h => h) (Or.inl ⟨by kernel_rfl, ?_⟩) ⟨h1, h2, h3⟩ ?_
                            rotate_left
                            · rintro w0 ⟨h1_, h2_, h3_⟩; go_simp; (try with_reducible rfl)
                            try simp only [Act.put, List.setIfInBounds_toArray, List.set_cons_zero, List.set_cons_succ]
                            refine wpAnyL_take (i := 6) (v := ?_) rfl (by kernel_rfl) (by kernel_rfl) (by kernel_rfl) (by kernel_rfl) (by kernel_rfl) (fun _ _ _ h => h) (Or.inl ⟨by kernel_rfl, ?_⟩) ⟨h1, h2, h3⟩ ?_
                            rotate_left
                            · rintro w0 ⟨h1_, h2_, h3_⟩; go_simp; (try with_reducible rfl)
                            try simp only [Act.put, List.setIfInBounds_toArray, List.set_cons_zero, List.set_cons_succ]
                            refine wpAnyL_take (i := 7) (v := ?_) rfl (by kernel_rfl) (by kernel_rfl) (by kernel_rfl) (by kernel_rfl) (by kernel_rfl) (fun _ _ _ h => h) (Or.inl ⟨by kernel_rfl, ?_⟩) ⟨h1, h2, h3⟩ ?_
                            rotate_left
                            · rintro w0 ⟨h1_, h2_, h3_⟩; go_simp; (try with_reducible rfl)
                            try simp only [Act.put, List.setIfInBounds_toArray, List.set_cons_zero, List.set_cons_succ]
                            refine wpAnyL_take (i := 8) (v := ?_) rfl (by kernel_rfl) (by kernel_rfl) (by kernel_rfl) (by kernel_rfl) (by kernel_rfl) (fun _ _ _ h => h) (Or.inl ⟨by kernel_rfl, ?_⟩) ⟨h1, h2, h3⟩ ?_
                            rotate_left
                            · rintro w0 ⟨h1_, h2_, h3_⟩; go_simp; (try with_reducible rfl)
                            try simp only [Act.put, List.setIfInBounds_toArray, List.set_cons_zero, List.set_cons_succ]
                            refine wpAnyL_take (i := 9) (v := ?_) rfl (by kernel_rfl) (by kernel_rfl) (by kernel_rfl) (by kernel_rfl) (by kernel_rfl) (fun _ _ _ h => h) (Or.inl ⟨by kernel_rfl, ?_⟩) ⟨h1, h2, h3⟩ ?_
                            rotate_left
                            · rintro w0 ⟨h1_, h2_, h3_⟩; go_simp; (try with_reducible rfl)
                            try simp only [Act.put, List.setIfInBounds_toArray, List.set_cons_zero, List.set_cons_succ]
                            refine wpAnyL_take (i := 10) (v := ?_) rfl (by kernel_rfl) (by kernel_rfl) (by kernel_rfl) (by kernel_rfl) (by kernel_rfl) (fun _ _ _ h => h) (Or.inl ⟨by kernel_rfl, ?_⟩) ⟨h1, h2, h3⟩ ?_
                            rotate_left
                            · rintro w0 ⟨h1_, h2_, h3_⟩; go_simp; (try with_reducible rfl)
                            try simp only [Act.put, List.setIfInBounds_toArray, List.set_cons_zero, List.set_cons_succ]
                            refine wpAnyL_take (i := 11) (v := ?_) rfl (by kernel_rfl) (by kernel_rfl) (by kernel_rfl) (by kernel_rfl) (by kernel_rfl) (fun _ _ _ h => h) (Or.inl ⟨by kernel_rfl, ?_⟩) ⟨h1, h2, h3⟩ ?_
                            rotate_left
                            · rintro w0 ⟨h1_, h2_, h3_⟩; go_simp; (try with_reducible rfl)
                            try simp only [Act.put, List.setIfInBounds_toArray, List.set_cons_zero, List.set_cons_succ]
                            refine wpAnyL_take (i := 12) (v := ?_) rfl (by kernel_rfl) (by kernel_rfl) (by kernel_rfl) (by kernel_rfl) (by kernel_rfl) (fun _ _ _ h => h) (Or.inl ⟨by kernel_rfl, ?_⟩) ⟨h1, h2, h3⟩ ?_
                            rotate_left
                            · rintro w0 ⟨h1_, h2_, h3_⟩; go_simp; (try with_reducible rfl)
                            try simp only [Act.put, List.setIfInBounds_toArray, List.set_cons_zero, List.set_cons_succ]
                            refine wpAnyL_take (i := 13) (v := ?_) rfl (by kernel_rfl) (by kernel_rfl) (by kernel_rfl) (by kernel_rfl) (by kernel_rfl) (fun _ _ _ h => h) (Or.inl ⟨by kernel_rfl, ?_⟩) ⟨h1, h2, h3⟩ ?_
                            rotate_left
                            · rintro w0 ⟨h1_, h2_, h3_⟩; go_simp; (try with_reducible rfl)
                            try simp only [Act.put, List.setIfInBounds_toArray, List.set_cons_zero, List.set_cons_succ]
                            refine wpAnyL_take (i := 14) (v := ?_) rfl (by kernel_rfl) (by kernel_rfl) (by kernel_rfl) (by kernel_rfl) (by kernel_rfl) (fun _ _ _ h => h) (Or.inl ⟨by kernel_rfl, ?_⟩) ⟨h1, h2, h3⟩ ?_
                            rotate_left
                            · rintro w0 ⟨h1_, h2_, h3_⟩; go_simp; (try with_reducible rfl)
                            try simp only [Act.put, List.setIfInBounds_toArray, List.set_cons_zero, List.set_cons_succ]
                            refine wpAnyL_take (i := 15) (v := ?_) rfl (by kernel_rfl) (by kernel_rfl) (by kernel_rfl) (by kernel_rfl) (by kernel_rfl) (fun _ _ _ h => h) (Or.inl ⟨by kernel_rfl, ?_⟩) ⟨h1, h2, h3⟩ ?_
                            rotate_left
                            · rintro w0 ⟨h1_, h2_, h3_⟩; go_simp; (try with_reducible rfl)
                            try simp only [Act.put, List.setIfInBounds_toArray, List.set_cons_zero, List.set_cons_succ]
                            refine wpAnyL_take (i := 16) (v := ?_) rfl (by kernel_rfl) (by kernel_rfl) (by kernel_rfl) (by kernel_rfl) (by kernel_rfl) (fun _ _ _ h => h) (Or.inl ⟨by kernel_rfl, ?_⟩) ⟨h1, h2, h3⟩ ?_
                            rotate_left
                            · rintro w0 ⟨h1_, h2_, h3_⟩; go_simp; (try with_reducible rfl)
                            try simp only [Act.put, List.setIfInBounds_toArray, List.set_cons_zero, List.set_cons_succ]
                            refine wpAnyL_take (i := 17) (v := ?_) rfl (by kernel_rfl) (by kernel_rfl) (by kernel_rfl) (by kernel_rfl) (by kernel_rfl) (fun _ _ _ h => h) (Or.inl ⟨by kernel_rfl, ?_⟩) ⟨h1, h2, h3⟩ ?_
                            rotate_left
                            · rintro w0 ⟨h1_, h2_, h3_⟩; go_simp; (try with_reducible rfl)
                            try simp only [Act.put, List.setIfInBounds_toArray, List.set_cons_zero, List.set_cons_succ]
                            refine wpAnyL_take (i := 18) (v := ?_) rfl (by kernel_rfl) (by kernel_rfl) (by kernel_rfl) (by kernel_rfl) (by kernel_rfl) (fun _ _ _ h => h) (Or.inl ⟨by kernel_rfl, ?_⟩) ⟨h1, h2, h3⟩ ?_
                            rotate_left
                            · rintro w0 ⟨h1_, h2_, h3_⟩; go_simp; (try with_reducible rfl)
                            try simp only [Act.put, List.setIfInBounds_toArray, List.set_cons_zero, List.set_cons_succ]
                            refine wpAnyL_take (i := 19) (v := ?_) rfl (by kernel_rfl) (by kernel_rfl) (by kernel_rfl) (by kernel_rfl) (by kernel_rfl) (fun _ _ _ h => h) (Or.inl ⟨by kernel_rfl, ?_⟩) ⟨h1, h2, h3⟩ ?_
                            rotate_left
                            · rintro w0 ⟨h1_, h2_, h3_⟩; go_simp; (try with_reducible rfl)
                            try simp only [Act.put, List.setIfInBounds_toArray, List.set_cons_zero, List.set_cons_succ]
                            refine wpAnyL_take (i := 20) (v := ?_) rfl (by kernel_rfl) (by kernel_rfl) (by kernel_rfl) (by kernel_rfl) (by kernel_rfl) (fun _ _ _ h => h) (Or.inl ⟨by kernel_rfl, ?_⟩) ⟨h1, h2, h3⟩ ?_
                            rotate_left
                            · rintro w0 ⟨h1_, h2_, h3_⟩; go_simp; (try with_reducible rfl)
                            try simp only [Act.put, List.setIfInBounds_toArray, List.set_cons_zero, List.set_cons_succ]
                            refine wpAnyL_take (i := 21) (v := ?_) rfl (by kernel_rfl) (by kernel_rfl) (by kernel_rfl) (by kernel_rfl) (by kernel_rfl) (fun _ _ _ h => h) (Or.inl ⟨by kernel_rfl, ?_⟩) ⟨h1, h2, h3⟩ ?_
                            rotate_left
                            · rintro w0 ⟨h1_, h2_, h3_⟩; go_simp; (try with_reducible rfl)
                            try simp only [Act.put, List.setIfInBounds_toArray, List.set_cons_zero, List.set_cons_succ]
                            refine wpAnyL_take (i := 22) (v := ?_) rfl (by kernel_rfl) (by kernel_rfl) (by kernel_rfl) (by kernel_rfl) (by kernel_rfl) (fun _ _ _ h => h) (Or.inl ⟨by kernel_rfl, ?_⟩) ⟨h1, h2, h3⟩ ?_
                            rotate_left
                            · rintro w0 ⟨h1_, h2_, h3_⟩; go_simp; (try with_reducible rfl)
                            try simp only [Act.put, List.setIfInBounds_toArray, List.set_cons_zero, List.set_cons_succ]
                            refine wpAnyL_take (i := 23) (v := ?_) rfl (by kernel_rfl) (by kernel_rfl) (by kernel_rfl) (by kernel_rfl) (by kernel_rfl) (fun _ _ _ h => h) (Or.inl ⟨by kernel_rfl, ?_⟩) ⟨h1, h2, h3⟩ ?_
                            rotate_left
                            · rintro w0 ⟨h1_, h2_, h3_⟩; go_simp; (try with_reducible rfl)
                            try simp only [Act.put, List.setIfInBounds_toArray, List.set_cons_zero, List.set_cons_succ]
                            refine wpAnyL_take (i := 24) (v := ?_) rfl (by kernel_rfl) (by kernel_rfl) (by kernel_rfl) (by kernel_rfl) (by kernel_rfl) (fun _ _ _ h => h) (Or.inl ⟨by kernel_rfl, ?_⟩) ⟨h1, h2, h3⟩ ?_
                            rotate_left
                            · rintro w0 ⟨h1_, h2_, h3_⟩; go_simp; (try with_reducible rfl)
                            try simp only [Act.put, List.setIfInBounds_toArray, List.set_cons_zero, List.set_cons_succ]
                            refine wpAnyL_take (i := 25) (v := ?_) rfl (by kernel_rfl) (by kernel_rfl) (by kernel_rfl) (by kernel_rfl) (by kernel_rfl) (fun _ _ _ h => h) (Or.inl ⟨by kernel_rfl, ?_⟩) ⟨h1, h2, h3⟩ ?_
                            rotate_left
                            · rintro w0 ⟨h1_, h2_, h3_⟩; go_simp; (try with_reducible rfl)
                            try simp only [Act.put, List.setIfInBounds_toArray, List.set_cons_zero, List.set_cons_succ]
                            refine wpAnyL_one (i := 26) (by kernel_rfl) rfl (fun K hK => ?_)
                            go_simp
                            refine (row_any z.c hzc false _).mono ?_; rintro e w81 ⟨A81, n81, c81, rfl, ho, hn81, hb81⟩
                            have E5 := E5.below hb81
                            have hx := hx.below hb81
                            have h1 := cell_below hb81 h1
                            have h2 := cell_below hb81 h2
                            have h3 := cell_below hb81 h3
                            go_wp2_with fail
                            refine hK.out _ _ (fun _ => ⟨h1, h2, h3⟩) ?_
                            clear hK K
                            try simp only [Act.put, List.setIfInBounds_toArray, List.set_cons_zero, List.set_cons_succ]
                            refine wpAnyL_one (i := 27) (by kernel_rfl) rfl (fun K hK => ?_)
                            go_simp
                            refine (rows_any _ _ _ _ _ _ _ _ _ hx.ints ho.ints (by omega) (by omega)).mono ?_; rintro e w82 ⟨⟨q82, rfl⟩, rfl⟩
                            have E5 := E5.drewN q82
                            have hx := (BEl.In.below hx (((Moved.refl w81 []).drewN q82).below0))
                            obtain ⟨h1, h2, h3⟩ : (w81.drewN q82).cell? ⟨ba, o + k2 * 5 + 1, none⟩ = some (.int .i64 z.i) ∧ (w81.drewN q82).cell? ⟨ba, o + k2 * 5 + 2, none⟩ = some (.int .u8 (z.c : Int)) ∧ (w81.drewN q82).cell? ⟨bn, i, none⟩ = some (.slice x.A x.n x.c) := ⟨h1, h2, h3⟩
                            obtain ⟨rb, hrb⟩ : ∃ b, decide (x.l = rowL z.c false) = b := ⟨_, rfl⟩
                            rw [hrb]
                            have HRB := Lib.hid hrb
                            clear hrb
                            go_wp2_with fail
                            refine hK.out _ _ (fun _ => ⟨h1, h2, h3⟩) ?_
                            clear hK K
                            try simp only [Act.put, List.setIfInBounds_toArray, List.set_cons_zero, List.set_cons_succ]
                            refine wpAnyL_take (i := 28) (v := ?_) rfl (by kernel_rfl) (by kernel_rfl) (by kernel_rfl) (by kernel_rfl) (by kernel_rfl) (fun _ _ _ h => h) (Or.inl ⟨by kernel_rfl, ?_⟩) ⟨h1, h2, h3⟩ ?_
                            rotate_left
                            · rintro w0 ⟨h1_, h2_, h3_⟩; go_simp; (try with_reducible rfl)
                            try simp only [Act.put, List.setIfInBounds_toArray, List.set_cons_zero, List.set_cons_succ]
                            refine wpAnyL_take (i := 29) (v := ?_) rfl (by kernel_rfl) (by kernel_rfl) (by kernel_rfl) (by kernel_rfl) (by kernel_rfl) (fun _ _ _ h => h) (Or.inl ⟨by kernel_rfl, ?_⟩) ⟨h1, h2, h3⟩ ?_
                            rotate_left
                            · rintro w0 ⟨h1_, h2_, h3_⟩; go_simp; (try with_reducible rfl)
                            try simp only [Act.put, List.setIfInBounds_toArray, List.set_cons_zero, List.set_cons_succ]
                            refine wpAnyL_take (i := 30) (v := ?_) rfl (by kernel_rfl) (by kernel_rfl) (by kernel_rfl) (by kernel_rfl) (by kernel_rfl) (fun _ _ _ h => h) (Or.inl ⟨by kernel_rfl, ?_⟩) ⟨h1, h2, h3⟩ ?_
                            rotate_left
                            · rintro w0 ⟨h1_, h2_, h3_⟩; go_simp; (try with_reducible rfl)
                            try simp only [Act.put, List.setIfInBounds_toArray, List.set_cons_zero, List.set_cons_succ]
                            refine wpAnyL_one (i := 31) (by kernel_rfl) rfl (fun K hK => ?_)
                            go_simp
                            refine hK.out _ _ (fun _ => ⟨h1, h2, h3⟩) ?_
                            clear hK K
                            try simp only [Act.put, List.setIfInBounds_toArray, List.set_cons_zero, List.set_cons_succ]
                            refine wpAnyL_done (by kernel_rfl) ?_ _
                            clear h1 h2
                            go_wp2_with fail
                            exact ⟨⟨k2 + 1, rb, by omega, by omega, by go_num, rfl, by rw [HM.out, HZ.out, HX.out, HRB.out]; rfl, E5, hx, h3⟩, by simp [intOf]; omega⟩
                        · have ezi : (z.i == (i : Int)) = false := by simpa using hzi
                          have HZ := Lib.hid (decide_eq_false hzi)
                          clear hzi
                          go_wp2_with fail
                          refine wp_region_late [] (fun w' => w'.cell? ⟨ba, o + k2 * 5 + 1, none⟩ = some (.int .i64 z.i) ∧ w'.cell? ⟨ba, o + k2 * 5 + 2, none⟩ = some (.int .u8 (z.c : Int)) ∧ w'.cell? ⟨bn, i, none⟩ = some (.slice x.A x.n x.c)) (by kernel_rfl) ?_
                          have E5 := E5.drew
                          have hx := hx.drew
                          obtain ⟨h1, h2, h3⟩ : (World.drew _).cell? ⟨ba, o + k2 * 5 + 1, none⟩ = some (.int .i64 z.i) ∧ (World.drew _).cell? ⟨ba, o + k2 * 5 + 2, none⟩ = some (.int .u8 (z.c : Int)) ∧ (World.drew _).cell? ⟨bn, i, none⟩ = some (.slice x.A x.n x.c) := ⟨h1, h2, h3⟩
                          generalize World.drew _ = w80 at *
                          refine wpAnyL_take (i := 0) (v := ?_) rfl (by kernel_rfl) (by kernel_rfl) (by kernel_rfl) (by kernel_rfl) (by kernel_rfl) (fun _ _ _ h => h) (Or.inl ⟨by kernel_rfl, ?_⟩) ⟨h1, h2, h3⟩ ?_
                          rotate_left
                          · rintro w0 ⟨h1_, h2_, h3_⟩; go_simp; (try with_reducible rfl)
                          try simp only [Act.put, List.setIfInBounds_toArray, List.set_cons_zero, List.set_cons_succ]
                          refine wpAnyL_take (i := 1) (v := ?_) rfl (by kernel_rfl) (by kernel_rfl) (by kernel_rfl) (by kernel_rfl) (by kernel_rfl) (fun _ _ _ h => h) (Or.inl ⟨by kernel_rfl, ?_⟩) ⟨h1, h2, h3⟩ ?_
                          rotate_left
                          · rintro w0 ⟨h1_, h2_, h3_⟩; go_simp; (try with_reducible rfl)
                          try simp only [Act.put, List.setIfInBounds_toArray, List.set_cons_zero, List.set_cons_succ]
                          refine wpAnyL_take (i := 2) (v := ?_) rfl (by kernel_rfl) (by kernel_rfl) (by kernel_rfl) (by kernel_rfl) (by kernel_rfl) (fun _ _ _ h => h) (Or.inl ⟨by kernel_rfl, ?_⟩) ⟨h1, h2, h3⟩ ?_
                          rotate_left
                          · rintro w0 ⟨h1_, h2_, h3_⟩; go_simp; (try with_reducible rfl)
                          try simp only [Act.put, List.setIfInBounds_toArray, List.set_cons_zero, List.set_cons_succ]
                          refine wpAnyL_take (i := 3) (v := ?_) rfl (by kernel_rfl) (by kernel_rfl) (by kernel_rfl) (by kernel_rfl) (by kernel_rfl) (fun _ _ _ h => h) (Or.inl ⟨by kernel_rfl, ?_⟩) ⟨h1, h2, h3⟩ ?_
                          rotate_left
                          · rintro w0 ⟨h1_, h2_, h3_⟩; go_simp; (try with_reducible rfl)
                          try simp only [Act.put, List.setIfInBounds_toArray, List.set_cons_zero, List.set_cons_succ]
                          refine wpAnyL_take (i := 4) (v := ?_) rfl (by kernel_rfl) (by kernel_rfl) (by kernel_rfl) (by kernel_rfl) (by kernel_rfl) (fun _ _ _ h => h) (Or.inl ⟨by kernel_rfl, ?_⟩) ⟨h1, h2, h3⟩ ?_
                          rotate_left
                          · rintro w0 ⟨h1_, h2_, h3_⟩; go_simp; (try with_reducible rfl)
                          try simp only [Act.put, List.setIfInBounds_toArray, List.set_cons_zero, List.set_cons_succ]
                          refine wpAnyL_take (i := 5) (v := ?_) rfl (by kernel_rfl) (by kernel_rfl) (by kernel_rfl) (by kernel_rfl) (by kernel_rfl) (fun _ _ _ h => h) (Or.inl ⟨by kernel_rfl, ?_⟩) ⟨h1, h2, h3⟩ ?_
                          rotate_left
                          · rintro w0 ⟨h1_, h2_, h3_⟩; go_simp; (try with_reducible rfl)
                          try simp only [Act.put, List.setIfInBounds_toArray, List.set_cons_zero, List.set_cons_succ]
                          refine wpAnyL_take (i := 6) (v := ?_) rfl (by kernel_rfl) (by kernel_rfl) (by kernel_rfl) (by kernel_rfl) (by kernel_rfl) (fun _ _ _ h => h) (Or.inl ⟨by kernel_rfl, ?_⟩) ⟨h1, h2, h3⟩ ?_
                          rotate_left
                          · rintro w0 ⟨h1_, h2_, h3_⟩; go_simp; (try with_reducible rfl)
                          try simp only [Act.put, List.setIfInBounds_toArray, List.set_cons_zero, List.set_cons_succ]
                          refine wpAnyL_take (i := 7) (v := ?_) rfl (by kernel_rfl) (by kernel_rfl) (by kernel_rfl) (by kernel_rfl) (by kernel_rfl) (fun _ _ _ h => h) (Or.inl ⟨by kernel_rfl, ?_⟩) ⟨h1, h2, h3⟩ ?_
                          rotate_left
                          · rintro w0 ⟨h1_, h2_, h3_⟩; go_simp; (try with_reducible rfl)
                          try simp only [Act.put, List.setIfInBounds_toArray, List.set_cons_zero, List.set_cons_succ]
                          refine wpAnyL_take (i := 8) (v := ?_) rfl (by kernel_rfl) (by kernel_rfl) (by kernel_rfl) (by kernel_rfl) (by kernel_rfl) (fun _ _ _ h => h) (Or.inl ⟨by kernel_rfl, ?_⟩) ⟨h1, h2, h3⟩ ?_
                          rotate_left
                          · rintro w0 ⟨h1_, h2_, h3_⟩; go_simp; (try with_reducible rfl)
                          try simp only [Act.put, List.setIfInBounds_toArray, List.set_cons_zero, List.set_cons_succ]
                          refine wpAnyL_take (i := 9) (v := ?_) rfl (by kernel_rfl) (by kernel_rfl) (by kernel_rfl) (by kernel_rfl) (by kernel_rfl) (fun _ _ _ h => h) (Or.inl ⟨by kernel_rfl, ?_⟩) ⟨h1, h2, h3⟩ ?_
                          rotate_left
                          · rintro w0 ⟨h1_, h2_, h3_⟩; go_simp; (try with_reducible rfl)
                          try simp only [Act.put, List.setIfInBounds_toArray, List.set_cons_zero, List.set_cons_succ]
                          refine wpAnyL_take (i := 10) (v := undef) rfl (by kernel_rfl) (by kernel_rfl) (by kernel_rfl) (by kernel_rfl) (by kernel_rfl) (fun _ _ _ h => h) (Or.inr ⟨by kernel_rfl, rfl⟩) ⟨h1, h2, h3⟩ ?_
                          try simp only [Act.put, List.setIfInBounds_toArray, List.set_cons_zero, List.set_cons_succ]
                          refine wpAnyL_take (i := 11) (v := undef) rfl (by kernel_rfl) (by kernel_rfl) (by kernel_rfl) (by kernel_rfl) (by kernel_rfl) (fun _ _ _ h => h) (Or.inr ⟨by kernel_rfl, rfl⟩) ⟨h1, h2, h3⟩ ?_
                          try simp only [Act.put, List.setIfInBounds_toArray, List.set_cons_zero, List.set_cons_succ]
                          refine wpAnyL_take (i := 12) (v := undef) rfl (by kernel_rfl) (by kernel_rfl) (by kernel_rfl) (by kernel_rfl) (by kernel_rfl) (fun _ _ _ h => h) (Or.inr ⟨by kernel_rfl, rfl⟩) ⟨h1, h2, h3⟩ ?_
                          try simp only [Act.put, List.setIfInBounds_toArray, List.set_cons_zero, List.set_cons_succ]
                          refine wpAnyL_take (i := 13) (v := undef) rfl (by kernel_rfl) (by kernel_rfl) (by kernel_rfl) (by kernel_rfl) (by kernel_rfl) (fun _ _ _ h => h) (Or.inr ⟨by kernel_rfl, rfl⟩) ⟨h1, h2, h3⟩ ?_
                          try simp only [Act.put, List.setIfInBounds_toArray, List.set_cons_zero, List.set_cons_succ]
                          refine wpAnyL_take (i := 14) (v := undef) rfl (by kernel_rfl) (by kernel_rfl) (by kernel_rfl) (by kernel_rfl) (by kernel_rfl) (fun _ _ _ h => h) (Or.inr ⟨by kernel_rfl, rfl⟩) ⟨h1, h2, h3⟩ ?_
                          try simp only [Act.put, List.setIfInBounds_toArray, List.set_cons_zero, List.set_cons_succ]
                          refine wpAnyL_take (i := 15) (v := undef) rfl (by kernel_rfl) (by kernel_rfl) (by kernel_rfl) (by kernel_rfl) (by kernel_rfl) (fun _ _ _ h => h) (Or.inr ⟨by kernel_rfl, rfl⟩) ⟨h1, h2, h3⟩ ?_
                          try simp only [Act.put, List.setIfInBounds_toArray, List.set_cons_zero, List.set_cons_succ]
                          refine wpAnyL_take (i := 16) (v := undef) rfl (by kernel_rfl) (by kernel_rfl) (by kernel_rfl) (by kernel_rfl) (by kernel_rfl) (fun _ _ _ h => h) (Or.inr ⟨by kernel_rfl, rfl⟩) ⟨h1, h2, h3⟩ ?_
                          try simp only [Act.put, List.setIfInBounds_toArray, List.set_cons_zero, List.set_cons_succ]
                          refine wpAnyL_take (i := 17) (v := undef) rfl (by kernel_rfl) (by kernel_rfl) (by kernel_rfl) (by kernel_rfl) (by kernel_rfl) (fun _ _ _ h => h) (Or.inr ⟨by kernel_rfl, rfl⟩) ⟨h1, h2, h3⟩ ?_
                          try simp only [Act.put, List.setIfInBounds_toArray, List.set_cons_zero, List.set_cons_succ]
                          refine wpAnyL_take (i := 18) (v := undef) rfl (by kernel_rfl) (by kernel_rfl) (by kernel_rfl) (by kernel_rfl) (by kernel_rfl) (fun _ _ _ h => h) (Or.inr ⟨by kernel_rfl, rfl⟩) ⟨h1, h2, h3⟩ ?_
                          try simp only [Act.put, List.setIfInBounds_toArray, List.set_cons_zero, List.set_cons_succ]
                          refine wpAnyL_take (i := 19) (v := undef) rfl (by kernel_rfl) (by kernel_rfl) (by kernel_rfl) (by kernel_rfl) (by kernel_rfl) (fun _ _ _ h => h) (Or.inr ⟨by kernel_rfl, rfl⟩) ⟨h1, h2, h3⟩ ?_
                          try simp only [Act.put, List.setIfInBounds_toArray, List.set_cons_zero, List.set_cons_succ]
                          refine wpAnyL_take (i := 20) (v := undef) rfl (by kernel_rfl) (by kernel_rfl) (by kernel_rfl) (by kernel_rfl) (by kernel_rfl) (fun _ _ _ h => h) (Or.inr ⟨by kernel_rfl, rfl⟩) ⟨h1, h2, h3⟩ ?_
                          try simp only [Act.put, List.setIfInBounds_toArray, List.set_cons_zero, List.set_cons_succ]
                          refine wpAnyL_take (i := 21) (v := undef) rfl (by kernel_rfl) (by kernel_rfl) (by kernel_rfl) (by kernel_rfl) (by kernel_rfl) (fun _ _ _ h => h) (Or.inr ⟨by kernel_rfl, rfl⟩) ⟨h1, h2, h3⟩ ?_
                          try simp only [Act.put, List.setIfInBounds_toArray, List.set_cons_zero, List.set_cons_succ]
                          refine wpAnyL_take (i := 22) (v := undef) rfl (by kernel_rfl) (by kernel_rfl) (by kernel_rfl) (by kernel_rfl) (by kernel_rfl) (fun _ _ _ h => h) (Or.inr ⟨by kernel_rfl, rfl⟩) ⟨h1, h2, h3⟩ ?_
                          try simp only [Act.put, List.setIfInBounds_toArray, List.set_cons_zero, List.set_cons_succ]
                          refine wpAnyL_take (i := 23) (v := undef) rfl (by kernel_rfl) (by kernel_rfl) (by kernel_rfl) (by kernel_rfl) (by kernel_rfl) (fun _ _ _ h => h) (Or.inr ⟨by kernel_rfl, rfl⟩) ⟨h1, h2, h3⟩ ?_
                          try simp only [Act.put, List.setIfInBounds_toArray, List.set_cons_zero, List.set_cons_succ]
                          refine wpAnyL_take (i := 24) (v := undef) rfl (by kernel_rfl) (by kernel_rfl) (by kernel_rfl) (by kernel_rfl) (by kernel_rfl) (fun _ _ _ h => h) (Or.inr ⟨by kernel_rfl, rfl⟩) ⟨h1, h2, h3⟩ ?_
                          try simp only [Act.put, List.setIfInBounds_toArray, List.set_cons_zero, List.set_cons_succ]
                          refine wpAnyL_take (i := 25) (v := undef) rfl (by kernel_rfl) (by kernel_rfl) (by kernel_rfl) (by kernel_rfl) (by kernel_rfl) (fun _ _ _ h => h) (Or.inr ⟨by kernel_rfl, rfl⟩) ⟨h1, h2, h3⟩ ?_
                          try simp only [Act.put, List.setIfInBounds_toArray, List.set_cons_zero, List.set_cons_succ]
                          refine wpAnyL_one (i := 26) (by kernel_rfl) rfl (fun K hK => ?_)
                          rw [if_neg (Bool.eq_false_iff.1 (by kernel_rfl))]
                          refine hK.out _ _ (fun _ => ⟨h1, h2, h3⟩) ?_
                          clear hK K
                          try simp only [Act.put, List.setIfInBounds_toArray, List.set_cons_zero, List.set_cons_succ]
                          refine wpAnyL_one (i := 27) (by kernel_rfl) rfl (fun K hK => ?_)
                          rw [if_neg (Bool.eq_false_iff.1 (by kernel_rfl))]
                          refine hK.out _ _ (fun _ => ⟨h1, h2, h3⟩) ?_
                          clear hK K
                          try simp only [Act.put, List.setIfInBounds_toArray, List.set_cons_zero, List.set_cons_succ]
                          refine wpAnyL_take (i := 28) (v := undef) rfl (by kernel_rfl) (by kernel_rfl) (by kernel_rfl) (by kernel_rfl) (by kernel_rfl) (fun _ _ _ h => h) (Or.inr ⟨by kernel_rfl, rfl⟩) ⟨h1, h2, h3⟩ ?_
                          try simp only [Act.put, List.setIfInBounds_toArray, List.set_cons_zero, List.set_cons_succ]
                          refine wpAnyL_take (i := 29) (v := ?_) rfl (by kernel_rfl) (by kernel_rfl) (by kernel_rfl) (by kernel_rfl) (by kernel_rfl) (fun _ _ _ h => h) (Or.inl ⟨by kernel_rfl, ?_⟩) ⟨h1, h2, h3⟩ ?_
                          rotate_left
                          · rintro w0 ⟨h1_, h2_, h3_⟩; go_simp; (try with_reducible rfl)
                          try simp only [Act.put, List.setIfInBounds_toArray, List.set_cons_zero, List.set_cons_succ]
                          refine wpAnyL_take (i := 30) (v := ?_) rfl (by kernel_rfl) (by kernel_rfl) (by kernel_rfl) (by kernel_rfl) (by kernel_rfl) (fun _ _ _ h => h) (Or.inl ⟨by kernel_rfl, ?_⟩) ⟨h1, h2, h3⟩ ?_
                          rotate_left
                          · rintro w0 ⟨h1_, h2_, h3_⟩; go_simp; (try with_reducible rfl)
                          try simp only [Act.put, List.setIfInBounds_toArray, List.set_cons_zero, List.set_cons_succ]
                          refine wpAnyL_one (i := 31) (by kernel_rfl) rfl (fun K hK => ?_)
                          go_simp
                          refine hK.out _ _ (fun _ => ⟨h1, h2, h3⟩) ?_
                          clear hK K
                          try simp only [Act.put, List.setIfInBounds_toArray, List.set_cons_zero, List.set_cons_succ]
                          refine wpAnyL_done (by kernel_rfl) ?_ _
                          clear h1 h2
                          go_wp2_with fail
                          exact ⟨⟨k2 + 1, false, by omega, by omega, by go_num, rfl, by rw [HM.out, HZ.out]; rfl, E5, hx, h3⟩, by simp [intOf]; omega⟩
                    · have hkk2 : k2 = k := by have := hkk.out; omega
                      rw [hkk2, HYi.out] at hmb
                      subst hmb
                      by_cases hk1 : k2 < n1
                      · have hlt1 : (k2 : Int) < (n1 : Int) := by omega
                        have hlt2 : ¬ (k2 : Int) < 20 := by omega
                        have hlt3 : decide ((k2 : Int) < 20) = false := by simp; omega
                        clear hgo2 hk1 hkk2
                        go_wp2_with fail
                        exact ⟨⟨i + 1, by omega, by go_num, E5⟩, by simp [intOf]; omega⟩
                      · have hlt1 : ¬ (k2 : Int) < (n1 : Int) := by omega
                        clear hgo2 hk1 hkk2
                        go_wp2_with fail
                        exact ⟨⟨i + 1, by omega, by go_num, E5⟩, by simp [intOf]; omega⟩
                · obtain rfl : i = 16 := by omega
                  go_wp2_with fail
                  go_ret
                  exact ⟨rfl, E4.bel⟩
end Go.Proofs.Ytkjmccicdjkccaa
