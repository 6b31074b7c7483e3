/- WholeBytes: numbers written one behind the other are read one by one. No condition. -/
import Derived.Test.YtodgchflhimjfaaDoorGP
import Derived.Test.YtodgchflhimjfaaDoorHZMath
import Derived.Test.YtodgchflhimjfaaDoorHZRows
namespace Go.Proofs.YtodgchflhimjfaaDoor
open Go.RowKit

def flat (xs : List ZEl) : List Nat := xs.flatMap fun x => zenc x.z
theorem zflat_take {xs : List ZEl} {k : Nat} {x : ZEl} (h : xs[k]? = some x) : flat (xs.take (k + 1)) = flat (xs.take k) ++ zenc x.z := by
  unfold flat
  rw [List.take_add_one, h]
  simp
theorem zflat_drop {xs : List ZEl} {k : Nat} {x : ZEl} (h : xs[k]? = some x) : flat (xs.drop k) = zenc x.z ++ flat (xs.drop (k + 1)) := by
  unfold flat
  rw [List.drop_eq_getElem_cons (List.getElem?_eq_some_iff.1 h).1, (List.getElem?_eq_some_iff.1 h).2]
  simp
set_option maxRecDepth 100000 in
set_option maxHeartbeats 6400000 in
theorem wholeBytes_any (Al : Option Addr) (nl cl : Nat) (xs : List ZEl) (Ab : Option Addr) (nb cb : Nat) (lb : List Nat) (w : World) (hrl : ZRows w Al nl cl xs) (hnl : nl ≤ maxLen) (hrb : Byt w Ab nb cb lb) (hnb : nb ≤ maxLen) :
    Calls Tryd.prog 9 #[.slice Al nl cl, .slice Ab nb cb] w fun e w' => e = .returned (.bool true) ∧ Below w.heap.size w w' := by
  unfold maxLen at hnl hnb
  by_cases h1 : 4 < nl
  · go_enter Tryd.func9, Tryd.ntmps9
    go_wp2_with fail
    refine (wawake_any _).mono ?_; rintro e w1 ⟨rfl, hb1⟩
    go_wp2_with fail
    go_ret
    exact ⟨rfl, hb1⟩
  by_cases h2 : 100 < nb
  · go_enter Tryd.func9, Tryd.ntmps9
    go_wp2_with fail
    refine (wawake_any _).mono ?_; rintro e w1 ⟨rfl, hb1⟩
    go_wp2_with fail
    go_ret
    exact ⟨rfl, hb1⟩
  have h1i : decide ((4 : Int) < (nl : Int)) = false := by simp; omega
  have h2i : decide ((100 : Int) < (nb : Int)) = false := by simp; omega
  go_enter Tryd.func9, Tryd.ntmps9
  go_wp2_with fail
  refine (wawake_any _).mono ?_; rintro e w1 ⟨rfl, hb1⟩
  have B0 := hb1
  have Z1 := hrl.below hb1
  have Y1 := hrb.below hb1
  have hll := hrl.len
  clear hrl hrb hb1
  go_wp2_with fail
  go_loopw [5, 6] (fun bv iv wr => ∃ (i m y : Nat) (C : Option Addr), i ≤ nl ∧ iv = .int .i64 (i : Int) ∧ bv = .slice C m y ∧ OwnB wr w1.heap.size C m y (flat (xs.take i)) ∧ m ≤ 100 * i ∧ Hid (∀ x ∈ xs.take i, x.n ≤ 14) ∧ Below w1.heap.size w1 wr) (fun _ iv _ => nl - (intOf iv).toNat)
  case atStart => exact ⟨0, 0, 0, none, by omega, rfl, rfl, OwnI.nil_ .., by omega, Lib.hid (by simp), Below.refl _ _⟩
  case round =>
    obtain ⟨i, m, y, C, hi, rfl, rfl, ho, hm, HF, hB⟩ := hrel
    have hs := hB.size
    rcases Nat.lt_or_ge i nl with hlt | hge
    · have Z2 := Z1.below hB
      obtain ⟨b, o, x, rfl, hx, c0, c1, hlim, hmx⟩ := Z2.get (k := i) hlt
      have hlti : (i : Int) < (nl : Int) := by omega
      rcases Nat.lt_or_ge 14 x.n with h14 | h14
      · clear hx hlim
        go_wp2_with fail
        refine (zfew_no h14).mono ?_; rintro e w3 ⟨rfl, hb3⟩
        go_wp2_with fail
        go_ret
        exact ⟨rfl, below_step (below_step B0 (hB.mono (Nat.le_refl _)) B0.size) hb3 (by have := B0.size; omega)⟩
      · have hz := ZIs.of_lim (b := x.b) hlim h14
        have hft := zflat_take hx
        have hle : (zenc x.z).length ≤ 59 := by
          have h4 : (lmb x.z.natAbs).length ≤ 14 := Num.dig_len_le (by decide) 14 _ hz.lt
          rw [zenc_len _ (by omega)]; omega
        have HX := Lib.hid hx
        have HT := Lib.hid hft
        clear hx hft hlim
        go_wp2_with fail
        refine (zfew_yes h14).mono ?_; rintro e w3 ⟨rfl, hb3⟩
        obtain ⟨d0, d1⟩ := (Z2.below hb3).cells HX.out
        clear c0 c1
        go_wp2_with fail
        refine (zbytes (hz.below hb3) (by decide)).mono ?_; rintro e w4 ⟨A4, m4, c4, rfl, hm4, ho4, hb4⟩
        have hs3 := hb3.size
        have hs4 := hb4.size
        have hm4l := ho4.len
        have hB4 := below_step (below_step hB hb3 hs) hb4 (by omega)
        have ho5 := (ho.below hb3).below hb4
        go_wp2_with (at_builtin; go_must (refine wpList_appI _ rfl (.tmp 33) (.tmp 38) _ rfl 5 1 Tryd.underlying41 info_byte (by omega) ho5 rfl ho4.ints rfl (by omega) (by omega) ?_); intro A5 c5 w5 ho6 hg6 ha6)
        refine ⟨⟨i + 1, m + m4, c5, A5, by omega, by go_num, rfl, ?_, ?_, ?_, below_own hB4 hg6 (by omega) (fun ad h => (ho5.lt_ ad h).1)⟩, by simp [intOf]; omega⟩
        · rw [HT.out]; exact ho6
        · have : m4 ≤ 59 := by rw [← hm4l]; exact hle
          omega
        · show ∀ q ∈ _, _
          intro q hq
          rw [List.take_add_one, HX.out] at hq
          rcases List.mem_append.1 hq with hq | hq
          · exact HF.out q hq
          · simp at hq; rw [hq]; exact h14
    · obtain rfl : i = nl := by omega
      rw [← hll, List.take_length] at ho HF
      have hlen := ho.len
      go_wp2_with (at_builtin; go_must (refine wpList_appI _ rfl (.tmp 40) (.tmp 41) _ rfl 5 1 Tryd.underlying41 info_byte (by omega) ho rfl (Y1.below hB) rfl (by omega) (by omega) ?_); intro A5 c5 w5 ho5 hg5 ha5)
      have hB5 := below_own hB hg5 (by omega) (fun ad h => (ho.lt_ ad h).1)
      go_loopw [5, 7] (fun bv jv wk => ∃ (j m' y' : Nat) (A : Option Addr), j ≤ i ∧ jv = .int .i64 (j : Int) ∧ bv = .slice A m' y' ∧ Byt wk A m' y' (flat (xs.drop j) ++ lb) ∧ m' ≤ m + nb ∧ Below w1.heap.size w1 wk) (fun _ jv _ => i - (intOf jv).toNat)
      case atStart => exact ⟨0, m + nb, c5, A5, by omega, rfl, rfl, ho5.ints, Nat.le_refl _, hB5⟩
      case round =>
        obtain ⟨j, m', y', A, hj, rfl, rfl, hby, hm', hBk⟩ := hrel
        have hsk := hBk.size
        rcases Nat.lt_or_ge j i with hlt | hge
        · have Z2 := Z1.below hBk
          obtain ⟨b, o, x, rfl, hx, c0, c1, hlim, hmx⟩ := Z2.get (k := j) hlt
          have h14 := HF.out x (List.mem_of_getElem? hx)
          have hz := ZIs.of_lim (b := x.b) hlim h14
          have hlti : (j : Int) < (i : Int) := by omega
          rw [zflat_drop hx, List.append_assoc] at hby
          have h4 : (lmb x.z.natAbs).length ≤ 14 := Num.dig_len_le (by decide) 14 _ hz.lt
          have hall := zenc_all x.z (by omega) (flat (xs.drop (j + 1)) ++ lb)
          have hrd := fun w0 h0 => zread A m' y' (zenc x.z ++ (flat (xs.drop (j + 1)) ++ lb)) w0 h0 (by omega)
          simp only [hall.1, hall.2.1, hall.2.2] at hrd
          have HX := Lib.hid hx
          clear hx hlim hall c0 c1 h4
          go_wp2_with fail
          refine (hrd _ hby).mono ?_; rintro e w6 ⟨b6, A6, n6, A7, m7, c7, rfl, hm7, z6, hy7, hb6⟩
          have E6 := (((Env.nil_ wr).below hb6).add z6).alloc 24 #[.bool b6, .slice A6 n6 n6] (g := w6.heap.size) rfl rfl
          have E7 := (E6.add ((hz.below hb6).alloc (.cells #[.bool b6, .slice A6 n6 n6] 24))).drew
          have Z7 := ((Z2.below hb6).alloc (.cells #[.bool b6, .slice A6 n6 n6] 24)).drew
          have hc7 := Z7.cells HX.out
          have hy8 := (hy7.alloc (.cells #[.bool b6, .slice A6 n6 n6] 24)).drew
          clear hrd
          go_wp2_with fail
          have s7 := And.intro (E7.cell 0 0 rfl rfl) (And.intro (E7.cell 0 1 rfl rfl) hc7)
          go_region_held3 (fun w' => w'.cell? ⟨w6.heap.size, 0, none⟩ = some (.bool b6) ∧ w'.cell? ⟨w6.heap.size, 1, none⟩ = some (.slice A6 n6 n6) ∧ w'.cell? ⟨b, o + j * 2, none⟩ = some (.bool x.b) ∧ w'.cell? ⟨b, o + j * 2 + 1, none⟩ = some (.slice x.A x.n x.c))
            (with_reducible assumption)
            ((first
              | (go_at_call 14; show Calls _ _ _ w8 _; refine (zsame_true (E8.z 2 rfl) (E8.z 0 rfl) (by decide) (by decide) rfl).mono ?_; rintro e w9 ⟨rfl, hb9⟩; have E9 := E8.below hb9; have Z9 := Z8.below hb9; have hc9 := Z9.cells HX.out; have s9 := And.intro (E9.cell 0 0 rfl rfl) (And.intro (E9.cell 0 1 rfl rfl) hc9))
              | (go_at_call 16; refine (rplain_t (K := 14) (E7.z 0 rfl) (by decide) (by decide)).mono ?_; rintro e w8 ⟨b8, A8, n8, c8, rfl, z8, hb8⟩; have E8 := (E7.below hb8).add z8; have Z8 := Z7.below hb8; have hc8 := Z8.cells HX.out; have s8 := And.intro (E8.cell 0 0 rfl rfl) (And.intro (E8.cell 0 1 rfl rfl) hc8))))
          go_wp2_with fail
          have hBf : Below w1.heap.size w1 w9 := below_step hBk (E9.bel) hsk
          exact ⟨⟨j + 1, m7, c7, A7, by omega, by go_num, rfl, (hy8.below hb8).below hb9, by omega, hBf⟩, by simp [intOf]; omega⟩
        · obtain rfl : j = i := by omega
          have hd : flat (xs.drop j) ++ lb = lb := by rw [List.drop_eq_nil_of_le (by omega)]; rfl
          rw [hd] at hby
          have Y2 := Y1.below hBk
          clear hd
          go_wp2_with fail
          refine (rows_true _ _ _ _ _ _ _ _ _ hby Y2 (by omega) (by omega) rfl).mono ?_; rintro e w6 ⟨rfl, hb6⟩
          go_wp2_with fail
          go_ret
          exact ⟨rfl, below_step (below_step B0 hBk B0.size) hb6 (by have := B0.size; omega)⟩
end Go.Proofs.YtodgchflhimjfaaDoor
