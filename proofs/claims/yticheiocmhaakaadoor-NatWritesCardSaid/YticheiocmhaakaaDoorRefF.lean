/- The contracts of heijunkaref01.Text, Parse. No condition but the reach of a slice. -/
import Derived.Test.YticheiocmhaakaaDoorRefE
import Derived.Test.YticheiocmhaakaaDoorNatM
import Derived.Test.YticheiocmhaakaaDoorDecMore
import Derived.Laws.Concat
namespace Go.Proofs.YticheiocmhaakaaDoor
open Go.RowKit

theorem conv_one {P : Program} (src dst e : TypeId) (hs : P.underlying src = some (.slice e)) (he : P.underlying e = some (.int .u8)) (hd : P.underlying dst = some .string) (z : Nat) (hz : z < 256) (w : World) (g : Nat) (hg : g = w.heap.size) :
    (convert src dst (.slice (some ⟨g, 0, none⟩) 1 1)).run P (w.alloc (.cells #[.int .u8 (z : Int)] e)) = .ok (.string (str [z])) (w.alloc (.cells #[.int .u8 (z : Int)] e)) :=
  conv_str src dst e hs he hd (Ints.one (w := w) .u8 256 e z rfl hz hg)
/-- 's + t'. -/
theorem str_add {P : Program} (l m : List Nat) (h : l.length + m.length ≤ 9223372036854775807) (w : World) : (Op.stringOp .add (str l) (str m)).run P w = .ok (.string (str (l ++ m))) w := by
  rw [run_string_add_sum w (str l) (str m) (by rw [str_size, str_size]; exact h), str_append]
def preTxt (u : Nat) : List Nat := if u = 0 then [] else decTxt u
theorem pre_step {u : Nat} (h : 0 < u) : preTxt u = preTxt (u / 10) ++ [48 + u % 10] := by
  unfold preTxt
  rw [if_neg (by omega)]
  rcases Nat.lt_or_ge u 10 with h1 | h1
  · rw [if_pos (by omega), decTxt_small h1, Nat.mod_eq_of_lt h1]; rfl
  · rw [if_neg (by omega)]
    have e : u = u % 10 + 10 * (u / 10) := by omega
    have := decTxt_snoc (x := u % 10) (m := u / 10) (by omega) (by omega)
    rw [← e] at this
    exact this
theorem dg_first {x : Nat} (h : x < 256) : (dg x)[0]?.getD 0 = x := by
  rcases Nat.eq_zero_or_pos x with rfl | h0
  · rw [dg_zero]; rfl
  · unfold dg
    rw [Num.dig_pos (by decide) h0]
    simp; omega

set_option maxRecDepth 100000 in
set_option maxHeartbeats 1600000 in
theorem rtext_any (A : Option Addr) (n c : Nat) (l : List Nat) (w : World) (hr : Lim w A n c l) (hn : n ≤ 268435456) :
    Calls Tryd.prog 34 #[.slice A n c] w fun e w' => e = .returned (.string (str (decTxt (vl l)))) ∧ Below w.heap.size w w' := by
  have hdg := digits_any A n c l w hr (by omega)
  have hvn : vl l < 4294967296 ^ n := by rw [← hr.len]; exact Num.val_lt _ l hr.lt
  obtain ⟨v, hv⟩ : ∃ v, vl l = v := ⟨_, rfl⟩
  rw [hv] at hdg hvn
  have HVN := Lib.hid hvn
  clear hvn
  have HV := Lib.hid hv
  clear hv
  go_enter Tryd.func34, Tryd.ntmps34
  go_wp2_with fail
  refine hdg.mono ?_; rintro e w1 ⟨A1, m1, c1, rfl, hm1, ho1, hb1⟩
  have h1 := ho1.len
  by_cases hv0 : v = 0
  · subst hv0
    rw [dg_zero] at h1
    obtain rfl : 0 = m1 := h1
    clear ho1
    go_wp2_with fail
    go_ret
    rw [HV.out]
    exact ⟨rfl, hb1⟩
  · have hp : 0 < m1 := by
      rcases Nat.eq_zero_or_pos m1 with h | h
      · rw [h] at h1
        have := (Num.dig_eq_nil (b := 256) (by decide) v).1 (List.eq_nil_of_length_eq_zero h1)
        omega
      · exact h
    have HV0 := Lib.hid hv0
    have hz : ((m1 : Int) == 0) = false := by simp; omega
    have hse : str [] = ⟨#[]⟩ := rfl
    clear hv0 h1
    go_wp2_with fail
    go_loopg [3, 4] v (fun u dv_ sv wr => ∃ (C : Option Addr) (m y : Nat) (T : List Nat), dv_ = .slice C m y ∧ sv = .string (str T) ∧ m ≤ 4 * n ∧ OwnD wr w.heap.size C m y (dg u) ∧ Hid (preTxt u ++ T = decTxt v) ∧ Below w.heap.size w wr)
    case atStart =>
      refine ⟨A1, m1, c1, [], rfl, rfl, hm1, ho1, ?_, hb1⟩
      show _ = _
      rw [List.append_nil]
      unfold preTxt
      rw [if_neg HV0.out]
    case round =>
      obtain ⟨C, m, y, T, rfl, rfl, hm, hod, HT, hb⟩ := hrel
      have hlm := hod.len
      obtain ⟨S, hS⟩ : ∃ S, str T = S := ⟨_, rfl⟩
      by_cases hu0 : gk = 0
      · subst hu0
        rw [dg_zero] at hlm
        obtain rfl : 0 = m := hlm
        have hf : S = str (decTxt v) := by
          rw [← hS, ← HT.out]; rfl
        have HF := Lib.hid hf
        rw [hS]
        clear hS hf
        go_wp2_with fail
        go_ret
        rw [HV.out, HF.out]
        exact ⟨rfl, hb⟩
      · have hmp : 0 < m := by
          rcases Nat.eq_zero_or_pos m with h | h
          · rw [h] at hlm
            have := (Num.dig_eq_nil (b := 256) (by decide) gk).1 (List.eq_nil_of_length_eq_zero hlm)
            omega
          · exact h
        obtain ⟨x, hx⟩ : ∃ x, gk % 10 = x := ⟨_, rfl⟩
        obtain ⟨q, hq⟩ : ∃ q, gk / 10 = q := ⟨_, rfl⟩
        have hxl : x < 10 := by omega
        have HQ : Hid (q < gk) := by show q < gk; omega
        have hps := pre_step (Nat.pos_of_ne_zero hu0)
        rw [hx, hq] at hps
        obtain ⟨z, hz⟩ : ∃ z, 48 + x = z := ⟨_, rfl⟩
        have ez : (48 : Int) + (x : Int) = (z : Int) := by omega
        have hzl : z < 58 := by omega
        rw [hz] at hps
        have HT2 : Hid (preTxt q ++ ([z] ++ T) = decTxt v) := by
          show _ = _
          rw [← List.append_assoc, ← hps]; exact HT.out
        have kc := fun w0 g hg => conv_one (P := Tryd.prog) 36 9 5 Tryd.underlying36 Tryd.underlying5 Tryd.underlying9 z (by omega) w0 g hg
        have hTl : T.length ≤ 10 * n + 1 := by
          have h1 := congrArg List.length HT.out
          rw [List.length_append] at h1
          have h2 := decTxt_len (10 * n) v (Nat.lt_of_lt_of_le HVN.out (by
            rw [Nat.pow_succ]
            have h3 : 4294967296 ^ n ≤ (10 ^ 10) ^ n := Nat.pow_le_pow_left (by decide) n
            rw [← Nat.pow_mul] at h3
            omega))
          omega
        have hadd := fun w0 => str_add (P := Tryd.prog) [z] T (by simp; omega) w0
        obtain ⟨S3, hS3⟩ : ∃ S3, str ([z] ++ T) = S3 := ⟨_, rfl⟩
        simp only [hS, hS3] at hadd
        rw [hS]
        have HS3 := Lib.hid hS3
        generalize str [z] = S2 at *
        have hat := fun C2 m2 y2 w0 h0 => at_any C2 m2 y2 (dg x) w0 h0 0 x (dg_first (by omega))
        have hdiv := fun w0 h0 (h1 : Dg w0 (some ⟨wr.heap.size, 0, none⟩) 1 1 [10]) => rdiv_any C (some ⟨wr.heap.size, 0, none⟩) m y 1 1 (dg gk) [10] w0 h0 h1 (by omega) (by omega) (by decide)
        rw [dv_dg, show dv [10] = 10 from rfl, hx, hq] at hdiv
        have hs := hb.size
        clear hx hq hps hz hS hS3 hu0 hlm
        go_wp2_with fail
        refine (hdiv _ (hod.alloc _).ints (Ints.one (w := wr) .i64 256 3 10 rfl (by omega) rfl)).mono ?_
        rintro e w3 ⟨A3, m3, c3, A4, m4, c4, rfl, hm3, hm4, ho3, ho4, hb3⟩
        have b3 := below_step (hb.alloc hs _) hb3 (by simp; omega)
        go_wp2_with fail
        refine (hat _ _ _ _ ho4.ints).mono ?_; rintro e w' ⟨rfl, rfl⟩
        go_wp2_with fail
        go_roundg q
        case measure => exact HQ.out
        case rel => exact ⟨A3, m3, c3, [z] ++ T, rfl, by rw [HS3.out], by omega, (ho3.mono (by simp; omega)).alloc _, HT2, b3.alloc b3.size _⟩

set_option maxRecDepth 100000 in
set_option maxHeartbeats 3200000 in
theorem rparse_any (l : List Nat) (hl : ∀ x ∈ l, x < 256) (w : World) (h1 : 1 ≤ l.length) (h2 : l.length ≤ 40000) (h3 : ¬ (1 < l.length ∧ l[0]? = some 48)) :
    Calls Tryd.prog 31 #[.string (str l)] w fun e w' => ((Digs l ∧ ∃ A m c, e = .returned (.tuple #[.slice A m c, .bool true]) ∧ m ≤ 200000 ∧ OwnL w' w.heap.size A m c (lmb (dec l))) ∨ (¬ Digs l ∧ e = .returned (.tuple #[.slice none 0 0, .bool false]))) ∧ Below w.heap.size w w' := by
  obtain ⟨n, hn⟩ : ∃ n, l.length = n := ⟨_, rfl⟩
  have hS : (str l).size = n := by rw [str_size, hn]
  rw [hn] at h1 h2 h3
  obtain ⟨x, hx⟩ : ∃ x, l[0]? = some x := ⟨_, List.getElem?_eq_getElem (by omega)⟩
  have hix := fun h => str_get l hl 0 x hx h
  have hxl := hl x (List.mem_of_getElem? hx)
  have hgen := fun i x hx h => str_get l hl i x hx h
  have HN := Lib.hid hn
  have hn1 : decide ((n : Int) < 1) = false := by simp; omega
  have hn2 : decide ((40000 : Int) < (n : Int)) = false := by simp; omega
  have hpart : ∀ (Q : Prop), (1 < n → x ≠ 48 → Q) → (n = 1 → Q) → Q := by
    intro Q q1 q2
    by_cases h5 : 1 < n
    · exact q1 h5 (fun e => h3 ⟨h5, by rw [hx, e]⟩)
    · exact q2 (by omega)
  have HG := Lib.hid hgen
  generalize str l = S at *
  clear h3 hx hn hgen
  go_enter Tryd.func31, Tryd.ntmps31
  refine hpart _ ?_ ?_
  · intro h5 h6
    have ht : ((x : Int) == 48) = false := by simp; omega
    clear hpart
    go_wp2_with fail
    go_loopw [4, 5] (fun dv_ iv wr => ∃ (i : Nat) (C : Option Addr) (m y : Nat), i ≤ n ∧ iv = .int .i64 i ∧ dv_ = .slice C m y ∧ m ≤ 3 * i ∧ OwnD wr w.heap.size C m y (dg (dec (l.take i))) ∧ Hid (Digs (l.take i)) ∧ Below w.heap.size w wr) (fun _ iv _ => n - (intOf iv).toNat)
    case atStart =>
      refine ⟨0, none, 0, 0, by omega, rfl, rfl, by omega, by rw [List.take_zero, dec_nil, dg_zero]; exact OwnI.nil_ .., ?_, Below.refl _ _⟩
      show Digs _
      intro c hc
      simp at hc
    case round =>
      obtain ⟨i, C, m, y, hi, rfl, rfl, hm, hod, HD, hb⟩ := hrel
      have hnl := HN.out
      by_cases hlt : i < n
      · obtain ⟨c, hc⟩ : ∃ c, l[i]? = some c := ⟨_, List.getElem?_eq_getElem (by omega)⟩
        have hgi := fun h => HG.out i c hc h
        have hcl := hl c (List.mem_of_getElem? hc)
        have hlt' : (i : Int) < (n : Int) := by omega
        rcases (show c < 48 ∨ 57 < c ∨ (48 ≤ c ∧ c ≤ 57) by omega) with hc1 | hc1 | ⟨hc1, hc2⟩
        · have hbad : ¬ Digs l := fun h => by have := h c (List.mem_of_getElem? hc); omega
          have HB := Lib.hid hbad
          clear hbad hc hnl
          go_wp2_with fail
          go_ret2
          exact ⟨.inr ⟨HB.out, rfl⟩, hb⟩
        · have hbad : ¬ Digs l := fun h => by have := h c (List.mem_of_getElem? hc); omega
          have HB := Lib.hid hbad
          clear hbad hc hnl
          go_wp2_with fail
          go_ret2
          exact ⟨.inr ⟨HB.out, rfl⟩, hb⟩
        · have htk : l.take (i + 1) = l.take i ++ [c] := by rw [List.take_add_one, hc]; rfl
          have HD2 : Hid (Digs (l.take (i + 1))) := by
            show Digs _
            rw [htk]
            intro z hz
            rcases List.mem_append.1 hz with hz | hz
            · exact HD.out z hz
            · rw [List.mem_singleton.1 hz]; exact ⟨hc1, hc2⟩
          obtain ⟨d, hd⟩ : ∃ d, c - 48 = d := ⟨_, rfl⟩
          have hdl : d < 10 := by omega
          have ed : (c : Int) - 48 = (d : Int) := by omega
          have s1 : IntKind.u8.wrap ((c : Int) - 48) = (d : Int) := by rw [ed]; exact IntWalk.u8_in _ (by omega)
          have s2 : IntKind.u8.wrap (d : Int) = (d : Int) := IntWalk.u8_in _ (by omega)
          have s3 : IntKind.i64.wrap (d : Int) = (d : Int) := IntWalk.i64_in _ (by omega)
          have HV : Hid (dec (l.take (i + 1)) = dec (l.take i) * 10 + d) := by
            show _ = _
            rw [htk, dec_snoc, hd]
          generalize dec (l.take i) = u at *
          clear hc htk hd hnl
          go_wp2_with fail
          have hs := hb.size
          have hml := fun (g : Nat) (w0 : World) (h0 : Dg w0 C m y (dg u)) (h1 : Dg w0 (some ⟨g, 0, none⟩) 1 1 [10]) => rmul_any C (some ⟨g, 0, none⟩) m y 1 1 (dg u) [10] w0 h0 h1 (by omega) (by omega)
          simp only [dv_dg, show dv [10] = 10 from rfl] at hml
          go_region_held3 (fun _ => True) (trivial)
            ((first
              | (go_at_call 46; refine (hml _ _ ?_ ?_).mono ?_; (first | exact ((hod.alloc _).drew).ints | exact (((hod.alloc _).alloc _).drew).ints); (first | exact (Ints.one .i64 256 3 10 rfl (by omega) (by first | rfl | simp)).drew | exact ((Ints.one .i64 256 3 10 rfl (by omega) (by first | rfl | simp)).alloc _).drew); rintro e w3 ⟨A3, m3, c3, rfl, hm3, ho3, hb3⟩)
              | (go_at_call 53; refine (cut_any _ 1 1 [d] _ ?_ (by omega)).mono ?_; (first | exact (Ints.one .i64 256 3 d rfl (by omega) (by first | rfl | simp)) | exact ((Ints.one .i64 256 3 d rfl (by omega) (by first | rfl | simp)).drew).below hb3 | exact (((Ints.one .i64 256 3 d rfl (by omega) (by first | rfl | simp)).alloc _).drew).below hb3); rintro e w4 ⟨k4, hk4, rfl, hd4, rfl⟩)
              | (go_at_call 45; refine (radd_any A3 _ m3 c3 k4 1 (dg (u * 10)) ([d].take k4) _ ?_ ?_ (by omega) (by omega)).mono ?_; (first | exact (ho3.alloc _).ints | exact ho3.ints); (first | exact (Ints.one .i64 256 3 d rfl (by omega) (by first | rfl | simp)).take hk4 hk4 | exact (((Ints.one .i64 256 3 d rfl (by omega) (by first | rfl | simp)).drew).below hb3).take hk4 hk4 | exact ((((Ints.one .i64 256 3 d rfl (by omega) (by first | rfl | simp)).alloc _).drew).below hb3).take hk4 hk4); rintro e w5 ⟨A5, m5, c5, rfl, hm5, ho5, hb5⟩)))
          all_goals
            go_wp2_with fail
            have he : dv (dg (u * 10)) + dv ([d].take k4) = dec (l.take (i + 1)) := by
              rw [HV.out, dv_dg, hd4, dv_dg]; simp [dv, Num.val]
            rw [he] at ho5
            first
              | have b3 := below_step ((hb.alloc hs _).drew) hb3 (by simp; omega)
              | have b3 := below_step (((hb.alloc hs _).alloc (by simp; omega) _).drew) hb3 (by simp; omega)
            have hs3 := b3.size
            have b5 : Below w.heap.size w w5 := by
              first
                | exact below_step b3 hb5 hs3
                | exact below_step (b3.alloc hs3 _) hb5 (by simp; omega)
            have ho6 : OwnD w5 w.heap.size A5 m5 c5 (dg (dec (l.take (i + 1)))) := by
              first
                | exact ho5.mono hs3
                | exact ho5.mono (by simp; omega)
            exact ⟨⟨i + 1, A5, m5, c5, by omega, by go_num, rfl, by omega, ho6, HD2, b5⟩, by simp [intOf]; omega⟩
      · obtain rfl : i = n := by omega
        rw [List.take_of_length_le (by omega)] at hod
        have hdg : Digs l := by
          have := HD.out
          rwa [List.take_of_length_le (by omega)] at this
        have hlm := limbs_any C m y (dg (dec l)) wr hod.ints (by omega)
        rw [dv_dg] at hlm
        have HDG := Lib.hid hdg
        clear hdg
        go_wp2_with fail
        refine hlm.mono ?_; rintro e w2 ⟨A2, m2, c2, rfl, hm2, ho2, hb2⟩
        go_wp2_with fail
        go_ret2
        exact ⟨.inl ⟨HDG.out, A2, m2, c2, rfl, by omega, ho2.mono hb.size⟩, below_step hb hb2 hb.size⟩
  · rintro rfl
    clear hpart
    go_wp2_with fail
    go_loopw [4, 5] (fun dv_ iv wr => ∃ (i : Nat) (C : Option Addr) (m y : Nat), i ≤ 1 ∧ iv = .int .i64 i ∧ dv_ = .slice C m y ∧ m ≤ 3 * i ∧ OwnD wr w.heap.size C m y (dg (dec (l.take i))) ∧ Hid (Digs (l.take i)) ∧ Below w.heap.size w wr) (fun _ iv _ => 1 - (intOf iv).toNat)
    case atStart =>
      refine ⟨0, none, 0, 0, by omega, rfl, rfl, by omega, by rw [List.take_zero, dec_nil, dg_zero]; exact OwnI.nil_ .., ?_, Below.refl _ _⟩
      show Digs _
      intro c hc
      simp at hc
    case round =>
      obtain ⟨i, C, m, y, hi, rfl, rfl, hm, hod, HD, hb⟩ := hrel
      have hnl := HN.out
      by_cases hlt : i < 1
      · obtain ⟨c, hc⟩ : ∃ c, l[i]? = some c := ⟨_, List.getElem?_eq_getElem (by omega)⟩
        have hgi := fun h => HG.out i c hc h
        have hcl := hl c (List.mem_of_getElem? hc)
        have hlt' : (i : Int) < ((1 : Nat) : Int) := by omega
        rcases (show c < 48 ∨ 57 < c ∨ (48 ≤ c ∧ c ≤ 57) by omega) with hc1 | hc1 | ⟨hc1, hc2⟩
        · have hbad : ¬ Digs l := fun h => by have := h c (List.mem_of_getElem? hc); omega
          have HB := Lib.hid hbad
          clear hbad hc hnl
          go_wp2_with fail
          go_ret2
          exact ⟨.inr ⟨HB.out, rfl⟩, hb⟩
        · have hbad : ¬ Digs l := fun h => by have := h c (List.mem_of_getElem? hc); omega
          have HB := Lib.hid hbad
          clear hbad hc hnl
          go_wp2_with fail
          go_ret2
          exact ⟨.inr ⟨HB.out, rfl⟩, hb⟩
        · have htk : l.take (i + 1) = l.take i ++ [c] := by rw [List.take_add_one, hc]; rfl
          have HD2 : Hid (Digs (l.take (i + 1))) := by
            show Digs _
            rw [htk]
            intro z hz
            rcases List.mem_append.1 hz with hz | hz
            · exact HD.out z hz
            · rw [List.mem_singleton.1 hz]; exact ⟨hc1, hc2⟩
          obtain ⟨d, hd⟩ : ∃ d, c - 48 = d := ⟨_, rfl⟩
          have hdl : d < 10 := by omega
          have ed : (c : Int) - 48 = (d : Int) := by omega
          have s1 : IntKind.u8.wrap ((c : Int) - 48) = (d : Int) := by rw [ed]; exact IntWalk.u8_in _ (by omega)
          have s2 : IntKind.u8.wrap (d : Int) = (d : Int) := IntWalk.u8_in _ (by omega)
          have s3 : IntKind.i64.wrap (d : Int) = (d : Int) := IntWalk.i64_in _ (by omega)
          have HV : Hid (dec (l.take (i + 1)) = dec (l.take i) * 10 + d) := by
            show _ = _
            rw [htk, dec_snoc, hd]
          generalize dec (l.take i) = u at *
          clear hc htk hd hnl
          go_wp2_with fail
          have hs := hb.size
          have hml := fun (g : Nat) (w0 : World) (h0 : Dg w0 C m y (dg u)) (h1 : Dg w0 (some ⟨g, 0, none⟩) 1 1 [10]) => rmul_any C (some ⟨g, 0, none⟩) m y 1 1 (dg u) [10] w0 h0 h1 (by omega) (by omega)
          simp only [dv_dg, show dv [10] = 10 from rfl] at hml
          go_region_held3 (fun _ => True) (trivial)
            ((first
              | (go_at_call 46; refine (hml _ _ ?_ ?_).mono ?_; (first | exact ((hod.alloc _).drew).ints | exact (((hod.alloc _).alloc _).drew).ints); (first | exact (Ints.one .i64 256 3 10 rfl (by omega) (by first | rfl | simp)).drew | exact ((Ints.one .i64 256 3 10 rfl (by omega) (by first | rfl | simp)).alloc _).drew); rintro e w3 ⟨A3, m3, c3, rfl, hm3, ho3, hb3⟩)
              | (go_at_call 53; refine (cut_any _ 1 1 [d] _ ?_ (by omega)).mono ?_; (first | exact (Ints.one .i64 256 3 d rfl (by omega) (by first | rfl | simp)) | exact ((Ints.one .i64 256 3 d rfl (by omega) (by first | rfl | simp)).drew).below hb3 | exact (((Ints.one .i64 256 3 d rfl (by omega) (by first | rfl | simp)).alloc _).drew).below hb3); rintro e w4 ⟨k4, hk4, rfl, hd4, rfl⟩)
              | (go_at_call 45; refine (radd_any A3 _ m3 c3 k4 1 (dg (u * 10)) ([d].take k4) _ ?_ ?_ (by omega) (by omega)).mono ?_; (first | exact (ho3.alloc _).ints | exact ho3.ints); (first | exact (Ints.one .i64 256 3 d rfl (by omega) (by first | rfl | simp)).take hk4 hk4 | exact (((Ints.one .i64 256 3 d rfl (by omega) (by first | rfl | simp)).drew).below hb3).take hk4 hk4 | exact ((((Ints.one .i64 256 3 d rfl (by omega) (by first | rfl | simp)).alloc _).drew).below hb3).take hk4 hk4); rintro e w5 ⟨A5, m5, c5, rfl, hm5, ho5, hb5⟩)))
          all_goals
            go_wp2_with fail
            have he : dv (dg (u * 10)) + dv ([d].take k4) = dec (l.take (i + 1)) := by
              rw [HV.out, dv_dg, hd4, dv_dg]; simp [dv, Num.val]
            rw [he] at ho5
            first
              | have b3 := below_step ((hb.alloc hs _).drew) hb3 (by simp; omega)
              | have b3 := below_step (((hb.alloc hs _).alloc (by simp; omega) _).drew) hb3 (by simp; omega)
            have hs3 := b3.size
            have b5 : Below w.heap.size w w5 := by
              first
                | exact below_step b3 hb5 hs3
                | exact below_step (b3.alloc hs3 _) hb5 (by simp; omega)
            have ho6 : OwnD w5 w.heap.size A5 m5 c5 (dg (dec (l.take (i + 1)))) := by
              first
                | exact ho5.mono hs3
                | exact ho5.mono (by simp; omega)
            exact ⟨⟨i + 1, A5, m5, c5, by omega, by go_num, rfl, by omega, ho6, HD2, b5⟩, by simp [intOf]; omega⟩
      · obtain rfl : i = 1 := by omega
        rw [List.take_of_length_le (by omega)] at hod
        have hdg : Digs l := by
          have := HD.out
          rwa [List.take_of_length_le (by omega)] at this
        have hlm := limbs_any C m y (dg (dec l)) wr hod.ints (by omega)
        rw [dv_dg] at hlm
        have HDG := Lib.hid hdg
        clear hdg
        go_wp2_with fail
        refine hlm.mono ?_; rintro e w2 ⟨A2, m2, c2, rfl, hm2, ho2, hb2⟩
        go_wp2_with fail
        go_ret2
        exact ⟨.inl ⟨HDG.out, A2, m2, c2, rfl, by omega, ho2.mono hb.size⟩, below_step hb hb2 hb.size⟩
end Go.Proofs.YticheiocmhaakaaDoor
