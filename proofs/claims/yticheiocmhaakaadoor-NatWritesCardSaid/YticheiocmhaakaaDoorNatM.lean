/- The contract of nat.Parse. No condition but the reach of a string. -/
import Derived.Test.YticheiocmhaakaaDoorNatL
import Derived.Test.YticheiocmhaakaaDoorParseMath
import Derived.Shelf.Strings.SlTrimAscii
namespace Go.Proofs.YticheiocmhaakaaDoor
open Go.RowKit

theorem str_cut {P : Program} (t : TypeId) (ht : P.underlying t = some .string) (l : List Nat) (n : Nat) (hn : n ≤ l.length) (w : World) :
    (Instr.slice t (.string (str l)) (some (.int .i64 (n : Int))) none none).run P w = .ok (.string (str (l.drop n))) w := by
  rw [run_slice_string_from_if w t (str l) .i64 n ht, if_pos ⟨by omega, by rw [str_size]; omega⟩, Int.toNat_natCast, str_drop]
theorem str_head {P : Program} (t : TypeId) (ht : P.underlying t = some .string) (l : List Nat) (n : Nat) (hn : n ≤ l.length) (w : World) :
    (Instr.slice t (.string (str l)) none (some (.int .i64 (n : Int))) none).run P w = .ok (.string (str (l.take n))) w := by
  rw [run_slice_string_to_if w t (str l) .i64 n ht, if_pos ⟨by omega, by rw [str_size]; omega⟩, Int.toNat_natCast, str_take]
/-- '[]byte(s)'. -/
theorem str_bytes {P : Program} (src dst e : TypeId) (hs : P.underlying src = some .string) (hd : P.underlying dst = some (.slice e)) (he : P.underlying e = some (.int .u8)) (l : List Nat) (n : Nat) (hn : l.length = n) (hl : ∀ x ∈ l, x < 256) (w : World) :
    ∃ c w2, (convert src dst (.string (str l))).run P w = .ok (.slice (some ⟨w.heap.size, 0, none⟩) n c) w2 ∧ Byt w2 (some ⟨w.heap.size, 0, none⟩) n c l ∧ w.grownBy w2 none := by
  subst hn
  refine ⟨_, _, run_bytes_of_string w src dst e (str l) hs hd he |>.trans (by rw [str_size]), ?_, ?_⟩
  · refine ⟨⟨by simp, ?_, fun _ => ⟨_, _, rfl, by show w.heap.size < (w.heap.push _).size; rw [Array.size_push]; omega, fun j u hu => ?_⟩⟩, hl⟩
    · exact grownCap_ge w l.length 0 e
    · have hg : (w.drew.alloc (.cells (bytesRow (str l) (grownCap w l.length 0 e)) e ((bytesRow (str l) (grownCap w l.length 0 e)).size, (bytesRow (str l) (grownCap w l.length 0 e)).size + 1))).heap[w.heap.size]? = some (.cells (bytesRow (str l) (grownCap w l.length 0 e)) e ((bytesRow (str l) (grownCap w l.length 0 e)).size, (bytesRow (str l) (grownCap w l.length 0 e)).size + 1)) := heap_alloc_new w.drew _
      simp only [World.cell?, hg, Nat.zero_add]
      rw [List.getElem?_map] at hu
      obtain ⟨x, hx, rfl⟩ := Option.map_eq_some_iff.1 hu
      have hj := (List.getElem?_eq_some_iff.1 hx).1
      unfold bytesRow str
      rw [Array.getElem?_append_left (by simpa using hj)]
      simp [hx, Nat.mod_eq_of_lt (hl x (List.mem_of_getElem? hx))]
  · exact ⟨rfl, rfl, rfl, by show w.heap.size ≤ (w.heap.push _).size; rw [Array.size_push]; omega, fun k hk _ => Below.heap_alloc w.drew _ k hk⟩
theorem toList_nil_ne (T : List UInt8) (h : T ≠ []) : (⟨T.toArray⟩ : ByteArray).toList.isEmpty = false := by
  rw [ByteArray.toList_eq]
  simpa using h
theorem toList_nil (T : List UInt8) (h : T = []) : (⟨T.toArray⟩ : ByteArray).toList.isEmpty = true := by
  rw [ByteArray.toList_eq, h]
  rfl

set_option maxRecDepth 100000 in
set_option maxHeartbeats 800000 in
theorem parse_bad (l : List Nat) (hl : ∀ x ∈ l, x < 256) (w : World) (hlen : l.length ≤ 9223372036854775807) (h : ¬ Reads l) :
    Calls Tryd.prog 26 #[.string (str l)] w fun e w' => e = .returned (.tuple #[.slice none 0 0, .bool false]) ∧ Below w.heap.size w w' := by
  obtain ⟨n, hn⟩ : ∃ n, l.length = n := ⟨_, rfl⟩
  have hS : (str l).size = n := by rw [str_size, hn]
  by_cases h1 : n < 1
  · generalize str l = S at *
    clear h hl
    go_enter Tryd.func26, Tryd.ntmps26
    go_wp2_with fail
    go_ret2
    exact ⟨rfl, Below.refl _ _⟩
  by_cases h2 : 40000 < n
  · generalize str l = S at *
    clear h hl
    go_enter Tryd.func26, Tryd.ntmps26
    go_wp2_with fail
    go_ret2
    exact ⟨rfl, Below.refl _ _⟩
  obtain ⟨x, hx⟩ : ∃ x, l[0]? = some x := ⟨_, List.getElem?_eq_getElem (by omega)⟩
  have hix := fun h => str_get l hl 0 x hx h
  have hxl := hl x (List.mem_of_getElem? hx)
  by_cases h3 : 1 < n ∧ x = 48
  · obtain ⟨h3, h4⟩ := h3
    have ht : ((x : Int) == 48) = true := by simp; omega
    have hn1 : decide ((n : Int) < 1) = false := by simp; omega
    have hn2 : decide ((40000 : Int) < (n : Int)) = false := by simp; omega
    generalize str l = S at *
    clear h hl hx
    go_enter Tryd.func26, Tryd.ntmps26
    go_wp2_with fail
    go_ret2
    exact ⟨rfl, Below.refl _ _⟩
  have h4 : ¬ Digs l := fun hd => h ⟨by omega, by omega, fun ⟨a, b⟩ => h3 ⟨by omega, by rw [hx] at b; exact Option.some.inj b⟩, hd⟩
  have hT : Lib.trimS (str l).data.toList tens ≠ [] := fun e => h4 ((trim_digs l hl).1 e)
  have hne := toList_nil_ne _ hT
  have hc := Any.strings_Trim_laid (P := Tryd.prog) Tryd.lays160 (by kernel_rfl) (str l) ⟨#[48, 49, 50, 51, 52, 53, 54, 55, 56, 57]⟩ w (by omega) (by decide) (ascii_of_all (by decide))
  replace hc : Calls Tryd.prog 51 #[.string (str l), .string ⟨#[48, 49, 50, 51, 52, 53, 54, 55, 56, 57]⟩] w fun e w' => e = .returned (.string ⟨(Lib.trimS (str l).data.toList tens).toArray⟩) ∧ Below w.heap.size w w' := hc
  generalize (⟨(Lib.trimS (str l).data.toList tens).toArray⟩ : ByteArray) = T at *
  have hn1 : decide ((n : Int) < 1) = false := by simp; omega
  have hn2 : decide ((40000 : Int) < (n : Int)) = false := by simp; omega
  generalize str l = S at *
  by_cases h5 : 1 < n
  · have ht : ((x : Int) == 48) = false := by simp; omega
    clear h hl hx h4 hT h3
    go_enter Tryd.func26, Tryd.ntmps26
    go_wp2_with fail
    refine hc.mono ?_; rintro e w2 ⟨rfl, hb⟩
    go_wp2_with fail
    go_ret2
    exact ⟨rfl, hb⟩
  · obtain rfl : n = 1 := by omega
    clear h hl hx h4 hT h3
    go_enter Tryd.func26, Tryd.ntmps26
    go_wp2_with fail
    refine hc.mono ?_; rintro e w2 ⟨rfl, hb⟩
    go_wp2_with fail
    go_ret2
    exact ⟨rfl, hb⟩

set_option maxRecDepth 100000 in
set_option maxHeartbeats 1600000 in
theorem parse_ok (l : List Nat) (hl : ∀ x ∈ l, x < 256) (w : World) (h : Reads l) :
    Calls Tryd.prog 26 #[.string (str l)] w fun e w' => ∃ A m, e = .returned (.tuple #[.slice A m m, .bool true]) ∧ m ≤ 80002 ∧ OwnL w' w.heap.size A m m (lmb (dec l)) ∧ Below w.heap.size w w' := by
  obtain ⟨n, hn⟩ : ∃ n, l.length = n := ⟨_, rfl⟩
  have hS : (str l).size = n := by rw [str_size, hn]
  have h1 := h.pos
  have h2 := h.most
  rw [hn] at h1 h2
  obtain ⟨x, hx⟩ : ∃ x, l[0]? = some x := ⟨_, List.getElem?_eq_getElem (by omega)⟩
  have hix := fun h => str_get l hl 0 x hx h
  have hxl := hl x (List.mem_of_getElem? hx)
  have hT : Lib.trimS (str l).data.toList tens = [] := (trim_digs l hl).2 h.digs
  have hne := toList_nil _ hT
  have hc := Any.strings_Trim_laid (P := Tryd.prog) Tryd.lays160 (by kernel_rfl) (str l) ⟨#[48, 49, 50, 51, 52, 53, 54, 55, 56, 57]⟩ w (by omega) (by decide) (ascii_of_all (by decide))
  replace hc : Calls Tryd.prog 51 #[.string (str l), .string ⟨#[48, 49, 50, 51, 52, 53, 54, 55, 56, 57]⟩] w fun e w' => e = .returned (.string ⟨(Lib.trimS (str l).data.toList tens).toArray⟩) ∧ Below w.heap.size w w' := hc
  generalize (⟨(Lib.trimS (str l).data.toList tens).toArray⟩ : ByteArray) = T at *
  have HH := Lib.hid h
  have HN := Lib.hid hn
  have HSS : Hid (∃ S, str l = S) := ⟨_, rfl⟩
  have hn1 : decide ((n : Int) < 1) = false := by simp; omega
  have hn2 : decide ((40000 : Int) < (n : Int)) = false := by simp; omega
  obtain ⟨S, hSe⟩ : ∃ S, str l = S := ⟨_, rfl⟩
  rw [hSe] at hc hS hix ⊢
  have HS := Lib.hid hSe
  go_enter Tryd.func26, Tryd.ntmps26
  have hpart : ∀ (Q : Prop), (1 < n → x ≠ 48 → Q) → (n = 1 → Q) → Q := by
    intro Q q1 q2
    by_cases h5 : 1 < n
    · exact q1 h5 (fun e => HH.out.lead ⟨by omega, by rw [hx, e]⟩)
    · exact q2 (by omega)
  clear hSe h hn hT
  refine hpart _ ?_ ?_
  · intro h5 h6
    have ht : ((x : Int) == 48) = false := by simp; omega
    clear hpart hx
    go_wp2_with fail
    refine hc.mono ?_; rintro e w2 ⟨rfl, hb⟩
    go_wp2_with fail
    clear hc hix hxl hne
    go_loopg [0, 4] n (fun k sv av wr => ∃ p r A m, sv = .string (str r) ∧ av = .slice A m m ∧ Hid (l = p ++ r) ∧ Hid (r.length = k) ∧ m + 2 * k ≤ 2 * n ∧ k ≤ n ∧ OwnL wr w.heap.size A m m (lmb (dec p)) ∧ Below w.heap.size w wr)
    case atStart => exact ⟨[], l, none, 0, by rw [HS.out], rfl, rfl, HN.out, by omega, by omega, by rw [dec_nil, lmb_zero]; exact OwnI.nil_ .., hb⟩
    case round =>
      obtain ⟨p, r, A, m, rfl, rfl, HL, HK, hmk, hkn, hoa, hb⟩ := hrel
      have hrs : (str r).size = gk := by rw [str_size, HK.out]
      have hrl : ∀ x ∈ r, x < 256 := fun x hx => hl x (by rw [HL.out]; simp [hx])
      have hrd : Digs r := fun x hx => HH.out.digs x (by rw [HL.out]; simp [hx])
      by_cases hk0 : gk = 0
      · subst hk0
        have hr0 : r = [] := List.eq_nil_of_length_eq_zero HK.out
        have HF : Hid (dec p = dec l) := by show _ = _; rw [HL.out, hr0, List.append_nil]
        clear hr0 hrl hrd
        generalize str r = R at *
        go_wp2_with fail
        go_ret2
        rw [← HF.out]
        exact ⟨A, m, rfl, by omega, hoa, hb⟩
      · obtain ⟨k1, hk1⟩ : ∃ k1, gk - 1 = k1 := ⟨_, rfl⟩
        obtain ⟨r9, hr9⟩ : ∃ r9, k1 % 9 = r9 := ⟨_, rfl⟩
        obtain ⟨c, hc⟩ : ∃ c, r9 + 1 = c := ⟨_, rfl⟩
        have ek : (gk : Int) - 1 = (k1 : Int) := by omega
        have e9 : (k1 : Int) % 9 = (r9 : Int) := by omega
        have e9t : (k1 : Int).tmod 9 = (r9 : Int) := by rw [Int.tmod_eq_emod_of_nonneg (by omega)]; omega
        have ec : (r9 : Int) + 1 = (c : Int) := by omega
        have hck : c ≤ gk := by omega
        have hc9 : c ≤ 9 := by omega
        have hc1 : 1 ≤ c := by omega
        obtain ⟨R, hR⟩ : ∃ R, str r = R := ⟨_, rfl⟩
        obtain ⟨ch, hch⟩ : ∃ ch, r.take c = ch := ⟨_, rfl⟩
        obtain ⟨r2, hr2⟩ : ∃ r2, r.drop c = r2 := ⟨_, rfl⟩
        have hrr : r = ch ++ r2 := by rw [← hch, ← hr2, List.take_append_drop]
        have hchl : ch.length = c := by rw [← hch, List.length_take, HK.out]; omega
        have hr2l : r2.length = gk - c := by rw [← hr2, List.length_drop, HK.out]
        have x1 : R.extract 0 c = str ch := by rw [← hR, str_take, hch]
        have x2 : R.extract c gk = str r2 := by
          have := str_drop r c
          rw [hrs, hr2, hR] at this
          exact this
        have hchb : ∀ x ∈ ch, x < 256 := fun x hx => hrl x (by rw [hrr]; simp [hx])
        have hchd : Digs ch := fun x hx => hrd x (by rw [hrr]; simp [hx])
        obtain ⟨cp, w3, hcv, hby, hg3⟩ := str_bytes (P := Tryd.prog) 9 36 5 Tryd.underlying9 Tryd.underlying36 Tryd.underlying5 ch c hchl hchb wr
        obtain ⟨S2, hS2⟩ : ∃ S2, str ch = S2 := ⟨_, rfl⟩
        obtain ⟨S3, hS3⟩ : ∃ S3, str r2 = S3 := ⟨_, rfl⟩
        rw [hS2] at x1 hcv
        rw [hS3] at x2
        rw [hR] at hrs ⊢
        have HRR := Lib.hid hrr
        have HCL := Lib.hid hchl
        have HRL := Lib.hid hr2l
        have HCD := Lib.hid hchd
        have HS3 := Lib.hid hS3
        clear hk1 hr9 hc hR hch hr2 hrr hS2 hS3 hrl hrd hchb hk0 hchl hr2l hchd
        go_wp2_with fail
        have hoa3 := hoa.kept hg3 (by simp)
        have hb3 := below_none hb hg3 hb.size
        have hs3 := hb3.size
        go_loop [6, 7, 46] (fun dv tv iv => ∃ i d t : Nat, i ≤ c ∧ iv = .int .i64 i ∧ dv = .int .u32 d ∧ tv = .int .u32 t ∧ d < 1000000000 ∧ t ≤ 1000000000 ∧ Hid (dec (ch.take i) = d) ∧ Hid (10 ^ i = t)) (fun _ _ iv => c - (intOf iv).toNat)
        case atStart => exact ⟨0, 0, 1, by omega, rfl, rfl, rfl, by omega, by omega, rfl, rfl⟩
        case round =>
          obtain ⟨i, d, t, hi, rfl, rfl, rfl, hd, ht, HD, HT⟩ := hrel
          by_cases hlt : i < c
          · obtain ⟨y, hy, hyl, hcy⟩ := hby.get' (k := i) hlt
            rw [Nat.zero_add] at hcy
            have hyd := HCD.out y (List.mem_of_getElem? hy)
            have hy1 := hyd.1
            have hy2 := hyd.2
            have hi8 : 10 ^ i ≤ 100000000 := Nat.pow_le_pow_right (n := 10) (by decide) (show i ≤ 8 by omega)
            have hd8 : d < 100000000 := by
              have h1 := dec_lt (ch.take i) (fun x hx => HCD.out x (List.mem_of_mem_take hx))
              have h2 := HCL.out
              rw [List.length_take, h2, Nat.min_eq_left (by omega), HD.out] at h1
              omega
            have ht8 : t ≤ 100000000 := by rw [← HT.out]; exact hi8
            have HD2 : Hid (dec (ch.take (i + 1)) = d * 10 + (y - 48)) := by
              show _ = _
              rw [List.take_add_one, hy, Option.toList_some, dec_snoc, HD.out]
            have HT2 : Hid (10 ^ (i + 1) = t * 10) := by show _ = _; rw [Nat.pow_succ, HT.out]
            obtain ⟨z, hz⟩ : ∃ z, y - 48 = z := ⟨_, rfl⟩
            have ez : (y : Int) - 48 = (z : Int) := by omega
            have hzl : z ≤ 9 := by omega
            rw [hz] at HD2
            clear hyd hy hz hi8
            go_wp2_with fail
            exact ⟨⟨_, _, _, _, _, _, ⟨i + 1, by omega, rfl, d * 10 + z, rfl, t * 10, rfl, by omega, by omega, HD2.out, HT2.out⟩, rfl, rfl, by go_num, by go_num, rfl, by go_num⟩, by simp [intOf]; omega⟩
          · obtain rfl : i = c := by omega
            have hml := fun w0 (h0 : Lim w0 A m m (lmb (dec p))) (h1 : Lim w0 (some ⟨w3.heap.size, 0, none⟩) 1 1 [t]) => mul_any A (some ⟨w3.heap.size, 0, none⟩) m m 1 1 (lmb (dec p)) [t] w0 h0 h1 (by omega) (by omega)
            go_wp2_with fail
            refine (hml _ (hoa3.ints.alloc _) (Ints.one (w := w3) .u32 4294967296 33 t rfl (by omega) rfl)).mono ?_; rintro e w4 ⟨A4, m4, rfl, hm4, ho4, hb4⟩
            have hs4 := hb4.size
            simp at hs4
            have had := fun w0 (h0 : Lim w0 A4 m4 m4 (lmb (vl (lmb (dec p)) * vl [t]))) (h1 : Lim w0 (some ⟨w4.heap.size, 0, none⟩) 1 1 [d]) => add_any A4 (some ⟨w4.heap.size, 0, none⟩) m4 m4 1 1 _ [d] w0 h0 h1 (by omega) (by omega)
            go_wp2_with fail
            refine (had _ (ho4.ints.alloc _) (Ints.one (w := w4) .u32 4294967296 33 d rfl (by omega) rfl)).mono ?_; rintro e w5 ⟨A5, m5, rfl, hm5, ho5, hb5⟩
            have hval : vl (lmb (vl (lmb (dec p)) * vl [t])) + vl [d] = dec (p ++ ch) := by
              have hcl := HCL.out
              have hcd := HD.out
              rw [List.take_of_length_le (by omega)] at hcd
              rw [vl_lmb, vl_lmb, dec_append, hcl, HT.out, hcd]
              simp [vl, Num.val]
            rw [hval] at ho5
            have HV := Lib.hid hval
            have b4 := below_step (hb3.alloc hs3 _) hb4 (by simp; omega)
            have b5 := below_step (b4.alloc b4.size _) hb5 (by simp; have := b4.size; omega)
            clear hval hml had
            go_wp2_with fail
            go_roundg (gk - i)
            case measure => omega
            case rel =>
              refine ⟨p ++ ch, r2, A5, m5, by rw [HS3.out], rfl, ?_, HRL.out, by omega, by omega, ho5.mono (by simp; have := b4.size; omega), b5⟩
              show _ = _
              rw [HL.out, HRR.out, List.append_assoc]
  · rintro rfl
    clear hpart hx
    go_wp2_with fail
    refine hc.mono ?_; rintro e w2 ⟨rfl, hb⟩
    go_wp2_with fail
    clear hc hix hxl hne
    go_loopg [0, 4] 1 (fun k sv av wr => ∃ p r A m, sv = .string (str r) ∧ av = .slice A m m ∧ Hid (l = p ++ r) ∧ Hid (r.length = k) ∧ m + 2 * k ≤ 2 * 1 ∧ k ≤ 1 ∧ OwnL wr w.heap.size A m m (lmb (dec p)) ∧ Below w.heap.size w wr)
    case atStart => exact ⟨[], l, none, 0, by rw [HS.out], rfl, rfl, HN.out, by omega, by omega, by rw [dec_nil, lmb_zero]; exact OwnI.nil_ .., hb⟩
    case round =>
      obtain ⟨p, r, A, m, rfl, rfl, HL, HK, hmk, hkn, hoa, hb⟩ := hrel
      have hrs : (str r).size = gk := by rw [str_size, HK.out]
      have hrl : ∀ x ∈ r, x < 256 := fun x hx => hl x (by rw [HL.out]; simp [hx])
      have hrd : Digs r := fun x hx => HH.out.digs x (by rw [HL.out]; simp [hx])
      by_cases hk0 : gk = 0
      · subst hk0
        have hr0 : r = [] := List.eq_nil_of_length_eq_zero HK.out
        have HF : Hid (dec p = dec l) := by show _ = _; rw [HL.out, hr0, List.append_nil]
        clear hr0 hrl hrd
        generalize str r = R at *
        go_wp2_with fail
        go_ret2
        rw [← HF.out]
        exact ⟨A, m, rfl, by omega, hoa, hb⟩
      · obtain ⟨k1, hk1⟩ : ∃ k1, gk - 1 = k1 := ⟨_, rfl⟩
        obtain ⟨r9, hr9⟩ : ∃ r9, k1 % 9 = r9 := ⟨_, rfl⟩
        obtain ⟨c, hc⟩ : ∃ c, r9 + 1 = c := ⟨_, rfl⟩
        have ek : (gk : Int) - 1 = (k1 : Int) := by omega
        have e9 : (k1 : Int) % 9 = (r9 : Int) := by omega
        have e9t : (k1 : Int).tmod 9 = (r9 : Int) := by rw [Int.tmod_eq_emod_of_nonneg (by omega)]; omega
        have ec : (r9 : Int) + 1 = (c : Int) := by omega
        have hck : c ≤ gk := by omega
        have hc9 : c ≤ 9 := by omega
        have hc1 : 1 ≤ c := by omega
        obtain ⟨R, hR⟩ : ∃ R, str r = R := ⟨_, rfl⟩
        obtain ⟨ch, hch⟩ : ∃ ch, r.take c = ch := ⟨_, rfl⟩
        obtain ⟨r2, hr2⟩ : ∃ r2, r.drop c = r2 := ⟨_, rfl⟩
        have hrr : r = ch ++ r2 := by rw [← hch, ← hr2, List.take_append_drop]
        have hchl : ch.length = c := by rw [← hch, List.length_take, HK.out]; omega
        have hr2l : r2.length = gk - c := by rw [← hr2, List.length_drop, HK.out]
        have x1 : R.extract 0 c = str ch := by rw [← hR, str_take, hch]
        have x2 : R.extract c gk = str r2 := by
          have := str_drop r c
          rw [hrs, hr2, hR] at this
          exact this
        have hchb : ∀ x ∈ ch, x < 256 := fun x hx => hrl x (by rw [hrr]; simp [hx])
        have hchd : Digs ch := fun x hx => hrd x (by rw [hrr]; simp [hx])
        obtain ⟨cp, w3, hcv, hby, hg3⟩ := str_bytes (P := Tryd.prog) 9 36 5 Tryd.underlying9 Tryd.underlying36 Tryd.underlying5 ch c hchl hchb wr
        obtain ⟨S2, hS2⟩ : ∃ S2, str ch = S2 := ⟨_, rfl⟩
        obtain ⟨S3, hS3⟩ : ∃ S3, str r2 = S3 := ⟨_, rfl⟩
        rw [hS2] at x1 hcv
        rw [hS3] at x2
        rw [hR] at hrs ⊢
        have HRR := Lib.hid hrr
        have HCL := Lib.hid hchl
        have HRL := Lib.hid hr2l
        have HCD := Lib.hid hchd
        have HS3 := Lib.hid hS3
        clear hk1 hr9 hc hR hch hr2 hrr hS2 hS3 hrl hrd hchb hk0 hchl hr2l hchd
        go_wp2_with fail
        have hoa3 := hoa.kept hg3 (by simp)
        have hb3 := below_none hb hg3 hb.size
        have hs3 := hb3.size
        go_loop [6, 7, 46] (fun dv tv iv => ∃ i d t : Nat, i ≤ c ∧ iv = .int .i64 i ∧ dv = .int .u32 d ∧ tv = .int .u32 t ∧ d < 1000000000 ∧ t ≤ 1000000000 ∧ Hid (dec (ch.take i) = d) ∧ Hid (10 ^ i = t)) (fun _ _ iv => c - (intOf iv).toNat)
        case atStart => exact ⟨0, 0, 1, by omega, rfl, rfl, rfl, by omega, by omega, rfl, rfl⟩
        case round =>
          obtain ⟨i, d, t, hi, rfl, rfl, rfl, hd, ht, HD, HT⟩ := hrel
          by_cases hlt : i < c
          · obtain ⟨y, hy, hyl, hcy⟩ := hby.get' (k := i) hlt
            rw [Nat.zero_add] at hcy
            have hyd := HCD.out y (List.mem_of_getElem? hy)
            have hy1 := hyd.1
            have hy2 := hyd.2
            have hi8 : 10 ^ i ≤ 100000000 := Nat.pow_le_pow_right (n := 10) (by decide) (show i ≤ 8 by omega)
            have hd8 : d < 100000000 := by
              have h1 := dec_lt (ch.take i) (fun x hx => HCD.out x (List.mem_of_mem_take hx))
              have h2 := HCL.out
              rw [List.length_take, h2, Nat.min_eq_left (by omega), HD.out] at h1
              omega
            have ht8 : t ≤ 100000000 := by rw [← HT.out]; exact hi8
            have HD2 : Hid (dec (ch.take (i + 1)) = d * 10 + (y - 48)) := by
              show _ = _
              rw [List.take_add_one, hy, Option.toList_some, dec_snoc, HD.out]
            have HT2 : Hid (10 ^ (i + 1) = t * 10) := by show _ = _; rw [Nat.pow_succ, HT.out]
            obtain ⟨z, hz⟩ : ∃ z, y - 48 = z := ⟨_, rfl⟩
            have ez : (y : Int) - 48 = (z : Int) := by omega
            have hzl : z ≤ 9 := by omega
            rw [hz] at HD2
            clear hyd hy hz hi8
            go_wp2_with fail
            exact ⟨⟨_, _, _, _, _, _, ⟨i + 1, by omega, rfl, d * 10 + z, rfl, t * 10, rfl, by omega, by omega, HD2.out, HT2.out⟩, rfl, rfl, by go_num, by go_num, rfl, by go_num⟩, by simp [intOf]; omega⟩
          · obtain rfl : i = c := by omega
            have hml := fun w0 (h0 : Lim w0 A m m (lmb (dec p))) (h1 : Lim w0 (some ⟨w3.heap.size, 0, none⟩) 1 1 [t]) => mul_any A (some ⟨w3.heap.size, 0, none⟩) m m 1 1 (lmb (dec p)) [t] w0 h0 h1 (by omega) (by omega)
            go_wp2_with fail
            refine (hml _ (hoa3.ints.alloc _) (Ints.one (w := w3) .u32 4294967296 33 t rfl (by omega) rfl)).mono ?_; rintro e w4 ⟨A4, m4, rfl, hm4, ho4, hb4⟩
            have hs4 := hb4.size
            simp at hs4
            have had := fun w0 (h0 : Lim w0 A4 m4 m4 (lmb (vl (lmb (dec p)) * vl [t]))) (h1 : Lim w0 (some ⟨w4.heap.size, 0, none⟩) 1 1 [d]) => add_any A4 (some ⟨w4.heap.size, 0, none⟩) m4 m4 1 1 _ [d] w0 h0 h1 (by omega) (by omega)
            go_wp2_with fail
            refine (had _ (ho4.ints.alloc _) (Ints.one (w := w4) .u32 4294967296 33 d rfl (by omega) rfl)).mono ?_; rintro e w5 ⟨A5, m5, rfl, hm5, ho5, hb5⟩
            have hval : vl (lmb (vl (lmb (dec p)) * vl [t])) + vl [d] = dec (p ++ ch) := by
              have hcl := HCL.out
              have hcd := HD.out
              rw [List.take_of_length_le (by omega)] at hcd
              rw [vl_lmb, vl_lmb, dec_append, hcl, HT.out, hcd]
              simp [vl, Num.val]
            rw [hval] at ho5
            have HV := Lib.hid hval
            have b4 := below_step (hb3.alloc hs3 _) hb4 (by simp; omega)
            have b5 := below_step (b4.alloc b4.size _) hb5 (by simp; have := b4.size; omega)
            clear hval hml had
            go_wp2_with fail
            go_roundg (gk - i)
            case measure => omega
            case rel =>
              refine ⟨p ++ ch, r2, A5, m5, by rw [HS3.out], rfl, ?_, HRL.out, by omega, by omega, ho5.mono (by simp; have := b4.size; omega), b5⟩
              show _ = _
              rw [HL.out, HRR.out, List.append_assoc]
end Go.Proofs.YticheiocmhaakaaDoor
