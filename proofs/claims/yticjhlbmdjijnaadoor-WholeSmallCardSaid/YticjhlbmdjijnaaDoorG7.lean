/- Texts of several parts in one: NatP, NatM, RefF, NatQ, NatR. Each says what it proves; no condition but those named there. -/
import Derived.Test.YticjhlbmdjijnaaDoorG6
import Derived.IntWalk
import Derived.Lib.SliceRun
import Derived.Test.YticjhlbmdjijnaaDoorShelf3
import Derived.Shelf.Strings.SlTrimAscii
import Derived.Test.YticjhlbmdjijnaaDoorG2
import Derived.Laws.Concat
/- The contracts of nat.Read and of heijunkaref01.Read. No condition but the reach of a slice. -/
namespace Go.Proofs.YticjhlbmdjijnaaDoor
open Go.RowKit

theorem i64_or_small (a b : Nat) (ha : a < 9223372036854775808) (hb : b < 9223372036854775808) : bits .or .i64 (a : Int) (b : Int) = ((a ||| b : Nat) : Int) := by
  have hx : a ||| b < 2 ^ 63 := Nat.or_lt_two_pow (by omega) (by omega)
  show IntKind.i64.wrap ((BitVec.ofInt 64 (a : Int) ||| BitVec.ofInt 64 (b : Int)).toNat : Int) = _
  rw [BitVec.toNat_or, ofInt_u64 a (by omega), ofInt_u64 b (by omega)]
  exact IntWalk.i64_in _ (by omega)
theorem or2 (x0 x1 : Nat) (h0 : x0 < 256) (h1 : x1 < 256) : bits .or .i64 (x0 : Int) ((x1 : Int) * 256) = ((x0 + 256 * x1 : Nat) : Int) := by
  have e1 : (x1 : Int) * 256 = ((x1 * 256 : Nat) : Int) := by omega
  rw [e1, i64_or_small _ _ (by omega) (by omega), Nat.or_comm, nat_join 8 _ _ (by omega) (by omega)]
  omega
theorem or4 (x0 x1 x2 x3 : Nat) (h0 : x0 < 256) (h1 : x1 < 256) (h2 : x2 < 256) (h3 : x3 < 256) :
    bits .or .u32 (bits .or .u32 (bits .or .u32 (x0 : Int) ((x1 : Int) * 256)) ((x2 : Int) * 65536)) ((x3 : Int) * 16777216) = ((x0 + 256 * x1 + 65536 * x2 + 16777216 * x3 : Nat) : Int) := by
  have e1 : (x1 : Int) * 256 = ((x1 * 256 : Nat) : Int) := by omega
  have e2 : (x2 : Int) * 65536 = ((x2 * 65536 : Nat) : Int) := by omega
  have e3 : (x3 : Int) * 16777216 = ((x3 * 16777216 : Nat) : Int) := by omega
  have k1 : x0 ||| x1 * 256 = x0 + 256 * x1 := by rw [Nat.or_comm, nat_join 8 _ _ (by omega) (by omega)]; omega
  have k2 : (x0 + 256 * x1) ||| x2 * 65536 = x0 + 256 * x1 + 65536 * x2 := by rw [Nat.or_comm, nat_join 16 _ _ (by omega) (by omega)]; omega
  have k3 : (x0 + 256 * x1 + 65536 * x2) ||| x3 * 16777216 = x0 + 256 * x1 + 65536 * x2 + 16777216 * x3 := by rw [Nat.or_comm, nat_join 24 _ _ (by omega) (by omega)]; omega
  rw [e1, e2, e3, u32_or_nat _ _ (by omega) (by omega), k1, u32_or_nat _ _ (by omega) (by omega), k2, u32_or_nat _ _ (by omega) (by omega), k3]

/-- The limb that lies at a place; the count ahead; all limbs. -/
def le4 (l : List Nat) (p : Nat) : Nat := l[p]?.getD 0 + 256 * l[p + 1]?.getD 0 + 65536 * l[p + 2]?.getD 0 + 16777216 * l[p + 3]?.getD 0
def cnt (l : List Nat) : Nat := l[0]?.getD 0 + 256 * l[1]?.getD 0
def limbsAt (l : List Nat) (N : Nat) : List Nat := (List.range N).map fun i => le4 l (2 + 4 * i)
structure ReadOk (l : List Nat) : Prop where
  two : 2 ≤ l.length
  few : cnt l ≤ 4096
  long : 2 + 4 * cnt l ≤ l.length
  top : cnt l = 0 ∨ le4 l (2 + 4 * (cnt l - 1)) ≠ 0
theorem limbsAt_len (l : List Nat) (N : Nat) : (limbsAt l N).length = N := by simp [limbsAt]
theorem limbsAt_get (l : List Nat) {N k : Nat} (h : k < N) : (limbsAt l N)[k]? = some (le4 l (2 + 4 * k)) := by simp [limbsAt, h]
theorem le4_of {l : List Nat} {p y0 y1 y2 y3 : Nat} (h0 : l[p]? = some y0) (h1 : l[p + 1]? = some y1) (h2 : l[p + 2]? = some y2) (h3 : l[p + 3]? = some y3) : le4 l p = y0 + 256 * y1 + 65536 * y2 + 16777216 * y3 := by
  unfold le4; rw [h0, h1, h2, h3]; rfl

end Go.Proofs.YticjhlbmdjijnaaDoor

/- The contract of nat.Parse. No condition but the reach of a string. -/
namespace Go.Proofs.YticjhlbmdjijnaaDoor
open Go.RowKit

theorem str_cut {P : Program} (t : TypeId) (ht : P.underlying t = some .string) (l : List Nat) (n : Nat) (hn : n ≤ l.length) (w : World) :
    (Instr.slice t (.string (str l)) (some (.int .i64 (n : Int))) none none).run P w = .ok (.string (str (l.drop n))) w := by
  rw [run_slice_string_from_if w t (str l) .i64 n ht, if_pos ⟨by omega, by rw [str_size]; omega⟩, Int.toNat_natCast, str_drop]
theorem str_head {P : Program} (t : TypeId) (ht : P.underlying t = some .string) (l : List Nat) (n : Nat) (hn : n ≤ l.length) (w : World) :
    (Instr.slice t (.string (str l)) none (some (.int .i64 (n : Int))) none).run P w = .ok (.string (str (l.take n))) w := by
  rw [run_slice_string_to_if w t (str l) .i64 n ht, if_pos ⟨by omega, by rw [str_size]; omega⟩, Int.toNat_natCast, str_take]
/-- '[]byte(s)'. -/
theorem str_bytes {P : Program} (src dst e : TypeId) (hs : P.underlying src = some .string) (hd : P.underlying dst = some (.slice e)) (he : P.underlying e = some (.int .u8)) (l : List Nat) (n : Nat) (hn : l.length = n) (hl : ∀ x ∈ l, x < 256) (w : World) :
    ∃ c w2, (convert src dst (.string (str l))).run P w = .ok (.slice (some ⟨w.heap.size, 0, none⟩) n c) w2 ∧ Byt w2 (some ⟨w.heap.size, 0, none⟩) n c l ∧ w.grownBy w2 none := by
  subst hn
  refine ⟨_, _, run_bytes_of_string w src dst e (str l) hs hd he |>.trans (by rw [str_size]), ?_, ?_⟩
  · refine ⟨⟨by simp, ?_, fun _ => ⟨_, _, rfl, by show w.heap.size < (w.heap.push _).size; rw [Array.size_push]; omega, fun j u hu => ?_⟩⟩, hl⟩
    · exact grownCap_ge w l.length 0 e
    · have hg : (w.drew.alloc (.cells (bytesRow (str l) (grownCap w l.length 0 e)) e ((bytesRow (str l) (grownCap w l.length 0 e)).size, (bytesRow (str l) (grownCap w l.length 0 e)).size + 1))).heap[w.heap.size]? = some (.cells (bytesRow (str l) (grownCap w l.length 0 e)) e ((bytesRow (str l) (grownCap w l.length 0 e)).size, (bytesRow (str l) (grownCap w l.length 0 e)).size + 1)) := heap_alloc_new w.drew _
      simp only [World.cell?, hg, Nat.zero_add]
      rw [List.getElem?_map] at hu
      obtain ⟨x, hx, rfl⟩ := Option.map_eq_some_iff.1 hu
      have hj := (List.getElem?_eq_some_iff.1 hx).1
      unfold bytesRow str
      rw [Array.getElem?_append_left (by simpa using hj)]
      simp [hx, Nat.mod_eq_of_lt (hl x (List.mem_of_getElem? hx))]
  · exact ⟨rfl, rfl, rfl, by show w.heap.size ≤ (w.heap.push _).size; rw [Array.size_push]; omega, fun k hk _ => Below.heap_alloc w.drew _ k hk⟩
theorem toList_nil_ne (T : List UInt8) (h : T ≠ []) : (⟨T.toArray⟩ : ByteArray).toList.isEmpty = false := by
  rw [ByteArray.toList_eq]
  simpa using h
theorem toList_nil (T : List UInt8) (h : T = []) : (⟨T.toArray⟩ : ByteArray).toList.isEmpty = true := by
  rw [ByteArray.toList_eq, h]
  rfl

set_option maxRecDepth 100000 in
set_option maxHeartbeats 800000 in
theorem parse_bad (l : List Nat) (hl : ∀ x ∈ l, x < 256) (w : World) (hlen : l.length ≤ 9223372036854775807) (h : ¬ Reads l) :
    Calls Tryd.prog 35 #[.string (str l)] w fun e w' => e = .returned (.tuple #[.slice none 0 0, .bool false]) ∧ Below w.heap.size w w' := by
  obtain ⟨n, hn⟩ : ∃ n, l.length = n := ⟨_, rfl⟩
  have hS : (str l).size = n := by rw [str_size, hn]
  by_cases h1 : n < 1
  · generalize str l = S at *
    clear h hl
    go_enter Tryd.func35, Tryd.ntmps35
    go_wp2_with fail
    go_ret2
    exact ⟨rfl, Below.refl _ _⟩
  by_cases h2 : 40000 < n
  · generalize str l = S at *
    clear h hl
    go_enter Tryd.func35, Tryd.ntmps35
    go_wp2_with fail
    go_ret2
    exact ⟨rfl, Below.refl _ _⟩
  obtain ⟨x, hx⟩ : ∃ x, l[0]? = some x := ⟨_, List.getElem?_eq_getElem (by omega)⟩
  have hix := fun h => str_get l hl 0 x hx h
  have hxl := hl x (List.mem_of_getElem? hx)
  by_cases h3 : 1 < n ∧ x = 48
  · obtain ⟨h3, h4⟩ := h3
    have ht : ((x : Int) == 48) = true := by simp; omega
    have hn1 : decide ((n : Int) < 1) = false := by simp; omega
    have hn2 : decide ((40000 : Int) < (n : Int)) = false := by simp; omega
    generalize str l = S at *
    clear h hl hx
    go_enter Tryd.func35, Tryd.ntmps35
    go_wp2_with fail
    go_ret2
    exact ⟨rfl, Below.refl _ _⟩
  have h4 : ¬ Digs l := fun hd => h ⟨by omega, by omega, fun ⟨a, b⟩ => h3 ⟨by omega, by rw [hx] at b; exact Option.some.inj b⟩, hd⟩
  have hT : Lib.trimS (str l).data.toList tens ≠ [] := fun e => h4 ((trim_digs l hl).1 e)
  have hne := toList_nil_ne _ hT
  have hc := Any.strings_Trim_laid (P := Tryd.prog) Tryd.lays160 (by kernel_rfl) (str l) ⟨#[48, 49, 50, 51, 52, 53, 54, 55, 56, 57]⟩ w (by omega) (by decide) (ascii_of_all (by decide))
  replace hc : Calls Tryd.prog 51 #[.string (str l), .string ⟨#[48, 49, 50, 51, 52, 53, 54, 55, 56, 57]⟩] w fun e w' => e = .returned (.string ⟨(Lib.trimS (str l).data.toList tens).toArray⟩) ∧ Below w.heap.size w w' := hc
  generalize (⟨(Lib.trimS (str l).data.toList tens).toArray⟩ : ByteArray) = T at *
  have hn1 : decide ((n : Int) < 1) = false := by simp; omega
  have hn2 : decide ((40000 : Int) < (n : Int)) = false := by simp; omega
  generalize str l = S at *
  by_cases h5 : 1 < n
  · have ht : ((x : Int) == 48) = false := by simp; omega
    clear h hl hx h4 hT h3
    go_enter Tryd.func35, Tryd.ntmps35
    go_wp2_with fail
    refine hc.mono ?_; rintro e w2 ⟨rfl, hb⟩
    go_wp2_with fail
    go_ret2
    exact ⟨rfl, hb⟩
  · obtain rfl : n = 1 := by omega
    clear h hl hx h4 hT h3
    go_enter Tryd.func35, Tryd.ntmps35
    go_wp2_with fail
    refine hc.mono ?_; rintro e w2 ⟨rfl, hb⟩
    go_wp2_with fail
    go_ret2
    exact ⟨rfl, hb⟩

set_option maxRecDepth 100000 in
set_option maxHeartbeats 1600000 in
theorem parse_ok (l : List Nat) (hl : ∀ x ∈ l, x < 256) (w : World) (h : Reads l) :
    Calls Tryd.prog 35 #[.string (str l)] w fun e w' => ∃ A m, e = .returned (.tuple #[.slice A m m, .bool true]) ∧ m ≤ 80002 ∧ OwnL w' w.heap.size A m m (lmb (dec l)) ∧ Below w.heap.size w w' := by
  obtain ⟨n, hn⟩ : ∃ n, l.length = n := ⟨_, rfl⟩
  have hS : (str l).size = n := by rw [str_size, hn]
  have h1 := h.pos
  have h2 := h.most
  rw [hn] at h1 h2
  obtain ⟨x, hx⟩ : ∃ x, l[0]? = some x := ⟨_, List.getElem?_eq_getElem (by omega)⟩
  have hix := fun h => str_get l hl 0 x hx h
  have hxl := hl x (List.mem_of_getElem? hx)
  have hT : Lib.trimS (str l).data.toList tens = [] := (trim_digs l hl).2 h.digs
  have hne := toList_nil _ hT
  have hc := Any.strings_Trim_laid (P := Tryd.prog) Tryd.lays160 (by kernel_rfl) (str l) ⟨#[48, 49, 50, 51, 52, 53, 54, 55, 56, 57]⟩ w (by omega) (by decide) (ascii_of_all (by decide))
  replace hc : Calls Tryd.prog 51 #[.string (str l), .string ⟨#[48, 49, 50, 51, 52, 53, 54, 55, 56, 57]⟩] w fun e w' => e = .returned (.string ⟨(Lib.trimS (str l).data.toList tens).toArray⟩) ∧ Below w.heap.size w w' := hc
  generalize (⟨(Lib.trimS (str l).data.toList tens).toArray⟩ : ByteArray) = T at *
  have HH := Lib.hid h
  have HN := Lib.hid hn
  have HSS : Hid (∃ S, str l = S) := ⟨_, rfl⟩
  have hn1 : decide ((n : Int) < 1) = false := by simp; omega
  have hn2 : decide ((40000 : Int) < (n : Int)) = false := by simp; omega
  obtain ⟨S, hSe⟩ : ∃ S, str l = S := ⟨_, rfl⟩
  rw [hSe] at hc hS hix ⊢
  have HS := Lib.hid hSe
  go_enter Tryd.func35, Tryd.ntmps35
  have hpart : ∀ (Q : Prop), (1 < n → x ≠ 48 → Q) → (n = 1 → Q) → Q := by
    intro Q q1 q2
    by_cases h5 : 1 < n
    · exact q1 h5 (fun e => HH.out.lead ⟨by omega, by rw [hx, e]⟩)
    · exact q2 (by omega)
  clear hSe h hn hT
  refine hpart _ ?_ ?_
  · intro h5 h6
    have ht : ((x : Int) == 48) = false := by simp; omega
    clear hpart hx
    go_wp2_with fail
    refine hc.mono ?_; rintro e w2 ⟨rfl, hb⟩
    go_wp2_with fail
    clear hc hix hxl hne
    go_loopg [0, 4] n (fun k sv av wr => ∃ p r A m, sv = .string (str r) ∧ av = .slice A m m ∧ Hid (l = p ++ r) ∧ Hid (r.length = k) ∧ m + 2 * k ≤ 2 * n ∧ k ≤ n ∧ OwnL wr w.heap.size A m m (lmb (dec p)) ∧ Below w.heap.size w wr)
    case atStart => exact ⟨[], l, none, 0, by rw [HS.out], rfl, rfl, HN.out, by omega, by omega, by rw [dec_nil, lmb_zero]; exact OwnI.nil_ .., hb⟩
    case round =>
      obtain ⟨p, r, A, m, rfl, rfl, HL, HK, hmk, hkn, hoa, hb⟩ := hrel
      have hrs : (str r).size = gk := by rw [str_size, HK.out]
      have hrl : ∀ x ∈ r, x < 256 := fun x hx => hl x (by rw [HL.out]; simp [hx])
      have hrd : Digs r := fun x hx => HH.out.digs x (by rw [HL.out]; simp [hx])
      by_cases hk0 : gk = 0
      · subst hk0
        have hr0 : r = [] := List.eq_nil_of_length_eq_zero HK.out
        have HF : Hid (dec p = dec l) := by show _ = _; rw [HL.out, hr0, List.append_nil]
        clear hr0 hrl hrd
        generalize str r = R at *
        go_wp2_with fail
        go_ret2
        rw [← HF.out]
        exact ⟨A, m, rfl, by omega, hoa, hb⟩
      · obtain ⟨k1, hk1⟩ : ∃ k1, gk - 1 = k1 := ⟨_, rfl⟩
        obtain ⟨r9, hr9⟩ : ∃ r9, k1 % 9 = r9 := ⟨_, rfl⟩
        obtain ⟨c, hc⟩ : ∃ c, r9 + 1 = c := ⟨_, rfl⟩
        have ek : (gk : Int) - 1 = (k1 : Int) := by omega
        have e9 : (k1 : Int) % 9 = (r9 : Int) := by omega
        have e9t : (k1 : Int).tmod 9 = (r9 : Int) := by rw [Int.tmod_eq_emod_of_nonneg (by omega)]; omega
        have ec : (r9 : Int) + 1 = (c : Int) := by omega
        have hck : c ≤ gk := by omega
        have hc9 : c ≤ 9 := by omega
        have hc1 : 1 ≤ c := by omega
        obtain ⟨R, hR⟩ : ∃ R, str r = R := ⟨_, rfl⟩
        obtain ⟨ch, hch⟩ : ∃ ch, r.take c = ch := ⟨_, rfl⟩
        obtain ⟨r2, hr2⟩ : ∃ r2, r.drop c = r2 := ⟨_, rfl⟩
        have hrr : r = ch ++ r2 := by rw [← hch, ← hr2, List.take_append_drop]
        have hchl : ch.length = c := by rw [← hch, List.length_take, HK.out]; omega
        have hr2l : r2.length = gk - c := by rw [← hr2, List.length_drop, HK.out]
        have x1 : R.extract 0 c = str ch := by rw [← hR, str_take, hch]
        have x2 : R.extract c gk = str r2 := by
          have := str_drop r c
          rw [hrs, hr2, hR] at this
          exact this
        have hchb : ∀ x ∈ ch, x < 256 := fun x hx => hrl x (by rw [hrr]; simp [hx])
        have hchd : Digs ch := fun x hx => hrd x (by rw [hrr]; simp [hx])
        obtain ⟨cp, w3, hcv, hby, hg3⟩ := str_bytes (P := Tryd.prog) 9 62 5 Tryd.underlying9 Tryd.underlying62 Tryd.underlying5 ch c hchl hchb wr
        obtain ⟨S2, hS2⟩ : ∃ S2, str ch = S2 := ⟨_, rfl⟩
        obtain ⟨S3, hS3⟩ : ∃ S3, str r2 = S3 := ⟨_, rfl⟩
        rw [hS2] at x1 hcv
        rw [hS3] at x2
        rw [hR] at hrs ⊢
        have HRR := Lib.hid hrr
        have HCL := Lib.hid hchl
        have HRL := Lib.hid hr2l
        have HCD := Lib.hid hchd
        have HS3 := Lib.hid hS3
        clear hk1 hr9 hc hR hch hr2 hrr hS2 hS3 hrl hrd hchb hk0 hchl hr2l hchd
        go_wp2_with fail
        have hoa3 := hoa.kept hg3 (by simp)
        have hb3 := below_none hb hg3 hb.size
        have hs3 := hb3.size
        go_loop [6, 7, 46] (fun dv tv iv => ∃ i d t : Nat, i ≤ c ∧ iv = .int .i64 i ∧ dv = .int .u32 d ∧ tv = .int .u32 t ∧ d < 1000000000 ∧ t ≤ 1000000000 ∧ Hid (dec (ch.take i) = d) ∧ Hid (10 ^ i = t)) (fun _ _ iv => c - (intOf iv).toNat)
        case atStart => exact ⟨0, 0, 1, by omega, rfl, rfl, rfl, by omega, by omega, rfl, rfl⟩
        case round =>
          obtain ⟨i, d, t, hi, rfl, rfl, rfl, hd, ht, HD, HT⟩ := hrel
          by_cases hlt : i < c
          · obtain ⟨y, hy, hyl, hcy⟩ := hby.get' (k := i) hlt
            rw [Nat.zero_add] at hcy
            have hyd := HCD.out y (List.mem_of_getElem? hy)
            have hy1 := hyd.1
            have hy2 := hyd.2
            have hi8 : 10 ^ i ≤ 100000000 := Nat.pow_le_pow_right (n := 10) (by decide) (show i ≤ 8 by omega)
            have hd8 : d < 100000000 := by
              have h1 := dec_lt (ch.take i) (fun x hx => HCD.out x (List.mem_of_mem_take hx))
              have h2 := HCL.out
              rw [List.length_take, h2, Nat.min_eq_left (by omega), HD.out] at h1
              omega
            have ht8 : t ≤ 100000000 := by rw [← HT.out]; exact hi8
            have HD2 : Hid (dec (ch.take (i + 1)) = d * 10 + (y - 48)) := by
              show _ = _
              rw [List.take_add_one, hy, Option.toList_some, dec_snoc, HD.out]
            have HT2 : Hid (10 ^ (i + 1) = t * 10) := by show _ = _; rw [Nat.pow_succ, HT.out]
            obtain ⟨z, hz⟩ : ∃ z, y - 48 = z := ⟨_, rfl⟩
            have ez : (y : Int) - 48 = (z : Int) := by omega
            have hzl : z ≤ 9 := by omega
            rw [hz] at HD2
            clear hyd hy hz hi8
            go_wp2_with fail
            exact ⟨⟨_, _, _, _, _, _, ⟨i + 1, by omega, rfl, d * 10 + z, rfl, t * 10, rfl, by omega, by omega, HD2.out, HT2.out⟩, rfl, rfl, by go_num, by go_num, rfl, by go_num⟩, by simp [intOf]; omega⟩
          · obtain rfl : i = c := by omega
            have hml := fun w0 (h0 : Lim w0 A m m (lmb (dec p))) (h1 : Lim w0 (some ⟨w3.heap.size, 0, none⟩) 1 1 [t]) => mul_any A (some ⟨w3.heap.size, 0, none⟩) m m 1 1 (lmb (dec p)) [t] w0 h0 h1 (by omega) (by omega)
            go_wp2_with fail
            refine (hml _ (hoa3.ints.alloc _) (Ints.one (w := w3) .u32 4294967296 43 t rfl (by omega) rfl)).mono ?_; rintro e w4 ⟨A4, m4, rfl, hm4, ho4, hb4⟩
            have hs4 := hb4.size
            simp at hs4
            have had := fun w0 (h0 : Lim w0 A4 m4 m4 (lmb (vl (lmb (dec p)) * vl [t]))) (h1 : Lim w0 (some ⟨w4.heap.size, 0, none⟩) 1 1 [d]) => add_any A4 (some ⟨w4.heap.size, 0, none⟩) m4 m4 1 1 _ [d] w0 h0 h1 (by omega) (by omega)
            go_wp2_with fail
            refine (had _ (ho4.ints.alloc _) (Ints.one (w := w4) .u32 4294967296 43 d rfl (by omega) rfl)).mono ?_; rintro e w5 ⟨A5, m5, rfl, hm5, ho5, hb5⟩
            have hval : vl (lmb (vl (lmb (dec p)) * vl [t])) + vl [d] = dec (p ++ ch) := by
              have hcl := HCL.out
              have hcd := HD.out
              rw [List.take_of_length_le (by omega)] at hcd
              rw [vl_lmb, vl_lmb, dec_append, hcl, HT.out, hcd]
              simp [vl, Num.val]
            rw [hval] at ho5
            have HV := Lib.hid hval
            have b4 := below_step (hb3.alloc hs3 _) hb4 (by simp; omega)
            have b5 := below_step (b4.alloc b4.size _) hb5 (by simp; have := b4.size; omega)
            clear hval hml had
            go_wp2_with fail
            go_roundg (gk - i)
            case measure => omega
            case rel =>
              refine ⟨p ++ ch, r2, A5, m5, by rw [HS3.out], rfl, ?_, HRL.out, by omega, by omega, ho5.mono (by simp; have := b4.size; omega), b5⟩
              show _ = _
              rw [HL.out, HRR.out, List.append_assoc]
  · rintro rfl
    clear hpart hx
    go_wp2_with fail
    refine hc.mono ?_; rintro e w2 ⟨rfl, hb⟩
    go_wp2_with fail
    clear hc hix hxl hne
    go_loopg [0, 4] 1 (fun k sv av wr => ∃ p r A m, sv = .string (str r) ∧ av = .slice A m m ∧ Hid (l = p ++ r) ∧ Hid (r.length = k) ∧ m + 2 * k ≤ 2 * 1 ∧ k ≤ 1 ∧ OwnL wr w.heap.size A m m (lmb (dec p)) ∧ Below w.heap.size w wr)
    case atStart => exact ⟨[], l, none, 0, by rw [HS.out], rfl, rfl, HN.out, by omega, by omega, by rw [dec_nil, lmb_zero]; exact OwnI.nil_ .., hb⟩
    case round =>
      obtain ⟨p, r, A, m, rfl, rfl, HL, HK, hmk, hkn, hoa, hb⟩ := hrel
      have hrs : (str r).size = gk := by rw [str_size, HK.out]
      have hrl : ∀ x ∈ r, x < 256 := fun x hx => hl x (by rw [HL.out]; simp [hx])
      have hrd : Digs r := fun x hx => HH.out.digs x (by rw [HL.out]; simp [hx])
      by_cases hk0 : gk = 0
      · subst hk0
        have hr0 : r = [] := List.eq_nil_of_length_eq_zero HK.out
        have HF : Hid (dec p = dec l) := by show _ = _; rw [HL.out, hr0, List.append_nil]
        clear hr0 hrl hrd
        generalize str r = R at *
        go_wp2_with fail
        go_ret2
        rw [← HF.out]
        exact ⟨A, m, rfl, by omega, hoa, hb⟩
      · obtain ⟨k1, hk1⟩ : ∃ k1, gk - 1 = k1 := ⟨_, rfl⟩
        obtain ⟨r9, hr9⟩ : ∃ r9, k1 % 9 = r9 := ⟨_, rfl⟩
        obtain ⟨c, hc⟩ : ∃ c, r9 + 1 = c := ⟨_, rfl⟩
        have ek : (gk : Int) - 1 = (k1 : Int) := by omega
        have e9 : (k1 : Int) % 9 = (r9 : Int) := by omega
        have e9t : (k1 : Int).tmod 9 = (r9 : Int) := by rw [Int.tmod_eq_emod_of_nonneg (by omega)]; omega
        have ec : (r9 : Int) + 1 = (c : Int) := by omega
        have hck : c ≤ gk := by omega
        have hc9 : c ≤ 9 := by omega
        have hc1 : 1 ≤ c := by omega
        obtain ⟨R, hR⟩ : ∃ R, str r = R := ⟨_, rfl⟩
        obtain ⟨ch, hch⟩ : ∃ ch, r.take c = ch := ⟨_, rfl⟩
        obtain ⟨r2, hr2⟩ : ∃ r2, r.drop c = r2 := ⟨_, rfl⟩
        have hrr : r = ch ++ r2 := by rw [← hch, ← hr2, List.take_append_drop]
        have hchl : ch.length = c := by rw [← hch, List.length_take, HK.out]; omega
        have hr2l : r2.length = gk - c := by rw [← hr2, List.length_drop, HK.out]
        have x1 : R.extract 0 c = str ch := by rw [← hR, str_take, hch]
        have x2 : R.extract c gk = str r2 := by
          have := str_drop r c
          rw [hrs, hr2, hR] at this
          exact this
        have hchb : ∀ x ∈ ch, x < 256 := fun x hx => hrl x (by rw [hrr]; simp [hx])
        have hchd : Digs ch := fun x hx => hrd x (by rw [hrr]; simp [hx])
        obtain ⟨cp, w3, hcv, hby, hg3⟩ := str_bytes (P := Tryd.prog) 9 62 5 Tryd.underlying9 Tryd.underlying62 Tryd.underlying5 ch c hchl hchb wr
        obtain ⟨S2, hS2⟩ : ∃ S2, str ch = S2 := ⟨_, rfl⟩
        obtain ⟨S3, hS3⟩ : ∃ S3, str r2 = S3 := ⟨_, rfl⟩
        rw [hS2] at x1 hcv
        rw [hS3] at x2
        rw [hR] at hrs ⊢
        have HRR := Lib.hid hrr
        have HCL := Lib.hid hchl
        have HRL := Lib.hid hr2l
        have HCD := Lib.hid hchd
        have HS3 := Lib.hid hS3
        clear hk1 hr9 hc hR hch hr2 hrr hS2 hS3 hrl hrd hchb hk0 hchl hr2l hchd
        go_wp2_with fail
        have hoa3 := hoa.kept hg3 (by simp)
        have hb3 := below_none hb hg3 hb.size
        have hs3 := hb3.size
        go_loop [6, 7, 46] (fun dv tv iv => ∃ i d t : Nat, i ≤ c ∧ iv = .int .i64 i ∧ dv = .int .u32 d ∧ tv = .int .u32 t ∧ d < 1000000000 ∧ t ≤ 1000000000 ∧ Hid (dec (ch.take i) = d) ∧ Hid (10 ^ i = t)) (fun _ _ iv => c - (intOf iv).toNat)
        case atStart => exact ⟨0, 0, 1, by omega, rfl, rfl, rfl, by omega, by omega, rfl, rfl⟩
        case round =>
          obtain ⟨i, d, t, hi, rfl, rfl, rfl, hd, ht, HD, HT⟩ := hrel
          by_cases hlt : i < c
          · obtain ⟨y, hy, hyl, hcy⟩ := hby.get' (k := i) hlt
            rw [Nat.zero_add] at hcy
            have hyd := HCD.out y (List.mem_of_getElem? hy)
            have hy1 := hyd.1
            have hy2 := hyd.2
            have hi8 : 10 ^ i ≤ 100000000 := Nat.pow_le_pow_right (n := 10) (by decide) (show i ≤ 8 by omega)
            have hd8 : d < 100000000 := by
              have h1 := dec_lt (ch.take i) (fun x hx => HCD.out x (List.mem_of_mem_take hx))
              have h2 := HCL.out
              rw [List.length_take, h2, Nat.min_eq_left (by omega), HD.out] at h1
              omega
            have ht8 : t ≤ 100000000 := by rw [← HT.out]; exact hi8
            have HD2 : Hid (dec (ch.take (i + 1)) = d * 10 + (y - 48)) := by
              show _ = _
              rw [List.take_add_one, hy, Option.toList_some, dec_snoc, HD.out]
            have HT2 : Hid (10 ^ (i + 1) = t * 10) := by show _ = _; rw [Nat.pow_succ, HT.out]
            obtain ⟨z, hz⟩ : ∃ z, y - 48 = z := ⟨_, rfl⟩
            have ez : (y : Int) - 48 = (z : Int) := by omega
            have hzl : z ≤ 9 := by omega
            rw [hz] at HD2
            clear hyd hy hz hi8
            go_wp2_with fail
            exact ⟨⟨_, _, _, _, _, _, ⟨i + 1, by omega, rfl, d * 10 + z, rfl, t * 10, rfl, by omega, by omega, HD2.out, HT2.out⟩, rfl, rfl, by go_num, by go_num, rfl, by go_num⟩, by simp [intOf]; omega⟩
          · obtain rfl : i = c := by omega
            have hml := fun w0 (h0 : Lim w0 A m m (lmb (dec p))) (h1 : Lim w0 (some ⟨w3.heap.size, 0, none⟩) 1 1 [t]) => mul_any A (some ⟨w3.heap.size, 0, none⟩) m m 1 1 (lmb (dec p)) [t] w0 h0 h1 (by omega) (by omega)
            go_wp2_with fail
            refine (hml _ (hoa3.ints.alloc _) (Ints.one (w := w3) .u32 4294967296 43 t rfl (by omega) rfl)).mono ?_; rintro e w4 ⟨A4, m4, rfl, hm4, ho4, hb4⟩
            have hs4 := hb4.size
            simp at hs4
            have had := fun w0 (h0 : Lim w0 A4 m4 m4 (lmb (vl (lmb (dec p)) * vl [t]))) (h1 : Lim w0 (some ⟨w4.heap.size, 0, none⟩) 1 1 [d]) => add_any A4 (some ⟨w4.heap.size, 0, none⟩) m4 m4 1 1 _ [d] w0 h0 h1 (by omega) (by omega)
            go_wp2_with fail
            refine (had _ (ho4.ints.alloc _) (Ints.one (w := w4) .u32 4294967296 43 d rfl (by omega) rfl)).mono ?_; rintro e w5 ⟨A5, m5, rfl, hm5, ho5, hb5⟩
            have hval : vl (lmb (vl (lmb (dec p)) * vl [t])) + vl [d] = dec (p ++ ch) := by
              have hcl := HCL.out
              have hcd := HD.out
              rw [List.take_of_length_le (by omega)] at hcd
              rw [vl_lmb, vl_lmb, dec_append, hcl, HT.out, hcd]
              simp [vl, Num.val]
            rw [hval] at ho5
            have HV := Lib.hid hval
            have b4 := below_step (hb3.alloc hs3 _) hb4 (by simp; omega)
            have b5 := below_step (b4.alloc b4.size _) hb5 (by simp; have := b4.size; omega)
            clear hval hml had
            go_wp2_with fail
            go_roundg (gk - i)
            case measure => omega
            case rel =>
              refine ⟨p ++ ch, r2, A5, m5, by rw [HS3.out], rfl, ?_, HRL.out, by omega, by omega, ho5.mono (by simp; have := b4.size; omega), b5⟩
              show _ = _
              rw [HL.out, HRR.out, List.append_assoc]
end Go.Proofs.YticjhlbmdjijnaaDoor

/- The contracts of heijunkaref01.Text, Parse. No condition but the reach of a slice. -/
namespace Go.Proofs.YticjhlbmdjijnaaDoor
open Go.RowKit

theorem conv_one {P : Program} (src dst e : TypeId) (hs : P.underlying src = some (.slice e)) (he : P.underlying e = some (.int .u8)) (hd : P.underlying dst = some .string) (z : Nat) (hz : z < 256) (w : World) (g : Nat) (hg : g = w.heap.size) :
    (convert src dst (.slice (some ⟨g, 0, none⟩) 1 1)).run P (w.alloc (.cells #[.int .u8 (z : Int)] e)) = .ok (.string (str [z])) (w.alloc (.cells #[.int .u8 (z : Int)] e)) :=
  conv_str src dst e hs he hd (Ints.one (w := w) .u8 256 e z rfl hz hg)
/-- 's + t'. -/
theorem str_add {P : Program} (l m : List Nat) (h : l.length + m.length ≤ 9223372036854775807) (w : World) : (Op.stringOp .add (str l) (str m)).run P w = .ok (.string (str (l ++ m))) w := by
  rw [run_string_add_sum w (str l) (str m) (by rw [str_size, str_size]; exact h), str_append]
def preTxt (u : Nat) : List Nat := if u = 0 then [] else decTxt u
theorem pre_step {u : Nat} (h : 0 < u) : preTxt u = preTxt (u / 10) ++ [48 + u % 10] := by
  unfold preTxt
  rw [if_neg (by omega)]
  rcases Nat.lt_or_ge u 10 with h1 | h1
  · rw [if_pos (by omega), decTxt_small h1, Nat.mod_eq_of_lt h1]; rfl
  · rw [if_neg (by omega)]
    have e : u = u % 10 + 10 * (u / 10) := by omega
    have := decTxt_snoc (x := u % 10) (m := u / 10) (by omega) (by omega)
    rw [← e] at this
    exact this
theorem dg_first {x : Nat} (h : x < 256) : (dg x)[0]?.getD 0 = x := by
  rcases Nat.eq_zero_or_pos x with rfl | h0
  · rw [dg_zero]; rfl
  · unfold dg
    rw [Num.dig_pos (by decide) h0]
    simp; omega

set_option maxRecDepth 100000 in
set_option maxHeartbeats 1600000 in
theorem rtext_any (A : Option Addr) (n c : Nat) (l : List Nat) (w : World) (hr : Lim w A n c l) (hn : n ≤ 268435456) :
    Calls Tryd.prog 27 #[.slice A n c] w fun e w' => e = .returned (.string (str (decTxt (vl l)))) ∧ Below w.heap.size w w' := by
  have hdg := digits_any A n c l w hr (by omega)
  have hvn : vl l < 4294967296 ^ n := by rw [← hr.len]; exact Num.val_lt _ l hr.lt
  obtain ⟨v, hv⟩ : ∃ v, vl l = v := ⟨_, rfl⟩
  rw [hv] at hdg hvn
  have HVN := Lib.hid hvn
  clear hvn
  have HV := Lib.hid hv
  clear hv
  go_enter Tryd.func27, Tryd.ntmps27
  go_wp2_with fail
  refine hdg.mono ?_; rintro e w1 ⟨A1, m1, c1, rfl, hm1, ho1, hb1⟩
  have h1 := ho1.len
  by_cases hv0 : v = 0
  · subst hv0
    rw [dg_zero] at h1
    obtain rfl : 0 = m1 := h1
    clear ho1
    go_wp2_with fail
    go_ret
    rw [HV.out]
    exact ⟨rfl, hb1⟩
  · have hp : 0 < m1 := by
      rcases Nat.eq_zero_or_pos m1 with h | h
      · rw [h] at h1
        have := (Num.dig_eq_nil (b := 256) (by decide) v).1 (List.eq_nil_of_length_eq_zero h1)
        omega
      · exact h
    have HV0 := Lib.hid hv0
    have hz : ((m1 : Int) == 0) = false := by simp; omega
    have hse : str [] = ⟨#[]⟩ := rfl
    clear hv0 h1
    go_wp2_with fail
    go_loopg [3, 4] v (fun u dv_ sv wr => ∃ (C : Option Addr) (m y : Nat) (T : List Nat), dv_ = .slice C m y ∧ sv = .string (str T) ∧ m ≤ 4 * n ∧ OwnD wr w.heap.size C m y (dg u) ∧ Hid (preTxt u ++ T = decTxt v) ∧ Below w.heap.size w wr)
    case atStart =>
      refine ⟨A1, m1, c1, [], rfl, rfl, hm1, ho1, ?_, hb1⟩
      show _ = _
      rw [List.append_nil]
      unfold preTxt
      rw [if_neg HV0.out]
    case round =>
      obtain ⟨C, m, y, T, rfl, rfl, hm, hod, HT, hb⟩ := hrel
      have hlm := hod.len
      obtain ⟨S, hS⟩ : ∃ S, str T = S := ⟨_, rfl⟩
      by_cases hu0 : gk = 0
      · subst hu0
        rw [dg_zero] at hlm
        obtain rfl : 0 = m := hlm
        have hf : S = str (decTxt v) := by
          rw [← hS, ← HT.out]; rfl
        have HF := Lib.hid hf
        rw [hS]
        clear hS hf
        go_wp2_with fail
        go_ret
        rw [HV.out, HF.out]
        exact ⟨rfl, hb⟩
      · have hmp : 0 < m := by
          rcases Nat.eq_zero_or_pos m with h | h
          · rw [h] at hlm
            have := (Num.dig_eq_nil (b := 256) (by decide) gk).1 (List.eq_nil_of_length_eq_zero hlm)
            omega
          · exact h
        obtain ⟨x, hx⟩ : ∃ x, gk % 10 = x := ⟨_, rfl⟩
        obtain ⟨q, hq⟩ : ∃ q, gk / 10 = q := ⟨_, rfl⟩
        have hxl : x < 10 := by omega
        have HQ : Hid (q < gk) := by show q < gk; omega
        have hps := pre_step (Nat.pos_of_ne_zero hu0)
        rw [hx, hq] at hps
        obtain ⟨z, hz⟩ : ∃ z, 48 + x = z := ⟨_, rfl⟩
        have ez : (48 : Int) + (x : Int) = (z : Int) := by omega
        have hzl : z < 58 := by omega
        rw [hz] at hps
        have HT2 : Hid (preTxt q ++ ([z] ++ T) = decTxt v) := by
          show _ = _
          rw [← List.append_assoc, ← hps]; exact HT.out
        have kc := fun w0 g hg => conv_one (P := Tryd.prog) 62 9 5 Tryd.underlying62 Tryd.underlying5 Tryd.underlying9 z (by omega) w0 g hg
        have hTl : T.length ≤ 10 * n + 1 := by
          have h1 := congrArg List.length HT.out
          rw [List.length_append] at h1
          have h2 := decTxt_len (10 * n) v (Nat.lt_of_lt_of_le HVN.out (by
            rw [Nat.pow_succ]
            have h3 : 4294967296 ^ n ≤ (10 ^ 10) ^ n := Nat.pow_le_pow_left (by decide) n
            rw [← Nat.pow_mul] at h3
            omega))
          omega
        have hadd := fun w0 => str_add (P := Tryd.prog) [z] T (by simp; omega) w0
        obtain ⟨S3, hS3⟩ : ∃ S3, str ([z] ++ T) = S3 := ⟨_, rfl⟩
        simp only [hS, hS3] at hadd
        rw [hS]
        have HS3 := Lib.hid hS3
        generalize str [z] = S2 at *
        have hat := fun C2 m2 y2 w0 h0 => at_any C2 m2 y2 (dg x) w0 h0 0 x (dg_first (by omega))
        have hdiv := fun w0 h0 (h1 : Dg w0 (some ⟨wr.heap.size, 0, none⟩) 1 1 [10]) => rdiv_any C (some ⟨wr.heap.size, 0, none⟩) m y 1 1 (dg gk) [10] w0 h0 h1 (by omega) (by omega) (by decide)
        rw [dv_dg, show dv [10] = 10 from rfl, hx, hq] at hdiv
        have hs := hb.size
        clear hx hq hps hz hS hS3 hu0 hlm
        go_wp2_with fail
        refine (hdiv _ (hod.alloc _).ints (Ints.one (w := wr) .i64 256 3 10 rfl (by omega) rfl)).mono ?_
        rintro e w3 ⟨A3, m3, c3, A4, m4, c4, rfl, hm3, hm4, ho3, ho4, hb3⟩
        have b3 := below_step (hb.alloc hs _) hb3 (by simp; omega)
        go_wp2_with fail
        refine (hat _ _ _ _ ho4.ints).mono ?_; rintro e w' ⟨rfl, rfl⟩
        go_wp2_with fail
        go_roundg q
        case measure => exact HQ.out
        case rel => exact ⟨A3, m3, c3, [z] ++ T, rfl, by rw [HS3.out], by omega, (ho3.mono (by simp; omega)).alloc _, HT2, b3.alloc b3.size _⟩

end Go.Proofs.YticjhlbmdjijnaaDoor

/- The contracts of heijunkaref01.Parse, Read, Rows, whole. No condition but the reach of a slice. -/
namespace Go.Proofs.YticjhlbmdjijnaaDoor
open Go.RowKit

theorem le4_dv (l : List Nat) (p : Nat) (h : p + 4 ≤ l.length) : dv ((l.drop p).take 4) = le4 l p := by
  have g : ∀ t, t < 4 → (l.drop p)[t]? = some (l[p + t]?.getD 0) := fun t ht => by
    rw [List.getElem?_drop, List.getElem?_eq_getElem (by omega)]; rfl
  rw [dv_take_succ (g 3 (by omega)), dv_take_succ (g 2 (by omega)), dv_take_succ (g 1 (by omega)), dv_take_succ (g 0 (by omega))]
  unfold le4
  simp [dv, Num.val]

end Go.Proofs.YticjhlbmdjijnaaDoor

/- What is written is read: the bytes of a number, read. No condition but the reach of a slice. -/
namespace Go.Proofs.YticjhlbmdjijnaaDoor
open Go.RowKit

theorem Ints.ints {w : World} {kd : IntKind} {lim : Nat} {A : Option Addr} {n c : Nat} {l : List Nat} (h : Ints w kd lim A n c l) : Ints w kd lim A n c l := h
theorem le4_shift (a : List Nat) (l : List Nat) (p : Nat) : le4 (a ++ l) (a.length + p) = le4 l p := by
  have h : ∀ k, (a ++ l)[a.length + k]? = l[k]? := fun k => by rw [List.getElem?_append_right (by omega), Nat.add_sub_cancel_left]
  unfold le4
  rw [h, Nat.add_assoc a.length p 1, h, Nat.add_assoc a.length p 2, h, Nat.add_assoc a.length p 3, h]
theorem le4_byt4 (x : Nat) (l : List Nat) (h : x < 4294967296) : le4 (byt4 x ++ l) 0 = x := by
  unfold le4 byt4
  simp
  omega
theorem le4_flat (L : List Nat) (hL : ∀ x ∈ L, x < 4294967296) : ∀ i x, L[i]? = some x → le4 (L.flatMap byt4) (4 * i) = x := by
  induction L with
  | nil => intro i x h; simp at h
  | cons y L ih =>
    intro i x h
    rw [List.flatMap_cons]
    cases i with
    | zero =>
      simp at h
      subst h
      exact le4_byt4 _ _ (hL _ List.mem_cons_self)
    | succ i =>
      have := le4_shift (byt4 y) (L.flatMap byt4) (4 * i)
      rw [show (byt4 y).length + 4 * i = 4 * (i + 1) by simp [byt4]; omega] at this
      rw [this]
      exact ih (fun z hz => hL z (List.mem_cons_of_mem _ hz)) i x (by simpa using h)
theorem enc_reads (v : Nat) (h : (lmb v).length ≤ 4096) : ReadOk (enc (lmb v)) ∧ cnt (enc (lmb v)) = (lmb v).length ∧ limbsAt (enc (lmb v)) (lmb v).length = lmb v ∧ (enc (lmb v)).drop (2 + 4 * (lmb v).length) = [] ∧ (enc (lmb v)).length = 2 + 4 * (lmb v).length := by
  have hl := lmb_lt v
  have htop := Num.dig_top (b := 4294967296) (by decide) v
  have htop' : ∀ x, (lmb v)[(lmb v).length - 1]? = some x → x ≠ 0 := htop
  generalize lmb v = L at *
  have e := enc_yes h
  have hlen : (enc L).length = 2 + 4 * L.length := by rw [e, List.length_append, flat_len]; rfl
  have hc : cnt (enc L) = L.length := by
    rw [e]; unfold cnt; simp; omega
  have hle : ∀ i x, L[i]? = some x → le4 (enc L) (2 + 4 * i) = x := by
    intro i x hx
    rw [e]
    have := le4_shift [L.length % 256, L.length / 256] (L.flatMap byt4) (4 * i)
    rw [show [L.length % 256, L.length / 256].length + 4 * i = 2 + 4 * i from rfl] at this
    rw [this]
    exact le4_flat L hl i x hx
  refine ⟨⟨by omega, by omega, by omega, ?_⟩, hc, ?_, List.drop_eq_nil_of_le (by omega), hlen⟩
  · rw [hc]
    rcases Nat.eq_zero_or_pos L.length with h0 | h0
    · exact .inl h0
    · refine .inr ?_
      obtain ⟨x, hx⟩ : ∃ x, L[L.length - 1]? = some x := ⟨_, List.getElem?_eq_getElem (by omega)⟩
      rw [hle _ x hx]
      exact htop' x hx
  · apply List.ext_getElem?
    intro i
    rcases Nat.lt_or_ge i L.length with hi | hi
    · rw [limbsAt_get _ hi, hle i _ (List.getElem?_eq_getElem hi), List.getElem?_eq_getElem hi]
    · rw [List.getElem?_eq_none (by rw [limbsAt_len]; exact hi), List.getElem?_eq_none hi]

end Go.Proofs.YticjhlbmdjijnaaDoor
