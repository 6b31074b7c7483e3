/- The law SegTorn, walked. No condition but the reach of a slice. -/
import Derived.Test.YtdlcngmcjidomaaDoorMSegI
import Derived.Test.YtdlcngmcjidomaaDoorMSegMath6
namespace Go.Proofs.YtdlcngmcjidomaaDoor
set_option linter.unusedSimpArgs false
set_option linter.unusedVariables false
open Go.RowKit Go.Shelf

theorem intinfo : (Tryd.prog.info? 3).map (fun i => (i.zero, i.size, i.bytes)) = some (some (.int .i64 0), 1, 8) := by kernel_rfl
/-- Where records end. -/
structure Ends (es : List Nat) (rs : List (List Nat)) : Prop where
  len : es.length = rs.length
  at_ : ∀ i e, es[i]? = some e → e = SegSt.total (rs.take (i + 1))
theorem Ends.nil : Ends [] [] := ⟨rfl, fun i e h => by cases h⟩
theorem Ends.snoc {es : List Nat} {rs : List (List Nat)} (h : Ends es rs) (r : List Nat) : Ends (es ++ [SegSt.total (rs ++ [r])]) (rs ++ [r]) := by
  refine ⟨by rw [List.length_append, List.length_append, h.len]; rfl, fun i e hi => ?_⟩
  rcases Nat.lt_or_ge i es.length with hlt | hge
  · rw [List.getElem?_append_left hlt] at hi
    rw [h.at_ i e hi, List.take_append_of_le_length (by have := h.len; omega)]
  · have h1 := (List.getElem?_eq_some_iff.1 hi).1
    rw [List.length_append] at h1
    have h2 : i = es.length := by simp at h1; omega
    subst h2
    rw [List.getElem?_append_right (Nat.le_refl _), Nat.sub_self] at hi
    cases hi
    rw [List.take_of_length_le (by rw [List.length_append, h.len]; simp)]
theorem need_98 {m : Nat} (h1 : 1 ≤ m) (h2 : m ≤ 98) : 1 ≤ Cl.need m ∧ Cl.need m ≤ 2 := by
  have := Cl.need_pos (n := m) h1 (by omega)
  omega
theorem total_98 {rs : List (List Nat)} (h : ∀ r ∈ rs, 1 ≤ r.length ∧ r.length ≤ 98) : SegSt.total rs ≤ 2 * rs.length := by
  induction rs with
  | nil => exact Nat.le_refl _
  | cons r l ih =>
    rw [SegSt.total_cons, List.length_cons]
    have h1 := h r (List.mem_cons_self ..)
    have h2 := need_98 h1.1 h1.2
    have h3 := ih fun x hx => h x (List.mem_cons_of_mem _ hx)
    omega
theorem BArg.take_ {w : World} {A : Option Addr} {n c k : Nat} {xs : List BEl} (h : BArg w A n c xs) (hk : k ≤ n) : BArg w A k c (xs.take k) := by
  have hl := h.len
  refine ⟨by rw [List.length_take]; omega, fun hk0 => ?_, fun x hx => h.ok x (List.mem_of_mem_take hx)⟩
  obtain ⟨b, o, e, hb, hc⟩ := h.at_ (by omega)
  refine ⟨b, o, e, hb, fun j x hx => hc j x ?_⟩
  rw [List.getElem?_take] at hx
  split at hx
  · exact hx
  · cases hx
theorem torn_up {s : DSt} {k : Nat} {z : List Nat} (hd : s.down = false) (hs : s.stop = 0) (hp : s.pend = []) (hk : k < s.sure.length) (hz : z.length = 64) : ((s.write (k : Int) z).1.up [2]).sure = s.sure.set k [] := by
  have hh : (s.has (k : Nat) && decide (z.length = 64)) = true := by
    have h1 : s.has (k : Nat) = true := decide_eq_true ⟨by omega, by omega⟩
    rw [h1, hz]; rfl
  rw [DSt.write_ok hd hh (SegSt.goes_no hd hs)]
  show DSt.layBy s.sure (s.pend ++ [(((k : Nat) : Int).toNat, z)]) [2] = _
  rw [hp, Int.toNat_natCast]
  rfl
theorem BArg.rd {w : World} {A : Option Addr} {n c : Nat} {xs : List BEl} (h : BArg w A n c xs) (hc : n ≤ c) : Rd w A n c (xs.map BEl.v) :=
  ⟨by rw [List.length_map]; exact h.len, hc, fun hn => by
    obtain ⟨b, o, e, hb, hc⟩ := h.at_ hn
    refine ⟨b, o, e, hb, fun j u hu => ?_⟩
    rw [List.getElem?_map] at hu
    obtain ⟨x, hx, rfl⟩ := Option.map_eq_some_iff.1 hu
    exact hc j x hx⟩
theorem wpList_unguard {P : Program} {ops : Array Oper} {rest : List Oper} {o : Oper} {a : Act} {w : World} {Q : Exit → Act → World → Prop} (hw : Region.wanted o (yielded ops a.tmps) = true) (h : wpList P ops Q ({ o with guard := none } :: rest) a w) : wpList P ops Q (o :: rest) a w := by
  show (if Region.wanted o (yielded ops a.tmps) then _ else _)
  rw [if_pos hw]
  exact h
set_option maxRecDepth 100000 in
set_option maxHeartbeats 12800000 in
theorem segTorn_any (A : Option Addr) (m c : Nat) (l : List Nat) (a : Nat) (w : World) (hr : Ints w .u8 256 A m c l) (hm : m ≤ maxLen) (ha : a < 256) :
    Calls Tryd.prog 4 #[.slice A m c, .int .u8 (a : Int)] w fun e w' => e = .returned (.bool true) ∧ Below w.heap.size w w' := by
  have hmi : (m : Int) ≤ 9223372036854775807 := by unfold maxLen at hm; omega
  have HR := Lib.hid hr
  clear hr hm
  by_cases hbig : 20 < m
  · have q1 : (20 : Int) < (m : Int) := by omega
    have q1d : decide ((20 : Int) < (m : Int)) = true := decide_eq_true q1
    clear hbig
    go_enter Tryd.func4, Tryd.ntmps4
    go_wp2_with fail
    refine (awake7_any _).mono ?_; rintro e w1 ⟨rfl, hb1⟩
    go_wp2_with fail
    refine (we_new (w0 := w) 60 (by omega) (by omega) _ hb1).mono ?_; rintro e w2 ⟨g, rfl, E⟩
    have HB := Lib.hid E.bel
    clear E
    go_wp2_with fail
    go_ret
    exact ⟨rfl, HB.out⟩
  have q1 : ¬ (20 : Int) < (m : Int) := by omega
  have q1d : decide ((20 : Int) < (m : Int)) = false := decide_eq_false q1
  have hm20 : m ≤ 20 := by omega
  obtain ⟨hs1, hu1⟩ := SegSt.new_up (D := 60) (n := 60) (first := 0) (gen := 1) (by omega) (by omega) 0 4294967295
  have hok0 : SegSt.Ok (DSt.new 60) ⟨0, 60, 1, 0, 4294967295⟩ := ⟨by show 1 ≤ 60; omega, by rw [new_length]; show 0 + 60 ≤ 60; omega, Nat.zero_le _, by show 4294967295 ≤ 4294967295; omega, by show 1 < 4294967296; omega⟩
  have HP := Lib.hid (And.intro hs1 (And.intro hu1 hok0))
  clear hs1 hu1 hok0 hbig
  go_enter Tryd.func4, Tryd.ntmps4
  go_wp2_with fail
  refine (awake7_any _).mono ?_; rintro e w1 ⟨rfl, hb1⟩
  go_wp2_with fail
  refine (we_new (w0 := w) 60 (by omega) (by omega) _ hb1).mono ?_; rintro e w2 ⟨g, rfl, E⟩
  clear hb1
  go_wp2_with fail
  clear q1 q1d
  refine (segnew_we E 0 60 1 (by omega) (by rw [new_length]; omega) (by omega)).mono ?_; rintro e w3 ⟨h, rfl, _, E3, _⟩
  clear E
  go_wp2_with fail
  refine (scan_we E3 0 rfl HP.out.2.2).mono ?_
  rintro e w4 ⟨A4, c4, xs4, rfl, E4, hx4⟩
  rw [HP.out.1] at E4 hx4 ⊢
  obtain rfl : xs4 = [] := List.map_eq_nil_iff.1 hx4
  have E5 := ((E4.pick (bl' := [segB h g ⟨0, 60, 1, 0, 0⟩]) (ys' := []) (rd' := []) (.refl _) (.cons _ (.refl _)) (fun _ h => h)).nil (ty := 3) 1 (by decide)).nil (ty := 22) 1 (by decide)
  clear E3 E4 hx4
  go_wp2_with fail
  go_loopw [9, 10, 11, 12] (fun av ev uv iv wr => ∃ (j us : Nat) (A1 : Option Addr) (c1 : Nat) (A2 : Option Addr) (c2 : Nat) (xs : List BEl) (es : List Nat), j ≤ m ∧ iv = .int .i64 (j : Int) ∧ uv = .int .i64 (us : Int) ∧ av = .slice A1 xs.length c1 ∧ ev = .slice A2 es.length c2 ∧
      WE w wr g (DSt.new 60) [segB h g ⟨0, 60, 1, 0, 0⟩] [⟨22, 1, A1, xs.length, c1, xs.map BEl.v⟩, ⟨3, 1, A2, es.length, c2, es.map fun e : Nat => .int .i64 (e : Int)⟩] xs ∧ xs.length = j ∧ Ends es (xs.map (·.l)) ∧ us = SegSt.total (xs.map (·.l)) ∧ ∀ x ∈ xs, 1 ≤ x.n ∧ x.n ≤ 98) (fun _ _ _ iv _ => m - (intOf iv).toNat)
  case atStart => exact ⟨0, 0, none, 0, none, 0, [], [], Nat.zero_le _, rfl, rfl, rfl, rfl, E5, rfl, Ends.nil, rfl, fun _ h => by cases h⟩
  case round =>
    obtain ⟨j, us, A1, c1, A2, c2, xs, es, hj, rfl, rfl, rfl, rfl, E, hxj, hends, hus, hx98⟩ := hrel
    clear E5
    have hus40 : us ≤ 40 := by
      have h1 := total_98 (rs := xs.map (·.l)) (fun r hr => by
        obtain ⟨x, hx, rfl⟩ := List.mem_map.1 hr
        have h2 := (E.rdm hx).len
        have h3 := hx98 x hx
        omega)
      rw [List.length_map] at h1
      omega
    have hel : es.length = j := by rw [hends.len, List.length_map, hxj]
    have HI := Lib.hid (And.intro hends (And.intro hus hx98))
    clear hends hus hx98
    by_cases hlt : j < m
    · have hlt1 : (j : Int) < (m : Int) := by omega
      have hxl20 : xs.length ≤ 20 := by omega
      have hel20 : es.length ≤ 20 := by omega
      have HJ := Lib.hid (And.intro hxj hel)
      clear hxj hel
      have hj0 : (0 : Int) ≤ (j : Int) := by omega
      obtain ⟨ba, o, z, rfl, _, hzx, hz256, hcz⟩ := (HR.out.below E.bel).get hlt
      obtain ⟨z1, hz1⟩ : ∃ z1, z % 98 = z1 := ⟨_, rfl⟩
      obtain ⟨q, hq⟩ : ∃ q, 1 + z1 = q := ⟨_, rfl⟩
      have hzi : (z : Int) % 98 = (z1 : Int) := by omega
      have hqi : 1 + (z1 : Int) = (q : Int) := by omega
      have hq1 : 1 ≤ q := by omega
      have hq2 : q ≤ 98 := by omega
      have hq0 : (0 : Int) < (q : Int) := by omega
      have hjw : IntKind.u8.wrap (j : Int) = (j : Int) := by rw [IntKind.wrap_u8]; omega
      have hqb : q ≤ 281474976710656 := by omega
      have hjb : j < 256 := by omega
      have HE := Lib.hid E
      clear E hzx hq hz1
      go_upto_region 17 with (at_make; refine wpList_mkB rfl _ _ rfl q rfl rfl rfl rfl hqb wr.heap.size (Nat.le_refl _) ?_; intro w5 ho5 hg5)
      obtain ⟨B5, hB5⟩ : ∃ B, wr.heap.size = B := ⟨_, rfl⟩
      rw [hB5] at ho5 ⊢
      obtain ⟨x5, hx5, e5, _, _, _, _, hc5, hf5⟩ := ho5.get hq1
      cases e5
      have ho6 := ho5.stored 0 j hjb
      have HO := Lib.hid (And.intro ho6 (And.intro hg5 hB5))
      clear ho5 ho6 hg5 hB5
      go_upto_region 18 with (fail)
      have hb6 : Below wr.heap.size wr (w5.setCell ⟨B5, 0, none⟩ (.int .u8 (j : Int))) := ((Below.refl wr.heap.size wr).grown HO.out.2.1 (Nat.le_refl _) (fun k e => by cases e)).setCell (p := ⟨B5, 0, none⟩) (by rw [HO.out.2.2]; exact Nat.le_refl _) _
      have ho6 := HO.out.1
      have E7 := (HE.out.below hb6).see (FarB.of_own ho6)
      have hi6 := ho6.ints
      clear hb6 hc5 hf5
      generalize World.setCell _ _ _ = w6 at *
      obtain ⟨br, hbr⟩ : ∃ br, (List.replicate q 0).set 0 j = br := ⟨_, rfl⟩
      rw [hbr] at E7 hi6 ho6
      have hbl : br.length = q := by rw [← hbr]; simp
      have HB := Lib.hid hbl
      clear HO ho6 hbr hbl HE hcz hqi hzi
      go_wp2_with fail
      refine (rneed_any (q : Int) _ (by omega) (by omega)).mono ?_; rintro e w7 ⟨rfl, rfl⟩
      rw [Int.toNat_natCast]
      obtain ⟨nd, hnd⟩ : ∃ nd, Cl.need q = nd := ⟨_, rfl⟩
      have hnd1 := need_98 hq1 hq2
      rw [hnd] at hnd1 ⊢
      obtain ⟨un, hun⟩ : ∃ un, us + nd = un := ⟨_, rfl⟩
      have huni : (us : Int) + (nd : Int) = (un : Int) := by omega
      have hun42 : un ≤ 42 := by omega
      have hrow := (E7.row 0 rfl).alloc (.cells #[.slice (some ⟨B5, 0, none⟩) q q] 22)
      dsimp only at hrow
      have hcs := cells_new w6 #[.slice (some ⟨B5, 0, none⟩) q q] 22 (g := w6.heap.size) rfl
      have hbs2 : w.heap.size ≤ (w6.alloc (.cells #[.slice (some ⟨B5, 0, none⟩) q q] 22)).heap.size := by rw [World.size_alloc]; have := E7.size; omega
      have HE7 := Lib.hid (And.intro (E7.alloc (.cells #[.slice (some ⟨B5, 0, none⟩) q q] 22)) (And.intro hnd hun))
      clear E7 hi6 hnd hun hnd1
      go_upto_region 20 with (at_builtin; refine wpList_appR _ rfl (.tmp 68) (.tmp 70) 32 rfl 22 (.slice none 0 0) 1 24 Tryd.underlying32 binfo rfl (by omega) (by omega) rfl hrow (ad := ⟨w6.heap.size, 0, none⟩) (m := 1) (c' := 1) [.slice (some ⟨B5, 0, none⟩) q q] rfl rfl hcs (by intro u hu; rw [List.mem_singleton] at hu; subst hu; rfl) (by omega) hbs2 ?_; intro A10 c10 w10 hown hg10 hA10)
      have E11 := HE7.out.1.app2 (x := ⟨some ⟨B5, 0, none⟩, q, q, br⟩) hown hg10 hA10
      clear hrow hcs hown hg10 hA10 hbs2
      have hrow := (E11.row 1 rfl).alloc (.cells #[.int .i64 (un : Int)] 3)
      dsimp only at hrow
      have hcs := cells_new w10 #[.int .i64 (un : Int)] 3 (g := w10.heap.size) rfl
      have hbs2 : w.heap.size ≤ (w10.alloc (.cells #[.int .i64 (un : Int)] 3)).heap.size := by rw [World.size_alloc]; have := E11.size; omega
      have HE11 := Lib.hid (E11.alloc (.cells #[.int .i64 (un : Int)] 3))
      clear E11
      go_upto_region 15 with (at_builtin; refine wpList_appR _ rfl (.tmp 72) (.tmp 74) 40 rfl 3 (.int .i64 0) 1 8 Tryd.underlying40 intinfo rfl (by omega) (by omega) rfl hrow (ad := ⟨w10.heap.size, 0, none⟩) (m := 1) (c' := 1) [.int .i64 (un : Int)] rfl rfl hcs (by intro u hu; rw [List.mem_singleton] at hu; subst hu; rfl) (by omega) hbs2 ?_; intro A12 c12 w12 hown hg12 hA12)
      have E13 := HE11.out.app 1 rfl hown hg12 hA12
      clear hrow hcs hown hg12 hA12 HE11 hbs2
      have hl13 : (es ++ [un]).length = es.length + 1 := by rw [List.length_append]; rfl
      have E14 : WE w w12 g (DSt.new 60) [segB h g ⟨0, 60, 1, 0, 0⟩] [⟨22, 1, A10, (xs ++ [(⟨some ⟨B5, 0, none⟩, q, q, br⟩ : BEl)]).length, c10, (xs ++ [(⟨some ⟨B5, 0, none⟩, q, q, br⟩ : BEl)]).map BEl.v⟩, ⟨3, 1, A12, (es ++ [un]).length, c12, (es ++ [un]).map fun e : Nat => .int .i64 (e : Int)⟩] (xs ++ [(⟨some ⟨B5, 0, none⟩, q, q, br⟩ : BEl)]) := by
        rw [hl13, List.map_append (l₁ := es)]
        refine E13.pick (.refl _) (.refl _) (fun y hy => ?_)
        simp only [List.mem_append, List.mem_cons, List.not_mem_nil, or_false] at hy ⊢
        rcases hy with h | h
        · exact .inr h
        · exact .inl h
      clear E13
      have htot : un = SegSt.total ((xs ++ [(⟨some ⟨B5, 0, none⟩, q, q, br⟩ : BEl)]).map (·.l)) := by
        rw [List.map_append, List.map_singleton, total_snoc, ← HI.out.2.1, HB.out, HE7.out.2.1, HE7.out.2.2]
      have hends2 : Ends (es ++ [un]) ((xs ++ [(⟨some ⟨B5, 0, none⟩, q, q, br⟩ : BEl)]).map (·.l)) := by
        have h := HI.out.1.snoc br
        rw [htot, List.map_append, List.map_singleton]
        exact h
      have hx2 : ∀ x ∈ xs ++ [(⟨some ⟨B5, 0, none⟩, q, q, br⟩ : BEl)], 1 ≤ x.n ∧ x.n ≤ 98 := fun x hx => by
        rcases List.mem_append.1 hx with hx | hx
        · exact HI.out.2.2 x hx
        · rw [List.mem_singleton] at hx; subst hx; exact ⟨hq1, hq2⟩
      have hxl2 : (xs ++ [(⟨some ⟨B5, 0, none⟩, q, q, br⟩ : BEl)]).length = j + 1 := by rw [List.length_append, HJ.out.1]; rfl
      have hll : xs.length + 1 = (xs ++ [(⟨some ⟨B5, 0, none⟩, q, q, br⟩ : BEl)]).length := by rw [List.length_append]; rfl
      rw [hll, ← hl13]
      have HF := Lib.hid (And.intro E14 (And.intro hxl2 (And.intro hends2 (And.intro htot hx2))))
      clear E14 hl13 htot hends2 hx2 hxl2 hll HI HE7 huni
      go_wp2_with fail
      go_roundw
      case rel => exact ⟨j + 1, un, A10, c10, A12, c12, _, _, by omega, by go_num, rfl, rfl, rfl, HF.out.1, HF.out.2.1, HF.out.2.2.1, HF.out.2.2.2.1, HF.out.2.2.2.2⟩
      case measure => simp [intOf]; omega
    · obtain rfl : j = m := by omega
      have hlt1 : ¬ (j : Int) < (j : Int) := by omega
      have hlt1d : decide ((j : Int) < (j : Int)) = false := decide_eq_false hlt1
      have hR := barg_of (E.row 0 rfl) (fun x hx => E.rdm hx)
      dsimp only at hR
      obtain ⟨rs, hrs⟩ : ∃ rs, xs.map (·.l) = rs := ⟨_, rfl⟩
      have hrl : rs.length = j := by rw [← hrs, List.length_map, hxj]
      have hr98 : ∀ r ∈ rs, 1 ≤ r.length ∧ r.length ≤ 98 := fun r hr => by
        rw [← hrs] at hr
        obtain ⟨x, hx, rfl⟩ := List.mem_map.1 hr
        have h2 := (E.rdm hx).len
        have h3 := HI.out.2.2 x hx
        omega
      have hrb : ∀ r ∈ rs, ∀ c ∈ r, c < 256 := fun r hr => by
        rw [← hrs] at hr
        obtain ⟨x, hx, rfl⟩ := List.mem_map.1 hr
        exact (E.rdm hx).lt
      have hgd : SegSt.good rs = true := SegSt.good_iff.2 fun r hr => by have h1 := hr98 r hr; rw [ne_eq, Cl.need_iff]; omega
      have ht40 := total_98 hr98
      have hends := HI.out.1
      rw [hrs] at hends
      obtain ⟨z1, z2, z3, z4⟩ := HP.out.2.1.add hgd (by show 0 + _ ≤ 60; omega) (by show 0 + _ ≤ 4294967295; omega) hrb
      have hln : (SegSt.add (DSt.new 60) ⟨0, 60, 1, 0, 0⟩ rs).1.sure.length = 60 := (SegSt.kept_add HP.out.2.1.kept hrb).2.2.2.2.1.trans (new_length 60)
      have hA := add_we E 0 rfl (segOk_up HP.out.2.1 (by show 1 ≤ 60; omega)) hR (by omega) (fun x hx => by have := HI.out.2.2 x hx; omega) (by show 0 ≤ _; omega) (by show 0 ≤ _; omega)
      rw [hrs] at hA
      generalize SegSt.add (DSt.new 60) ⟨0, 60, 1, 0, 0⟩ rs = AD at *
      obtain ⟨s1, t1, cd1⟩ := AD
      dsimp only at z1 z2 z3 z4 hA hln
      subst z1 z2
      have HA := Lib.hid hA
      have HZ := Lib.hid (And.intro z3 (And.intro z4 (And.intro hr98 (And.intro hrb (And.intro hends (And.intro hrs (And.intro HI.out.2.2 (And.intro ht40 hln))))))))
      have HJ := Lib.hid (And.intro hxj (And.intro hel hrl))
      clear hA hln z3 z4 hr98 hrb hends hrs hgd ht40 hR E HI hxj hel hrl
      go_wp2_with fail
      refine HA.out.mono ?_; rintro e w5 ⟨rfl, E⟩
      have E := E.setEq (bl' := [segB h g ⟨0, 60, 1, 0 + SegSt.total rs, 0 + rs.length⟩]) rfl
      obtain ⟨tt, htt⟩ : ∃ tt, 0 + SegSt.total rs = tt := ⟨_, rfl⟩
      obtain ⟨tl, htl⟩ : ∃ tl, 0 + rs.length = tl := ⟨_, rfl⟩
      have hU1 := HZ.out.1
      rw [htt, htl] at E hU1
      have htt40 : tt ≤ 40 := by have := HZ.out.2.2.2.2.2.2.2.1; have := HJ.out.2.2; omega
      have htl20 : tl ≤ 20 := by have := HJ.out.2.2; omega
      have HU1 := Lib.hid hU1
      clear hU1 HA htt htl
      obtain ⟨kk, hkk⟩ : ∃ kk, a % 60 = kk := ⟨_, rfl⟩
      have hki : (a : Int) % 60 = (kk : Int) := by omega
      have hk60 : kk < 60 := by omega
      clear hkk
      have HE := Lib.hid E
      have HB1 := Lib.hid E.bytes
      clear E
      go_wp2_with (at_make; refine wpList_mkB rfl _ _ rfl 64 rfl rfl rfl rfl (by omega) w5.heap.size (Nat.le_refl _) ?_; intro w6 ho6 hg6)
      have hb6 : Below w5.heap.size w5 w6 := (Below.refl w5.heap.size w5).grown hg6 (Nat.le_refl _) (fun k e => by cases e)
      have E := HE.out.below hb6
      have hbg1 : s1.begun ≤ 100 := by have h : s1.begun ≤ 0 + 60 + 1 := HZ.out.2.1; omega
      have hpe1 := HU1.out.kept.pend
      have hlen1 := HZ.out.2.2.2.2.2.2.2.2
      refine (dwrite_we E (kk : Int) ho6 (by omega) (by omega) (by rw [hpe1]; show (0 : Nat) < _; omega)).mono ?_; rintro e w7 ⟨rfl, E7⟩
      generalize (s1.write (kk : Int) (List.replicate 64 0)).2 = cw at *
      clear HE E hb6 ho6 hg6 hki
      go_wp2_with fail
      refine (dup_we (E7.alloc (.cells #[.int .u8 ((2 : Nat) : Int)] 5)) (int1_blk (Blk.new w7 5 #[.int .u8 ((2 : Nat) : Int)]) (by omega) (Nat.le_refl 1)) (by omega)).mono ?_
      rintro e w8 ⟨⟨vu, rfl⟩, E8⟩
      have hsu := torn_up (k := kk) HU1.out.kept.down HU1.out.stop hpe1 (by omega) (show (List.replicate 64 0).length = 64 by simp)
      obtain ⟨s3, hs3⟩ : ∃ s3, (s1.write (kk : Int) (List.replicate 64 0)).1.up [2] = s3 := ⟨_, rfl⟩
      have hd3 : s3.down = false := by rw [← hs3]; rfl
      have hp3 : s3.pend = [] := by rw [← hs3]; rfl
      have hst3 : s3.stop = 0 := by rw [← hs3]; rfl
      have hbg3 : s3.begun = 0 := by rw [← hs3]; rfl
      rw [hs3] at E8 hsu
      have H3 := Lib.hid (And.intro hsu (And.intro hd3 (And.intro hp3 (And.intro hst3 (And.intro hbg3 hlen1)))))
      clear hs3 hsu hd3 hp3 hst3 hbg3 E7 hlen1 hpe1 hbg1
      have hbyt1 : True := trivial
      have E := E8
      clear E8
      have hel20 : es.length ≤ 20 := by have := HJ.out.2.1; omega
      have HEE := Lib.hid E
      clear E
      go_wp2_with fail
      go_loopw [15] (fun nv wr => ∃ n : Nat, n ≤ es.length ∧ nv = .int .i64 (n : Int) ∧ wr = w8 ∧ SegSt.total (rs.take n) ≤ kk) (fun nv _ => es.length - (intOf nv).toNat)
      case atStart => exact ⟨0, Nat.zero_le _, rfl, rfl, Nat.zero_le _⟩
      case round =>
        obtain ⟨n, hn, rfl, rfl, hnk⟩ := hrel
        have HNK := Lib.hid hnk
        clear hnk
        by_cases hgo : n < es.length ∧ SegSt.total (rs.take (n + 1)) ≤ kk
        · obtain ⟨h1, h2⟩ := hgo
          have hrow := HEE.out.row 1 rfl
          dsimp only at hrow
          obtain ⟨e, he⟩ : ∃ e, es[n]? = some e := ⟨_, List.getElem?_eq_getElem h1⟩
          have hee := HZ.out.2.2.2.2.1.at_ n e he
          obtain ⟨ge, hge, _, _, hce, _⟩ := hrow.get (show (es.map fun e : Nat => Value.int .i64 (e : Int))[n]? = some (.int .i64 (e : Int)) by rw [List.getElem?_map, he]; rfl)
          subst hge
          have hlt1 : (n : Int) < (es.length : Int) := by omega
          have hle1 : (e : Int) ≤ (kk : Int) := by rw [hee]; omega
          have hle1d : decide ((e : Int) ≤ (kk : Int)) = true := decide_eq_true hle1
          have hn0 : (0 : Int) ≤ (n : Int) := by omega
          have HL := Lib.hid h2
          clear hrow he hee h2
          go_wp2_with fail
          go_roundw
          case rel => exact ⟨n + 1, by omega, by go_num, trivial, HL.out⟩
          case measure => simp [intOf]; omega
        · have hn2 : n < rs.length → kk < SegSt.total (rs.take (n + 1)) := fun h1 => by
            rcases Nat.lt_or_ge kk (SegSt.total (rs.take (n + 1))) with h2 | h2
            · exact h2
            · exact absurd ⟨by have := HZ.out.2.2.2.2.1.len; omega, h2⟩ hgo
          have HN2 := Lib.hid (And.intro hn2 HNK.out)
          clear hn2 HNK
          go_upto_region 27 with (fail)
          go_cut [101] (fun s101 wx => s101 = .bool false ∧ wx = wr)
          case first =>
            by_cases h1 : n < es.length
            · have hrow := HEE.out.row 1 rfl
              dsimp only at hrow
              obtain ⟨e, he⟩ : ∃ e, es[n]? = some e := ⟨_, List.getElem?_eq_getElem h1⟩
              have hee := HZ.out.2.2.2.2.1.at_ n e he
              obtain ⟨ge, hge, _, _, hce, _⟩ := hrow.get (show (es.map fun e : Nat => Value.int .i64 (e : Int))[n]? = some (.int .i64 (e : Int)) by rw [List.getElem?_map, he]; rfl)
              subst hge
              have hlt1 : (n : Int) < (es.length : Int) := by omega
              have hle1 : ¬ (e : Int) ≤ (kk : Int) := by
                have h2 := HN2.out.1 (by have := HZ.out.2.2.2.2.1.len; omega)
                rw [← hee] at h2
                omega
              have hle1d : decide ((e : Int) ≤ (kk : Int)) = false := decide_eq_false hle1
              have hn0 : (0 : Int) ≤ (n : Int) := by omega
              clear hrow he hee hgo h1
              go_wp2_with fail
              go_meet
              exact ⟨rfl, rfl⟩
            · have hlt1 : ¬ (n : Int) < (es.length : Int) := by omega
              have hlt1d : decide ((n : Int) < (es.length : Int)) = false := decide_eq_false hlt1
              clear hgo h1
              go_wp2_with fail
              go_meet
              exact ⟨rfl, rfl⟩
          case rest =>
            obtain ⟨rfl, rfl⟩ := hcut
            obtain ⟨k1, k2, k3, k4, k5, k6⟩ := SegSt.torn_kept (s := s1) (s3 := s3) (t := ⟨0, 60, 1, tt, tl⟩) (rs := rs) (k := kk) (n := n) (by have h := HU1.out; rwa [List.nil_append] at h) rfl (by rw [H3.out.2.2.2.2.2]; omega) H3.out.1 H3.out.2.1 H3.out.2.2.1 H3.out.2.2.2.1 HB1.out (by have := HZ.out.2.2.2.2.1.len; omega) HN2.out.2 HN2.out.1
            have hok3 : SegSt.Ok s3 ⟨0, 60, 1, tt, tl⟩ := ⟨by show 1 ≤ 60; omega, by show 0 + 60 ≤ s3.sure.length; rw [H3.out.1, List.length_set, H3.out.2.2.2.2.2]; omega, by show tt ≤ 60; omega, by show tl ≤ 4294967295; omega, by show 1 < 4294967296; omega⟩
            have hsc := scan_we HEE.out 0 rfl hok3
            unfold ScanPost at hsc
            rw [k1_ k1] at hsc
            generalize (SegSt.scan s3 ⟨0, 60, 1, tt, tl⟩).1 = t4 at *
            dsimp only at hsc
            obtain ⟨a4, b4, g4, f4, p4⟩ := t4
            dsimp only at k3 k4 k5 k6
            obtain rfl : a4 = 0 := k3
            obtain rfl : b4 = 60 := k4
            obtain rfl : g4 = 1 := k5
            have hf4 : f4 = SegSt.total (rs.take n) := SegSt.fin_all k2.kept
            have hf40 : f4 ≤ 40 := by
              have h1 := SegSt.total_take_mono rs (i := n) (j := rs.length) (by have := HZ.out.2.2.2.2.1.len; omega)
              rw [List.take_length] at h1
              have h2 := HZ.out.2.2.2.2.2.2.2.1
              have := HJ.out.2.2
              omega
            have hS := Lib.hid hsc
            have HK := Lib.hid k2
            have hj3 := HJ.out.2.1
            have hp4 : p4 ≤ 20 := by omega
            clear hj3
            clear hsc k1 k2 k6 hok3 HEE hf4 hgo
            go_wp2_with fail
            refine hS.out.mono ?_
            rintro e w9 ⟨A5, c5, xs5, rfl, E9, hx5⟩
            have hl5 : xs5.length = n := by
              have := congrArg List.length hx5
              rw [List.length_map, List.length_take] at this
              have := HZ.out.2.2.2.2.1.len
              omega
            have h985 : ∀ x ∈ xs5, x.n ≤ 98 := fun x hx => by
              have h1 := (E9.rdm (x := x) (List.mem_append_left _ hx)).len
              have h2 : x.l ∈ xs5.map (·.l) := List.mem_map.2 ⟨x, hx, rfl⟩
              rw [hx5] at h2
              have h3 := HZ.out.2.2.1 _ (List.mem_of_mem_take h2)
              omega
            rw [hl5] at E9 ⊢
            have E10 := (E9.alloc (.cells #[.int .u8 ((9 : Nat) : Int)] 5)).alloc (.cells #[.slice (some ⟨w9.heap.size, 0, none⟩) 1 1] 22)
            have hok4 := segOk_up HK.out (by show 1 ≤ 60; omega)
            have hgd9 : SegSt.good [[9]] = true := rfl
            obtain ⟨z1, z2, z3, z4⟩ := HK.out.add hgd9 (by show f4 + 1 ≤ 60; omega) (by show p4 + 1 ≤ 4294967295; omega) (fun r hr c hc => by
              rw [List.mem_singleton] at hr; subst hr
              rw [List.mem_singleton] at hc; omega)
            have hA := add_we E10 0 rfl hok4 (lit1 w9 (a := 9) (by omega)) (by omega) (fun x hx => by rw [List.mem_singleton] at hx; subst hx; show (1 : Nat) ≤ _; decide) (by rw [H3.out.2.2.2.2.1]; exact Nat.zero_le _) (by rw [H3.out.2.2.1]; exact Nat.zero_le _)
            simp only [List.map_cons, List.map_nil] at hA
            generalize SegSt.add s3 ⟨0, 60, 1, f4, p4⟩ [[9]] = AD at *
            obtain ⟨s5, t5, cd5⟩ := AD
            dsimp only at z1 z2 z3 z4 hA
            subst z1 z2
            have HA := Lib.hid hA
            have HX5 := Lib.hid (And.intro hx5 h985)
            clear hA E9 E10 hok4 hgd9 hS HK hx5 h985
            go_wp2_with fail
            refine HA.out.mono ?_; rintro e w10 ⟨rfl, E11⟩
            obtain ⟨j1, j2, _, _, _⟩ := SegSt.kept_scan z3.kept E11.bytes
            have hok5 := segOk_up z3 (by show 1 ≤ 60; omega)
            have hsc := scan_we E11 0 rfl hok5
            unfold ScanPost at hsc
            rw [k1_ j1] at hsc
            generalize (SegSt.scan s5 _).1 = t6 at hsc
            dsimp only at hsc
            have hS := Lib.hid hsc
            clear hsc j1 j2 hok5 E11 HA z3 z4
            go_wp2_with fail
            refine hS.out.mono ?_
            rintro e w11 ⟨A6, c6, xs6, rfl, E12, hx6⟩
            have hl6 : xs6.length = n + 1 := by
              have := congrArg List.length hx6
              rw [List.length_map, List.length_append, List.length_take] at this
              simp at this
              have := HZ.out.2.2.2.2.1.len
              omega
            have h986 : ∀ x ∈ xs6, x.n ≤ 98 := fun x hx => by
              have h1 := (E12.rdm (x := x) (List.mem_append_left _ hx)).len
              have h2 : x.l ∈ xs6.map (·.l) := List.mem_map.2 ⟨x, hx, rfl⟩
              rw [hx6] at h2
              rcases List.mem_append.1 h2 with h2 | h2
              · have h3 := HZ.out.2.2.1 _ (List.mem_of_mem_take h2)
                omega
              · rw [List.mem_singleton] at h2
                rw [h2] at h1
                have h1 : 1 = x.n := h1
                omega
            rw [hl6] at E12 ⊢
            have hI6 : BImg w11 A6 (n + 1) c6 (rs.take n ++ [[9]]) := by
              have h := (barg_of (E12.row 0 rfl) (fun x hx => E12.rdm (List.mem_append_left _ hx))).img (by show n + 1 ≤ 140737488355328; omega) (fun x hx => by have := h986 x hx; omega)
              rwa [hx6] at h
            have hI5 : BImg w11 A5 n c5 (rs.take n) := by
              have h := (barg_of (E12.row 1 rfl) (fun x hx => E12.rdm (List.mem_append_right _ (List.mem_append_left _ hx)))).img (by show n ≤ 140737488355328; omega) (fun x hx => by have := HX5.out.2 x hx; omega)
              rwa [HX5.out.1] at h
            have hB1 := (barg_of (E12.row 2 rfl) (fun x hx => E12.rdm (List.mem_append_right _ (List.mem_append_right _ hx))))
            dsimp only at hB1
            have hB2 := hB1.take_ (k := n) (by have := HJ.out.1; have := HJ.out.2.1; omega)
            have hI1 : BImg w11 A1 n c1 (rs.take n) := by
              have h := hB2.img (by omega) (fun x hx => by have := HZ.out.2.2.2.2.2.2.1 x (List.mem_of_mem_take hx); omega)
              rwa [List.map_take, HZ.out.2.2.2.2.2.1] at h
            have hcap : n ≤ c1 := by have h1 := (E12.row 2 rfl).cap; dsimp only at h1; have := HJ.out.1; have := HJ.out.2.1; omega
            have hci : (n : Int) ≤ (c1 : Int) := by omega
            have hn0 : (0 : Int) ≤ (n : Int) := by omega
            have HI6 := Lib.hid (And.intro hI6 (And.intro hI5 (And.intro hI1 (And.intro hB2 E12))))
            have HX6 := Lib.hid (And.intro hx6 h986)
            clear hI6 hI5 hI1 hB1 hB2 E12 h986 hx6 hS HX5
            go_wp2_with fail
            refine (alike_same HI6.out.2.1 HI6.out.2.2.1).mono ?_; rintro e w12 ⟨⟨q12, hw12⟩, rfl⟩
            have hb12 : Below w11.heap.size w11 w12 := by rw [hw12]; exact ((Moved.refl w11 []).drewN q12).below0
            have HE13 := Lib.hid (HI6.out.2.2.2.2.below hb12)
            clear HI6 hb12 hw12
            have EA := HE13.out.fresh ((Below.refl w12.heap.size w12).alloc (Nat.le_refl _) (.cells #[] 22)) (OwnR.empty (base := w12.heap.size) 22 1 rfl (Nat.le_refl _)) (by decide)
            have hOwn : Own (w12.alloc (.cells #[] 22)) w.heap.size 22 (some ⟨w12.heap.size, 0, none⟩) 0 0 [] := ⟨(EA.row 0 rfl).row⟩
            have hB3 := barg_of (EA.row 3 rfl) (fun x hx => EA.rdm (List.mem_append_right _ (List.mem_append_right _ hx)))
            dsimp only at hB3
            have hRd := (hB3.take_ (k := n) (by have := HJ.out.1; have := HJ.out.2.1; omega)).rd hcap
            have hbsA := EA.size
            obtain ⟨ps, hps⟩ : ∃ ps, xs.take n = ps := ⟨_, rfl⟩
            rw [hps] at hRd
            have hpl : ps.length = n := by have := hRd.len; rwa [List.length_map] at this
            have HEA := Lib.hid (And.intro EA (And.intro hps (And.intro hpl (And.intro hOwn (And.intro hRd hbsA)))))
            clear EA hB3 hps hpl hOwn hRd hbsA
            go_wp2_with first | (at_builtin; refine wpList_unguard rfl ?_; refine wpList_app _ rfl (.tmp 137) (.tmp 140) 32 rfl 22 (.slice none 0 0) 24 Tryd.underlying32 binfo rfl (by omega) w.heap.size (some ⟨w12.heap.size, 0, none⟩) 0 0 [] rfl HEA.out.2.2.2.1 A1 n c1 _ rfl HEA.out.2.2.2.2.1 (fun u hu => by obtain ⟨x, _, rfl⟩ := List.mem_map.1 hu; rfl) (by omega) HEA.out.2.2.2.2.2 ?_; intro A14 c14 w14 ho14 hg14 hA14; have E15 := HEA.out.1.app 0 rfl ⟨ho14.row⟩ hg14 hA14; simp only [Nat.zero_add, List.nil_append] at E15; have hbk := Blk.new w14 5 #[.int .u8 ((9 : Nat) : Int)]; have hf : FarB (w14.alloc (.cells #[.int .u8 ((9 : Nat) : Int)] 5)) w.heap.size (⟨some ⟨w14.heap.size, 0, none⟩, 1, 1, [9]⟩ : BEl) := ⟨int1_blk hbk (by omega) (Nat.le_refl 1), fun hn ad e => by cases e; exact .inr ⟨_, hbk⟩⟩; have E17 := ((E15.alloc (.cells #[.int .u8 ((9 : Nat) : Int)] 5)).see hf).alloc (.cells #[.slice (some ⟨w14.heap.size, 0, none⟩) 1 1] 22); have hcs := cells_new (w14.alloc (.cells #[.int .u8 ((9 : Nat) : Int)] 5)) #[.slice (some ⟨w14.heap.size, 0, none⟩) 1 1] 22 (g := w14.heap.size + 1) (by rw [World.size_alloc]); have HE17 := Lib.hid (And.intro E17 hcs); clear E15 hbk hf E17 hcs ho14 hg14 hA14) | (at_builtin; refine wpList_unguard rfl ?_; refine wpList_appR _ rfl (.tmp 141) (.tmp 143) 32 rfl 22 (.slice none 0 0) 1 24 Tryd.underlying32 binfo rfl (by omega) (by omega) rfl (HE17.out.1.row 0 rfl) (ad := ⟨w14.heap.size + 1, 0, none⟩) (m := 1) (c' := 1) [.slice (some ⟨w14.heap.size, 0, none⟩) 1 1] rfl rfl HE17.out.2 (by intro u hu; rw [List.mem_singleton] at hu; subst hu; rfl) (by omega) HE17.out.1.size ?_; intro A16 c16 w16 ho16 hg16 hA16; have E18 := HE17.out.1.app 0 rfl ho16 hg16 hA16; have HE18 := Lib.hid E18; clear E18 ho16 hg16 hA16)
            have E18 := HE18.out
            have hR16 := barg_of (xs := ps ++ [(⟨some ⟨w14.heap.size, 0, none⟩, 1, 1, [9]⟩ : BEl)]) (A := A16) (n := n + 1) (c := c16) (base := w.heap.size) (by have h := E18.row 0 rfl; rw [List.map_append]; exact h) (fun x hx => by
              rcases List.mem_append.1 hx with hx | hx
              · rw [← HEA.out.2.1] at hx
                exact E18.rdm (List.mem_cons_of_mem _ (List.mem_append_right _ (List.mem_append_right _ (List.mem_of_mem_take hx))))
              · rw [List.mem_singleton] at hx; subst hx
                exact E18.rdm (List.mem_cons_self ..))
            have hI16 := hR16.img (by omega) (fun x hx => by
              rcases List.mem_append.1 hx with hx | hx
              · rw [← HEA.out.2.1] at hx
                have := HZ.out.2.2.2.2.2.2.1 x (List.mem_of_mem_take hx)
                omega
              · rw [List.mem_singleton] at hx; subst hx
                show (1 : Nat) ≤ _
                omega)
            have hI6 := (barg_of (xs := xs6) (A := A6) (n := n + 1) (c := c6) (base := w.heap.size) (E18.row 1 rfl) (fun x hx => E18.rdm (List.mem_cons_of_mem _ (List.mem_append_left _ hx)))).img (by omega) (fun x hx => by have := HX6.out.2 x hx; omega)
            have hll : (ps ++ [(⟨some ⟨w14.heap.size, 0, none⟩, 1, 1, [9]⟩ : BEl)]).map (·.l) = rs.take n ++ [[9]] := by
              rw [List.map_append, ← HEA.out.2.1, List.map_take, HZ.out.2.2.2.2.2.1]; rfl
            rw [hll] at hI16
            rw [HX6.out.1] at hI6
            have HB := Lib.hid (And.intro E18.bel (And.intro hI16 hI6))
            clear E18 hR16 hI16 hI6 hll HE18 HE17
            refine (alike_same HB.out.2.2 HB.out.2.1).mono ?_; rintro e w17 ⟨⟨q17, rfl⟩, rfl⟩
            go_wp2_with fail
            go_ret
            exact ⟨rfl, below_step HB.out.1 (((Moved.refl w16 []).drewN q17).below0) HB.out.1.size⟩
end Go.Proofs.YtdlcngmcjidomaaDoor
