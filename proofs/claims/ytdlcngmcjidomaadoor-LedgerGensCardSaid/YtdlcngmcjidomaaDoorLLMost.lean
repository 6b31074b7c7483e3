/- The law LedgerMost, walked. No condition. -/
import Derived.Test.YtdlcngmcjidomaaDoorGLE
namespace Go.Proofs.YtdlcngmcjidomaaDoor
set_option linter.unusedSimpArgs false
set_option linter.unusedVariables false
open Go.RowKit Go.Shelf

section
variable {P : Program} (w : World)
/-- 'append(s, make([]T, 0)...)'. -/
theorem run_app0 (base : Nat) (t ti ty e : TypeId) (z : Value) (bytes : Nat) (ht : P.underlying t = some (.slice e)) (hti : P.underlying ti = some (.int .i64)) (hinfo : (P.info? e).map (fun i => (i.zero, i.size, i.bytes)) = some (some z, 1, bytes))
    (A : Option Addr) (n c : Nat) (xs : List Value) (hown : Own w base e A n c xs) :
    ∃ w', (Builtin.append_ #[t, ti] ty #[.slice A n c, .int .i64 0]).run P w = .ok (.slice A n c) w' ∧ Own w' base e A n c xs ∧ w.grownBy w' (A.map (·.block)) := by
  obtain ⟨i, hi, hz, hs1, hs2⟩ := info_parts hinfo
  have hw0 : IntKind.i64.wrap 0 = 0 := by decide
  rcases hown.form with ⟨rfl, rfl, rfl, rfl⟩ | ⟨g, cur, rfl, hg0, hg, hnc, hcm, hsz, htake⟩
  · refine ⟨w, ?_, by simpa using hown, World.grownBy.refl w _⟩
    simp [Builtin.append_, run_underlying ht, run_underlying hti, sizeOf, typeInfo, hi, hs1, hs2, asInt, asIntOf, hw0]
  · have hst := run_storeCells_at P g n e [] 0 cur w hg.is (by simp; omega) (fun u hu => by cases hu)
    refine ⟨w.setRow g (cur.toList.take n ++ [] ++ cur.toList.drop (n + ([] : List Value).length)).toArray, ?_, ?_, ⟨rfl, rfl, rfl, by simp, fun k _ hk => setRow_other w g k _ (fun e => hk (by simp [e]))⟩⟩
    · simp at hst
      simp [Builtin.append_, run_underlying ht, run_underlying hti, sizeOf, typeInfo, hi, hs1, hs2, asInt, asIntOf, hw0, hnc, Addr.add_lit, hst]
    · refine Own.of_blk hg0 ⟨setRow_heap w g cur _ e _ hg.is⟩ hnc hcm ?_ ?_
      · simp only [List.size_toArray, List.length_append, List.length_take, List.length_drop, Array.length_toList, List.length_nil]
        omega
      · have e1 : cur.toList.take n = xs := htake
        rw [e1, List.append_nil]
        exact List.take_left' hown.len
theorem wpList_app0 {w : World} {ops : Array Oper} {rest : List Oper} {o : Oper} {a : Act} {Q : Exit → Act → World → Prop} (hgd : o.guard = none) (s x : Operand) (t ti : TypeId)
    (ho : o.op = .call { callee := .builtin .append, args := #[s, x], argTypes := #[t, ti] })
    (e : TypeId) (z : Value) (bytes : Nat) (ht : P.underlying t = some (.slice e)) (hti : P.underlying ti = some (.int .i64)) (hinfo : (P.info? e).map (fun i => (i.zero, i.size, i.bytes)) = some (some z, 1, bytes))
    {base : Nat} {A : Option Addr} {n c : Nat} {xs : List Value} (hown : Own w base e A n c xs) (hs : a.eval s = .slice A n c) (hx : a.eval x = .int .i64 0)
    (h : ∀ w', Own w' base e A n c xs → w.grownBy w' (A.map (·.block)) → wpList P ops Q rest (a.put o.dst (.slice A n c)) w') :
    wpList P ops Q (o :: rest) a w := by
  refine wpList_plain hgd fun K hK => ?_
  obtain ⟨w', hrun, h2, h3⟩ := run_app0 (P := P) w base t ti o.type e z bytes ht hti hinfo A n c xs hown
  unfold Oper.wp execOp
  simp only [ho, resolve, invoke, builtin, Sem.run_bind, Sem.run_pure, Result.andThen_ok, List.map_toArray, List.map_cons, List.map_nil, hs, hx, hrun]
  exact hK _ _ (h w' h2 h3)
end
section
variable {w0 w w' : World} {g hl half gen : Nat} {s : DSt} {all : List (List Nat)} {B : Nat} {bl : List WBk} {ys : List WRow} {rd : List BEl}
theorem LE.row (E : LE w0 w g hl s half gen all B bl ys rd) (i : Nat) {y : WRow} (hy : ys[i]? = some y) : OwnR w w0.heap.size y.ty y.sz y.A y.n y.c y.vs := by
  obtain ⟨hs, t, A, c, xs, E0, L, hxs⟩ := E.ex
  exact E0.row (i + 1) hy
theorem LE.rdm (E : LE w0 w g hl s half gen all B bl ys rd) {x : BEl} (hx : x ∈ rd) : Ints w .u8 256 x.A x.n x.c x.l := by
  obtain ⟨hs, t, A, c, xs, E0, L, hxs⟩ := E.ex
  exact E0.rdm (List.mem_append_right _ hx)
theorem LE.app (E : LE w0 w g hl s half gen all B bl ys rd) (i : Nat) {ty : TypeId} {sz n c : Nat} {A : Option Addr} {vs : List Value} (hi : ys[i]? = some ⟨ty, sz, A, n, c, vs⟩) {A' : Option Addr} {n' c' : Nat} {vs' : List Value}
    (ho : OwnR w' w0.heap.size ty sz A' n' c' vs') (hg : w.grownBy w' (A.map (·.block))) (hA : A' = A ∨ A' = some ⟨w.heap.size, 0, none⟩) : LE w0 w' g hl s half gen all B bl (ys.set i ⟨ty, sz, A', n', c', vs'⟩) rd := by
  obtain ⟨hs, t, A, c, xs, E0, L, hxs⟩ := E.ex
  exact ⟨hs, t, A, c, xs, E0.app (i + 1) hi ho hg hA, L, hxs⟩
theorem barg_rd_ {A : Option Addr} {n c : Nat} {xs : List BEl} (h : BArg w A n c xs) (hc : n ≤ c) : Rd w A n c (xs.map BEl.v) :=
  ⟨by rw [List.length_map]; exact h.len, hc, fun hn => by
    obtain ⟨b, o, e, hb, hc⟩ := h.at_ hn
    refine ⟨b, o, e, hb, fun j u hu => ?_⟩
    rw [List.getElem?_map] at hu
    obtain ⟨x, hx, rfl⟩ := Option.map_eq_some_iff.1 hu
    exact hc j x hx⟩
theorem barg_take_ {A : Option Addr} {n c k : Nat} {xs : List BEl} (h : BArg w A n c xs) (hk : k ≤ n) : BArg w A k c (xs.take k) := by
  have hl := h.len
  refine ⟨by rw [List.length_take]; omega, fun hk0 => ?_, fun x hx => h.ok x (List.mem_of_mem_take hx)⟩
  obtain ⟨b, o, e, hb, hc⟩ := h.at_ (by omega)
  refine ⟨b, o, e, hb, fun j x hx => hc j x ?_⟩
  rw [List.getElem?_take] at hx
  split at hx
  · exact hx
  · cases hx
theorem RecIn.take {RA : Option Addr} {rn rc k : Nat} {zs : List BEl} (R : RecIn w0 g ys rd RA rn rc zs) (hk : k ≤ rn) : RecIn w0 g ys rd RA k rc (zs.take k) := ⟨fun w1 s1 bl1 ys0 rd1 E => barg_take_ (R.at_ w1 s1 bl1 ys0 rd1 E) hk, fun z hz => R.most z (List.mem_of_mem_take hz)⟩
end
theorem most_total : ∀ (l : List (List Nat)), (∀ r ∈ l, r.length = 1) → SegSt.total l = l.length
  | [], _ => rfl
  | r :: l, h => by
    have h1 := h r (List.mem_cons_self ..)
    have h2 := most_total l fun x hx => h x (List.mem_cons_of_mem _ hx)
    have e : SegSt.total (r :: l) = Cl.need r.length + SegSt.total l := by unfold SegSt.total; rw [List.map_cons, List.sum_cons]
    rw [e, h1, h2, List.length_cons]
    show 1 + _ = _
    omega
theorem most_good {l : List (List Nat)} (h : ∀ r ∈ l, r.length = 1) : SegSt.good l = true := SegSt.good_iff.2 fun r hr => by rw [h r hr]; decide
set_option maxRecDepth 100000 in
set_option maxHeartbeats 12800000 in
theorem ledgerMost_any (n : Nat) (w : World) (hn : n < 256) :
    Calls Tryd.prog 6 #[.int .u8 (n : Int)] w fun e w' => e = .returned (.bool true) ∧ Below w.heap.size w w' := by
  obtain ⟨r, hr0⟩ : ∃ z, n % 20 = z := ⟨_, rfl⟩
  obtain ⟨k, hk⟩ : ∃ z, 190 + r = z := ⟨_, rfl⟩
  have hri : (n : Int) % 20 = (r : Int) := by omega
  have hki : 190 + (r : Int) = (k : Int) := by omega
  have hk1 : 190 ≤ k := by omega
  have hk2 : k ≤ 209 := by omega
  have hr20 : r ≤ 19 := by omega
  have hL := Led.LUp.new (half := 255) (D := 512) (by omega) (by omega)
  have HL := Lib.hid hL
  have HRI := Lib.hid (And.intro hri hki)
  clear hL hr0 hk hri hki
  go_enter Tryd.func6, Tryd.ntmps6
  go_wp2_with fail
  refine (awake9_any _).mono ?_; rintro e w1 ⟨rfl, hb1⟩
  have HB1 := Lib.hid hb1
  clear hb1
  go_wp2_with fail
  refine (we_new (w0 := w) 512 (by omega) (by omega) _ HB1.out).mono ?_; rintro e w2 ⟨g, rfl, E⟩
  go_wp2_with fail
  refine (open_we E HL.out (by rw [new_length]) (by rw [new_length]; omega) (by decide)).mono ?_; rintro e w3 ⟨hl, rfl, E3⟩
  have HE3 := Lib.hid E3
  clear E E3 HB1
  have hri := HRI.out.1
  have hki := HRI.out.2
  go_wp2_with fail
  clear hri hki
  go_loopw [8] (fun iv wr => ∃ (i : Nat) (s : DSt) (all : List (List Nat)), 1 ≤ i ∧ i ≤ k + 1 ∧ iv = .int .i64 (i : Int) ∧ all.length = min (i - 1) 200 ∧ (∀ r ∈ all, r.length = 1) ∧ s.begun ≤ 300 * i ∧ LE w wr g hl s 255 0 all all.length [] [] []) (fun iv _ => k + 1 - (intOf iv).toNat)
  case atStart => exact ⟨1, DSt.new 512, [], by omega, by omega, rfl, rfl, fun _ h => (by cases h), by show 0 ≤ _; omega, HE3.out⟩
  case round =>
    obtain ⟨i, s, all, hi1, hi2, rfl, hal, ha1, hbg, E⟩ := hrel
    have HI := Lib.hid (And.intro hal (And.intro ha1 (And.intro hbg E)))
    clear hal ha1 hbg E HE3
    by_cases hle : i ≤ k
    · have q0 : (i : Int) ≤ (k : Int) := by omega
      have q0d : decide ((i : Int) ≤ (k : Int)) = true := decide_eq_true q0
      have hwb : IntKind.u8.wrap (i : Int) = (i : Int) := by rw [IntKind.wrap_u8]; omega
      have hib : i < 256 := by omega
      have E1 := (HI.out.2.2.2.alloc (.cells #[.int .u8 (i : Int)] 5)).see (FarB.blk (l := [i]) (c := 1) (Blk.new wr 5 #[.int .u8 (i : Int)]) rfl (fun x hx => by rw [List.mem_singleton] at hx; omega) (Nat.le_refl _))
      have HE1 := Lib.hid E1
      clear E1
      by_cases h200 : i ≤ 200
      · have q1 : (i : Int) ≤ 200 := by omega
        have q1d : decide ((i : Int) ≤ 200) = true := decide_eq_true q1
        have hlen : all.length = i - 1 := by rw [HI.out.1]; omega
        have hap := append_ok HE1.out (List.mem_cons_self ..) (by show 1 ≤ _; omega) (most_good (l := [[i]]) (fun r hr => by rw [List.mem_singleton] at hr; subst hr; rfl)) (by rw [most_total all HI.out.2.1, most_total [[i]] (fun r hr => by rw [List.mem_singleton] at hr; subst hr; rfl)]; show all.length + 1 ≤ 255; omega) (by omega) (by omega) (by have := HI.out.2.2.1; omega) (by omega)
        have HAP := Lib.hid (And.intro hap (And.intro hlen (show 1 ≤ i ∧ i ≤ 200 from ⟨hi1, h200⟩)))
        clear hap hlen hi1 hi2 hle hib h200
        go_wp2_with fail
        refine HAP.out.1.mono ?_; rintro e w5 ⟨rfl, s5, E5, hb5⟩
        have HF := Lib.hid (And.intro (E5.pick (bl' := []) (ys' := []) (rd' := []) (.refl _) (.refl _) (fun _ h => by cases h)) hb5)
        clear E5 hb5 HE1
        go_wp2_with fail
        go_roundw
        case rel => exact ⟨i + 1, s5, all ++ [[i]], by omega, by omega, by go_num, by rw [List.length_append, HAP.out.2.1]; have := HAP.out.2.2; show i - 1 + 1 = _; omega, fun r hr => (List.mem_append.1 hr).elim (HI.out.2.1 r) (fun h => by rw [List.mem_singleton] at h; subst h; rfl), by have := HF.out.2; have := HI.out.2.2.1; omega, by rw [List.length_append]; exact HF.out.1⟩
        case measure => simp [intOf]; omega
      · have q1 : ¬ (i : Int) ≤ 200 := by omega
        have q1d : decide ((i : Int) ≤ 200) = false := decide_eq_false q1
        have hlen : all.length = 200 := by rw [HI.out.1]; omega
        have hap := append_full HE1.out (List.mem_cons_self ..) (by show 1 ≤ _; omega) (most_good (l := [[i]]) (fun r hr => by rw [List.mem_singleton] at hr; subst hr; rfl)) (.inl (by omega)) (by omega)
        have HAP := Lib.hid (And.intro hap (And.intro hlen (show 200 < i by omega)))
        clear hap hlen hi1 hi2 hle hib h200
        go_wp2_with fail
        refine HAP.out.1.mono ?_; rintro e w5 ⟨rfl, E5⟩
        have HF := Lib.hid (E5.pick (bl' := []) (ys' := []) (rd' := []) (.refl _) (.refl _) (fun _ h => by cases h))
        clear E5 HE1
        go_wp2_with fail
        go_roundw
        case rel => exact ⟨i + 1, s, all, by omega, by omega, by go_num, by rw [HAP.out.2.1]; have := HAP.out.2.2; omega, HI.out.2.1, by have := HI.out.2.2.1; omega, HF.out⟩
        case measure => simp [intOf]; omega
    · have q0 : ¬ (i : Int) ≤ (k : Int) := by omega
      have q0d : decide ((i : Int) ≤ (k : Int)) = false := decide_eq_false q0
      obtain ⟨N, hN⟩ : ∃ N, all.length = N := ⟨_, rfl⟩
      have hNk : N = min k 200 := by rw [← hN, HI.out.1]; omega
      have htot : SegSt.total all = N := by rw [most_total all HI.out.2.1, hN]
      have hN200 : N ≤ 200 := by omega
      have hN190 : 190 ≤ N := by omega
      have HN := Lib.hid (And.intro hN (And.intro hNk htot))
      have hi210 : i ≤ 210 := by omega
      clear hi1 hi2 hle hN hNk htot
      go_wp2_with fail
      refine (lrecords_le HI.out.2.2.2 (by rw [HN.out.1]; omega)).mono ?_; rintro e w5 ⟨A2, c2, us, rfl, E5, hus, hun⟩
      rw [HN.out.1] at E5 ⊢
      have HE5 := Lib.hid (And.intro E5 (And.intro hus hun))
      clear E5 hus hun
      have hmin : (if (200 : Int) < (k : Int) then (200 : Int) else (k : Int)) = (N : Int) := by
        have := HN.out.2.1
        split <;> omega
      go_wp2_with fail
      refine (lused_le HE5.out.1).mono ?_; rintro e w6 ⟨rfl, E6⟩
      rw [HN.out.2.2]
      have HE6 := Lib.hid E6
      clear E6
      go_wp2_with fail
      clear hmin
      have R6 : RecIn w g [⟨22, 1, A2, N, c2, us.map BEl.v⟩] (us ++ []) A2 N c2 us := RecIn.row (k := 0) rfl (fun z hz => List.mem_append_left _ hz) (fun z hz => by have := HE5.out.2.2 z hz; omega)
      have hgd : SegSt.good (us.map (·.l)) = true := by rw [HE5.out.2.1]; exact most_good HI.out.2.1
      have htt : SegSt.total (us.map (·.l)) = N := by rw [HE5.out.2.1, HN.out.2.2]
      have HR := Lib.hid (And.intro R6 (And.intro hgd htt))
      clear R6 hgd htt
      refine (compact_ok HE6.out HR.out.1 hN200 HR.out.2.1 (by rw [HR.out.2.2]; omega) (by omega) (by omega) (by have := HI.out.2.2.1; omega)).mono ?_; rintro e w7 ⟨rfl, s7, E7, hb7⟩
      have HE7 := Lib.hid (And.intro E7 hb7)
      clear E7 hb7 HE6
      have hempty : OwnR (w7.alloc (.cells #[] 22)) w7.heap.size 22 1 (some ⟨w7.heap.size, 0, none⟩) 0 0 [] := OwnR.empty (base := w7.heap.size) 22 1 rfl (Nat.le_refl _)
      have E8 := HE7.out.1.fresh ((Below.refl w7.heap.size w7).alloc (Nat.le_refl _) (.cells #[] 22)) hempty (by decide)
      have hOwn : Own (w7.alloc (.cells #[] 22)) w.heap.size 22 (some ⟨w7.heap.size, 0, none⟩) 0 0 [] := ⟨(E8.row 0 rfl).row⟩
      have hB8 := barg_of (E8.row 1 rfl) (fun x hx => E8.rdm (List.mem_append_left _ hx))
      dsimp only at hB8
      have hcap : N ≤ c2 := (E8.row 1 rfl).cap
      have hRd := barg_rd_ hB8 hcap
      have hbs := E8.bel.size
      have HE8 := Lib.hid (And.intro E8 (And.intro hOwn hRd))
      clear E8 hOwn hB8 hRd hempty
      go_upto_region 20 with first | (at_builtin; refine wpList_app _ rfl (.tmp 64) (.tmp 65) 32 rfl 22 (.slice none 0 0) 24 Tryd.underlying32 binfo rfl (by omega) w.heap.size (some ⟨w7.heap.size, 0, none⟩) 0 0 [] rfl HE8.out.2.1 A2 N c2 _ rfl HE8.out.2.2 (fun u hu => by obtain ⟨x, _, rfl⟩ := List.mem_map.1 hu; rfl) (by omega) hbs ?_; intro A14 c14 w14 ho14 hg14 hA14) | (at_builtin; refine wpList_app0 rfl (.tmp 66) _ 32 3 rfl 22 (.slice none 0 0) 24 Tryd.underlying32 Tryd.underlying3 binfo ho14 rfl rfl ?_; intro w15 ho15 hg15)
      simp only [Nat.zero_add, List.nil_append] at ho14 ho15
      have E16 := ((HE8.out.1.app 0 rfl ⟨ho14.row⟩ hg14 hA14).app 0 rfl ⟨ho15.row⟩ hg15 (.inl rfl))
      have E17 : LE w w15 g hl s7 255 1 (us.map (·.l)) (N + N) [] [⟨22, 1, A14, N, c14, us.map BEl.v⟩, ⟨22, 1, A2, N, c2, us.map BEl.v⟩] (us ++ []) := E16
      have HE17 := Lib.hid E17
      clear ho14 ho15 hg14 hg15 hA14 E16 E17 HE8
      have hb7 : s7.begun ≤ 70000 := by have := HE7.out.2; have := HI.out.2.2.1; omega
      refine (compact_ok HE17.out (RecIn.row (k := 0) rfl (fun z hz => List.mem_append_left _ hz) (fun z hz => by have := HE5.out.2.2 z hz; omega)) hN200 HR.out.2.1 (by rw [HR.out.2.2]; omega) (by omega) (by omega) (by omega)).mono ?_; rintro e w16 ⟨rfl, s16, E18, hb16⟩
      have HE18 := Lib.hid (And.intro (E18.pick (bl' := []) (ys' := [⟨22, 1, A2, N, c2, us.map BEl.v⟩]) (rd' := us ++ []) (.refl _) (.cons _ (.refl _)) (fun _ h => h)) hb16)
      have hci : (1 : Int) ≤ (c2 : Int) := by omega
      clear E18 hb16 HE17
      go_wp2_with fail
      have hone : ∀ r ∈ (us.take 1).map (·.l), r.length = 1 := fun r hr => by
        rw [List.map_take, HE5.out.2.1] at hr
        exact HI.out.2.1 r (List.mem_of_mem_take hr)
      have hul : us.length = N := by have := congrArg List.length HE5.out.2.1; rw [List.length_map, HN.out.1] at this; exact this
      have ht1 : ((us.take 1).map (·.l)).length = 1 := by rw [List.length_map, List.length_take, hul]; omega
      have hR1 := (RecIn.row (w0 := w) (g := g) (k := 0) (ys := [⟨22, 1, A2, N, c2, us.map BEl.v⟩]) (rd := us ++ []) rfl (fun z hz => List.mem_append_left _ hz) (fun z hz => by have := HE5.out.2.2 z hz; omega)).take (k := 1) (by omega)
      have hc1 := compact_ok HE18.out.1 hR1 (by omega) (most_good hone) (by rw [most_total _ hone, ht1]; omega) (by omega) (by omega) (by have := HE18.out.2; omega)
      have HC1 := Lib.hid (And.intro hc1 (And.intro hone ht1))
      clear hone hul ht1 hR1 hc1 hci
      refine HC1.out.1.mono ?_; rintro e w17 ⟨rfl, s17, E19, hb17⟩
      have HE19 := Lib.hid (And.intro (E19.pick (bl' := []) (ys' := []) (rd' := []) (.refl _) (.cons _ (.refl _)) (fun _ h => by cases h)) (show s17.begun ≤ 100000 by have := HE18.out.2; omega))
      obtain ⟨al, hal⟩ : ∃ al, (us.take 1).map (·.l) = al := ⟨_, rfl⟩
      rw [hal] at HE19 HC1
      clear E19 hb17 HE18 HE7 hb7
      go_wp2_with fail
      have E20 := (HE19.out.1.alloc (.cells #[.int .u8 ((1 : Nat) : Int)] 5)).see (FarB.blk (l := [1]) (c := 1) (Blk.new w17 5 #[.int .u8 ((1 : Nat) : Int)]) rfl (fun x hx => by rw [List.mem_singleton] at hx; omega) (Nat.le_refl _))
      refine (append_ok E20 (List.mem_cons_self ..) (by decide) (by decide) (by rw [most_total _ HC1.out.2.1, HC1.out.2.2]; decide) (by rw [HC1.out.2.2]; omega) (by omega) (by have := HE19.out.2; omega) (by omega)).mono ?_; rintro e w18 ⟨rfl, s18, E21, _⟩
      have hal2 : (al ++ [[1]]).length = 2 := by rw [List.length_append, HC1.out.2.2]; rfl
      have HE21 := Lib.hid (And.intro E21 hal2)
      clear E20 E21 hal2
      go_wp2_with fail
      refine (lrecords_le HE21.out.1 (by rw [HE21.out.2]; omega)).mono ?_; rintro e w19 ⟨A3, c3, us3, rfl, E22, _, _⟩
      rw [HE21.out.2]
      have HF := Lib.hid E22.bel
      clear E22 HE21
      go_wp2_with fail
      go_ret
      exact ⟨rfl, HF.out⟩
end Go.Proofs.YtdlcngmcjidomaaDoor
