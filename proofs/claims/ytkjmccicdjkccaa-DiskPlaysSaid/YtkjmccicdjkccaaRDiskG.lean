/- The contract of heijunkaref05's Write. No condition but that the row lies off the disk, and few writes are pending. -/
import Derived.Test.YtkjmccicdjkccaaRDiskF
namespace Go.Proofs.Ytkjmccicdjkccaa
set_option linter.unusedSimpArgs false
set_option linter.unusedVariables false
open Go.RowKit

theorem iinfo : (Try.prog.info? 3).map (fun i => (i.zero, i.size, i.bytes)) = some (some (.int .i64 0), 1, 8) := by kernel_rfl
theorem bel_of {w : World} {base c : Nat} {A : Option Addr} {l : List Nat} (h : OwnI w base .u8 256 5 A (0 + 64) c l) (hl : l.length = 64) : BEl.In w ⟨A, 0 + 64, c, l⟩ := by
  refine ⟨h.mono (Nat.zero_le _), Iff.intro (fun e => ?_) (fun e => ?_)⟩
  · have e : A = none := e
    rcases h.own.form with ⟨_, h2, _⟩ | ⟨g, cur, h2, _⟩
    · cases h2
    · rw [e] at h2; cases h2
  · have e : l = [] := e
    rw [e] at hl
    cases hl
theorem pendBy_snoc {ks : List Nat} {ys : List BEl} (h : ks.length = ys.length) (i : Nat) (y : BEl) : pendBy (ks ++ [i]) (ys ++ [y]) = pendBy ks ys ++ [(i, y.l)] := by
  unfold pendBy
  rw [List.zipWith_append h]
  rfl
theorem RRaw.rin {w w1 : World} {T T1 : List Nat} {g i m : Nat} {y : BEl} {s : DSt} {BA : Option Addr} {n bc : Nat} {GA : Option Addr} {gc : Nat} {AA AA1 : Option Addr} {ac ac1 : Nat} {NA NA1 : Option Addr} {nc nc1 : Nat} {st : Int} {xs : List BEl} {bs : List Bool} {ks : List Nat} {ys : List BEl}
    (h : RRaw w T g BA n bc GA gc AA (m + 1) ac NA (m + 1) nc s.down st (s.begun : Int) xs bs (ks ++ [i]) (ys ++ [y])) (hk : RIn w1 T1 g s BA n bc GA gc AA1 m ac1 NA1 nc1 st xs bs ks ys) (hi : i < s.sure.length) (hl : y.l.length = 64) :
    RIn w T g { s with pend := s.pend ++ [(i, y.l)] } BA n bc GA gc AA (m + 1) ac NA nc st xs bs (ks ++ [i]) (ys ++ [y]) :=
  ⟨h.blk, h.b, h.bad, h.at_, h.new, h.apart, h.xin, h.yin, hk.full, hk.es, by rw [pendBy_snoc (by rw [hk.kl, hk.yl])]; show s.pend ++ _ = _; rw [hk.ep], hk.est, hk.st0, h.hT, h.no, ⟨hk.wf.sure, fun p hp => by
    have hp : p ∈ s.pend ++ [(i, y.l)] := hp
    rcases List.mem_append.1 hp with hp | hp
    · exact hk.wf.pend p hp
    · rw [List.mem_singleton] at hp
      subst hp
      exact ⟨hi, hl⟩, hk.wf.most, hk.wf.stop0, hk.wf.stop1⟩⟩
section
variable {w : World} {T : List Nat} {g : Nat} {s : DSt}
set_option maxRecDepth 100000 in
set_option maxHeartbeats 12800000 in
theorem rwrite_disk (R : RefAt w T g s) (i : Int) {bA : Option Addr} {bn bc' : Nat} {l : List Nat} (hB : Ints w .u8 256 bA bn bc' l) (hoff : ∀ ad, bA = some ad → ad.block ∉ T) (hbn : (bn : Int) ≤ 9223372036854775807) (hb : s.begun < 1152921504606846976) (hp : s.pend.length < 1099511627776) :
    Calls Try.prog 31 #[.pointer (some ⟨g, 0, none⟩), .int .i64 i, .slice bA bn bc'] w fun e w' => e = .returned (.int .i64 (s.write i l).2) ∧ ∃ T', RefAt w' T' g (s.write i l).1 ∧ Moved w w' T T' := by
  obtain ⟨BA, n, bc, GA, gc, AA, m, ac, NA, nc, st, xs, bs, ks, ys, h⟩ := R.ex
  have c0 := h.c0
  have c4 := h.c4
  have hm := h.m_eq
  have hn := h.n_eq
  have hlen := hB.len
  have H := Lib.hid h
  clear R h
  obtain ⟨dn, hdn⟩ : ∃ d, s.down = d := ⟨_, rfl⟩
  rw [hdn] at c4
  cases dn with
  | true =>
    have HF := Lib.hid (DSt.write_down hdn i l)
    clear hdn hm hn
    go_enter Try.func31, Try.ntmps31
    go_wp2_with fail
    go_ret
    exact ⟨by rw [HF.out]; rfl, T, by rw [HF.out]; exact H.out.mk_, Moved.refl w T⟩
  | false =>
  by_cases hi0 : i < 0
  · have HF := Lib.hid (DSt.write_arg hdn (i := i) (b := l) (by rw [show s.has i = false from decide_eq_false (fun h => by omega)]; rfl))
    clear hdn hm hn
    go_enter Try.func31, Try.ntmps31
    go_wp2_with fail
    go_ret
    exact ⟨by rw [HF.out]; rfl, T, by rw [HF.out]; exact H.out.mk_, Moved.refl w T⟩
  have hi0d : decide (i < 0) = false := decide_eq_false hi0
  by_cases hin : (n : Int) ≤ i
  · have HF := Lib.hid (DSt.write_arg hdn (i := i) (b := l) (by rw [show s.has i = false from decide_eq_false (fun h => by omega)]; rfl))
    have hind : decide ((n : Int) ≤ i) = true := decide_eq_true hin
    clear hdn hm hn
    go_enter Try.func31, Try.ntmps31
    go_wp2_with fail
    go_ret
    exact ⟨by rw [HF.out]; rfl, T, by rw [HF.out]; exact H.out.mk_, Moved.refl w T⟩
  have hind : decide ((n : Int) ≤ i) = false := decide_eq_false hin
  by_cases h64 : bn = 64
  case neg =>
    have HF := Lib.hid (DSt.write_arg hdn (i := i) (b := l) (by rw [decide_eq_false (show ¬ l.length = 64 by omega), Bool.and_false]))
    have h64i : ((bn : Int) != 64) = true := by simp; omega
    clear hdn hm hn h64
    go_enter Try.func31, Try.ntmps31
    go_wp2_with fail
    go_ret
    exact ⟨by rw [HF.out]; rfl, T, by rw [HF.out]; exact H.out.mk_, Moved.refl w T⟩
  subst h64
  obtain ⟨ii, rfl⟩ : ∃ ii : Nat, i = (ii : Int) := ⟨i.toNat, by omega⟩
  have hii : ii < s.sure.length := by omega
  have hltn : ii < n := by omega
  have hw : (s.has (ii : Int) && decide (l.length = 64)) = true := by
    rw [show s.has (ii : Int) = true from decide_eq_true ⟨by omega, by omega⟩, decide_eq_true hlen]; rfl
  have HD := Lib.hid (And.intro hdn (And.intro hw (And.intro hoff hii)))
  have HB := Lib.hid hlen
  have HI := Lib.hid hB
  clear hdn hw hoff hii hi0 hin hB hlen
  go_enter Try.func31, Try.ntmps31
  go_wp2_with fail
  refine (goes_in H.out hb).mono ?_; rintro e w1 ⟨rfl, R1, M1⟩
  clear c0 c4
  obtain ⟨gs, hgs⟩ : ∃ b, s.goes = b := ⟨_, rfl⟩
  rw [hgs]
  cases gs with
  | true =>
    have HF := Lib.hid (DSt.write_goes HD.out.1 HD.out.2.1 hgs)
    have H1 := Lib.hid (And.intro R1 M1)
    clear hgs hm R1 M1
    go_wp2_with fail
    go_ret
    exact ⟨by rw [HF.out]; rfl, T, by rw [HF.out]; exact H1.out.1.mk_, H1.out.2⟩
  | false =>
    have HF := Lib.hid (DSt.write_ok HD.out.1 HD.out.2.1 hgs)
    have HK := Lib.hid R1
    have hB1 := ints_moved HI.out (fun _ => HD.out.2.2.1) M1
    have hBo : ∀ ad, bA = some ad → ad.block < w.heap.size := fun ad e => by
      obtain ⟨b', o', e', hb', _⟩ := HI.out.rd.at_ (by decide)
      rw [e'] at e; cases e; exact hb'
    have HBO := Lib.hid hBo
    have RR := R1.raw
    have c2 := R1.c2
    have hRR := RR.below ((Below.refl _ _).alloc (Nat.le_refl _) (.cells #[.int .i64 (ii : Int)] 3))
    have hMM := M1.alloc (.cells #[.int .i64 (ii : Int)] 3)
    clear hgs R1 hBo
    go_upto_region 8 with (at_builtin; refine wpList_appR _ rfl (.tmp 33) (.tmp 35) 51 rfl 3 (.int .i64 0) 1 8 Try.underlying51 iinfo rfl (by omega) (by omega) rfl hRR.at_ (ad := ⟨w1.heap.size, 0, none⟩) (m := 1) (c' := 1) [.int .i64 (ii : Int)] rfl rfl (cells_new w1 #[.int .i64 (ii : Int)] 3 (g := w1.heap.size) rfl) (by intro u hu; rw [List.mem_singleton] at hu; subst hu; rfl) (by omega) (Nat.zero_le _) ?_; intro A3 c3 w3 o3 g3 a3; obtain ⟨f2, c2_, T4, R4, M4⟩ := hRR.pushAt o3 g3 a3)
    have M4 := hMM.trans M4
    have hB4 := ints_moved HI.out (fun _ => HD.out.2.2.1) M4
    clear RR hRR hMM M1 hB1 o3 g3 a3 f2 c2_ c2
    generalize World.setCell _ ⟨g, 2, none⟩ _ = w4 at *
    have R5 := R4.below (Below.refl _ _).drew
    have M5 := M4.drew
    have hB5 := hB4.below (Below.refl _ _).drew
    generalize hwd : World.drew _ = w5 at *
    have s0 : (fun w' : World => w'.cell? ⟨g, 3, none⟩ = some (.slice NA m nc)) w5 := R5.blk.cell 3
    refine wp_region_late [12] (fun w' : World => w'.cell? ⟨g, 3, none⟩ = some (.slice NA m nc)) (by kernel_rfl) ?_
    rw [hwd]
    refine wpAnyL_take (i := 0) (v := ?_) rfl (by kernel_rfl) (by kernel_rfl) (by kernel_rfl) (by kernel_rfl) (by kernel_rfl) (fun _ _ _ h => h) (Or.inl ⟨by kernel_rfl, ?_⟩) s0 ?_
    rotate_left
    · rintro w0 h1_; go_simp; (try with_reducible rfl)
    try simp only [Act.put, List.getElem_toArray, List.getElem_cons_succ, List.getElem_cons_zero, List.setIfInBounds_toArray, List.set_cons_zero, List.set_cons_succ]
    refine wpAnyL_take (i := 1) (v := ?_) rfl (by kernel_rfl) (by kernel_rfl) (by kernel_rfl) (by kernel_rfl) (by kernel_rfl) (fun _ _ _ h => h) (Or.inl ⟨by kernel_rfl, ?_⟩) s0 ?_
    rotate_left
    · rintro w0 h1_; go_simp; (try with_reducible rfl)
    try simp only [Act.put, List.getElem_toArray, List.getElem_cons_succ, List.getElem_cons_zero, List.setIfInBounds_toArray, List.set_cons_zero, List.set_cons_succ]
    refine wpAnyL_take (i := 2) (v := ?_) rfl (by kernel_rfl) (by kernel_rfl) (by kernel_rfl) (by kernel_rfl) (by kernel_rfl) (fun _ _ _ h => h) (Or.inl ⟨by kernel_rfl, ?_⟩) s0 ?_
    rotate_left
    · rintro w0 h1_; go_simp; (try with_reducible rfl)
    try simp only [Act.put, List.getElem_toArray, List.getElem_cons_succ, List.getElem_cons_zero, List.setIfInBounds_toArray, List.set_cons_zero, List.set_cons_succ]
    refine wpAnyL_take (i := 3) (v := ?_) rfl (by kernel_rfl) (by kernel_rfl) (by kernel_rfl) (by kernel_rfl) (by kernel_rfl) (fun _ _ _ h => h) (Or.inl ⟨by kernel_rfl, ?_⟩) s0 ?_
    rotate_left
    · rintro w0 h1_; go_simp; (try with_reducible rfl)
    try simp only [Act.put, List.getElem_toArray, List.getElem_cons_succ, List.getElem_cons_zero, List.setIfInBounds_toArray, List.set_cons_zero, List.set_cons_succ]
    refine wpAnyL_take (i := 4) (v := ?_) rfl (by kernel_rfl) (by kernel_rfl) (by kernel_rfl) (by kernel_rfl) (by kernel_rfl) (fun _ _ _ h => h) (Or.inl ⟨by kernel_rfl, ?_⟩) s0 ?_
    rotate_left
    · rintro w0 h1_; go_simp; (try with_reducible rfl)
    try simp only [Act.put, List.getElem_toArray, List.getElem_cons_succ, List.getElem_cons_zero, List.setIfInBounds_toArray, List.set_cons_zero, List.set_cons_succ]
    refine wpAnyL_take (i := 6) (v := ?_) rfl (by kernel_rfl) (by kernel_rfl) (by kernel_rfl) (by kernel_rfl) (by kernel_rfl) (fun _ _ _ h => h) (Or.inl ⟨by kernel_rfl, ?_⟩) s0 ?_
    rotate_left
    · rintro w0 h1_; go_simp; (try with_reducible rfl)
    try simp only [Act.put, List.getElem_toArray, List.getElem_cons_succ, List.getElem_cons_zero, List.setIfInBounds_toArray, List.set_cons_zero, List.set_cons_succ]
    refine wpAnyL_one (i := 5) (by kernel_rfl) rfl (fun K hK => ?_)
    go_simp
    have R6 := R5.below ((Below.refl _ _).alloc (Nat.le_refl _) (.cells #[] 5))
    have hB6 := hB5.below ((Below.refl _ _).alloc (Nat.le_refl _) (.cells #[] 5))
    have s1 : (fun w' : World => w'.cell? ⟨g, 3, none⟩ = some (.slice NA m nc)) _ := R6.blk.cell 3
    refine hK.out _ _ (fun _ => s1) ?_
    clear hK K
    try simp only [Act.put, List.getElem_toArray, List.getElem_cons_succ, List.getElem_cons_zero, List.setIfInBounds_toArray, List.set_cons_zero, List.set_cons_succ]
    refine wpAnyL_one (i := 7) (by kernel_rfl) rfl (fun K hK => ?_)
    refine step_appI _ rfl (.tmp 44) (.tmp 45) _ rfl 5 1 Try.underlying29 dinfo_u8 (by omega) (OwnI.empty (base := w5.heap.size) .u8 256 5 rfl (Nat.le_refl _)) rfl hB6 rfl (by omega) (by simp) ?_
    intro A7 c7 w7 o7 g7 a7
    rw [List.nil_append] at o7
    have b7 : Below w5.heap.size w5 w7 := below_own ((Below.refl w5.heap.size w5).alloc (Nat.le_refl _) _) g7 (by simp) (by simp)
    have R7 := R5.below b7
    have M7 := M5.below_ b7
    have s2 : (fun w' : World => w'.cell? ⟨g, 3, none⟩ = some (.slice NA m nc)) w7 := R7.blk.cell 3
    refine hK.out _ _ (fun _ => s2) ?_
    clear hK K
    try simp only [Act.put, List.getElem_toArray, List.getElem_cons_succ, List.getElem_cons_zero, List.setIfInBounds_toArray, List.set_cons_zero, List.set_cons_succ]
    refine wpAnyL_one (i := 8) (by kernel_rfl) rfl (fun K hK => ?_)
    go_simp
    have R8 := R7.below ((Below.refl _ _).alloc (Nat.le_refl _) (.cells #[.slice A7 (0 + 64) c7] 29))
    have M8 := M7.alloc (.cells #[.slice A7 (0 + 64) c7] 29)
    have s3 : (fun w' : World => w'.cell? ⟨g, 3, none⟩ = some (.slice NA m nc)) _ := R8.blk.cell 3
    refine hK.out _ _ (fun _ => s3) ?_
    clear hK K
    try simp only [Act.put, List.getElem_toArray, List.getElem_cons_succ, List.getElem_cons_zero, List.setIfInBounds_toArray, List.set_cons_zero, List.set_cons_succ]
    refine wpAnyL_one (i := 9) (by kernel_rfl) rfl (fun K hK => ?_)
    refine step_appR rfl (.tmp 43) (.tmp 47) 43 rfl 29 (.slice none 0 0) 1 24 Try.underlying43 binfo rfl (by omega) (by omega) rfl R8.new (ad := ⟨w7.heap.size, 0, none⟩) (m := 1) (c' := 1) [.slice A7 (0 + 64) c7] rfl rfl (cells_new w7 #[.slice A7 (0 + 64) c7] 29 (g := w7.heap.size) rfl) (by intro u hu; rw [List.mem_singleton] at hu; subst hu; rfl) (by omega) (Nat.zero_le _) ?_
    intro A9 c9 w9 o9 g9 a9
    have yin := bel_of o7 HB.out
    have yin8 := yin.below ((Below.refl _ _).alloc (Nat.le_refl _) (.cells #[.slice A7 (0 + 64) c7] 29))
    obtain ⟨f3, c3_, T9, R9, M9⟩ := R8.pushNew yin8 o9 g9 a9
    have HF9 := Lib.hid (And.intro R9 (M8.trans M9))
    have s4 : (fun w' : World => w'.cell? ⟨g, 3, none⟩ = some (.slice NA m nc)) w9 := c3_
    clear R5 R6 R7 R8 R9 M5 M7 M8 M9 o7 o9 g7 g9 a7 a9 b7 hB5 hB6 yin yin8 s0 s1 s2 s3 R4 M4 hB4
    refine hK.out _ _ (fun _ => s4) ?_
    clear hK K
    try simp only [Act.put, List.getElem_toArray, List.getElem_cons_succ, List.getElem_cons_zero, List.setIfInBounds_toArray, List.set_cons_zero, List.set_cons_succ]
    refine wpAnyL_take (i := 10) (v := ?_) rfl (by kernel_rfl) (by kernel_rfl) (by kernel_rfl) (by kernel_rfl) (by kernel_rfl) (fun _ _ _ h => h) (Or.inl ⟨by kernel_rfl, ?_⟩) s4 ?_
    rotate_left
    · rintro w0 h1_; go_simp; (try with_reducible rfl)
    try simp only [Act.put, List.getElem_toArray, List.getElem_cons_succ, List.getElem_cons_zero, List.setIfInBounds_toArray, List.set_cons_zero, List.set_cons_succ]
    refine wpAnyL_take (i := 11) (v := ?_) rfl (by kernel_rfl) (by kernel_rfl) (by kernel_rfl) (by kernel_rfl) (by kernel_rfl) (fun _ _ _ h => h) (Or.inl ⟨by kernel_rfl, ?_⟩) s4 ?_
    rotate_left
    · rintro w0 h1_; go_simp; (try with_reducible rfl)
    try simp only [Act.put, List.getElem_toArray, List.getElem_cons_succ, List.getElem_cons_zero, List.setIfInBounds_toArray, List.set_cons_zero, List.set_cons_succ]
    refine wpAnyL_one (i := 12) (by kernel_rfl) rfl (fun K hK => ?_)
    go_simp
    refine hK.out _ _ (fun h => absurd (by simp) h) ?_
    clear hK K
    try simp only [Act.put, List.getElem_toArray, List.getElem_cons_succ, List.getElem_cons_zero, List.setIfInBounds_toArray, List.set_cons_zero, List.set_cons_succ]
    refine wpAnyL_done (by kernel_rfl) ?_ _
    go_wp2_with fail
    go_ret
    refine ⟨by rw [HF.out]; rfl, _, ?_, HF9.out.2⟩
    rw [HF.out]
    exact (HF9.out.1.rin HK.out (show ii < s.beg.sure.length from HD.out.2.2.2) HB.out).mk_
end
end Go.Proofs.Ytkjmccicdjkccaa
