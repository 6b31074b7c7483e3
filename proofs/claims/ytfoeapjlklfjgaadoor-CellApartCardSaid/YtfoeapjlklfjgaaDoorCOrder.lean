/- The law CellOrder, walked. No condition but the reach of a slice. -/
import Derived.Test.YtfoeapjlklfjgaaDoorCNeeds
import Derived.Deep.MidRow
namespace Go.Proofs.YtfoeapjlklfjgaaDoor
set_option linter.unusedSimpArgs false
set_option linter.unusedVariables false
open Go.RowKit

theorem wpAnyL_switch {P : Program} {ops : Array Oper} {Q : Exit → Act → World → Prop} {md : Region.Mode} {S : World → Prop} {D : List Nat} : ∀ (fuel : Nat) (listed : Array Bool) (a : Act) (w : World), wpAnyL P md ops Q D S fuel listed a w → wpAnyL P md ops Q [] (fun _ => True) fuel listed a w
  | 0, _, _, _, h => h
  | fuel + 1, _, _, _, h => ⟨h.1, fun i hi => wpOp_mono (fun a' w' h' => ⟨fun _ => trivial, wpAnyL_switch fuel _ a' w' h'.2⟩) (h.2 i hi)⟩
theorem cflat_set {xs : List CEl} {i : Nat} {e : CEl} (hi : i < xs.length) : cflat (xs.set i e) = ((((((cflat xs).set (i * 5) (.int .u32 (e.x.gen : Int))).set (i * 5 + 1) (.int .u32 (e.x.seq : Int))).set (i * 5 + 2) (.int .i64 e.x.part)).set (i * 5 + 3) (.int .i64 e.x.parts)).set (i * 5 + 4) (.slice e.A e.n e.c)) := by
  induction xs generalizing i with
  | nil => simp at hi
  | cons x xs ih =>
    cases i with
    | zero =>
      unfold cflat
      simp [CEl.vs]
    | succ i =>
      have h1 := ih (i := i) (by simpa using hi)
      have hl : (CEl.vs x).length = 5 := rfl
      have hs : ∀ (j : Nat) (v : Value) (l : List Value), (CEl.vs x ++ l).set ((i + 1) * 5 + j) v = CEl.vs x ++ l.set (i * 5 + j) v := fun j v l => by
        rw [List.set_append_right _ _ (by rw [hl]; omega), hl, show (i + 1) * 5 + j - 5 = i * 5 + j by omega]
      have hs0 : ∀ (v : Value) (l : List Value), (CEl.vs x ++ l).set ((i + 1) * 5) v = CEl.vs x ++ l.set (i * 5) v := fun v l => hs 0 v l
      have e1 : ∀ (y : CEl) (ys : List CEl), cflat (y :: ys) = CEl.vs y ++ cflat ys := fun y ys => by unfold cflat; rw [List.flatMap_cons]
      rw [List.set_cons_succ, e1, e1, h1, hs0, hs, hs, hs, hs]
theorem swapped {w : World} {base g n c i k : Nat} {xs : List CEl} {ex ey : CEl} (h : OwnR w base 25 5 (some ⟨g, 0, none⟩) n c (cflat xs)) (hi : i < xs.length) (hk : k < xs.length) :
    OwnR ((w.setCells g (i * 5) ey.vs).setCells g (k * 5) ex.vs) base 25 5 (some ⟨g, 0, none⟩) n c (cflat ((xs.set i ey).set k ex)) := by
  rw [cflat_set (by rw [List.length_set]; exact hk), cflat_set hi]
  exact (((((((((h.stored _ _).stored _ _).stored _ _).stored _ _).stored _ _).stored _ _).stored _ _).stored _ _).stored _ _).stored _ _
theorem below_set5 {B : Nat} {a w : World} (h : Below B a w) {g : Nat} (hg : B ≤ g) (o : Nat) (e : CEl) : Below B a (w.setCells g o e.vs) :=
  ((((h.setCell hg _).setCell hg _).setCell hg _).setCell hg _).setCell hg _
theorem step_store5 {P : Program} {ops : Array Oper} {o : Oper} {a : Act} {w : World} {K : Act → World → Prop} {Q : Exit → Act → World → Prop} {E : Prop} (hgd : o.guard = none) (ty : TypeId) (x y : Operand) (ho : o.op = .store ty x y)
    (b off : Nat) (cells : Array Value) (hx : a.eval x = .pointer (some ⟨b, off, none⟩)) (hy : a.eval y = .agg cells) (ht : w.there b off cells.size) (hi : (P.info? ty).map (·.size) = some cells.size) (h1 : cells.all (·.oneCell') = true)
    (h : K (a.put o.dst undef) (w.setCells b off cells.toList)) : if Region.wanted o (yielded ops a.tmps) = true then Oper.wp P o a w K Q else E := by
  have hw : Region.wanted o (yielded ops a.tmps) = true := by simp [Region.wanted, hgd]
  rw [if_pos hw]
  exact wp_store_mid ty x y ho b off cells hx hy ht hi h1 h
/-- A cell of an own row: where it lies, and that it may be written. -/
theorem own_cell {w : World} {base g n c i : Nat} {xs : List CEl} {e : CEl} (h : OwnR w base 25 5 (some ⟨g, 0, none⟩) n c (cflat xs)) (hx : xs[i]? = some e) :
    (w.cell? ⟨g, i * 5, none⟩ = some (.int .u32 (e.x.gen : Int)) ∧ w.cell? ⟨g, i * 5 + 1, none⟩ = some (.int .u32 (e.x.seq : Int)) ∧ w.cell? ⟨g, i * 5 + 2, none⟩ = some (.int .i64 e.x.part) ∧ w.cell? ⟨g, i * 5 + 3, none⟩ = some (.int .i64 e.x.parts) ∧ w.cell? ⟨g, i * 5 + 4, none⟩ = some (.slice e.A e.n e.c)) ∧
    (w.frozen? ⟨g, i * 5, none⟩ = false ∧ w.frozen? ⟨g, i * 5 + 1, none⟩ = false ∧ w.frozen? ⟨g, i * 5 + 2, none⟩ = false ∧ w.frozen? ⟨g, i * 5 + 3, none⟩ = false ∧ w.frozen? ⟨g, i * 5 + 4, none⟩ = false) := by
  have hf : ∀ j, j < 5 → w.frozen? ⟨g, i * 5 + j, none⟩ = false := fun j hj => by
    obtain ⟨u, hu⟩ : ∃ u, (cflat xs)[i * 5 + j]? = some u := by
      rw [cflat_get hx j hj]
      exact ⟨_, List.getElem?_eq_getElem (by simpa [CEl.vs] using hj)⟩
    obtain ⟨g', e', _, _, _, h2⟩ := h.get hu
    cases e'
    exact h2
  have hc : ∀ j u, e.vs[j]? = some u → j < 5 → w.cell? ⟨g, i * 5 + j, none⟩ = some u := fun j u hu hj => h.get' (by rw [cflat_get hx j hj]; exact hu)
  exact ⟨⟨hc 0 _ rfl (by omega), hc 1 _ rfl (by omega), hc 2 _ rfl (by omega), hc 3 _ rfl (by omega), hc 4 _ rfl (by omega)⟩, ⟨hf 0 (by omega), hf 1 (by omega), hf 2 (by omega), hf 3 (by omega), hf 4 (by omega)⟩⟩

theorem own_there {w : World} {base g n c i : Nat} {xs : List CEl} {e : CEl} (h : OwnR w base 25 5 (some ⟨g, 0, none⟩) n c (cflat xs)) (hx : xs[i]? = some e) : w.there g (i * 5) 5 := fun j hj => by
  obtain ⟨u, hu⟩ : ∃ u, (cflat xs)[i * 5 + j]? = some u := by
    rw [cflat_get hx j hj]
    exact ⟨_, List.getElem?_eq_getElem (by simpa [CEl.vs] using hj)⟩
  obtain ⟨g', e', _, _, h1, h2⟩ := h.get hu
  cases e'
  exact ⟨by rw [h1]; rfl, h2⟩
set_option maxRecDepth 100000 in
set_option maxHeartbeats 12800000 in
theorem cellOrder_any (A : Option Addr) (n c : Nat) (R : List Nat) (av bv : Nat) (w : World) (hr : Ints w .u8 256 A n c R) (hn : n ≤ maxLen) (hav : av < 256) (hbv : bv < 256) :
    Calls Tryd.prog 8 #[.slice A n c, .int .u8 (av : Int), .int .u8 (bv : Int)] w fun e w' => e = .returned (.bool true) ∧ Below w.heap.size w w' := by
  unfold maxLen at hn
  have hRl := hr.len
  obtain ⟨q, hq⟩ : ∃ q, Cl.need R.length = q := ⟨_, rfl⟩
  obtain ⟨cd, hcd⟩ : ∃ q, Cl.splitCode R = q := ⟨_, rfl⟩
  have hq8 : q ≤ 8 := by rw [← hq]; exact Cl.need_le _
  have HE := Lib.hid (And.intro hq (And.intro hcd hRl))
  have E0 := (CE.nil_ w).addI hr
  clear hq hcd hRl hr
  go_enter Tryd.func8, Tryd.ntmps8
  go_wp2_with fail
  refine (cawake_any _).mono ?_; rintro e w1 ⟨rfl, hb1⟩
  have E1 := E0.below hb1
  clear E0 hb1
  go_wp2_with fail
  refine (split_c (gs := 3) (sq := 4) (by decide) (by decide) (E1.i 0 rfl) (by omega) HE.out.1 HE.out.2.1).mono ?_; rintro e w2 ⟨A2, c2, xs, rfl, hx, hs, hb2⟩
  have hxl := hx.len
  have E2 := (E1.below hb2).addR hx
  have HS := Lib.hid hs
  clear E1 hx hs hb2
  by_cases h0 : q = 0
  · obtain rfl : cd = 1 := by rw [← HE.out.2.1]; unfold Cl.splitCode; rw [HE.out.1, if_pos h0]
    clear hxl
    go_wp2_with fail
    go_ret
    exact ⟨rfl, E2.bel⟩
  · obtain rfl : cd = 0 := by rw [← HE.out.2.1]; unfold Cl.splitCode; rw [HE.out.1, if_neg h0]
    have hn392 : n ≤ 392 := by
      have := (not_congr (Cl.need_iff (n := R.length))).1 (by rw [HE.out.1]; exact h0)
      have := HE.out.2.2
      omega
    obtain ⟨i, hi⟩ : ∃ i, av % q = i := ⟨_, rfl⟩
    obtain ⟨k, hk⟩ : ∃ i, bv % q = i := ⟨_, rfl⟩
    have hiq : i < q := by rw [← hi]; exact Nat.mod_lt _ (by omega)
    have hkq : k < q := by rw [← hk]; exact Nat.mod_lt _ (by omega)
    have hii : (av : Int) % (q : Int) = (i : Int) := by rw [← hi, Int.natCast_emod]
    have hki : (bv : Int) % (q : Int) = (k : Int) := by rw [← hk, Int.natCast_emod]
    have hii2 : (av : Int).tmod (q : Int) = (i : Int) := by rw [Int.tmod_eq_emod_of_nonneg (by omega)]; exact hii
    have hki2 : (bv : Int).tmod (q : Int) = (k : Int) := by rw [Int.tmod_eq_emod_of_nonneg (by omega)]; exact hki
    have q0 : ((q : Int) == 0) = false := by simp; omega
    have q1 : ¬ (q : Int) < 1 := by omega
    have q2 : decide ((q : Int) < 1) = false := decide_eq_false q1
    obtain ⟨b, o, _, hA2, _, _, _⟩ := (E2.r 0 rfl).get (k := 0) (by omega)
    subst hA2
    have hcells : ∀ j u, (cflat xs)[j]? = some u → w2.cell? ((⟨b, o, none⟩ : Addr).add j) = some u := by
      obtain ⟨b', o', e', _, hc⟩ := (E2.r 0 rfl).at_ (by omega)
      cases e'
      intro j u hu
      rw [add_plain]
      exact hc j u hu
    have HC := Lib.hid hcells
    clear hi hk hcells
    go_upto_region 9 with (at_builtin; refine wpList_appR _ rfl (.tmp 40) (.tmp 41) 34 rfl 25 _ 5 48 Tryd.underlying34 clinfo rfl (by omega) (by omega) rfl (OwnR.empty (base := w2.heap.size) 25 5 rfl (Nat.le_refl _)) (ad := ⟨b, o, none⟩) (m := q) (c' := c2) (cflat xs) rfl (by rw [cflat_len, hxl]) (fun j u hu => (World.cell?_alloc_lt w2 _ _ (by have := cell_lt_ (HC.out j u hu); exact this)).trans (HC.out j u hu)) (cflat_one default xs) (by omega) (by simp) ?_; intro A3 c3 w3 o3 g3 a3)
    simp only [List.nil_append, Nat.zero_add] at o3
    have b3 : Below w2.heap.size w2 w3 := below_own ((Below.refl w2.heap.size w2).alloc (Nat.le_refl _) _) g3 (by simp) (by simp)
    have hxi : xs[i]? = some (xs[i]'(by omega)) := List.getElem?_eq_getElem (by omega)
    have hxk : xs[k]? = some (xs[k]'(by omega)) := List.getElem?_eq_getElem (by omega)
    generalize xs[i]'(by omega) = ex at hxi
    generalize xs[k]'(by omega) = ey at hxk
    rcases o3.form with ⟨_, h5, _⟩ | ⟨g, cur, rfl, hg1, hcur, _⟩
    · omega
    have hg2 := hcur.lt
    have hw4 : ∃ w4, w3.drew = w4 := ⟨_, rfl⟩
    obtain ⟨w4, hw4⟩ := hw4
    have o4 := o3.drew
    have b4 := b3.drew
    rw [hw4] at o4 b4
    obtain ⟨⟨x0, x1, x2, x3, x4⟩, _⟩ := own_cell o4 hxi
    obtain ⟨⟨y0, y1, y2, y3, y4⟩, _⟩ := own_cell o4 hxk
    have HF := Lib.hid (And.intro (own_there o4 hxi) (own_there o4 hxk))
    have hex := split_cell HS.out HE.out.1 hiq hxi
    have hey := split_cell HS.out HE.out.1 hkq hxk
    have sw := swapped (ex := ex) (ey := ey) o4 (by omega : i < xs.length) (by omega : k < xs.length)
    have bw := below_set5 (below_set5 b4 hg1 (i * 5) ey) hg1 (k * 5) ex
    have hin : ∀ e ∈ (xs.set i ey).set k ex, e.In w2 := fun e he => by
      have hok := (E2.r 0 rfl).ok
      rcases List.mem_or_eq_of_mem_set he with he | rfl
      · rcases List.mem_or_eq_of_mem_set he with he | rfl
        · exact hok e he
        · exact hok _ (List.mem_of_getElem? hxk)
      · exact hok _ (List.mem_of_getElem? hxi)
    have hmap : ((xs.set i ey).set k ex).map (·.x) = ((Cl.split 3 4 R).set i (Cl.cellAt 3 4 R k)).set k (Cl.cellAt 3 4 R i) := by
      rw [List.map_set, List.map_set, HS.out]
      have h1 : ey.x = Cl.cellAt 3 4 R k := by rw [hey.1]; unfold Cl.cellAt; rw [HE.out.1]
      have h2 : ex.x = Cl.cellAt 3 4 R i := by rw [hex.1]; unfold Cl.cellAt; rw [HE.out.1]
      rw [h1, h2]
    have HW := Lib.hid (And.intro hin (And.intro hmap (And.intro sw bw)))
    clear hin hmap sw bw hex hey hxi hxk o3 g3 a3 b3 o4 b4 hcur hxl
    obtain ⟨⟨xg, xs_, xp, xq, xd⟩, xA, xn, xc⟩ := ex
    obtain ⟨⟨yg, ys_, yp, yq, yd⟩, yA, yn, yc⟩ := ey
    dsimp only at HW x0 x1 x2 x3 x4 y0 y1 y2 y3 y4
    have s0 : (fun w' => w'.cell? ⟨g, k * 5, none⟩ = some (.int .u32 (yg : Int)) ∧ w'.cell? ⟨g, k * 5 + 1, none⟩ = some (.int .u32 (ys_ : Int)) ∧ w'.cell? ⟨g, k * 5 + 2, none⟩ = some (.int .i64 yp) ∧ w'.cell? ⟨g, k * 5 + 3, none⟩ = some (.int .i64 yq) ∧ w'.cell? ⟨g, k * 5 + 4, none⟩ = some (.slice yA yn yc) ∧ w'.cell? ⟨g, i * 5, none⟩ = some (.int .u32 (xg : Int)) ∧ w'.cell? ⟨g, i * 5 + 1, none⟩ = some (.int .u32 (xs_ : Int)) ∧ w'.cell? ⟨g, i * 5 + 2, none⟩ = some (.int .i64 xp) ∧ w'.cell? ⟨g, i * 5 + 3, none⟩ = some (.int .i64 xq) ∧ w'.cell? ⟨g, i * 5 + 4, none⟩ = some (.slice xA xn xc)) w4 := ⟨y0, y1, y2, y3, y4, x0, x1, x2, x3, x4⟩
    clear x0 x1 x2 x3 x4 y0 y1 y2 y3 y4
    refine wp_region_late [] (fun _ => True) (by kernel_rfl) ?_
    rw [hw4]
    refine wpAnyL_take (i := 2) (v := ?_) rfl (by kernel_rfl) (by kernel_rfl) (by kernel_rfl) (by kernel_rfl) (by kernel_rfl) (fun _ _ _ h => h) (Or.inl ⟨by kernel_rfl, ?_⟩) trivial ?_
    rotate_left
    · rintro w0 _; go_simp; (try with_reducible rfl)
    try simp only [Act.put, List.getElem_toArray, List.getElem_cons_succ, List.getElem_cons_zero, List.setIfInBounds_toArray, List.set_cons_zero, List.set_cons_succ]
    refine wpAnyL_take (i := 3) (v := ?_) rfl (by kernel_rfl) (by kernel_rfl) (by kernel_rfl) (by kernel_rfl) (by kernel_rfl) (fun _ _ _ h => h) (Or.inl ⟨by kernel_rfl, ?_⟩) trivial ?_
    rotate_left
    · rintro w0 _; go_simp; (try with_reducible rfl)
    try simp only [Act.put, List.getElem_toArray, List.getElem_cons_succ, List.getElem_cons_zero, List.setIfInBounds_toArray, List.set_cons_zero, List.set_cons_succ]
    refine wpAnyL_switch (D := [13, 14, 15]) (S := (fun w' => w'.cell? ⟨g, k * 5, none⟩ = some (.int .u32 (yg : Int)) ∧ w'.cell? ⟨g, k * 5 + 1, none⟩ = some (.int .u32 (ys_ : Int)) ∧ w'.cell? ⟨g, k * 5 + 2, none⟩ = some (.int .i64 yp) ∧ w'.cell? ⟨g, k * 5 + 3, none⟩ = some (.int .i64 yq) ∧ w'.cell? ⟨g, k * 5 + 4, none⟩ = some (.slice yA yn yc) ∧ w'.cell? ⟨g, i * 5, none⟩ = some (.int .u32 (xg : Int)) ∧ w'.cell? ⟨g, i * 5 + 1, none⟩ = some (.int .u32 (xs_ : Int)) ∧ w'.cell? ⟨g, i * 5 + 2, none⟩ = some (.int .i64 xp) ∧ w'.cell? ⟨g, i * 5 + 3, none⟩ = some (.int .i64 xq) ∧ w'.cell? ⟨g, i * 5 + 4, none⟩ = some (.slice xA xn xc))) _ _ _ _ ?_
    refine wpAnyL_take (i := 0) (v := ?_) rfl (by kernel_rfl) (by kernel_rfl) (by kernel_rfl) (by kernel_rfl) (by kernel_rfl) (fun _ _ _ h => h) (Or.inl ⟨by kernel_rfl, ?_⟩) s0 ?_
    rotate_left
    · rintro w0 ⟨h1_, h2_, h3_, h4_, h5_, h6_, h7_, h8_, h9_, h10_⟩; go_simp; (try with_reducible rfl)
    try simp only [Act.put, List.getElem_toArray, List.getElem_cons_succ, List.getElem_cons_zero, List.setIfInBounds_toArray, List.set_cons_zero, List.set_cons_succ]
    refine wpAnyL_take (i := 1) (v := ?_) rfl (by kernel_rfl) (by kernel_rfl) (by kernel_rfl) (by kernel_rfl) (by kernel_rfl) (fun _ _ _ h => h) (Or.inl ⟨by kernel_rfl, ?_⟩) s0 ?_
    rotate_left
    · rintro w0 ⟨h1_, h2_, h3_, h4_, h5_, h6_, h7_, h8_, h9_, h10_⟩; go_simp; (try with_reducible rfl)
    try simp only [Act.put, List.getElem_toArray, List.getElem_cons_succ, List.getElem_cons_zero, List.setIfInBounds_toArray, List.set_cons_zero, List.set_cons_succ]
    refine wpAnyL_take (i := 4) (v := ?_) rfl (by kernel_rfl) (by kernel_rfl) (by kernel_rfl) (by kernel_rfl) (by kernel_rfl) (fun _ _ _ h => h) (Or.inl ⟨by kernel_rfl, ?_⟩) s0 ?_
    rotate_left
    · rintro w0 ⟨h1_, h2_, h3_, h4_, h5_, h6_, h7_, h8_, h9_, h10_⟩; go_simp; (try with_reducible rfl)
    try simp only [Act.put, List.getElem_toArray, List.getElem_cons_succ, List.getElem_cons_zero, List.setIfInBounds_toArray, List.set_cons_zero, List.set_cons_succ]
    refine wpAnyL_take (i := 5) (v := ?_) rfl (by kernel_rfl) (by kernel_rfl) (by kernel_rfl) (by kernel_rfl) (by kernel_rfl) (fun _ _ _ h => h) (Or.inl ⟨by kernel_rfl, ?_⟩) s0 ?_
    rotate_left
    · rintro w0 ⟨h1_, h2_, h3_, h4_, h5_, h6_, h7_, h8_, h9_, h10_⟩; go_simp; (try with_reducible rfl)
    try simp only [Act.put, List.getElem_toArray, List.getElem_cons_succ, List.getElem_cons_zero, List.setIfInBounds_toArray, List.set_cons_zero, List.set_cons_succ]
    refine wpAnyL_take (i := 6) (v := ?_) rfl (by kernel_rfl) (by kernel_rfl) (by kernel_rfl) (by kernel_rfl) (by kernel_rfl) (fun _ _ _ h => h) (Or.inl ⟨by kernel_rfl, ?_⟩) s0 ?_
    rotate_left
    · rintro w0 ⟨h1_, h2_, h3_, h4_, h5_, h6_, h7_, h8_, h9_, h10_⟩; go_simp; (try with_reducible rfl)
    try simp only [Act.put, List.getElem_toArray, List.getElem_cons_succ, List.getElem_cons_zero, List.setIfInBounds_toArray, List.set_cons_zero, List.set_cons_succ]
    refine wpAnyL_take (i := 7) (v := ?_) rfl (by kernel_rfl) (by kernel_rfl) (by kernel_rfl) (by kernel_rfl) (by kernel_rfl) (fun _ _ _ h => h) (Or.inl ⟨by kernel_rfl, ?_⟩) s0 ?_
    rotate_left
    · rintro w0 ⟨h1_, h2_, h3_, h4_, h5_, h6_, h7_, h8_, h9_, h10_⟩; go_simp; (try with_reducible rfl)
    try simp only [Act.put, List.getElem_toArray, List.getElem_cons_succ, List.getElem_cons_zero, List.setIfInBounds_toArray, List.set_cons_zero, List.set_cons_succ]
    refine wpAnyL_take (i := 8) (v := ?_) rfl (by kernel_rfl) (by kernel_rfl) (by kernel_rfl) (by kernel_rfl) (by kernel_rfl) (fun _ _ _ h => h) (Or.inl ⟨by kernel_rfl, ?_⟩) s0 ?_
    rotate_left
    · rintro w0 ⟨h1_, h2_, h3_, h4_, h5_, h6_, h7_, h8_, h9_, h10_⟩; go_simp; (try with_reducible rfl)
    try simp only [Act.put, List.getElem_toArray, List.getElem_cons_succ, List.getElem_cons_zero, List.setIfInBounds_toArray, List.set_cons_zero, List.set_cons_succ]
    refine wpAnyL_take (i := 9) (v := ?_) rfl (by kernel_rfl) (by kernel_rfl) (by kernel_rfl) (by kernel_rfl) (by kernel_rfl) (fun _ _ _ h => h) (Or.inl ⟨by kernel_rfl, ?_⟩) s0 ?_
    rotate_left
    · rintro w0 ⟨h1_, h2_, h3_, h4_, h5_, h6_, h7_, h8_, h9_, h10_⟩; go_simp; (try with_reducible rfl)
    try simp only [Act.put, List.getElem_toArray, List.getElem_cons_succ, List.getElem_cons_zero, List.setIfInBounds_toArray, List.set_cons_zero, List.set_cons_succ]
    refine wpAnyL_take (i := 10) (v := ?_) rfl (by kernel_rfl) (by kernel_rfl) (by kernel_rfl) (by kernel_rfl) (by kernel_rfl) (fun _ _ _ h => h) (Or.inl ⟨by kernel_rfl, ?_⟩) s0 ?_
    rotate_left
    · rintro w0 ⟨h1_, h2_, h3_, h4_, h5_, h6_, h7_, h8_, h9_, h10_⟩; go_simp; (try with_reducible rfl)
    try simp only [Act.put, List.getElem_toArray, List.getElem_cons_succ, List.getElem_cons_zero, List.setIfInBounds_toArray, List.set_cons_zero, List.set_cons_succ]
    refine wpAnyL_take (i := 11) (v := ?_) rfl (by kernel_rfl) (by kernel_rfl) (by kernel_rfl) (by kernel_rfl) (by kernel_rfl) (fun _ _ _ h => h) (Or.inl ⟨by kernel_rfl, ?_⟩) s0 ?_
    rotate_left
    · rintro w0 ⟨h1_, h2_, h3_, h4_, h5_, h6_, h7_, h8_, h9_, h10_⟩; go_simp; (try with_reducible rfl)
    try simp only [Act.put, List.getElem_toArray, List.getElem_cons_succ, List.getElem_cons_zero, List.setIfInBounds_toArray, List.set_cons_zero, List.set_cons_succ]
    refine wpAnyL_take (i := 12) (v := ?_) rfl (by kernel_rfl) (by kernel_rfl) (by kernel_rfl) (by kernel_rfl) (by kernel_rfl) (fun _ _ _ h => h) (Or.inl ⟨by kernel_rfl, ?_⟩) s0 ?_
    rotate_left
    · rintro w0 ⟨h1_, h2_, h3_, h4_, h5_, h6_, h7_, h8_, h9_, h10_⟩; go_simp; (try with_reducible rfl)
    try simp only [Act.put, List.getElem_toArray, List.getElem_cons_succ, List.getElem_cons_zero, List.setIfInBounds_toArray, List.set_cons_zero, List.set_cons_succ]
    refine wpAnyL_one (i := 13) (by kernel_rfl) rfl (fun K hK => ?_)
    refine step_store5 rfl 25 (.tmp 55) (.tmp 50) rfl g (i * 5) #[.int .u32 (yg : Int), .int .u32 (ys_ : Int), .int .i64 yp, .int .i64 yq, .slice yA yn yc] rfl rfl HF.out.1 (by kernel_rfl) (by simp [Value.oneCell']) ?_
    refine hK.out _ _ (fun h => absurd (by simp) h) ?_
    clear hK K
    try simp only [Act.put, List.getElem_toArray, List.getElem_cons_succ, List.getElem_cons_zero, List.setIfInBounds_toArray, List.set_cons_zero, List.set_cons_succ]
    refine wpAnyL_one (i := 14) (by kernel_rfl) rfl (fun K hK => ?_)
    go_simp
    refine hK.out _ _ (fun h => absurd (by simp) h) ?_
    clear hK K
    try simp only [Act.put, List.getElem_toArray, List.getElem_cons_succ, List.getElem_cons_zero, List.setIfInBounds_toArray, List.set_cons_zero, List.set_cons_succ]
    refine wpAnyL_one (i := 15) (by kernel_rfl) rfl (fun K hK => ?_)
    refine step_store5 rfl 25 (.tmp 56) (.tmp 54) rfl g (k * 5) #[.int .u32 (xg : Int), .int .u32 (xs_ : Int), .int .i64 xp, .int .i64 xq, .slice xA xn xc] rfl rfl (World.there_setCells HF.out.2 _ _ _) (by kernel_rfl) (by simp [Value.oneCell']) ?_
    refine hK.out _ _ (fun h => absurd (by simp) h) ?_
    clear hK K
    try simp only [Act.put, List.getElem_toArray, List.getElem_cons_succ, List.getElem_cons_zero, List.setIfInBounds_toArray, List.set_cons_zero, List.set_cons_succ]
    refine wpAnyL_done (by kernel_rfl) ?_ _
    go_wp2_with fail
    have rm := CRd.of_own HW.out.2.2.1 (fun e he => (HW.out.1 e he).below HW.out.2.2.2)
    have E5 := E2.below HW.out.2.2.2
    have HX := Lib.hid HW.out.2.1
    clear HW HF E2 HC
    by_cases hik : i = k
    · subst hik
      have hsame : ((Cl.split 3 4 R).set i (Cl.cellAt 3 4 R i)).set i (Cl.cellAt 3 4 R i) = Cl.split 3 4 R := by
        have h1 := Cl.split_get (gen := 3) (seq := 4) (r := R) (i := i) (by rw [HE.out.1]; exact hiq)
        rw [Cl.set_same h1, Cl.set_same h1]
      have hj := Cl.join_split (gen := 3) (seq := 4) (r := R) (by rw [HE.out.1]; exact h0)
      have HJ := Lib.hid (And.intro (HX.out.trans hsame) hj)
      clear hsame hj HX
      refine (join_c rm (by omega) HJ.out.1 HJ.out.2.1 HJ.out.2.2 HE.out.2.2).mono ?_; rintro e w6 ⟨A6, c6, rfl, hi6, hb6⟩
      have E6 := (E5.below hb6).addI hi6
      clear E5 rm hi6 hb6
      have tt : ((i : Int) == (i : Int)) = true := by simp
      go_wp2_with fail
      refine (rows_c (E6.i 0 rfl) (E6.i 1 rfl) (by omega) (by omega) (decide_eq_true rfl)).mono ?_; rintro e w7 ⟨rfl, hb7⟩
      have E7 := E6.below hb7
      clear E6 hb7
      go_wp2_with fail
      go_ret
      exact ⟨rfl, E7.bel⟩
    · have hj := Cl.joins_swap (g := 3) (s := 4) (r := R) (i := i) (k := k) (by rw [HE.out.1]; exact hiq) (by rw [HE.out.1]; exact hkq) hik
      have hj1 : Cl.join (((Cl.split 3 4 R).set i (Cl.cellAt 3 4 R k)).set k (Cl.cellAt 3 4 R i)) = [] := by unfold Cl.join; rw [hj]; rfl
      have hj2 : Cl.joinCode (((Cl.split 3 4 R).set i (Cl.cellAt 3 4 R k)).set k (Cl.cellAt 3 4 R i)) = 2 := by unfold Cl.joinCode; rw [hj]; rfl
      have HJ := Lib.hid (And.intro HX.out (And.intro hj1 hj2))
      clear hj hj1 hj2 HX
      refine (join_c rm (by omega) HJ.out.1 HJ.out.2.1 HJ.out.2.2 (m := 0) rfl).mono ?_; rintro e w6 ⟨A6, c6, rfl, hi6, hb6⟩
      have E6 := E5.below hb6
      clear E5 rm hi6 hb6
      have tt : ((i : Int) == (k : Int)) = false := by simp; omega
      go_wp2_with fail
      go_ret
      exact ⟨rfl, E6.bel⟩
end Go.Proofs.YtfoeapjlklfjgaaDoor
