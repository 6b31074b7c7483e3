/- What a store into heijunkaref05's rows does to its disk. No condition. -/
import Derived.Test.YtkjmccicdjkccaaRDiskA
namespace Go.Proofs.Ytkjmccicdjkccaa
set_option linter.unusedSimpArgs false
set_option linter.unusedVariables false
open Go.RowKit

theorem tornBy_len (bs : List Bool) (xs : List BEl) (h : bs.length = xs.length) : (tornBy bs xs).length = xs.length := by unfold tornBy; rw [List.length_zipWith, h]; omega
theorem tornBy_get {bs : List Bool} {xs : List BEl} {j : Nat} {b : Bool} {x : BEl} (hb : bs[j]? = some b) (hx : xs[j]? = some x) : (tornBy bs xs)[j]? = some (if b then [] else x.l) := by
  unfold tornBy
  rw [List.getElem?_zipWith, hb, hx]
theorem tornBy_write {bs : List Bool} {xs : List BEl} (h : bs.length = xs.length) (i : Nat) (y : BEl) : tornBy (bs.set i false) (xs.set i y) = (tornBy bs xs).set i y.l := by
  apply List.ext_getElem?
  intro j
  rcases Nat.lt_or_ge j xs.length with hj | hj
  · have hb : bs[j]? = some (bs[j]'(by omega)) := List.getElem?_eq_getElem (by omega)
    have hx : xs[j]? = some xs[j] := List.getElem?_eq_getElem hj
    by_cases hij : i = j
    · subst hij
      rw [tornBy_get (List.getElem?_set_self (by omega)) (List.getElem?_set_self hj), List.getElem?_set_self (by rw [tornBy_len _ _ h]; exact hj)]
      rfl
    · rw [List.getElem?_set_ne hij, tornBy_get hb hx, tornBy_get (by rw [List.getElem?_set_ne hij]; exact hb) (by rw [List.getElem?_set_ne hij]; exact hx)]
  · rw [List.getElem?_eq_none (by rw [tornBy_len _ _ (by simp [h]), List.length_set]; exact hj), List.getElem?_eq_none (by rw [List.length_set, tornBy_len _ _ h]; exact hj)]
theorem tornBy_tear {bs : List Bool} {xs : List BEl} (h : bs.length = xs.length) (i : Nat) : tornBy (bs.set i true) xs = (tornBy bs xs).set i [] := by
  apply List.ext_getElem?
  intro j
  rcases Nat.lt_or_ge j xs.length with hj | hj
  · have hb : bs[j]? = some (bs[j]'(by omega)) := List.getElem?_eq_getElem (by omega)
    have hx : xs[j]? = some xs[j] := List.getElem?_eq_getElem hj
    by_cases hij : i = j
    · subst hij
      rw [tornBy_get (List.getElem?_set_self (by omega)) hx, List.getElem?_set_self (by rw [tornBy_len _ _ h]; exact hj)]
      rfl
    · rw [List.getElem?_set_ne hij, tornBy_get hb hx, tornBy_get (by rw [List.getElem?_set_ne hij]; exact hb) hx]
  · rw [List.getElem?_eq_none (by rw [tornBy_len _ _ (by simp [h])]; exact hj), List.getElem?_eq_none (by rw [List.length_set, tornBy_len _ _ h]; exact hj)]
theorem tornBy_mem {bs : List Bool} {xs : List BEl} (hx : ∀ x ∈ xs, x.l.length = 64) : ∀ l ∈ tornBy bs xs, l = [] ∨ l.length = 64 := by
  intro l hl
  unfold tornBy at hl
  obtain ⟨j, hj⟩ := List.getElem?_of_mem hl
  rw [List.getElem?_zipWith] at hj
  cases hb : bs[j]? with
  | none => rw [hb] at hj; cases hj
  | some b =>
    cases hx' : xs[j]? with
    | none => rw [hb, hx'] at hj; cases hj
    | some x =>
      rw [hb, hx'] at hj
      injection hj with hj
      cases b with
      | true => left; rw [← hj]; rfl
      | false => right; rw [← hj]; exact hx x (List.mem_of_getElem? hx')

section
variable {w w' : World} {T T1 : List Nat} {g : Nat} {s : DSt} {BA : Option Addr} {n bc : Nat} {GA : Option Addr} {gc : Nat} {AA : Option Addr} {m ac : Nat} {NA : Option Addr} {nc : Nat} {st : Int} {xs : List BEl} {bs : List Bool} {ks : List Nat} {ys : List BEl}
theorem RIn.sx (h : RIn w T g s BA n bc GA gc AA m ac NA nc st xs bs ks ys) {i : Nat} (hi : i < n) : ∃ x q b d, xs[i]? = some x ∧ x.In w ∧ bs[i]? = some q ∧ BA = some ⟨b, 0, none⟩ ∧ GA = some ⟨d, 0, none⟩ ∧ w.cell? ⟨b, i, none⟩ = some (.slice x.A x.n x.c) ∧ w.frozen? ⟨b, i, none⟩ = false ∧
    w.cell? ⟨d, i, none⟩ = some (.bool q) ∧ w.frozen? ⟨d, i, none⟩ = false ∧ s.sure[i]? = some (if q then [] else x.l) := by
  have hx : xs[i]? = some (xs[i]'(by rw [h.xl]; exact hi)) := List.getElem?_eq_getElem _
  have hq : bs[i]? = some (bs[i]'(by rw [h.bl]; exact hi)) := List.getElem?_eq_getElem _
  generalize xs[i]'(by rw [h.xl]; exact hi) = x at hx
  generalize bs[i]'(by rw [h.bl]; exact hi) = q at hq
  obtain ⟨b, e1, _, _, hc1, hf1⟩ := h.b.get (j := i) (u := x.v) (by rw [List.getElem?_map, hx]; rfl)
  obtain ⟨d, e2, _, _, hc2, hf2⟩ := h.bad.get (j := i) (u := .bool q) (by rw [List.getElem?_map, hq]; rfl)
  exact ⟨x, q, b, d, hx, h.xin x (List.mem_of_getElem? hx), hq, e1, e2, hc1, hf1, hc2, hf2, by rw [h.es]; exact tornBy_get hq hx⟩
theorem RIn.py (h : RIn w T g s BA n bc GA gc AA m ac NA nc st xs bs ks ys) {k : Nat} (hk : k < m) : ∃ i y a e, ks[k]? = some i ∧ ys[k]? = some y ∧ y.In w ∧ AA = some ⟨a, 0, none⟩ ∧ NA = some ⟨e, 0, none⟩ ∧ w.cell? ⟨a, k, none⟩ = some (.int .i64 (i : Int)) ∧ w.cell? ⟨e, k, none⟩ = some (.slice y.A y.n y.c) ∧
    s.pend[k]? = some (i, y.l) ∧ i < n ∧ y.l.length = 64 := by
  have hi : ks[k]? = some (ks[k]'(by rw [h.kl]; exact hk)) := List.getElem?_eq_getElem _
  have hy : ys[k]? = some (ys[k]'(by rw [h.yl]; exact hk)) := List.getElem?_eq_getElem _
  generalize ks[k]'(by rw [h.kl]; exact hk) = i at hi
  generalize ys[k]'(by rw [h.yl]; exact hk) = y at hy
  obtain ⟨a, e1, _, _, hc1, _⟩ := h.at_.get (j := k) (u := intV i) (by rw [List.getElem?_map, hi]; rfl)
  obtain ⟨e, e2, _, _, hc2, _⟩ := h.new.get (j := k) (u := y.v) (by rw [List.getElem?_map, hy]; rfl)
  have hp : s.pend[k]? = some (i, y.l) := by
    rw [h.ep]
    unfold pendBy
    rw [List.getElem?_zipWith, hi, hy]
  have hw := h.wf.pend _ (List.mem_of_getElem? hp)
  have hn := h.n_eq
  dsimp only at hw
  exact ⟨i, y, a, e, hi, hy, h.yin y (List.mem_of_getElem? hy), e1, e2, hc1, hc2, hp, by omega, hw.2⟩
theorem RIn.b_blk {b : Nat} (h : RIn w T g s (some ⟨b, 0, none⟩) n bc GA gc AA m ac NA nc st xs bs ks ys) : ∃ cur, Blk w b 29 cur := by
  rcases h.b.form with ⟨e, _⟩ | ⟨g', cur, e, _, hg, _⟩
  · cases e
  · cases e; exact ⟨cur, hg⟩
theorem RIn.g_blk {d : Nat} (h : RIn w T g s BA n bc (some ⟨d, 0, none⟩) gc AA m ac NA nc st xs bs ks ys) : ∃ cur, Blk w d 4 cur := by
  rcases h.bad.form with ⟨e, _⟩ | ⟨g', cur, e, _, hg, _⟩
  · cases e
  · cases e; exact ⟨cur, hg⟩
theorem RIn.setB {b i : Nat} {y : BEl} (h : RIn w T g s (some ⟨b, 0, none⟩) n bc GA gc AA m ac NA nc st xs bs ks ys) (hy : y.In w) (hl : y.l.length = 64) : RIn (w.setCell ⟨b, i, none⟩ y.v) T g { s with sure := tornBy bs (xs.set i y) } (some ⟨b, 0, none⟩) n bc GA gc AA m ac NA nc st (xs.set i y) bs ks ys ∧ Moved w (w.setCell ⟨b, i, none⟩ y.v) T T := by
  have hbT : b ∈ T := h.BT rfl
  have hm : Moved w (w.setCell ⟨b, i, none⟩ y.v) T T := moved_set (p := ⟨b, i, none⟩) hbT y.v
  obtain ⟨cur, hblk⟩ := h.b_blk
  have hfull : ∀ x ∈ xs.set i y, x.l.length = 64 := fun x hx => by
    rcases List.mem_or_eq_of_mem_set hx with hx | rfl
    · exact h.full x hx
    · exact hl
  have hlen : (tornBy bs (xs.set i y)).length = s.sure.length := by
    rw [tornBy_len _ _ (by rw [List.length_set, h.bl, h.xl]), List.length_set, h.xl, h.n_eq]
  exact ⟨⟨h.blk.far (p := ⟨b, i, none⟩) (fun e => h.b_ne _ rfl e.symm) y.v, by rw [List.map_set]; exact h.b.stored i y.v, h.bad.setCell (h.bad.type_ne hblk (by decide)) _, h.at_.setCell (h.at_.type_ne hblk (by decide)) _, h.new.setCell (p := ⟨b, i, none⟩) (fun ad e => fun e2 => h.apart.ne _ ad rfl e e2.symm) _, h.apart,
    fun x hx => by
      rcases List.mem_or_eq_of_mem_set hx with hx | rfl
      · exact (h.xin x hx).stay h.no hm
      · exact hy.stay h.no hm, fun x hx => (h.yin x hx).stay h.no hm, hfull, rfl, h.ep, h.est, h.st0, h.hT, h.no.set_ b i y.v,
    ⟨tornBy_mem hfull, fun p hp => by
      have := h.wf.pend p hp
      exact ⟨by show p.1 < (tornBy bs (xs.set i y)).length; rw [hlen]; exact this.1, this.2⟩, by show (tornBy bs (xs.set i y)).length ≤ 512; rw [hlen]; exact h.wf.most, h.wf.stop0, h.wf.stop1⟩⟩, hm⟩
theorem RIn.setG {d i : Nat} {q : Bool} (h : RIn w T g s BA n bc (some ⟨d, 0, none⟩) gc AA m ac NA nc st xs bs ks ys) : RIn (w.setCell ⟨d, i, none⟩ (.bool q)) T g { s with sure := tornBy (bs.set i q) xs } BA n bc (some ⟨d, 0, none⟩) gc AA m ac NA nc st xs (bs.set i q) ks ys ∧ Moved w (w.setCell ⟨d, i, none⟩ (.bool q)) T T := by
  have hdT : d ∈ T := h.GT rfl
  have hm : Moved w (w.setCell ⟨d, i, none⟩ (.bool q)) T T := moved_set (p := ⟨d, i, none⟩) hdT (.bool q)
  obtain ⟨cur, hblk⟩ := h.g_blk
  have hlen : (tornBy (bs.set i q) xs).length = s.sure.length := by
    rw [tornBy_len _ _ (by rw [List.length_set, h.bl, h.xl]), h.xl, h.n_eq]
  exact ⟨⟨h.blk.far (p := ⟨d, i, none⟩) (fun e => h.bad_ne _ rfl e.symm) _, h.b.setCell (h.b.type_ne hblk (by decide)) _, by rw [List.map_set]; exact h.bad.stored i (.bool q), h.at_.setCell (h.at_.type_ne hblk (by decide)) _, h.new.setCell (h.new.type_ne hblk (by decide)) _, h.apart,
    fun x hx => (h.xin x hx).stay h.no hm, fun x hx => (h.yin x hx).stay h.no hm, h.full, rfl, h.ep, h.est, h.st0, h.hT, h.no.set_ d i _,
    ⟨tornBy_mem h.full, fun p hp => by
      have := h.wf.pend p hp
      exact ⟨by show p.1 < (tornBy (bs.set i q) xs).length; rw [hlen]; exact this.1, this.2⟩, by show (tornBy (bs.set i q) xs).length ≤ 512; rw [hlen]; exact h.wf.most, h.wf.stop0, h.wf.stop1⟩⟩, hm⟩
theorem RIn.cleared (h : RIn w T g s BA n bc GA gc AA m ac NA nc st xs bs ks ys) :
    ∃ T', RIn ((w.setCell ⟨g, 2, none⟩ (.slice none 0 0)).setCell ⟨g, 3, none⟩ (.slice none 0 0)) T' g { s with pend := [] } BA n bc GA gc none 0 0 none 0 st xs bs [] [] ∧ Moved w ((w.setCell ⟨g, 2, none⟩ (.slice none 0 0)).setCell ⟨g, 3, none⟩ (.slice none 0 0)) T T' := by
  have hm0 : Moved w ((w.setCell ⟨g, 2, none⟩ (.slice none 0 0)).setCell ⟨g, 3, none⟩ (.slice none 0 0)) T T := (moved_set (w := w) (p := ⟨g, 2, none⟩) h.gT (.slice none 0 0)).set_ (p := ⟨g, 3, none⟩) h.gT (.slice none 0 0)
  have hsub : ∀ k ∈ g :: (Ab BA ++ (Ab GA ++ (Ab none ++ Ab none))), k ∈ T := fun k hk => by
    rw [h.hT]
    simp only [List.mem_cons, List.mem_append] at hk ⊢
    rcases hk with hk | hk | hk | hk | hk
    · exact .inl hk
    · exact .inr (.inl hk)
    · exact .inr (.inr (.inl hk))
    · cases hk
    · cases hk
  refine ⟨g :: (Ab BA ++ (Ab GA ++ (Ab none ++ Ab none))), ⟨(h.blk.set_ 2 _).set_ 3 _, (h.b.setCell h.b_ne _).setCell h.b_ne _, (h.bad.setCell h.bad_ne _).setCell h.bad_ne _, OwnR.nil_ .., OwnR.nil_ .., Dis.none_r _, fun x hx => (h.xin x hx).stay h.no hm0, (fun _ h => by cases h), h.full, h.es, rfl, h.est, h.st0, rfl,
    ⟨fun k hk => ((h.no.set_ g 2 (.slice none 0 0)).set_ g 3 (.slice none 0 0)).no k (hsub k hk)⟩, ⟨h.wf.sure, (fun _ h => by cases h), h.wf.most, h.wf.stop0, h.wf.stop1⟩⟩, hm0.to (fun k hk => .inl (hsub k hk))⟩
theorem ints_moved {A : Option Addr} {n c : Nat} {l : List Nat} (h : Ints w .u8 256 A n c l) (hoff : 0 < n → ∀ ad, A = some ad → ad.block ∉ T) (hm : Moved w w' T T1) : Ints w' .u8 256 A n c l :=
  ⟨⟨h.rd.len, h.rd.cap, fun hn => by
    obtain ⟨b, o, e, hb, hc⟩ := h.rd.at_ hn
    exact ⟨b, o, e, Nat.lt_of_lt_of_le hb hm.size, fun j u hu => (hm.cell (p := ⟨b, o + j, none⟩) hb (show b ∉ T from hoff hn _ e)).trans (hc j u hu)⟩⟩, h.lt⟩
theorem layBy_step {su : List (List Nat)} {p : List (Nat × List Nat)} {k i : Nat} {l cs : List Nat} (h : p[k]? = some (i, l)) : DSt.layBy su (p.drop k) (cs.drop k) = DSt.layBy (if cs.getD k 0 % 3 = 1 then su.set i l else if cs.getD k 0 % 3 = 2 then su.set i [] else su) (p.drop (k + 1)) (cs.drop (k + 1)) := by
  obtain ⟨hk, he⟩ := List.getElem?_eq_some_iff.1 h
  rw [List.drop_eq_getElem_cons hk, he]
  show DSt.layBy (DSt.lay1 su (i, l) (cs.drop k)) (p.drop (k + 1)) (cs.drop k).tail = _
  rw [List.tail_drop]
  congr 1
  unfold DSt.lay1
  rcases Nat.lt_or_ge k cs.length with hlt | hge
  · rw [List.drop_eq_getElem_cons hlt, List.getD_eq_getElem?_getD, List.getElem?_eq_getElem hlt]
    rfl
  · rw [List.drop_eq_nil_of_le hge, List.getD_eq_getElem?_getD, List.getElem?_eq_none hge]
    rfl
end
end Go.Proofs.Ytkjmccicdjkccaa
