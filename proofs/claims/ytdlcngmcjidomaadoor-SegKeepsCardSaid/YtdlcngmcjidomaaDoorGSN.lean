/- Texts of several parts in one: SegMath6, SegMath7, SegMath8. Each says what it proves; no condition but those named there. -/
import Derived.Test.YtdlcngmcjidomaaDoorGSM
/- A segment of which one sector is torn: plain. No condition. -/
namespace Go.Proofs.YtdlcngmcjidomaaDoor
set_option linter.unusedSimpArgs false
set_option linter.unusedVariables false

namespace SegSt
theorem total_nil : total [] = 0 := rfl
theorem total_cons (r : List Nat) (rs : List (List Nat)) : total (r :: rs) = Cl.need r.length + total rs := by
  unfold total
  rw [List.map_cons, List.sum_cons]
theorem total_take_mono (rs : List (List Nat)) : ∀ {i j : Nat}, i ≤ j → total (rs.take i) ≤ total (rs.take j) := by
  induction rs with
  | nil => intro i j _; simp
  | cons r rs ih =>
    intro i j h
    cases i with
    | zero => rw [List.take_zero, total_nil]; exact Nat.zero_le _
    | succ i =>
      cases j with
      | zero => omega
      | succ j =>
        rw [List.take_succ_cons, List.take_succ_cons, total_cons, total_cons]
        have := ih (i := i) (j := j) (by omega)
        omega
theorem cut_unique {rs : List (List Nat)} {k n n' : Nat} (h1 : total (rs.take n) ≤ k) (h2 : n < rs.length → k < total (rs.take (n + 1))) (h3 : n ≤ rs.length) (h1' : total (rs.take n') ≤ k) (h2' : n' < rs.length → k < total (rs.take (n' + 1))) (h3' : n' ≤ rs.length) : n = n' := by
  rcases Nat.lt_trichotomy n n' with h | h | h
  · have := h2 (by omega)
    have := total_take_mono rs (i := n + 1) (j := n') (by omega)
    omega
  · exact h
  · have := h2' (by omega)
    have := total_take_mono rs (i := n' + 1) (j := n) (by omega)
    omega
theorem cellAt_ne {gen seq i : Nat} {r : List Nat} (h : Cl.need r.length ≠ 0) : Cl.cellAt gen seq r i ≠ Cl.zero := fun e => by
  have h1 : (Cl.cellAt gen seq r i).parts = 0 := by rw [e]; rfl
  have h2 : (Cl.cellAt gen seq r i).parts = (Cl.need r.length : Nat) := rfl
  omega
/-- A torn cell lets no record begin that didn't. -/
theorem begins_set {gen last k : Nat} {l : List Cl} (h : Sc.Begins gen last (l.set k Cl.zero)) : Sc.Begins gen last l := by
  obtain ⟨seq, r, h1, h2, t, h3⟩ := h.ex
  have hl := Cl.split_len gen seq r
  refine ⟨seq, r, h1, h2, ?_⟩
  have hk : Cl.need r.length ≤ k ∨ l.length ≤ k := by
    rcases Nat.lt_or_ge k l.length with hkl | hkl
    · rcases Nat.lt_or_ge k (Cl.need r.length) with hk | hk
      · have h4 : (l.set k Cl.zero)[k]? = some (Cl.cellAt gen seq r k) := by rw [← h3, List.getElem?_append_left (by omega), Cl.split_get hk]
        rw [List.getElem?_set_self hkl] at h4
        exact absurd (Option.some.inj h4).symm (cellAt_ne h2)
      · exact .inl hk
    · exact .inr hkl
  have hle : Cl.need r.length ≤ l.length := by
    have := congrArg List.length h3
    rw [List.length_append, hl, List.length_set] at this
    omega
  have e : l.take (Cl.need r.length) = Cl.split gen seq r := by
    refine List.ext_getElem? fun i => ?_
    rw [List.getElem?_take]
    split
    · next hi =>
      rw [Cl.split_get hi]
      have h4 : (l.set k Cl.zero)[i]? = some (Cl.cellAt gen seq r i) := by rw [← h3, List.getElem?_append_left (by omega), Cl.split_get hi]
      rw [List.getElem?_set_ne (by omega)] at h4
      exact h4
    · next hi => rw [List.getElem?_eq_none (by omega)]
  exact ⟨l.drop (Cl.need r.length), by rw [← e]; exact List.take_append_drop _ _⟩
theorem torn_laid {gen a b : Nat} {l m : List Cl} {rs : List (List Nat)} (h : Sc.Laid gen a l rs b m) : ∀ (k : Nat), ¬ Sc.Begins gen b m →
    ∃ n b' rest, n ≤ rs.length ∧ total (rs.take n) ≤ k ∧ (n < rs.length → k < total (rs.take (n + 1))) ∧ Sc.Laid gen a (l.set k Cl.zero) (rs.take n) b' rest ∧ ¬ Sc.Begins gen b' rest := by
  induction h with
  | nil last l =>
    intro k hb
    exact ⟨0, last, _, Nat.le_refl _, Nat.zero_le _, fun h => absurd h (by simp), .nil _ _, fun h => hb (begins_set h)⟩
  | @cons last seq last' r l rest rs hs hn h ih =>
    intro k hb
    have hl := Cl.split_len gen seq r
    rcases Nat.lt_or_ge k (Cl.need r.length) with hk | hk
    · refine ⟨0, last, _, Nat.zero_le _, Nat.zero_le _, fun _ => by rw [List.take_succ_cons, List.take_zero, total_cons, total_nil]; omega, .nil _ _, fun hB => ?_⟩
      obtain ⟨sq, p, h1, h2, h3, h4⟩ := hB.head
      have hlen : k < (Cl.split gen seq r ++ l).length := by rw [List.length_append]; omega
      have hzero : ((Cl.split gen seq r ++ l).set k Cl.zero)[k]? = some Cl.zero := List.getElem?_set_self hlen
      have hkp : k < p := by
        rcases Nat.eq_zero_or_pos k with rfl | hk0
        · exact h2
        · obtain ⟨x, hx, hp, _, _⟩ := h4 0 h2
          rw [List.getElem?_set_ne (by omega), List.getElem?_append_left (by omega), Cl.split_get (by omega)] at hx
          cases hx
          have hp : ((Cl.need r.length : Nat) : Int) = (p : Int) := hp
          omega
      obtain ⟨x, hx, hp, _, _⟩ := h4 k hkp
      rw [hzero] at hx
      cases hx
      have hp : (0 : Int) = (p : Int) := hp
      omega
    · obtain ⟨n, b', rest', h1, h2, h3, h4, h5⟩ := ih (k - Cl.need r.length) hb
      refine ⟨n + 1, b', rest', by rw [List.length_cons]; omega, by rw [List.take_succ_cons, total_cons]; omega, fun hlt => ?_, ?_, h5⟩
      · rw [List.length_cons] at hlt
        have := h3 (by omega)
        rw [List.take_succ_cons, total_cons]; omega
      · have e : (Cl.split gen seq r ++ l).set k Cl.zero = Cl.split gen seq r ++ l.set (k - Cl.need r.length) Cl.zero := by
          rw [List.set_append_right _ _ (by omega), hl]
        rw [e, List.take_succ_cons]
        exact .cons hs hn h4
theorem plain_set {su : List (List Nat)} {n k : Nat} (hk : k < su.length) : plainCells (su.set k []) 0 n = (plainCells su 0 n).set k Cl.zero := by
  refine List.ext_getElem? fun i => ?_
  rcases Nat.lt_or_ge i n with hi | hi
  · rw [plainCells_get hi, DSt.getD_set hk, List.getElem?_set, plainCells_get hi, plainCells_len]
    split
    · next e =>
      have : k = i := by omega
      subst this
      rw [if_pos rfl, if_pos hi, dec_nil]
    · next e => rw [if_neg (by omega)]
  · rw [List.getElem?_eq_none (by rw [plainCells_len]; exact hi), List.getElem?_eq_none (by rw [List.length_set, plainCells_len]; exact hi)]
/-- A sector of a segment torn, its records ahead of it are kept. -/
theorem torn_kept {s s3 : DSt} {t : SegSt} {rs : List (List Nat)} {k n : Nat} (K : SUp s t rs) (h0 : t.first = 0) (hk : k < s.sure.length) (hsu : s3.sure = s.sure.set k []) (hd : s3.down = false) (hp : s3.pend = []) (hst : s3.stop = 0) (hB : ∀ x ∈ s.sure, ∀ c ∈ x, c < 256)
    (hn : n ≤ rs.length) (hn1 : total (rs.take n) ≤ k) (hn2 : n < rs.length → k < total (rs.take (n + 1))) :
    (scan s3 t).2 = (rs.take n, 0) ∧ SUp s3 (scan s3 t).1 (rs.take n) ∧ (scan s3 t).1.first = t.first ∧ (scan s3 t).1.n = t.n ∧ (scan s3 t).1.gen = t.gen ∧ (scan s3 t).1.top ≤ t.top := by
  obtain ⟨pre, old, b, L⟩ := K.kept.lay
  have hpl : plainCells s3.sure t.first t.n = (pre ++ old).set k Cl.zero := by rw [hsu, h0, plain_set hk, ← h0, L.is]
  obtain ⟨n', b', rest, g1, g2, g3, g4, g5⟩ := torn_laid L.laid k L.stop
  have hnn := cut_unique hn1 hn2 hn g2 g3 g1
  subst hnn
  have hlen : s3.sure.length = s.sure.length := by rw [hsu, List.length_set]
  have hB3 : ∀ x ∈ s3.sure, ∀ c ∈ x, c < 256 := fun x hx => by
    rw [hsu] at hx
    rcases List.mem_or_eq_of_mem_set hx with hx | rfl
    · exact hB x hx
    · exact fun _ h => by cases h
  obtain ⟨z1, z2, z3, z4, z5⟩ := scan_laid (s := s3) (t := t) (all := rs.take n) (rest := rest) (b := b') hd hp (by rw [hlen]; exact L.fits) hB3 L.gen (by rw [hpl]; exact g4) g5 (fun r hr => L.all r (List.mem_of_mem_take hr))
  refine ⟨z1, ⟨z2, hst⟩, z3, z4, z5, ?_⟩
  have hc := cells_plain hd hp (first := t.first) (n := t.n) (by rw [hlen]; exact L.fits)
  have ht : (scan s3 t).1.top = (cells s3 t.first t.n).foldl Sc.topOf 0 := by
    unfold scan
    rw [if_neg (by rw [hd]; decide)]
    show (Sc.scan t.gen (cells s3 t.first t.n)).top = _
    unfold Sc.scan
    rw [Sc.run_top]; rfl
  rw [ht, hc, hpl]
  refine Nat.le_of_lt_succ (Sc.tops_lt (fun x hx => ?_) 0 (Nat.succ_pos _))
  rcases List.mem_or_eq_of_mem_set hx with hx | rfl
  · exact Nat.lt_succ_of_le (L.top x hx)
  · exact Nat.succ_pos _
end SegSt
end Go.Proofs.YtdlcngmcjidomaaDoor

/- The segment, plain: what a scan finds once the power is back. No program here. -/
namespace Go.Proofs.YtdlcngmcjidomaaDoor
set_option linter.unusedVariables false
namespace SegSt
theorem lost_scan {s : DSt} {t : SegSt} {all tried : List (List Nat)} (h : Lost s t all tried) (cs : List Nat) (hB : ∀ x ∈ (s.up cs).sure, ∀ c ∈ x, c < 256) :
    ∃ k, k ≤ tried.length ∧ (scan (s.up cs) t).2 = (all ++ tried.take k, 0) ∧ Kept (s.up cs) (scan (s.up cs) t).1 (all ++ tried.take k) ∧ (scan (s.up cs) t).1.first = t.first ∧ (scan (s.up cs) t).1.n = t.n ∧ (scan (s.up cs) t).1.gen = t.gen := by
  obtain ⟨k, rest, b, hk, hl, hnb, hgd, hgen, hfit⟩ := lost_up h cs
  exact ⟨k, hk, scan_laid rfl rfl hfit hB hgen hl hnb hgd⟩
/-- The records kept are such as fit into cells. -/
theorem Kept.good {s : DSt} {t : SegSt} {all : List (List Nat)} (K : Kept s t all) : ∀ r ∈ all, Cl.need r.length ≠ 0 := by
  obtain ⟨pre, old, b, L⟩ := K.lay
  exact L.all
end SegSt
end Go.Proofs.YtdlcngmcjidomaaDoor

/- The segment, plain: what a law that adds, plans and loses keeps. No program here. -/
namespace Go.Proofs.YtdlcngmcjidomaaDoor
set_option linter.unusedVariables false
namespace SegSt
/-- Records kept, with power; or those kept and those tried, without. -/
structure KInv (s : DSt) (t : SegSt) (all tried : List (List Nat)) : Prop where
  first : t.first = 1
  n : t.n = 40
  gen : t.gen = 1
  len : s.sure.length = 42
  pend : s.pend.length ≤ 40
  st : (Kept s t all ∧ tried = []) ∨ Lost s t all tried
variable {s : DSt} {t : SegSt} {all tried rs : List (List Nat)}
theorem KInv.ok (h : KInv s t all tried) : t.fin ≤ 40 ∧ t.top ≤ 4294967295 := by
  rcases h.st with ⟨K, _⟩ | L
  · obtain ⟨pre, old, b, y⟩ := K.lay
    have h1 := congrArg List.length y.is
    rw [plainCells_len, List.length_append] at h1
    have := y.fin; have := h.n; have := y.most
    omega
  · have := L.unk
    omega
theorem KInv.plan (h : KInv s t all tried) (k : Int) : KInv (s.plan k) t all tried := ⟨h.first, h.n, h.gen, h.len, h.pend, h.st.elim (fun x => .inl ⟨x.1.plan k, x.2⟩) (fun x => .inr (x.plan k))⟩
theorem KInv.good (h : KInv s t all tried) : ∀ r ∈ all, Cl.need r.length ≠ 0 := by
  rcases h.st with ⟨K, _⟩ | L
  · exact K.good
  · obtain ⟨t0, pre, old, b, j, _, _, _, y, _⟩ := L.lay
    exact y.all
theorem KInv.add (h : KInv s t all tried) (hr : ∀ r ∈ rs, ∀ c ∈ r, c < 256) :
    (((SegSt.add s t rs).2.2 = 0 ∧ KInv (SegSt.add s t rs).1 (SegSt.add s t rs).2.1 (all ++ rs) tried) ∨ ((SegSt.add s t rs).2.2 = 4 ∧ tried = [] ∧ KInv (SegSt.add s t rs).1 (SegSt.add s t rs).2.1 all rs) ∨
      ((SegSt.add s t rs).2.2 ≠ 0 ∧ ((SegSt.add s t rs).2.2 ≠ 4 ∨ tried ≠ []) ∧ KInv (SegSt.add s t rs).1 (SegSt.add s t rs).2.1 all tried)) ∧ (SegSt.add s t rs).1.begun ≤ s.begun + 41 := by
  rcases h.st with ⟨K, ht⟩ | L
  · obtain ⟨hc, h1, h2, h3, h4, h5, h6⟩ := kept_add K hr
    have hn := h.n
    have hp : (SegSt.add s t rs).1.pend.length ≤ 40 := by omega
    have mk : ∀ {a b}, ((Kept (SegSt.add s t rs).1 (SegSt.add s t rs).2.1 a ∧ b = []) ∨ Lost (SegSt.add s t rs).1 (SegSt.add s t rs).2.1 a b) → KInv (SegSt.add s t rs).1 (SegSt.add s t rs).2.1 a b := fun x => ⟨h1.trans h.first, h2.trans h.n, h3.trans h.gen, h4.trans h.len, hp, x⟩
    refine ⟨?_, by omega⟩
    rcases hc with ⟨c, e1, e2⟩ | ⟨c, K'⟩ | ⟨c, L'⟩
    · refine .inr (.inr ⟨by omega, .inl (by omega), mk (.inl ⟨?_, ht⟩)⟩)
      rw [e1, e2]; exact K
    · exact .inl ⟨c, mk (.inl ⟨K', ht⟩)⟩
    · exact .inr (.inl ⟨c, ht, mk (.inr L')⟩)
  · obtain ⟨e1, e2, c⟩ := lost_add (rs := rs) L
    rw [e1, e2]
    exact ⟨.inr (.inr ⟨by omega, .inr L.some_, h⟩), by omega⟩
theorem KInv.up (h : KInv s t all tried) (cs : List Nat) (hB : ∀ x ∈ (s.up cs).sure, ∀ c ∈ x, c < 256) :
    ∃ k, k ≤ tried.length ∧ (scan (s.up cs) t).2 = (all ++ tried.take k, 0) ∧ KInv (s.up cs) (scan (s.up cs) t).1 (all ++ tried.take k) [] := by
  have hl : (s.up cs).sure.length = 42 := by
    rw [← h.len]
    exact DSt.len_layBy _ _ _
  rcases h.st with ⟨K, ht⟩ | L
  · obtain ⟨h1, h2, h3, h4, h5⟩ := kept_scan (K.up cs) hB
    refine ⟨0, Nat.zero_le _, ?_, ?_⟩
    · rw [h1, List.take_zero, List.append_nil]
    · rw [List.take_zero, List.append_nil]
      exact ⟨h3.trans h.first, h4.trans h.n, h5.trans h.gen, hl, Nat.zero_le _, .inl ⟨h2, rfl⟩⟩
  · obtain ⟨k, h0, h1, h2, h3, h4, h5⟩ := lost_scan L cs hB
    exact ⟨k, h0, h1, h3.trans h.first, h4.trans h.n, h5.trans h.gen, hl, Nat.zero_le _, .inl ⟨h2, rfl⟩⟩
end SegSt
end Go.Proofs.YtdlcngmcjidomaaDoor
