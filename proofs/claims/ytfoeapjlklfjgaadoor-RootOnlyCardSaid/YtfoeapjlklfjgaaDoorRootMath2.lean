/- What becomes of a disk whose roots are saved one by one: plain. No condition. -/
import Derived.Test.YtfoeapjlklfjgaaDoorRootMath
import Derived.Test.YtfoeapjlklfjgaaDoorDMath3
namespace Go.Proofs.YtfoeapjlklfjgaaDoor
set_option linter.unusedSimpArgs false
set_option linter.unusedVariables false

namespace DSt
variable {s : DSt}
theorem cur_nil (h : s.pend = []) (i : Nat) : s.cur i = s.sure.getD i [] := by unfold cur; rw [h]; rfl
theorem read_plain (hd : s.down = false) (hp : s.pend = []) {i : Nat} (hi : i < s.sure.length) : (s.read (i : Int)).1 = s.sure.getD i [] := by
  have hh : s.has (i : Int) = true := decide_eq_true ⟨by omega, by omega⟩
  by_cases h : s.sure.getD i [] = []
  · rw [read_torn hd hh (by rw [Int.toNat_natCast, cur_nil hp]; exact h), h]
  · rw [read_ok hd hh (by rw [Int.toNat_natCast, cur_nil hp]; exact h), Int.toNat_natCast, cur_nil hp]
theorem found_plain (hd : s.down = false) (hp : s.pend = []) {i : Nat} (hi : i < s.sure.length) : s.found i = genOf (s.sure.getD i []) i := by
  unfold found; rw [read_plain hd hp hi]
theorem load_plain (hd : s.down = false) (hp : s.pend = []) (h2 : 2 ≤ s.sure.length) : s.load = (max (genOf (s.sure.getD 0 []) 0) (genOf (s.sure.getD 1 []) 1), 0) := by
  unfold load
  rw [hd, if_neg (by decide), if_neg (by omega), found_plain hd hp (by omega), found_plain hd hp (by omega)]
/-- A root is saved: there, or not, or pending, the power being gone. -/
theorem save_cases (hd : s.down = false) (hp : s.pend = []) (h2 : 2 ≤ s.sure.length) {gen : Nat} (h0 : gen ≠ 0) :
    (s.save gen = ({ s.beg.beg with sure := s.sure.set (gen % 2) (rootS gen), pend := [] }, 0) ∧ s.goes = false ∧ s.beg.goes = false) ∨ (s.save gen = (s.beg, 4) ∧ s.goes = true) ∨
      (s.save gen = ({ s.beg.beg with pend := [(gen % 2, rootS gen)] }, 4) ∧ s.goes = false ∧ s.beg.goes = true) := by
  have hh : (s.has (gen % 2 : Nat) && decide ((rootS gen).length = 64)) = true := by
    have h1 : s.has (gen % 2 : Nat) = true := decide_eq_true ⟨by omega, by omega⟩
    rw [h1, rootS_len]; rfl
  have hn : ¬ (s.sure.length < 2 ∨ gen = 0) := by omega
  unfold save
  rw [if_neg hn]
  cases hg : s.goes with
  | true =>
    refine .inr (.inl ⟨?_, rfl⟩)
    rw [write_goes hd hh hg, if_neg (show ¬ (4 : Int) = 0 by decide)]
  | false =>
    rw [write_ok hd hh hg, if_pos rfl]
    dsimp only
    have hd2 : s.beg.down = false := hg
    cases hg2 : s.beg.goes with
    | true =>
      refine .inr (.inr ⟨?_, rfl, rfl⟩)
      rw [flush_goes (by exact hd2) (by exact hg2), hp]
      rfl
    | false =>
      refine .inl ⟨?_, rfl, rfl⟩
      rw [flush_ok (by exact hd2) (by exact hg2), hp]
      rfl
/-- Between two savings, the power being there. -/
structure Flip (s : DSt) (gen : Nat) : Prop where
  up : s.Up
  len : s.sure.length = 2
  pend : s.pend = []
  beg : s.begun ≤ 2
  is : s.sure.getD (gen % 2) [] = rootS gen
  other : genOf (s.sure.getD ((gen + 1) % 2) []) ((gen + 1) % 2) ≤ gen
theorem Flip.load {gen : Nat} (h : Flip s gen) (h0 : 0 < gen) (h1 : gen < 4294967296) : s.load = (gen, 0) := by
  rw [load_plain h.up.down h.pend (by rw [h.len]; exact Nat.le_refl _)]
  have e1 := genOf_root h0 h1
  rw [← h.is] at e1
  have e2 := h.other
  congr 1
  have hm : gen % 2 = 0 ∨ gen % 2 = 1 := by omega
  rcases hm with hm | hm
  · have hk : (gen + 1) % 2 = 1 := by omega
    rw [hm] at e1; rw [hk] at e2
    rw [e1]; omega
  · have hk : (gen + 1) % 2 = 0 := by omega
    rw [hm] at e1; rw [hk] at e2
    rw [e1]; omega
theorem new_zero (i : Nat) : genOf ((DSt.new 2).sure.getD i []) i = 0 := by
  have hz : (DSt.new 2).sure.getD i [] = List.replicate 64 0 ∨ (DSt.new 2).sure.getD i [] = [] := by
    match i with
    | 0 => exact .inl rfl
    | 1 => exact .inl rfl
    | (k + 2) => exact .inr rfl
  rcases hz with e | e
  · rw [e]
    have : Cl.isEnc (List.replicate 64 0) = false := by
      unfold Cl.isEnc
      have : (Cl.raw (List.replicate 64 0)).may = false := by
        unfold Cl.may Cl.raw
        exact decide_eq_false (fun h => by have := h.1; simp at this)
      rw [this]; simp
    unfold genOf isRootL
    rw [this]; rfl
  · rw [e]; exact genOf_nil i
theorem set_len (s : DSt) (i : Nat) (l : List Nat) : (s.sure.set i l).length = s.sure.length := List.length_set ..
theorem layBy_one (su : List (List Nat)) (x : Nat × List Nat) (cs : List Nat) : layBy su [x] cs = su ∨ layBy su [x] cs = su.set x.1 x.2 ∨ layBy su [x] cs = su.set x.1 [] := by
  show lay1 su x cs = su ∨ lay1 su x cs = _ ∨ lay1 su x cs = _
  unfold lay1
  split
  · exact .inl rfl
  · split
    · exact .inr (.inl rfl)
    · split
      · exact .inr (.inr rfl)
      · exact .inl rfl
/-- The first root. -/
theorem Flip.first {gen : Nat} (h0 : gen ≠ 0) : ((DSt.new 2).save gen).2 = 0 ∧ Flip ((DSt.new 2).save gen).1 gen := by
  rcases save_cases (s := DSt.new 2) rfl rfl (by decide) h0 with ⟨e, _, _⟩ | ⟨_, hg⟩ | ⟨_, _, hg⟩
  · rw [e]
    refine ⟨rfl, ⟨rfl, rfl⟩, by show ((DSt.new 2).sure.set _ _).length = 2; rw [set_len]; rfl, rfl, (by decide : 0 + 1 + 1 ≤ 2), ?_, ?_⟩
    · show ((DSt.new 2).sure.set (gen % 2) (rootS gen)).getD (gen % 2) [] = _
      rw [getD_set (by show gen % 2 < 2; omega), if_pos rfl]
    · show genOf (((DSt.new 2).sure.set (gen % 2) (rootS gen)).getD ((gen + 1) % 2) []) _ ≤ gen
      rw [getD_set (by show gen % 2 < 2; omega), if_neg (by omega), new_zero]
      exact Nat.zero_le _
  · cases hg
  · cases hg
/-- One more, behind a plan and a loss. -/
theorem Flip.next {gen : Nat} (h : Flip s gen) (h0 : 0 < gen) (h1 : gen + 1 < 4294967296) (k : Int) (cs : List Nat) :
    (((s.plan k).save (gen + 1)).2 = 0 → Flip (((s.plan k).save (gen + 1)).1.up cs) (gen + 1)) ∧ (Flip (((s.plan k).save (gen + 1)).1.up cs) gen ∨ Flip (((s.plan k).save (gen + 1)).1.up cs) (gen + 1)) := by
  have hpd : (s.plan k).pend = [] := h.pend
  have hsu : (s.plan k).sure = s.sure := rfl
  have hdn : (s.plan k).down = false := h.up.down
  have hlen := h.len
  have hnew : ∀ t : DSt, t.sure = s.sure.set ((gen + 1) % 2) (rootS (gen + 1)) → t.down = false → t.stop = 0 → t.pend = [] → t.begun ≤ 2 → Flip t (gen + 1) := fun t e e1 e2 e3 e4 =>
    ⟨⟨e1, e2⟩, by rw [e, set_len]; exact hlen, e3, e4, by rw [e, getD_set (by omega), if_pos rfl], by
      rw [e, getD_set (by omega), if_neg (by omega)]
      have e5 : (gen + 1 + 1) % 2 = gen % 2 := by omega
      rw [e5, h.is, genOf_root h0 (by omega)]
      omega⟩
  have hold : ∀ t : DSt, t.sure = s.sure → t.down = false → t.stop = 0 → t.pend = [] → t.begun ≤ 2 → Flip t gen := fun t e e1 e2 e3 e4 =>
    ⟨⟨e1, e2⟩, by rw [e]; exact hlen, e3, e4, by rw [e]; exact h.is, by rw [e]; exact h.other⟩
  have htorn : ∀ t : DSt, t.sure = s.sure.set ((gen + 1) % 2) [] → t.down = false → t.stop = 0 → t.pend = [] → t.begun ≤ 2 → Flip t gen := fun t e e1 e2 e3 e4 =>
    ⟨⟨e1, e2⟩, by rw [e, set_len]; exact hlen, e3, e4, by rw [e, getD_set (by omega), if_neg (by omega)]; exact h.is, by
      rw [e, getD_set (by omega), if_pos rfl, genOf_nil]; exact Nat.zero_le _⟩
  rcases save_cases (s := s.plan k) hdn hpd (by rw [hsu, hlen]; exact Nat.le_refl _) (gen := gen + 1) (by omega) with ⟨e, _, _⟩ | ⟨e, hg⟩ | ⟨e, _, hg⟩
  · rw [e]
    have hf : Flip ((DSt.mk ((s.plan k).sure.set ((gen + 1) % 2) (rootS (gen + 1))) [] (s.plan k).beg.beg.down (s.plan k).beg.beg.stop (s.plan k).beg.beg.begun).up cs) (gen + 1) := hnew _ rfl rfl rfl rfl (by show 0 ≤ 2; decide)
    exact ⟨fun _ => hf, .inr hf⟩
  · rw [e]
    refine ⟨fun h4 => (by cases h4), .inl (hold _ ?_ rfl rfl rfl (by show 0 ≤ 2; decide))⟩
    show layBy (s.plan k).beg.sure (s.plan k).beg.pend cs = s.sure
    rw [show (s.plan k).beg.pend = [] from hpd]
    rfl
  · rw [e]
    refine ⟨fun h4 => (by cases h4), ?_⟩
    rcases layBy_one s.sure ((gen + 1) % 2, rootS (gen + 1)) cs with e2 | e2 | e2
    · exact .inl (hold _ e2 rfl rfl rfl (by show 0 ≤ 2; decide))
    · exact .inr (hnew _ e2 rfl rfl rfl (by show 0 ≤ 2; decide))
    · exact .inl (htorn _ e2 rfl rfl rfl (by show 0 ≤ 2; decide))
end DSt
end Go.Proofs.YtfoeapjlklfjgaaDoor
