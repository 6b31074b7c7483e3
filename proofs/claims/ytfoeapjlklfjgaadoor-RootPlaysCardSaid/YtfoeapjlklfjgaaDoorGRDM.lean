/- Texts of several parts in one: DMath, DMath2, DMath3, RootMath, RootMath2. Each says what it proves; no condition but those named there. -/
import Derived.Test.YtfoeapjlklfjgaaDoorDiskMath
import Derived.Test.YtfoeapjlklfjgaaDoorCellMath2
/- What becomes of a disk in the laws' loops: plain lists. No condition. -/
namespace Go.Proofs.YtfoeapjlklfjgaaDoor
set_option linter.unusedSimpArgs false
set_option linter.unusedVariables false

/-- A disk of N sectors behind j writes that were asked for, planned to stop at 'stop'. -/
structure Wk (s : DSt) (N stop j : Nat) : Prop where
  len : s.sure.length = N
  st : s.stop = stop
  down : s.down = decide (0 < stop ∧ stop ≤ j)
  le : s.begun ≤ j
  beg : s.down = false → s.begun = j
  pend : s.pend.length ≤ j
theorem DSt.has_nat {s : DSt} {i N : Nat} (h : s.sure.length = N) (hi : i < N) : s.has (i : Int) = true := decide_eq_true ⟨by omega, by omega⟩
theorem DSt.beg_sure (s : DSt) : s.beg.sure = s.sure := rfl
theorem Wk.step {s : DSt} {N stop j : Nat} (h : Wk s N stop j) {i : Nat} (hi : i < N) {l : List Nat} (hl : l.length = 64) :
    Wk (s.write (i : Int) l).1 N stop (j + 1) ∧ (s.write (i : Int) l).2 = if stop = 0 ∨ j + 1 < stop then 0 else 4 := by
  have hh := DSt.has_nat h.len hi
  have hw : (s.has (i : Int) && decide (l.length = 64)) = true := by rw [hh, decide_eq_true hl]; rfl
  by_cases hd : s.down = true
  · rw [DSt.write_down hd]
    have h1 : 0 < stop ∧ stop ≤ j := of_decide_eq_true (h.down ▸ hd)
    exact ⟨⟨h.len, h.st, by rw [hd]; exact (decide_eq_true ⟨h1.1, by omega⟩).symm, Nat.le_trans h.le (by omega), (fun e => by have e : s.down = false := e; rw [hd] at e; cases e), Nat.le_trans h.pend (by omega)⟩, by rw [if_neg (by omega)]⟩
  · have hd : s.down = false := by simpa using hd
    have hb := h.beg hd
    have h1 : ¬ (0 < stop ∧ stop ≤ j) := of_decide_eq_false (h.down ▸ hd)
    have hg : s.goes = decide (stop = j + 1) := by
      unfold DSt.goes
      rw [hd, h.st, hb, Bool.false_or]
      by_cases e : stop = j + 1
      · rw [decide_eq_true e, decide_eq_true (by omega), decide_eq_true (by omega)]; rfl
      · rw [decide_eq_false e]
        rw [decide_eq_false (show ¬ ((j : Int) + 1 = (stop : Int)) by omega), Bool.and_false]
    by_cases e : stop = j + 1
    · rw [decide_eq_true e] at hg
      rw [DSt.write_goes hd hw hg]
      refine ⟨⟨h.len, h.st, ?_, ?_, fun e => ?_, ?_⟩, by rw [if_neg (by omega)]⟩
      · show s.goes = _
        rw [hg]; exact (decide_eq_true ⟨by omega, by omega⟩).symm
      · show s.begun + 1 ≤ _; omega
      · have : s.goes = false := e
        rw [hg] at this; cases this
      · have := h.pend; show s.pend.length ≤ _; omega
    · rw [decide_eq_false e] at hg
      rw [DSt.write_ok hd hw hg]
      refine ⟨⟨h.len, h.st, ?_, ?_, fun _ => ?_, ?_⟩, by rw [if_pos (by omega)]⟩
      · show s.goes = _
        rw [hg]; exact (decide_eq_false (by omega)).symm
      · show s.begun + 1 ≤ _; omega
      · show s.begun + 1 = _; omega
      · have := h.pend; show (s.pend ++ _).length ≤ _; simp; omega
theorem Wk.start (n k : Nat) : Wk ((DSt.new n).plan (k : Int)) n k 0 :=
  ⟨by show (List.replicate n _).length = n; simp, by show max (k : Int) 0 = k; omega, by show false = _; exact (decide_eq_false (by omega)).symm, Nat.zero_le _, fun _ => rfl, Nat.zero_le _⟩
theorem Wk.up {s : DSt} {N stop j : Nat} (h : Wk s N stop j) (l : List Nat) : Wk (s.up l) N 0 0 :=
  ⟨by show (DSt.layBy _ _ _).length = N; rw [DSt.len_layBy]; exact h.len, rfl, rfl, Nat.le_refl _, fun _ => rfl, Nat.zero_le _⟩
theorem Wk.flush {s : DSt} {N j : Nat} (h : Wk s N 0 j) : s.flush.2 = 0 := by
  have hd : s.down = false := by rw [h.down]; exact decide_eq_false (by omega)
  rw [DSt.flush_ok hd]
  unfold DSt.goes
  rw [hd, h.st]
  rfl
end Go.Proofs.YtfoeapjlklfjgaaDoor

/- A disk on which no power is planned to go: plain lists. No condition. -/
namespace Go.Proofs.YtfoeapjlklfjgaaDoor
set_option linter.unusedSimpArgs false
set_option linter.unusedVariables false
namespace DSt

/-- Nothing is planned, and the power is there. -/
structure Up (s : DSt) : Prop where
  down : s.down = false
  stop : s.stop = 0
section
variable {s : DSt}
theorem Up.goes (h : s.Up) : s.goes = false := by unfold DSt.goes; rw [h.down, h.stop]; rfl
theorem Up.write (h : s.Up) {i : Nat} (hi : i < s.sure.length) {l : List Nat} (hl : l.length = 64) :
    s.write (i : Int) l = ({ sure := s.sure, pend := s.pend ++ [(i, l)], down := false, stop := 0, begun := s.begun + 1 }, 0) := by
  rw [write_ok h.down (by rw [has_nat rfl hi, decide_eq_true hl]; rfl) h.goes]
  have h1 : s.beg = { sure := s.sure, pend := s.pend, down := false, stop := 0, begun := s.begun + 1 } := by
    unfold DSt.beg
    rw [h.goes, h.stop]
  rw [h1]
  rfl
theorem Up.flush (h : s.Up) : s.flush = ({ sure := lay s.sure s.pend, pend := [], down := false, stop := 0, begun := s.begun + 1 }, 0) := by
  rw [flush_ok h.down h.goes]
  have h1 : s.beg = { sure := s.sure, pend := s.pend, down := false, stop := 0, begun := s.begun + 1 } := by
    unfold DSt.beg
    rw [h.goes, h.stop]
  rw [h1]
theorem Up.read (h : s.Up) {i : Nat} (hi : i < s.sure.length) : s.read (i : Int) = if s.cur i = [] then ([], 6) else (s.cur i, 0) := by
  unfold DSt.read
  rw [h.down, has_nat rfl hi]
  rfl
theorem up_up (s : DSt) (cs : List Nat) : (s.up cs).Up := ⟨rfl, rfl⟩
theorem new_up (n : Nat) : (DSt.new n).Up := ⟨rfl, rfl⟩
theorem plan0_up (h : s.Up) : (s.plan 0).Up := ⟨h.down, rfl⟩
theorem getD_set {l : List (List Nat)} {i j : Nat} {x : List Nat} (hi : i < l.length) : (l.set i x).getD j [] = if j = i then x else l.getD j [] := by
  by_cases h : j = i
  · subst h; rw [if_pos rfl, List.getD_eq_getElem?_getD, List.getElem?_set_self hi]; rfl
  · rw [if_neg h, List.getD_eq_getElem?_getD, List.getD_eq_getElem?_getD, List.getElem?_set_ne (Ne.symm h)]
theorem getD_rep {n j : Nat} {x : List Nat} (h : j < n) : (List.replicate n x).getD j [] = x := by
  rw [List.getD_eq_getElem?_getD, List.getElem?_replicate, if_pos h]; rfl

/-- DiskTorn's disk: behind a write and a loss that tears. -/
def torn (k : Nat) (su : List (List Nat)) : DSt := { sure := su.set k [], pend := [], down := false, stop := 0, begun := 0 }
theorem torn_of {su : List (List Nat)} {k : Nat} (h : s.Up) (hp : s.pend = []) (hs : s.sure = su) (hk : k < su.length) {l : List Nat} (hl : l.length = 64) : s.write (k : Int) l = ((s.write (k : Int) l).1, 0) ∧ (s.write (k : Int) l).1.up [2] = torn k su := by
  rw [h.write (by rw [hs]; exact hk) hl]
  refine ⟨rfl, ?_⟩
  rw [hp, hs]
  rfl
theorem torn_up (k : Nat) (su : List (List Nat)) : (torn k su).Up := ⟨rfl, rfl⟩
theorem torn_read {su : List (List Nat)} {k j : Nat} (hk : k < su.length) (hj : j < su.length) (hne : su.getD j [] ≠ []) : (torn k su).read (j : Int) = if j = k then ([], 6) else (su.getD j [], 0) := by
  rw [(torn_up k su).read (by show j < (su.set k []).length; rw [List.length_set]; exact hj)]
  have e : (torn k su).cur j = if j = k then [] else su.getD j [] := by
    show (su.set k []).getD j [] = _
    exact getD_set hk
  rw [e]
  by_cases h : j = k
  · rw [if_pos h, if_pos rfl, if_pos h]
  · rw [if_neg h, if_neg hne, if_neg h]
/-- Written again. -/
theorem torn_write {su : List (List Nat)} {k : Nat} (hk : k < su.length) {l : List Nat} (hl : l.length = 64) : (torn k su).write (k : Int) l = ({ sure := su.set k [], pend := [(k, l)], down := false, stop := 0, begun := 1 }, 0) :=
  (torn_up k su).write (by show k < (su.set k []).length; rw [List.length_set]; exact hk) hl
theorem again_read {su : List (List Nat)} {k : Nat} (hk : k < su.length) {l : List Nat} (hl : l.length = 64) : (DSt.mk (su.set k []) [(k, l)] false 0 1).read (k : Int) = (l, 0) ∧ ((DSt.mk (su.set k []) [(k, l)] false 0 1).up []).read (k : Int) = ([], 6) := by
  have hne : l ≠ [] := fun e => by rw [e] at hl; cases hl
  constructor
  · rw [Up.read ⟨rfl, rfl⟩ (by show k < (su.set k []).length; rw [List.length_set]; exact hk)]
    have e : (DSt.mk (su.set k []) [(k, l)] false 0 1).cur k = l := by
      show (if k = k then l else _) = l
      rw [if_pos rfl]
    rw [e, if_neg hne]
  · have e : (DSt.mk (su.set k []) [(k, l)] false 0 1).up [] = torn k su := rfl
    rw [e]
    rw [(torn_up k su).read (by show k < (su.set k []).length; rw [List.length_set]; exact hk), if_pos]
    show (su.set k []).getD k [] = []
    rw [getD_set hk, if_pos rfl]
theorem flush_read {su : List (List Nat)} {k : Nat} (hk : k < su.length) {l : List Nat} (hl : l.length = 64) : (DSt.mk (su.set k []) [(k, l)] false 0 1).flush.2 = 0 ∧ (DSt.mk (su.set k []) [(k, l)] false 0 1).flush.1.read (k : Int) = (l, 0) ∧ ((DSt.mk (su.set k []) [(k, l)] false 0 1).flush.1.up []).read (k : Int) = (l, 0) := by
  have hne : l ≠ [] := fun e => by rw [e] at hl; cases hl
  have e : (DSt.mk (su.set k []) [(k, l)] false 0 1).flush = ({ sure := su.set k l, pend := [], down := false, stop := 0, begun := 2 }, 0) := by
    rw [Up.flush ⟨rfl, rfl⟩]
    show (DSt.mk ((su.set k []).set k l) [] false 0 2, (0 : Int)) = _
    rw [List.set_set]
  rw [e]
  have h1 : (su.set k l).getD k [] = l := by rw [getD_set hk, if_pos rfl]
  have hlen : k < (su.set k l).length := by rw [List.length_set]; exact hk
  refine ⟨rfl, ?_, ?_⟩
  · rw [Up.read ⟨rfl, rfl⟩ hlen]
    show (if (su.set k l).getD k [] = [] then _ else ((su.set k l).getD k [], _)) = _
    rw [h1, if_neg hne]
  · rw [Up.read ⟨rfl, rfl⟩ hlen]
    show (if (su.set k l).getD k [] = [] then _ else ((su.set k l).getD k [], _)) = _
    rw [h1, if_neg hne]
end
end DSt
end Go.Proofs.YtfoeapjlklfjgaaDoor

/- What becomes of a disk in the law DiskQuiet: plain lists. No condition. -/
namespace Go.Proofs.YtfoeapjlklfjgaaDoor
set_option linter.unusedSimpArgs false
set_option linter.unusedVariables false
namespace DSt
section
variable {s : DSt}
theorem has_not {s : DSt} {i : Int} (h : (s.sure.length : Int) ≤ i) : s.has i = false := decide_eq_false (by omega)
theorem write_long (hd : s.down = false) (i : Int) {l : List Nat} (hl : l.length ≠ 64) : s.write i l = (s, 1) := write_arg hd (by rw [decide_eq_false hl, Bool.and_false])
theorem write_far (hd : s.down = false) {i : Int} (hi : (s.sure.length : Int) ≤ i) (l : List Nat) : s.write i l = (s, 1) := write_arg hd (by rw [has_not hi]; rfl)
theorem write_sure (i : Int) (l : List Nat) : (s.write i l).1.sure = s.sure := by
  unfold DSt.write
  split
  · rfl
  · split
    · split <;> rfl
    · rfl
end
end DSt
theorem Wk.plan {s : DSt} {N : Nat} (k : Nat) (h1 : s.down = false) (h2 : s.sure.length = N) (h3 : s.pend = []) : Wk (s.plan (k : Int)) N k 0 :=
  ⟨h2, by show max (k : Int) 0 = k; omega, by show s.down = _; rw [h1]; exact (decide_eq_false (by omega)).symm, Nat.zero_le _, fun _ => rfl, by show s.pend.length ≤ 0; rw [h3]; exact Nat.le_refl _⟩
end Go.Proofs.YtfoeapjlklfjgaaDoor

/- What a root is, and which generation a disk tells: plain. No condition. -/
namespace Go.Proofs.YtfoeapjlklfjgaaDoor
set_option linter.unusedSimpArgs false
set_option linter.unusedVariables false

def rootC (gen : Nat) : Cl := ⟨gen, 0, 0, 1, [114, 111, 111, 116]⟩
def rootS (gen : Nat) : List Nat := (rootC gen).enc
theorem rootC_may (gen : Nat) : (rootC gen).may = true := by rw [Cl.may_iff]; unfold rootC; simp
theorem rootC_ok {gen : Nat} (h : gen < 4294967296) : (rootC gen).Ok := ⟨h, (by decide : (0 : Nat) < 4294967296), fun c hc => by
  unfold rootC at hc
  simp only [List.mem_cons, List.not_mem_nil, or_false] at hc
  omega⟩
theorem rootS_len (gen : Nat) : (rootS gen).length = 64 := Cl.enc_len (by unfold rootC; simp)
theorem rootS_lt {gen : Nat} (h : gen < 4294967296) : ∀ c ∈ rootS gen, c < 256 := Cl.enc_lt (rootC_ok h) (rootC_may gen)
/-- Whether bytes are a root of a sector. -/
def isRootL (l : List Nat) (slot : Nat) : Bool := Cl.isEnc l && (decide (0 < (Cl.raw l).gen ∧ (Cl.raw l).gen % 2 = slot) && decide (Cl.raw l = rootC (Cl.raw l).gen))
def genOf (l : List Nat) (slot : Nat) : Nat := if isRootL l slot then (Cl.raw l).gen else 0
theorem genOf_lt {l : List Nat} (hl : ∀ x ∈ l, x < 256) (slot : Nat) : genOf l slot < 4294967296 := by
  unfold genOf
  split
  · exact (Cl.raw_ok hl).gen
  · decide
theorem genOf_root {gen : Nat} (h0 : 0 < gen) (h : gen < 4294967296) : genOf (rootS gen) (gen % 2) = gen := by
  have e := Cl.raw_enc (rootC_ok h) (rootC_may gen)
  unfold genOf isRootL
  have e1 : Cl.raw (rootS gen) = rootC gen := e
  have e2 : Cl.isEnc (rootS gen) = true := Cl.isEnc_enc (rootC_ok h) (rootC_may gen)
  rw [e1, e2, decide_eq_true (show 0 < (rootC gen).gen ∧ (rootC gen).gen % 2 = gen % 2 from ⟨h0, rfl⟩), decide_eq_true (show rootC gen = rootC (rootC gen).gen from rfl)]
  rfl
theorem genOf_other {gen slot : Nat} (h : gen < 4294967296) (hs : gen % 2 ≠ slot) : genOf (rootS gen) slot = 0 := by
  have e1 : Cl.raw (rootS gen) = rootC gen := Cl.raw_enc (rootC_ok h) (rootC_may gen)
  unfold genOf isRootL
  rw [e1, decide_eq_false (show ¬ (0 < (rootC gen).gen ∧ (rootC gen).gen % 2 = slot) from fun e => hs e.2), Bool.false_and, Bool.and_false]
  rfl
theorem genOf_nil (slot : Nat) : genOf [] slot = 0 := by
  unfold genOf isRootL Cl.isEnc
  rw [decide_eq_false (show ¬ ([] : List Nat).length = 64 by decide), Bool.false_and, Bool.false_and]
  rfl

namespace DSt
/-- What a sector tells. -/
def found (s : DSt) (i : Nat) : Nat := genOf (s.read i).1 i
def load (s : DSt) : Nat × Int := if s.down then (0, 4) else if s.sure.length < 2 then (0, 1) else (max (s.found 0) (s.found 1), 0)
def save (s : DSt) (gen : Nat) : DSt × Int :=
  if s.sure.length < 2 ∨ gen = 0 then (s, 1) else if (s.write (gen % 2 : Nat) (rootS gen)).2 = 0 then (s.write (gen % 2 : Nat) (rootS gen)).1.flush else s.write (gen % 2 : Nat) (rootS gen)
end DSt
end Go.Proofs.YtfoeapjlklfjgaaDoor

/- What becomes of a disk whose roots are saved one by one: plain. No condition. -/
namespace Go.Proofs.YtfoeapjlklfjgaaDoor
set_option linter.unusedSimpArgs false
set_option linter.unusedVariables false

namespace DSt
variable {s : DSt}
theorem cur_nil (h : s.pend = []) (i : Nat) : s.cur i = s.sure.getD i [] := by unfold cur; rw [h]; rfl
theorem read_plain (hd : s.down = false) (hp : s.pend = []) {i : Nat} (hi : i < s.sure.length) : (s.read (i : Int)).1 = s.sure.getD i [] := by
  have hh : s.has (i : Int) = true := decide_eq_true ⟨by omega, by omega⟩
  by_cases h : s.sure.getD i [] = []
  · rw [read_torn hd hh (by rw [Int.toNat_natCast, cur_nil hp]; exact h), h]
  · rw [read_ok hd hh (by rw [Int.toNat_natCast, cur_nil hp]; exact h), Int.toNat_natCast, cur_nil hp]
theorem found_plain (hd : s.down = false) (hp : s.pend = []) {i : Nat} (hi : i < s.sure.length) : s.found i = genOf (s.sure.getD i []) i := by
  unfold found; rw [read_plain hd hp hi]
theorem load_plain (hd : s.down = false) (hp : s.pend = []) (h2 : 2 ≤ s.sure.length) : s.load = (max (genOf (s.sure.getD 0 []) 0) (genOf (s.sure.getD 1 []) 1), 0) := by
  unfold load
  rw [hd, if_neg (by decide), if_neg (by omega), found_plain hd hp (by omega), found_plain hd hp (by omega)]
/-- A root is saved: there, or not, or pending, the power being gone. -/
theorem save_cases (hd : s.down = false) (hp : s.pend = []) (h2 : 2 ≤ s.sure.length) {gen : Nat} (h0 : gen ≠ 0) :
    (s.save gen = ({ s.beg.beg with sure := s.sure.set (gen % 2) (rootS gen), pend := [] }, 0) ∧ s.goes = false ∧ s.beg.goes = false) ∨ (s.save gen = (s.beg, 4) ∧ s.goes = true) ∨
      (s.save gen = ({ s.beg.beg with pend := [(gen % 2, rootS gen)] }, 4) ∧ s.goes = false ∧ s.beg.goes = true) := by
  have hh : (s.has (gen % 2 : Nat) && decide ((rootS gen).length = 64)) = true := by
    have h1 : s.has (gen % 2 : Nat) = true := decide_eq_true ⟨by omega, by omega⟩
    rw [h1, rootS_len]; rfl
  have hn : ¬ (s.sure.length < 2 ∨ gen = 0) := by omega
  unfold save
  rw [if_neg hn]
  cases hg : s.goes with
  | true =>
    refine .inr (.inl ⟨?_, rfl⟩)
    rw [write_goes hd hh hg, if_neg (show ¬ (4 : Int) = 0 by decide)]
  | false =>
    rw [write_ok hd hh hg, if_pos rfl]
    dsimp only
    have hd2 : s.beg.down = false := hg
    cases hg2 : s.beg.goes with
    | true =>
      refine .inr (.inr ⟨?_, rfl, rfl⟩)
      rw [flush_goes (by exact hd2) (by exact hg2), hp]
      rfl
    | false =>
      refine .inl ⟨?_, rfl, rfl⟩
      rw [flush_ok (by exact hd2) (by exact hg2), hp]
      rfl
/-- Between two savings, the power being there. -/
structure Flip (s : DSt) (gen : Nat) : Prop where
  up : s.Up
  len : s.sure.length = 2
  pend : s.pend = []
  beg : s.begun ≤ 2
  is : s.sure.getD (gen % 2) [] = rootS gen
  other : genOf (s.sure.getD ((gen + 1) % 2) []) ((gen + 1) % 2) ≤ gen
theorem Flip.load {gen : Nat} (h : Flip s gen) (h0 : 0 < gen) (h1 : gen < 4294967296) : s.load = (gen, 0) := by
  rw [load_plain h.up.down h.pend (by rw [h.len]; exact Nat.le_refl _)]
  have e1 := genOf_root h0 h1
  rw [← h.is] at e1
  have e2 := h.other
  congr 1
  have hm : gen % 2 = 0 ∨ gen % 2 = 1 := by omega
  rcases hm with hm | hm
  · have hk : (gen + 1) % 2 = 1 := by omega
    rw [hm] at e1; rw [hk] at e2
    rw [e1]; omega
  · have hk : (gen + 1) % 2 = 0 := by omega
    rw [hm] at e1; rw [hk] at e2
    rw [e1]; omega
theorem new_zero (i : Nat) : genOf ((DSt.new 2).sure.getD i []) i = 0 := by
  have hz : (DSt.new 2).sure.getD i [] = List.replicate 64 0 ∨ (DSt.new 2).sure.getD i [] = [] := by
    match i with
    | 0 => exact .inl rfl
    | 1 => exact .inl rfl
    | (k + 2) => exact .inr rfl
  rcases hz with e | e
  · rw [e]
    have : Cl.isEnc (List.replicate 64 0) = false := by
      unfold Cl.isEnc
      have : (Cl.raw (List.replicate 64 0)).may = false := by
        unfold Cl.may Cl.raw
        exact decide_eq_false (fun h => by have := h.1; simp at this)
      rw [this]; simp
    unfold genOf isRootL
    rw [this]; rfl
  · rw [e]; exact genOf_nil i
theorem set_len (s : DSt) (i : Nat) (l : List Nat) : (s.sure.set i l).length = s.sure.length := List.length_set ..
theorem layBy_one (su : List (List Nat)) (x : Nat × List Nat) (cs : List Nat) : layBy su [x] cs = su ∨ layBy su [x] cs = su.set x.1 x.2 ∨ layBy su [x] cs = su.set x.1 [] := by
  show lay1 su x cs = su ∨ lay1 su x cs = _ ∨ lay1 su x cs = _
  unfold lay1
  split
  · exact .inl rfl
  · split
    · exact .inr (.inl rfl)
    · split
      · exact .inr (.inr rfl)
      · exact .inl rfl
/-- The first root. -/
theorem Flip.first {gen : Nat} (h0 : gen ≠ 0) : ((DSt.new 2).save gen).2 = 0 ∧ Flip ((DSt.new 2).save gen).1 gen := by
  rcases save_cases (s := DSt.new 2) rfl rfl (by decide) h0 with ⟨e, _, _⟩ | ⟨_, hg⟩ | ⟨_, _, hg⟩
  · rw [e]
    refine ⟨rfl, ⟨rfl, rfl⟩, by show ((DSt.new 2).sure.set _ _).length = 2; rw [set_len]; rfl, rfl, (by decide : 0 + 1 + 1 ≤ 2), ?_, ?_⟩
    · show ((DSt.new 2).sure.set (gen % 2) (rootS gen)).getD (gen % 2) [] = _
      rw [getD_set (by show gen % 2 < 2; omega), if_pos rfl]
    · show genOf (((DSt.new 2).sure.set (gen % 2) (rootS gen)).getD ((gen + 1) % 2) []) _ ≤ gen
      rw [getD_set (by show gen % 2 < 2; omega), if_neg (by omega), new_zero]
      exact Nat.zero_le _
  · cases hg
  · cases hg
/-- One more, behind a plan and a loss. -/
theorem Flip.next {gen : Nat} (h : Flip s gen) (h0 : 0 < gen) (h1 : gen + 1 < 4294967296) (k : Int) (cs : List Nat) :
    (((s.plan k).save (gen + 1)).2 = 0 → Flip (((s.plan k).save (gen + 1)).1.up cs) (gen + 1)) ∧ (Flip (((s.plan k).save (gen + 1)).1.up cs) gen ∨ Flip (((s.plan k).save (gen + 1)).1.up cs) (gen + 1)) := by
  have hpd : (s.plan k).pend = [] := h.pend
  have hsu : (s.plan k).sure = s.sure := rfl
  have hdn : (s.plan k).down = false := h.up.down
  have hlen := h.len
  have hnew : ∀ t : DSt, t.sure = s.sure.set ((gen + 1) % 2) (rootS (gen + 1)) → t.down = false → t.stop = 0 → t.pend = [] → t.begun ≤ 2 → Flip t (gen + 1) := fun t e e1 e2 e3 e4 =>
    ⟨⟨e1, e2⟩, by rw [e, set_len]; exact hlen, e3, e4, by rw [e, getD_set (by omega), if_pos rfl], by
      rw [e, getD_set (by omega), if_neg (by omega)]
      have e5 : (gen + 1 + 1) % 2 = gen % 2 := by omega
      rw [e5, h.is, genOf_root h0 (by omega)]
      omega⟩
  have hold : ∀ t : DSt, t.sure = s.sure → t.down = false → t.stop = 0 → t.pend = [] → t.begun ≤ 2 → Flip t gen := fun t e e1 e2 e3 e4 =>
    ⟨⟨e1, e2⟩, by rw [e]; exact hlen, e3, e4, by rw [e]; exact h.is, by rw [e]; exact h.other⟩
  have htorn : ∀ t : DSt, t.sure = s.sure.set ((gen + 1) % 2) [] → t.down = false → t.stop = 0 → t.pend = [] → t.begun ≤ 2 → Flip t gen := fun t e e1 e2 e3 e4 =>
    ⟨⟨e1, e2⟩, by rw [e, set_len]; exact hlen, e3, e4, by rw [e, getD_set (by omega), if_neg (by omega)]; exact h.is, by
      rw [e, getD_set (by omega), if_pos rfl, genOf_nil]; exact Nat.zero_le _⟩
  rcases save_cases (s := s.plan k) hdn hpd (by rw [hsu, hlen]; exact Nat.le_refl _) (gen := gen + 1) (by omega) with ⟨e, _, _⟩ | ⟨e, hg⟩ | ⟨e, _, hg⟩
  · rw [e]
    have hf : Flip ((DSt.mk ((s.plan k).sure.set ((gen + 1) % 2) (rootS (gen + 1))) [] (s.plan k).beg.beg.down (s.plan k).beg.beg.stop (s.plan k).beg.beg.begun).up cs) (gen + 1) := hnew _ rfl rfl rfl rfl (by show 0 ≤ 2; decide)
    exact ⟨fun _ => hf, .inr hf⟩
  · rw [e]
    refine ⟨fun h4 => (by cases h4), .inl (hold _ ?_ rfl rfl rfl (by show 0 ≤ 2; decide))⟩
    show layBy (s.plan k).beg.sure (s.plan k).beg.pend cs = s.sure
    rw [show (s.plan k).beg.pend = [] from hpd]
    rfl
  · rw [e]
    refine ⟨fun h4 => (by cases h4), ?_⟩
    rcases layBy_one s.sure ((gen + 1) % 2, rootS (gen + 1)) cs with e2 | e2 | e2
    · exact .inl (hold _ e2 rfl rfl rfl (by show 0 ≤ 2; decide))
    · exact .inr (hnew _ e2 rfl rfl rfl (by show 0 ≤ 2; decide))
    · exact .inl (htorn _ e2 rfl rfl rfl (by show 0 ≤ 2; decide))
end DSt
end Go.Proofs.YtfoeapjlklfjgaaDoor
