/- Texts of several parts in one: DMath, DMath2, DMath3, DLay, SegMath, SegMath2, SegMath3, SegMath4, SegMath5, RootMath, RootMath2, LedMath. Each says what it proves; no condition but those named there. -/
import Derived.Test.YtdlcngmcjidomaaDoorDiskMath
import Derived.Test.YtdlcngmcjidomaaDoorCellMath2
/- What becomes of a disk in the laws' loops: plain lists. No condition. -/
namespace Go.Proofs.YtdlcngmcjidomaaDoor
set_option linter.unusedSimpArgs false
set_option linter.unusedVariables false

/-- A disk of N sectors behind j writes that were asked for, planned to stop at 'stop'. -/
structure Wk (s : DSt) (N stop j : Nat) : Prop where
  len : s.sure.length = N
  st : s.stop = stop
  down : s.down = decide (0 < stop ∧ stop ≤ j)
  le : s.begun ≤ j
  beg : s.down = false → s.begun = j
  pend : s.pend.length ≤ j
theorem DSt.has_nat {s : DSt} {i N : Nat} (h : s.sure.length = N) (hi : i < N) : s.has (i : Int) = true := decide_eq_true ⟨by omega, by omega⟩
theorem DSt.beg_sure (s : DSt) : s.beg.sure = s.sure := rfl
theorem Wk.step {s : DSt} {N stop j : Nat} (h : Wk s N stop j) {i : Nat} (hi : i < N) {l : List Nat} (hl : l.length = 64) :
    Wk (s.write (i : Int) l).1 N stop (j + 1) ∧ (s.write (i : Int) l).2 = if stop = 0 ∨ j + 1 < stop then 0 else 4 := by
  have hh := DSt.has_nat h.len hi
  have hw : (s.has (i : Int) && decide (l.length = 64)) = true := by rw [hh, decide_eq_true hl]; rfl
  by_cases hd : s.down = true
  · rw [DSt.write_down hd]
    have h1 : 0 < stop ∧ stop ≤ j := of_decide_eq_true (h.down ▸ hd)
    exact ⟨⟨h.len, h.st, by rw [hd]; exact (decide_eq_true ⟨h1.1, by omega⟩).symm, Nat.le_trans h.le (by omega), (fun e => by have e : s.down = false := e; rw [hd] at e; cases e), Nat.le_trans h.pend (by omega)⟩, by rw [if_neg (by omega)]⟩
  · have hd : s.down = false := by simpa using hd
    have hb := h.beg hd
    have h1 : ¬ (0 < stop ∧ stop ≤ j) := of_decide_eq_false (h.down ▸ hd)
    have hg : s.goes = decide (stop = j + 1) := by
      unfold DSt.goes
      rw [hd, h.st, hb, Bool.false_or]
      by_cases e : stop = j + 1
      · rw [decide_eq_true e, decide_eq_true (by omega), decide_eq_true (by omega)]; rfl
      · rw [decide_eq_false e]
        rw [decide_eq_false (show ¬ ((j : Int) + 1 = (stop : Int)) by omega), Bool.and_false]
    by_cases e : stop = j + 1
    · rw [decide_eq_true e] at hg
      rw [DSt.write_goes hd hw hg]
      refine ⟨⟨h.len, h.st, ?_, ?_, fun e => ?_, ?_⟩, by rw [if_neg (by omega)]⟩
      · show s.goes = _
        rw [hg]; exact (decide_eq_true ⟨by omega, by omega⟩).symm
      · show s.begun + 1 ≤ _; omega
      · have : s.goes = false := e
        rw [hg] at this; cases this
      · have := h.pend; show s.pend.length ≤ _; omega
    · rw [decide_eq_false e] at hg
      rw [DSt.write_ok hd hw hg]
      refine ⟨⟨h.len, h.st, ?_, ?_, fun _ => ?_, ?_⟩, by rw [if_pos (by omega)]⟩
      · show s.goes = _
        rw [hg]; exact (decide_eq_false (by omega)).symm
      · show s.begun + 1 ≤ _; omega
      · show s.begun + 1 = _; omega
      · have := h.pend; show (s.pend ++ _).length ≤ _; simp; omega
theorem Wk.start (n k : Nat) : Wk ((DSt.new n).plan (k : Int)) n k 0 :=
  ⟨by show (List.replicate n _).length = n; simp, by show max (k : Int) 0 = k; omega, by show false = _; exact (decide_eq_false (by omega)).symm, Nat.zero_le _, fun _ => rfl, Nat.zero_le _⟩
theorem Wk.up {s : DSt} {N stop j : Nat} (h : Wk s N stop j) (l : List Nat) : Wk (s.up l) N 0 0 :=
  ⟨by show (DSt.layBy _ _ _).length = N; rw [DSt.len_layBy]; exact h.len, rfl, rfl, Nat.le_refl _, fun _ => rfl, Nat.zero_le _⟩
theorem Wk.flush {s : DSt} {N j : Nat} (h : Wk s N 0 j) : s.flush.2 = 0 := by
  have hd : s.down = false := by rw [h.down]; exact decide_eq_false (by omega)
  rw [DSt.flush_ok hd]
  unfold DSt.goes
  rw [hd, h.st]
  rfl
end Go.Proofs.YtdlcngmcjidomaaDoor

/- A disk on which no power is planned to go: plain lists. No condition. -/
namespace Go.Proofs.YtdlcngmcjidomaaDoor
set_option linter.unusedSimpArgs false
set_option linter.unusedVariables false
namespace DSt

/-- Nothing is planned, and the power is there. -/
structure Up (s : DSt) : Prop where
  down : s.down = false
  stop : s.stop = 0
section
variable {s : DSt}
theorem Up.goes (h : s.Up) : s.goes = false := by unfold DSt.goes; rw [h.down, h.stop]; rfl
theorem Up.write (h : s.Up) {i : Nat} (hi : i < s.sure.length) {l : List Nat} (hl : l.length = 64) :
    s.write (i : Int) l = ({ sure := s.sure, pend := s.pend ++ [(i, l)], down := false, stop := 0, begun := s.begun + 1 }, 0) := by
  rw [write_ok h.down (by rw [has_nat rfl hi, decide_eq_true hl]; rfl) h.goes]
  have h1 : s.beg = { sure := s.sure, pend := s.pend, down := false, stop := 0, begun := s.begun + 1 } := by
    unfold DSt.beg
    rw [h.goes, h.stop]
  rw [h1]
  rfl
theorem Up.flush (h : s.Up) : s.flush = ({ sure := lay s.sure s.pend, pend := [], down := false, stop := 0, begun := s.begun + 1 }, 0) := by
  rw [flush_ok h.down h.goes]
  have h1 : s.beg = { sure := s.sure, pend := s.pend, down := false, stop := 0, begun := s.begun + 1 } := by
    unfold DSt.beg
    rw [h.goes, h.stop]
  rw [h1]
theorem Up.read (h : s.Up) {i : Nat} (hi : i < s.sure.length) : s.read (i : Int) = if s.cur i = [] then ([], 6) else (s.cur i, 0) := by
  unfold DSt.read
  rw [h.down, has_nat rfl hi]
  rfl
theorem up_up (s : DSt) (cs : List Nat) : (s.up cs).Up := ⟨rfl, rfl⟩
theorem new_up (n : Nat) : (DSt.new n).Up := ⟨rfl, rfl⟩
theorem plan0_up (h : s.Up) : (s.plan 0).Up := ⟨h.down, rfl⟩
theorem getD_set {l : List (List Nat)} {i j : Nat} {x : List Nat} (hi : i < l.length) : (l.set i x).getD j [] = if j = i then x else l.getD j [] := by
  by_cases h : j = i
  · subst h; rw [if_pos rfl, List.getD_eq_getElem?_getD, List.getElem?_set_self hi]; rfl
  · rw [if_neg h, List.getD_eq_getElem?_getD, List.getD_eq_getElem?_getD, List.getElem?_set_ne (Ne.symm h)]
theorem getD_rep {n j : Nat} {x : List Nat} (h : j < n) : (List.replicate n x).getD j [] = x := by
  rw [List.getD_eq_getElem?_getD, List.getElem?_replicate, if_pos h]; rfl

/-- DiskTorn's disk: behind a write and a loss that tears. -/
def torn (k : Nat) (su : List (List Nat)) : DSt := { sure := su.set k [], pend := [], down := false, stop := 0, begun := 0 }
theorem torn_of {su : List (List Nat)} {k : Nat} (h : s.Up) (hp : s.pend = []) (hs : s.sure = su) (hk : k < su.length) {l : List Nat} (hl : l.length = 64) : s.write (k : Int) l = ((s.write (k : Int) l).1, 0) ∧ (s.write (k : Int) l).1.up [2] = torn k su := by
  rw [h.write (by rw [hs]; exact hk) hl]
  refine ⟨rfl, ?_⟩
  rw [hp, hs]
  rfl
theorem torn_up (k : Nat) (su : List (List Nat)) : (torn k su).Up := ⟨rfl, rfl⟩
theorem torn_read {su : List (List Nat)} {k j : Nat} (hk : k < su.length) (hj : j < su.length) (hne : su.getD j [] ≠ []) : (torn k su).read (j : Int) = if j = k then ([], 6) else (su.getD j [], 0) := by
  rw [(torn_up k su).read (by show j < (su.set k []).length; rw [List.length_set]; exact hj)]
  have e : (torn k su).cur j = if j = k then [] else su.getD j [] := by
    show (su.set k []).getD j [] = _
    exact getD_set hk
  rw [e]
  by_cases h : j = k
  · rw [if_pos h, if_pos rfl, if_pos h]
  · rw [if_neg h, if_neg hne, if_neg h]
/-- Written again. -/
theorem torn_write {su : List (List Nat)} {k : Nat} (hk : k < su.length) {l : List Nat} (hl : l.length = 64) : (torn k su).write (k : Int) l = ({ sure := su.set k [], pend := [(k, l)], down := false, stop := 0, begun := 1 }, 0) :=
  (torn_up k su).write (by show k < (su.set k []).length; rw [List.length_set]; exact hk) hl
theorem again_read {su : List (List Nat)} {k : Nat} (hk : k < su.length) {l : List Nat} (hl : l.length = 64) : (DSt.mk (su.set k []) [(k, l)] false 0 1).read (k : Int) = (l, 0) ∧ ((DSt.mk (su.set k []) [(k, l)] false 0 1).up []).read (k : Int) = ([], 6) := by
  have hne : l ≠ [] := fun e => by rw [e] at hl; cases hl
  constructor
  · rw [Up.read ⟨rfl, rfl⟩ (by show k < (su.set k []).length; rw [List.length_set]; exact hk)]
    have e : (DSt.mk (su.set k []) [(k, l)] false 0 1).cur k = l := by
      show (if k = k then l else _) = l
      rw [if_pos rfl]
    rw [e, if_neg hne]
  · have e : (DSt.mk (su.set k []) [(k, l)] false 0 1).up [] = torn k su := rfl
    rw [e]
    rw [(torn_up k su).read (by show k < (su.set k []).length; rw [List.length_set]; exact hk), if_pos]
    show (su.set k []).getD k [] = []
    rw [getD_set hk, if_pos rfl]
theorem flush_read {su : List (List Nat)} {k : Nat} (hk : k < su.length) {l : List Nat} (hl : l.length = 64) : (DSt.mk (su.set k []) [(k, l)] false 0 1).flush.2 = 0 ∧ (DSt.mk (su.set k []) [(k, l)] false 0 1).flush.1.read (k : Int) = (l, 0) ∧ ((DSt.mk (su.set k []) [(k, l)] false 0 1).flush.1.up []).read (k : Int) = (l, 0) := by
  have hne : l ≠ [] := fun e => by rw [e] at hl; cases hl
  have e : (DSt.mk (su.set k []) [(k, l)] false 0 1).flush = ({ sure := su.set k l, pend := [], down := false, stop := 0, begun := 2 }, 0) := by
    rw [Up.flush ⟨rfl, rfl⟩]
    show (DSt.mk ((su.set k []).set k l) [] false 0 2, (0 : Int)) = _
    rw [List.set_set]
  rw [e]
  have h1 : (su.set k l).getD k [] = l := by rw [getD_set hk, if_pos rfl]
  have hlen : k < (su.set k l).length := by rw [List.length_set]; exact hk
  refine ⟨rfl, ?_, ?_⟩
  · rw [Up.read ⟨rfl, rfl⟩ hlen]
    show (if (su.set k l).getD k [] = [] then _ else ((su.set k l).getD k [], _)) = _
    rw [h1, if_neg hne]
  · rw [Up.read ⟨rfl, rfl⟩ hlen]
    show (if (su.set k l).getD k [] = [] then _ else ((su.set k l).getD k [], _)) = _
    rw [h1, if_neg hne]
end
end DSt
end Go.Proofs.YtdlcngmcjidomaaDoor

/- What becomes of a disk in the law DiskQuiet: plain lists. No condition. -/
namespace Go.Proofs.YtdlcngmcjidomaaDoor
set_option linter.unusedSimpArgs false
set_option linter.unusedVariables false
namespace DSt
section
variable {s : DSt}
theorem has_not {s : DSt} {i : Int} (h : (s.sure.length : Int) ≤ i) : s.has i = false := decide_eq_false (by omega)
theorem write_long (hd : s.down = false) (i : Int) {l : List Nat} (hl : l.length ≠ 64) : s.write i l = (s, 1) := write_arg hd (by rw [decide_eq_false hl, Bool.and_false])
theorem write_far (hd : s.down = false) {i : Int} (hi : (s.sure.length : Int) ≤ i) (l : List Nat) : s.write i l = (s, 1) := write_arg hd (by rw [has_not hi]; rfl)
theorem write_sure (i : Int) (l : List Nat) : (s.write i l).1.sure = s.sure := by
  unfold DSt.write
  split
  · rfl
  · split
    · split <;> rfl
    · rfl
end
end DSt
theorem Wk.plan {s : DSt} {N : Nat} (k : Nat) (h1 : s.down = false) (h2 : s.sure.length = N) (h3 : s.pend = []) : Wk (s.plan (k : Int)) N k 0 :=
  ⟨h2, by show max (k : Int) 0 = k; omega, by show s.down = _; rw [h1]; exact (decide_eq_false (by omega)).symm, Nat.zero_le _, fun _ => rfl, by show s.pend.length ≤ 0; rw [h3]; exact Nat.le_refl _⟩
end Go.Proofs.YtdlcngmcjidomaaDoor

/- What a choice leaves of a sector: plain. No condition. -/
namespace Go.Proofs.YtdlcngmcjidomaaDoor
set_option linter.unusedSimpArgs false
set_option linter.unusedVariables false
namespace DSt
theorem lay1_at {su : List (List Nat)} {x : Nat × List Nat} {cs : List Nat} {i : Nat} (hx : x.1 < su.length) : (lay1 su x cs).getD i [] = su.getD i [] ∨ (x.1 = i ∧ ((lay1 su x cs).getD i [] = [] ∨ (lay1 su x cs).getD i [] = x.2)) := by
  unfold lay1
  split
  · exact .inl rfl
  · split
    · rw [getD_set hx]
      by_cases h : i = x.1
      · rw [if_pos h]; exact .inr ⟨h.symm, .inr rfl⟩
      · rw [if_neg h]; exact .inl rfl
    · split
      · rw [getD_set hx]
        by_cases h : i = x.1
        · rw [if_pos h]; exact .inr ⟨h.symm, .inl rfl⟩
        · rw [if_neg h]; exact .inl rfl
      · exact .inl rfl
end DSt
end Go.Proofs.YtdlcngmcjidomaaDoor

/- A scan of cells, plain: what is whole is told, in order, up to the first that isn't. No condition. -/
namespace Go.Proofs.YtdlcngmcjidomaaDoor
set_option linter.unusedSimpArgs false
set_option linter.unusedVariables false

/-- How far a scan has come. -/
structure Sc where
  (out : List (List Nat)) (now : List Cl) (last top : Nat) (over : Bool) (fin : Nat)
namespace Sc
def right (gen last : Nat) (now : List Cl) (x : Cl) : Bool :=
  decide (0 < x.parts) && (decide (x.gen = gen) && (decide (last < x.seq) && (decide (x.part = (now.length : Int) - 1) && (decide (x.seq = (now.headD Cl.zero).seq) && decide (x.parts = (now.headD Cl.zero).parts)))))
def topOf (t : Nat) (x : Cl) : Nat := if 0 < x.parts then max t x.seq else t
def step (gen : Nat) (c : Sc) (i : Nat) (x : Cl) : Sc :=
  if c.over then { c with top := topOf c.top x }
  else if right gen c.last (c.now ++ [x]) x then
    if ((c.now ++ [x]).length : Int) = x.parts then ⟨c.out ++ [Cl.join (c.now ++ [x])], [], x.seq, topOf c.top x, false, i + 1⟩
    else { c with now := c.now ++ [x], top := topOf c.top x }
  else { c with now := c.now ++ [x], top := topOf c.top x, over := true }
/-- Cells from number i on. -/
def run (gen : Nat) (c : Sc) (i : Nat) : List Cl → Sc
  | [] => c
  | x :: l => run gen (step gen c i x) (i + 1) l
def start : Sc := ⟨[], [], 0, 0, false, 0⟩
def scan (gen : Nat) (l : List Cl) : Sc := run gen start 0 l

theorem run_append (gen : Nat) (c : Sc) (i : Nat) (l m : List Cl) : run gen c i (l ++ m) = run gen (run gen c i l) (i + l.length) m := by
  induction l generalizing c i with
  | nil => rfl
  | cons x l ih =>
    rw [List.cons_append, run, ih, run, List.length_cons]
    congr 1
    omega
theorem run_snoc (gen : Nat) (c : Sc) (i : Nat) (l : List Cl) (x : Cl) : run gen c i (l ++ [x]) = step gen (run gen c i l) (i + l.length) x := by
  rw [run_append]; rfl
theorem step_top (gen : Nat) (c : Sc) (i : Nat) (x : Cl) : (step gen c i x).top = topOf c.top x := by
  unfold step
  split
  · rfl
  · split
    · split <;> rfl
    · rfl
theorem run_top (gen : Nat) (c : Sc) (i : Nat) (l : List Cl) : (run gen c i l).top = l.foldl topOf c.top := by
  induction l generalizing c i with
  | nil => rfl
  | cons x l ih => rw [run, ih, step_top]; rfl
theorem topOf_le (t : Nat) (x : Cl) : t ≤ topOf t x := by unfold topOf; split <;> omega
theorem tops_le (l : List Cl) : ∀ t, t ≤ l.foldl topOf t := by
  induction l with
  | nil => intro t; exact Nat.le_refl _
  | cons x l ih => intro t; exact Nat.le_trans (topOf_le t x) (ih _)
theorem tops_mem {l : List Cl} {x : Cl} (h : x ∈ l) (hp : 0 < x.parts) : ∀ t, x.seq ≤ l.foldl topOf t := by
  induction l with
  | nil => cases h
  | cons y l ih =>
    intro t
    rcases List.mem_cons.1 h with rfl | h
    · refine Nat.le_trans ?_ (tops_le l _)
      unfold topOf
      rw [if_pos hp]; omega
    · exact ih h _
theorem tops_lt {l : List Cl} {B : Nat} (h : ∀ x ∈ l, x.seq < B) : ∀ t, t < B → l.foldl topOf t < B := by
  induction l with
  | nil => intro t ht; exact ht
  | cons y l ih =>
    intro t ht
    refine ih (fun x hx => h x (List.mem_cons_of_mem _ hx)) _ ?_
    unfold topOf
    have := h y (List.mem_cons_self ..)
    split <;> omega
theorem run_over (gen : Nat) (c : Sc) (i : Nat) (l : List Cl) (h : c.over = true) : (run gen c i l).out = c.out ∧ (run gen c i l).fin = c.fin := by
  induction l generalizing c i with
  | nil => exact ⟨rfl, rfl⟩
  | cons x l ih =>
    have e : step gen c i x = { c with top := topOf c.top x } := by unfold step; rw [if_pos h]
    rw [run, e]
    exact ih _ _ h
/-- What a scan asks of a cell that goes on. -/
structure On (gen last : Nat) (now : List Cl) (x : Cl) : Prop where
  parts : 0 < x.parts
  gen : x.gen = gen
  seq : last < x.seq
  part : x.part = (now.length : Int) - 1
  same : x.seq = (now.headD Cl.zero).seq
  samep : x.parts = (now.headD Cl.zero).parts
theorem right_iff {gen last : Nat} {now : List Cl} {x : Cl} : right gen last now x = true ↔ On gen last now x := by
  unfold right
  simp only [Bool.and_eq_true, decide_eq_true_iff]
  exact ⟨fun ⟨h1, h2, h3, h4, h5, h6⟩ => ⟨h1, h2, h3, h4, h5, h6⟩, fun h => ⟨h.parts, h.gen, h.seq, h.part, h.same, h.samep⟩⟩
theorem headD_append {l m : List Cl} (h : l ≠ []) : (l ++ m).headD Cl.zero = l.headD Cl.zero := by
  cases l with
  | nil => exact absurd rfl h
  | cons x l => rfl
/-- The cells of a record are all right. -/
theorem split_on {gen seq last : Nat} {r : List Nat} (hs : last < seq) {k : Nat} (hk : k < Cl.need r.length) : On gen last ((Cl.split gen seq r).take (k + 1)) (Cl.cellAt gen seq r k) := by
  have hl := Cl.split_len gen seq r
  have h0 : (Cl.split gen seq r).headD Cl.zero = Cl.cellAt gen seq r 0 := (Cl.split_head (by omega)).1
  have hh : ((Cl.split gen seq r).take (k + 1)).headD Cl.zero = Cl.cellAt gen seq r 0 := by
    rw [← h0]
    cases hc : Cl.split gen seq r with
    | nil => rw [hc] at hl; simp at hl; omega
    | cons x l => rfl
  have h1 := Cl.may_iff.1 (Cl.cellAt_may (gen := gen) (seq := seq) hk)
  refine ⟨by omega, rfl, hs, ?_, by rw [hh]; rfl, by rw [hh]; rfl⟩
  rw [List.length_take, hl]
  show (k : Int) = _
  omega
/-- A record's cells: one more is told. -/
theorem run_split {gen seq : Nat} {r : List Nat} {c : Sc} {i : Nat} (hc : c.now = []) (ho : c.over = false) (hs : c.last < seq) (hn : Cl.need r.length ≠ 0) :
    run gen c i (Cl.split gen seq r) = ⟨c.out ++ [r], [], seq, (Cl.split gen seq r).foldl topOf c.top, false, i + Cl.need r.length⟩ := by
  have hl := Cl.split_len gen seq r
  have hpart : ∀ k, k < Cl.need r.length → run gen c i ((Cl.split gen seq r).take k) = { c with now := (Cl.split gen seq r).take k, top := ((Cl.split gen seq r).take k).foldl topOf c.top } := by
    intro k
    induction k with
    | zero => intro _; rw [List.take_zero]; obtain ⟨o1, n1, l1, t1, v1, f1⟩ := c; have hc : n1 = [] := hc; subst hc; rfl
    | succ k ih =>
      intro hk
      have hg := Cl.split_get (gen := gen) (seq := seq) (r := r) (i := k) (by omega)
      have e : (Cl.split gen seq r).take (k + 1) = (Cl.split gen seq r).take k ++ [Cl.cellAt gen seq r k] := by rw [List.take_add_one, hg]; rfl
      have hon := right_iff.2 (split_on (gen := gen) (r := r) hs (k := k) (by omega))
      rw [e] at hon
      rw [e, run_snoc, ih (by omega), List.foldl_append]
      unfold step
      dsimp only
      rw [if_neg (by rw [ho]; decide), if_pos hon, if_neg ?_]
      · rfl
      · rw [List.length_append, List.length_take, hl]
        show ¬ _ = ((Cl.need r.length : Nat) : Int)
        simp
        omega
  obtain ⟨m, hm⟩ : ∃ m, Cl.need r.length = m + 1 := ⟨Cl.need r.length - 1, by omega⟩
  have hg := Cl.split_get (gen := gen) (seq := seq) (r := r) (i := m) (by omega)
  have e : Cl.split gen seq r = (Cl.split gen seq r).take m ++ [Cl.cellAt gen seq r m] := by
    have h1 : Cl.split gen seq r = (Cl.split gen seq r).take (m + 1) := (List.take_of_length_le (by omega)).symm
    rw [List.take_add_one, hg] at h1
    exact h1
  have hon := right_iff.2 (split_on (gen := gen) (r := r) hs (k := m) (by omega))
  rw [List.take_of_length_le (by omega)] at hon
  have hr := run_snoc gen c i ((Cl.split gen seq r).take m) (Cl.cellAt gen seq r m)
  rw [← e, hpart m (by omega)] at hr
  rw [hr]
  unfold step
  dsimp only
  rw [← e, if_neg (by rw [ho]; decide), if_pos hon, if_pos (by rw [hl]; rfl), (Cl.join_split hn).1]
  have ht : topOf (((Cl.split gen seq r).take m).foldl topOf c.top) (Cl.cellAt gen seq r m) = (Cl.split gen seq r).foldl topOf c.top := by
    conv => rhs; rw [e, List.foldl_append]
    rfl
  rw [ht, List.length_take, hl]
  congr 1
  omega
/-- A whole record stands at the head of cells. -/
structure Begins (gen last : Nat) (l : List Cl) : Prop where
  ex : ∃ seq r, last < seq ∧ Cl.need r.length ≠ 0 ∧ Cl.split gen seq r <+: l
/-- Cells as sectors tell them: one that may be, or none. -/
structure May (l : List Cl) : Prop where
  may : ∀ x ∈ l, x.may = true ∨ x.parts ≤ 0
theorem on_append {gen last : Nat} {now : List Cl} {x : Cl} (h : On gen last (now ++ [x]) x) : x.part = (now.length : Int) := by
  have := h.part
  rw [List.length_append] at this
  simp at this
  omega
/-- Where none begins, nothing is told any more. -/
theorem run_stop {gen : Nat} {c : Sc} {i : Nat} {l : List Cl} (hc : c.now = []) (ho : c.over = false) (hm : May l) (hb : ¬ Begins gen c.last l) : (run gen c i l).out = c.out ∧ (run gen c i l).fin = c.fin := by
  have key : ∀ k, k ≤ l.length → ((run gen c i (l.take k)).out = c.out ∧ (run gen c i (l.take k)).fin = c.fin ∧ ((run gen c i (l.take k)).over = true ∨
      ((run gen c i (l.take k)).over = false ∧ (run gen c i (l.take k)).last = c.last ∧ (run gen c i (l.take k)).now = l.take k ∧ ∀ (j : Nat) (x : Cl), j < k → l[j]? = some x → On gen c.last (l.take (j + 1)) x ∧ (k : Int) < x.parts))) := by
    intro k
    induction k with
    | zero =>
      intro _
      rw [List.take_zero]
      exact ⟨rfl, rfl, .inr ⟨ho, rfl, hc, fun j x hj => by omega⟩⟩
    | succ k ih =>
      intro hk
      obtain ⟨h1, h2, h3⟩ := ih (by omega)
      have hx : l[k]? = some l[k] := List.getElem?_eq_getElem (by omega)
      have e : l.take (k + 1) = l.take k ++ [l[k]] := by rw [List.take_add_one, hx]; rfl
      rw [e, run_snoc]
      generalize hcc : run gen c i (l.take k) = d at *
      rcases h3 with h3 | ⟨h3, h4, h5, h6⟩
      · unfold step
        rw [if_pos h3]
        exact ⟨h1, h2, .inl h3⟩
      · unfold step
        rw [if_neg (by rw [h3]; decide)]
        by_cases hr : right gen d.last (d.now ++ [l[k]]) l[k] = true
        · rw [if_pos hr]
          have hon := right_iff.1 hr
          rw [h5, h4, ← e] at hon
          have hle : (k : Int) + 1 ≤ l[k].parts := by
            cases k with
            | zero => have := hon.parts; omega
            | succ k =>
              obtain ⟨y0, hy0⟩ : ∃ y, l[0]? = some y := ⟨_, List.getElem?_eq_getElem (by omega)⟩
              have h60 := (h6 0 y0 (by omega) hy0).2
              have hsp := hon.samep
              have hh : (l.take (k + 1 + 1)).headD Cl.zero = y0 := by
                cases l with
                | nil => cases hy0
                | cons z t => cases hy0; rfl
              rw [hh] at hsp
              omega
          have hlen : ((d.now ++ [l[k]]).length : Int) = (k : Int) + 1 := by
            rw [h5, List.length_append, List.length_take]
            simp
            omega
          by_cases hp : ((d.now ++ [l[k]]).length : Int) = l[k].parts
          · exfalso
            refine hb ⟨?_⟩
            have hmay : ∀ (j : Nat) (x : Cl), j ≤ k → l[j]? = some x → On gen c.last (l.take (j + 1)) x := fun j x hj hxj => by
              rcases Nat.lt_or_eq_of_le hj with hj | rfl
              · exact (h6 j x hj hxj).1
              · rw [hx] at hxj; cases hxj; exact hon
            have hhead : ∀ j, j ≤ k → (l.take (j + 1)).headD Cl.zero = (l.take (k + 1)).headD Cl.zero := fun j hj => by
              cases l with
              | nil => rfl
              | cons z t => rfl
            have hjo : Cl.joins (l.take (k + 1)) = true := by
              refine Cl.right_joins (by intro e2; have := congrArg List.length e2; rw [List.length_take, List.length_nil] at this; omega) fun j x hxj => ?_
              rw [List.getElem?_take] at hxj
              split at hxj
              · next hj =>
                have o := hmay j x (by omega) hxj
                have ok := hmay k _ (Nat.le_refl _) hx
                have hm1 := (hm.may x (List.mem_of_getElem? hxj)).resolve_right (by have := o.parts; omega)
                have hy0 : l[0]? = some l[0] := List.getElem?_eq_getElem (by omega)
                have o0 := hmay 0 _ (by omega) hy0
                have e0 : (l.take (k + 1)).headD Cl.zero = l[0] := by
                  cases l with
                  | nil => cases hy0
                  | cons z t => rfl
                refine ⟨hm1, ?_, ?_, ?_, ?_⟩
                · rw [o.part, List.length_take]; omega
                · rw [o.samep, hhead j (by omega), ← ok.samep, List.length_take]; omega
                · rw [o.gen, e0, o0.gen]
                · rw [o.same, hhead j (by omega)]
              · cases hxj
            have hs := hjo
            unfold Cl.joins at hs
            rw [Bool.and_eq_true, decide_eq_true_iff, decide_eq_true_iff] at hs
            have hy0 : l[0]? = some l[0] := List.getElem?_eq_getElem (by omega)
            have o0 := hmay 0 _ (by omega) hy0
            have e0 : (l.take (k + 1)).headD Cl.zero = l[0] := by
              cases l with
              | nil => cases hy0
              | cons z t => rfl
            have hs2 := hs.2
            rw [e0, o0.gen] at hs2
            refine ⟨l[0].seq, Cl.flat (l.take (k + 1)), o0.seq, ?_, ?_⟩
            · have := Cl.split_len gen l[0].seq (Cl.flat (l.take (k + 1)))
              rw [hs2, List.length_take] at this
              omega
            · rw [hs2]; exact List.take_prefix _ _
          · rw [if_neg hp]
            refine ⟨h1, h2, .inr ⟨h3, h4, by rw [h5], fun j x hj hxj => ?_⟩⟩
            have hx1 : ((k + 1 : Nat) : Int) < l[k].parts := by omega
            rcases Nat.lt_or_eq_of_le (Nat.le_of_lt_succ hj) with hj | rfl
            · refine ⟨(h6 j x hj hxj).1, ?_⟩
              have o := (h6 j x hj hxj).1
              have e1 := o.samep
              have e2 := hon.samep
              have hh : (l.take (j + 1)).headD Cl.zero = (l.take (k + 1)).headD Cl.zero := by
                cases l with
                | nil => rfl
                | cons z t => rfl
              rw [hh, ← e2] at e1
              omega
            · rw [hx] at hxj; cases hxj; exact ⟨hon, hx1⟩
        · rw [if_neg hr]
          exact ⟨h1, h2, .inl rfl⟩
  have h := key l.length (Nat.le_refl _)
  rw [List.take_of_length_le (Nat.le_refl _)] at h
  exact ⟨h.1, h.2.1⟩
end Sc
end Go.Proofs.YtdlcngmcjidomaaDoor

/- Records laid one behind the other, and what a loss leaves of them: plain. No condition. -/
namespace Go.Proofs.YtdlcngmcjidomaaDoor
set_option linter.unusedSimpArgs false
set_option linter.unusedVariables false

namespace Sc
/-- Records, whole, one behind the other, their numbers rising; then the rest. -/
inductive Laid (gen : Nat) : Nat → List Cl → List (List Nat) → Nat → List Cl → Prop
  | nil (last : Nat) (l : List Cl) : Laid gen last l [] last l
  | cons {last seq last' : Nat} {r : List Nat} {l rest : List Cl} {rs : List (List Nat)} (hs : last < seq) (hn : Cl.need r.length ≠ 0) (h : Laid gen seq l rs last' rest) : Laid gen last (Cl.split gen seq r ++ l) (r :: rs) last' rest

theorem Laid.trans {gen a b c : Nat} {l m n : List Cl} {rs ts : List (List Nat)} (h : Laid gen a l rs b m) (h' : Laid gen b m ts c n) : Laid gen a l (rs ++ ts) c n := by
  induction h with
  | nil last l => exact h'
  | cons hs hn _ ih => exact .cons hs hn (ih h')
theorem Laid.le {gen a b : Nat} {l m : List Cl} {rs : List (List Nat)} (h : Laid gen a l rs b m) : a ≤ b := by
  induction h with
  | nil => exact Nat.le_refl _
  | cons hs _ _ ih => omega
theorem Laid.suffix {gen a b : Nat} {l m : List Cl} {rs : List (List Nat)} (h : Laid gen a l rs b m) : ∃ p, l = p ++ m ∧ (rs = [] → p = []) ∧ p.length = (rs.map fun r => Cl.need r.length).sum := by
  induction h with
  | nil last l => exact ⟨[], rfl, fun _ => rfl, rfl⟩
  | cons hs hn _ ih =>
    obtain ⟨p, e, _, hl⟩ := ih
    refine ⟨Cl.split _ _ _ ++ p, by rw [e, List.append_assoc], fun h => (by cases h), ?_⟩
    rw [List.length_append, Cl.split_len, hl, List.map_cons, List.sum_cons]
/-- The rest may be another one. -/
theorem Laid.swap {gen a b : Nat} {l m : List Cl} {rs : List (List Nat)} (h : Laid gen a l rs b m) {p : List Cl} (hp : l = p ++ m) (m' : List Cl) : Laid gen a (p ++ m') rs b m' := by
  induction h generalizing p with
  | nil last l =>
    have : p = [] := by
      have := congrArg List.length hp
      rw [List.length_append] at this
      exact List.eq_nil_of_length_eq_zero (by omega)
    subst this
    exact .nil _ _
  | cons hs hn h ih =>
    obtain ⟨q, e, _, _⟩ := h.suffix
    rw [e, ← List.append_assoc] at hp
    have := List.append_cancel_right hp
    rw [← this, List.append_assoc]
    exact .cons hs hn (ih e)
theorem Laid.run {gen a b : Nat} {l m : List Cl} {rs : List (List Nat)} (h : Laid gen a l rs b m) (out : List (List Nat)) (top fin i : Nat) :
    Sc.run gen ⟨out, [], a, top, false, fin⟩ i l = Sc.run gen ⟨out ++ rs, [], b, (l.take (l.length - m.length)).foldl topOf top, false, if rs = [] then fin else i + (l.length - m.length)⟩ (i + (l.length - m.length)) m := by
  induction h generalizing out top fin i with
  | nil last l =>
    rw [Nat.sub_self, List.take_zero, if_pos rfl, List.append_nil]; rfl
  | @cons last seq last' r l rest rs hs hn h ih =>
    rw [run_append, run_split rfl rfl hs hn, ih]
    have hl := Cl.split_len gen seq r
    obtain ⟨p, e, hp, _⟩ := h.suffix
    have hlen : l.length = p.length + rest.length := by rw [e, List.length_append]
    have e1 : (Cl.split gen seq r ++ l).length - rest.length = Cl.need r.length + (l.length - rest.length) := by rw [List.length_append, hl]; omega
    have e2 : (Cl.split gen seq r ++ l).take (Cl.need r.length + (l.length - rest.length)) = Cl.split gen seq r ++ l.take (l.length - rest.length) := by
      rw [← hl, List.take_append]
      congr 1
      · exact List.take_of_length_le (by omega)
      · congr 1; omega
    rw [e1, e2, List.foldl_append, if_neg (List.cons_ne_nil r rs), hl]
    have e3 : (if rs = [] then i + Cl.need r.length else i + Cl.need r.length + (l.length - rest.length)) = i + (Cl.need r.length + (l.length - rest.length)) := by
      split
      · next h0 => rw [hlen, hp h0]; simp
      · omega
    rw [e3]
    dsimp only
    rw [List.append_assoc, List.singleton_append, show i + Cl.need r.length + (l.length - rest.length) = i + (Cl.need r.length + (l.length - rest.length)) by omega]
/-- What a scan tells of records that are laid, none beginning behind them. -/
theorem Laid.scanned {gen b : Nat} {l m : List Cl} {rs : List (List Nat)} (h : Laid gen 0 l rs b m) (hm : May l) (hb : ¬ Begins gen b m) : (Sc.scan gen l).out = rs ∧ (Sc.scan gen l).fin = l.length - m.length ∧ (Sc.scan gen l).top = l.foldl topOf 0 := by
  obtain ⟨p, e, hp, _⟩ := h.suffix
  have hr := h.run [] 0 0 0
  have hs : Sc.scan gen l = Sc.run gen ⟨[] ++ rs, [], b, (l.take (l.length - m.length)).foldl topOf 0, false, if rs = [] then 0 else 0 + (l.length - m.length)⟩ (0 + (l.length - m.length)) m := hr
  have hst := run_stop (gen := gen) (c := ⟨[] ++ rs, [], b, (l.take (l.length - m.length)).foldl topOf 0, false, if rs = [] then 0 else 0 + (l.length - m.length)⟩) (i := 0 + (l.length - m.length)) rfl rfl (l := m) ⟨fun x hx => hm.may x (by rw [e]; exact List.mem_append_right _ hx)⟩ hb
  rw [← hs] at hst
  refine ⟨by rw [hst.1]; rfl, ?_, by unfold Sc.scan; rw [run_top]; rfl⟩
  rw [hst.2]
  dsimp only
  split
  · next h0 =>
    have := hp h0
    rw [e, this]; simp
  · omega
/-- The head of what begins. -/
theorem Begins.head {gen last : Nat} {l : List Cl} (h : Begins gen last l) : ∃ seq p, last < seq ∧ 0 < p ∧ p ≤ l.length ∧ ∀ i, i < p → ∃ x, l[i]? = some x ∧ x.parts = (p : Nat) ∧ x.seq = seq ∧ x.gen = gen := by
  obtain ⟨seq, r, h1, h2, t, h3⟩ := h.ex
  have hl := Cl.split_len gen seq r
  refine ⟨seq, Cl.need r.length, h1, by omega, by rw [← h3, List.length_append, hl]; omega, fun i hi => ⟨Cl.cellAt gen seq r i, ?_, rfl, rfl, rfl⟩⟩
  rw [← h3, List.getElem?_append_left (by omega), Cl.split_get hi]
theorem not_begins_nil (gen last : Nat) : ¬ Begins gen last [] := fun h => by
  obtain ⟨_, p, _, h1, h2, _⟩ := h.head
  simp at h2; omega
theorem not_begins_seq {gen last : Nat} {l : List Cl} (h : ∀ x ∈ l, x.seq ≤ last) : ¬ Begins gen last l := fun hb => by
  obtain ⟨seq, p, h1, h2, _, h4⟩ := hb.head
  obtain ⟨x, hx, _, e, _⟩ := h4 0 h2
  have := h x (List.mem_of_getElem? hx)
  omega
theorem not_begins_gen {gen last : Nat} {l : List Cl} (h : ∀ x ∈ l, x.gen ≠ gen ∨ x.parts ≤ 0) : ¬ Begins gen last l := fun hb => by
  obtain ⟨seq, p, h1, h2, _, h4⟩ := hb.head
  obtain ⟨x, hx, e0, _, e⟩ := h4 0 h2
  rcases h x (List.mem_of_getElem? hx) with h | h
  · exact h e
  · omega
/-- Each cell is as it was, or none, or the new one. -/
structure Mix (new old m : List Cl) : Prop where
  len : m.length = old.length
  at_ : ∀ (i : Nat) (x : Cl), m[i]? = some x → old[i]? = some x ∨ x = Cl.zero ∨ new[i]? = some x
/-- The cells of records, their numbers rising by one. -/
def cellsOf (gen : Nat) : Nat → List (List Nat) → List Cl
  | _, [] => []
  | top, r :: rs => Cl.split gen (top + 1) r ++ cellsOf gen (top + 1) rs
theorem cellsOf_len (gen : Nat) : ∀ (rs : List (List Nat)) (top : Nat), (cellsOf gen top rs).length = (rs.map fun r => Cl.need r.length).sum
  | [], _ => rfl
  | r :: rs, top => by rw [cellsOf, List.length_append, Cl.split_len, cellsOf_len gen rs, List.map_cons, List.sum_cons]
theorem cellsOf_seq {gen : Nat} : ∀ {rs : List (List Nat)} {top : Nat} {x : Cl}, x ∈ cellsOf gen top rs → top < x.seq ∧ x.seq ≤ top + rs.length
  | [], _, _, h => by cases h
  | r :: rs, top, x, h => by
    rw [cellsOf] at h
    rcases List.mem_append.1 h with h | h
    · have := (Cl.split_mem h).2.2
      rw [List.length_cons]; omega
    · have := cellsOf_seq h
      rw [List.length_cons]; omega
theorem laid_cellsOf (gen : Nat) : ∀ (rs : List (List Nat)) (last top : Nat) (rest : List Cl), last ≤ top → (∀ r ∈ rs, Cl.need r.length ≠ 0) → ∃ b, Laid gen last (cellsOf gen top rs ++ rest) rs b rest ∧ (rs ≠ [] → b = top + rs.length) ∧ (rs = [] → b = last)
  | [], last, top, rest, _, _ => ⟨last, .nil _ _, fun h => absurd rfl h, fun _ => rfl⟩
  | r :: rs, last, top, rest, hl, hn => by
    obtain ⟨b, h1, h2, h3⟩ := laid_cellsOf gen rs (top + 1) (top + 1) rest (Nat.le_refl _) (fun x hx => hn x (List.mem_cons_of_mem _ hx))
    refine ⟨b, ?_, fun _ => ?_, fun h => by cases h⟩
    · rw [cellsOf, List.append_assoc]
      exact .cons (by omega) (hn r (List.mem_cons_self ..)) h1
    · cases rs with
      | nil => rw [h3 rfl]; rfl
      | cons x t => rw [h2 (by simp)]; simp only [List.length_cons]; omega
/-- Behind a loss the first records are there, each whole, or none. -/
theorem mix_laid (gen : Nat) : ∀ (rs : List (List Nat)) (last top top0 : Nat) (old m : List Cl), last ≤ top → top0 ≤ top → (∀ x ∈ old, x.seq ≤ top0) → (∀ r ∈ rs, Cl.need r.length ≠ 0) → ¬ Begins gen last old → Mix (cellsOf gen top rs) old m →
    ∃ k b rest, k ≤ rs.length ∧ Laid gen last m (rs.take k) b rest ∧ ¬ Begins gen b rest
  | [], last, top, top0, old, m, hl, ht, ho, hn, hb, hx => by
    refine ⟨0, last, m, Nat.le_refl _, .nil _ _, fun h => ?_⟩
    obtain ⟨seq, r, h1, h2, t, h3⟩ := h.ex
    refine hb ⟨seq, r, h1, h2, old.drop (Cl.split gen seq r).length, ?_⟩
    have hlen := hx.len
    have hsl := Cl.split_len gen seq r
    have : old.take (Cl.split gen seq r).length = Cl.split gen seq r := by
      refine List.ext_getElem? fun i => ?_
      rw [List.getElem?_take]
      split
      · next hi =>
        rw [hsl] at hi
        have hg := Cl.split_get (gen := gen) (seq := seq) (r := r) hi
        rw [hg]
        have hmi : m[i]? = some (Cl.cellAt gen seq r i) := by rw [← h3, List.getElem?_append_left (by omega), hg]
        rcases hx.at_ i _ hmi with h | h | h
        · exact h
        · have : (Cl.cellAt gen seq r i).parts = 0 := by rw [h]; rfl
          have h5 : (Cl.cellAt gen seq r i).parts = (Cl.need r.length : Nat) := rfl
          omega
        · cases h
      · next hi => rw [List.getElem?_eq_none (by omega)]
    conv => lhs; lhs; rw [← this]
    exact List.take_append_drop _ _
  | r :: rs, last, top, top0, old, m, hl, ht, ho, hn, hb, hx => by
    have hn0 := hn r (List.mem_cons_self ..)
    have hsl := Cl.split_len gen (top + 1) r
    by_cases hall : m.take (Cl.need r.length) = Cl.split gen (top + 1) r
    · have hold : ∀ x ∈ old.drop (Cl.need r.length), x.seq ≤ top0 := fun x hx => ho x (List.mem_of_mem_drop hx)
      obtain ⟨k, b, rest, h1, h2, h3⟩ := mix_laid gen rs (top + 1) (top + 1) top0 (old.drop (Cl.need r.length)) (m.drop (Cl.need r.length)) (Nat.le_refl _) (by omega) hold (fun x hx => hn x (List.mem_cons_of_mem _ hx))
        (not_begins_seq fun x hx => by have := hold x hx; omega) ⟨by rw [List.length_drop, List.length_drop, hx.len], fun i x hi => by
          rw [List.getElem?_drop] at hi ⊢
          rcases hx.at_ _ x hi with h | h | h
          · exact .inl h
          · exact .inr (.inl h)
          · refine .inr (.inr ?_)
            rw [cellsOf, List.getElem?_append_right (by omega), hsl] at h
            rw [← h]; congr 1; omega⟩
      refine ⟨k + 1, b, rest, by simp; omega, ?_, h3⟩
      have e : m = Cl.split gen (top + 1) r ++ m.drop (Cl.need r.length) := by rw [← hall, List.take_append_drop]
      rw [e, List.take_succ_cons]
      exact .cons (by omega) hn0 h2
    · refine ⟨0, last, m, Nat.zero_le _, .nil _ _, fun h => ?_⟩
      obtain ⟨seq, r', h1, h2, t, h3⟩ := h.ex
      have hsl' := Cl.split_len gen seq r'
      have hm : ∀ i, i < Cl.need r'.length → m[i]? = some (Cl.cellAt gen seq r' i) := fun i hi => by
        rw [← h3, List.getElem?_append_left (by omega), Cl.split_get hi]
      have hz : ∀ i, i < Cl.need r'.length → Cl.cellAt gen seq r' i ≠ Cl.zero := fun i hi e => by
        have : (Cl.cellAt gen seq r' i).parts = 0 := by rw [e]; rfl
        have h5 : (Cl.cellAt gen seq r' i).parts = (Cl.need r'.length : Nat) := rfl
        omega
      by_cases hseq : seq ≤ top0
      · -- all of them are old ones
        refine hb ⟨seq, r', h1, h2, old.drop (Cl.split gen seq r').length, ?_⟩
        have : old.take (Cl.split gen seq r').length = Cl.split gen seq r' := by
          refine List.ext_getElem? fun i => ?_
          rw [List.getElem?_take]
          split
          · next hi =>
            rw [hsl'] at hi
            rw [Cl.split_get hi]
            rcases hx.at_ i _ (hm i hi) with h | h | h
            · exact h
            · exact absurd h (hz i hi)
            · have := (cellsOf_seq (List.mem_of_getElem? h)).1
              have h6 : (Cl.cellAt gen seq r' i).seq = seq := rfl
              omega
          · next hi => rw [List.getElem?_eq_none (by omega)]
        conv => lhs; lhs; rw [← this]
        exact List.take_append_drop _ _
      · -- all of them are new ones: the first record's
        have hnew : ∀ i, i < Cl.need r'.length → (cellsOf gen top (r :: rs))[i]? = some (Cl.cellAt gen seq r' i) := fun i hi => by
          rcases hx.at_ i _ (hm i hi) with h | h | h
          · have := ho _ (List.mem_of_getElem? h)
            have h6 : (Cl.cellAt gen seq r' i).seq = seq := rfl
            omega
          · exact absurd h (hz i hi)
          · exact h
        have h0 := hnew 0 (by omega)
        rw [cellsOf, List.getElem?_append_left (by omega), Cl.split_get (by omega)] at h0
        have e1 := congrArg (fun x : Option Cl => (x.map (·.seq)).getD 0) h0
        have e2 := congrArg (fun x : Option Cl => (x.map (·.parts)).getD 0) h0
        have e1 : top + 1 = seq := e1
        have e2 : ((Cl.need r.length : Nat) : Int) = ((Cl.need r'.length : Nat) : Int) := e2
        apply hall
        refine List.ext_getElem? fun i => ?_
        rw [List.getElem?_take]
        split
        · next hi =>
          rw [hm i (by omega), ← hnew i (by omega), cellsOf, List.getElem?_append_left (by omega)]
        · next hi => rw [List.getElem?_eq_none (by omega)]
end Sc
end Go.Proofs.YtdlcngmcjidomaaDoor

/- A segment on a disk: what is added, what a scan tells, what a loss leaves: plain. No condition. -/
namespace Go.Proofs.YtdlcngmcjidomaaDoor
set_option linter.unusedSimpArgs false
set_option linter.unusedVariables false

structure SegSt where
  (first n gen fin top : Nat)
namespace SegSt
def cells (s : DSt) (first n : Nat) : List Cl := (List.range n).map fun i => Cl.dec (s.read ((first + i : Nat) : Int)).1
def unknown (t : SegSt) : SegSt := { t with fin := 0, top := 4294967295 }
def scan (s : DSt) (t : SegSt) : SegSt × List (List Nat) × Int :=
  if s.down then (t.unknown, [], 4) else ({ t with fin := (Sc.scan t.gen (cells s t.first t.n)).fin, top := (Sc.scan t.gen (cells s t.first t.n)).top }, (Sc.scan t.gen (cells s t.first t.n)).out, 0)
def total (rs : List (List Nat)) : Nat := (rs.map fun r => Cl.need r.length).sum
def good (rs : List (List Nat)) : Bool := rs.all fun r => decide (Cl.need r.length ≠ 0)
def placed : Nat → List (List Nat) → List (Nat × List Nat)
  | _, [] => []
  | p, b :: l => (p, b) :: placed (p + 1) l
def writes (s : DSt) : Nat → List (List Nat) → DSt × Int
  | _, [] => (s, 0)
  | p, b :: l => if (s.write (p : Nat) b).2 = 0 then writes (s.write (p : Nat) b).1 (p + 1) l else s.write (p : Nat) b
def add (s : DSt) (t : SegSt) (rs : List (List Nat)) : DSt × SegSt × Int :=
  if good rs = false then (s, t, 1) else if t.n < t.fin + total rs ∨ 4294967295 < t.top + rs.length then (s, t, 3)
  else if s.down then (s, t, 4) else if rs = [] then (s, t, 0)
  else if (writes s (t.first + t.fin) ((Sc.cellsOf t.gen t.top rs).map Cl.enc)).2 ≠ 0 then ((writes s (t.first + t.fin) ((Sc.cellsOf t.gen t.top rs).map Cl.enc)).1, t.unknown, (writes s (t.first + t.fin) ((Sc.cellsOf t.gen t.top rs).map Cl.enc)).2)
  else if (writes s (t.first + t.fin) ((Sc.cellsOf t.gen t.top rs).map Cl.enc)).1.flush.2 ≠ 0 then ((writes s (t.first + t.fin) ((Sc.cellsOf t.gen t.top rs).map Cl.enc)).1.flush.1, t.unknown, (writes s (t.first + t.fin) ((Sc.cellsOf t.gen t.top rs).map Cl.enc)).1.flush.2)
  else ((writes s (t.first + t.fin) ((Sc.cellsOf t.gen t.top rs).map Cl.enc)).1.flush.1, { t with fin := t.fin + total rs, top := t.top + rs.length }, 0)

theorem placed_len : ∀ (l : List (List Nat)) (p : Nat), (placed p l).length = l.length
  | [], _ => rfl
  | b :: l, p => by rw [placed, List.length_cons, placed_len l, List.length_cons]
theorem placed_mem : ∀ {l : List (List Nat)} {p : Nat} {x : Nat × List Nat}, x ∈ placed p l → p ≤ x.1 ∧ x.1 < p + l.length ∧ l[x.1 - p]? = some x.2
  | [], _, _, h => by cases h
  | b :: l, p, x, h => by
    rw [placed] at h
    rcases List.mem_cons.1 h with rfl | h
    · simp
    · obtain ⟨h1, h2, h3⟩ := placed_mem h
      refine ⟨by omega, by rw [List.length_cons]; omega, ?_⟩
      have : x.1 - p = x.1 - (p + 1) + 1 := by omega
      rw [this, List.getElem?_cons_succ]; exact h3
theorem lay_placed : ∀ (l : List (List Nat)) (p : Nat) (su : List (List Nat)) (i : Nat), p + l.length ≤ su.length → (DSt.lay su (placed p l)).getD i [] = if p ≤ i ∧ i < p + l.length then l.getD (i - p) [] else su.getD i []
  | [], p, su, i, _ => (if_neg (show ¬ (p ≤ i ∧ i < p + ([] : List (List Nat)).length) by rw [List.length_nil]; omega)).symm
  | b :: l, p, su, i, h => by
    rw [List.length_cons] at h
    have e : DSt.lay su (placed p (b :: l)) = DSt.lay (su.set p b) (placed (p + 1) l) := rfl
    rw [e, lay_placed l (p + 1) _ i (by rw [List.length_set]; omega), DSt.getD_set (by omega), List.length_cons]
    by_cases hi : i = p
    · subst hi
      rw [if_neg (by omega), if_pos rfl, if_pos (by omega), Nat.sub_self]; rfl
    · rw [if_neg hi]
      by_cases h2 : p ≤ i ∧ i < p + (l.length + 1)
      · rw [if_pos h2, if_pos (by omega)]
        have : i - p = i - (p + 1) + 1 := by omega
        rw [this]; rfl
      · rw [if_neg h2, if_neg (by omega)]
theorem layBy_placed : ∀ (l : List (List Nat)) (p : Nat) (su : List (List Nat)) (cs : List Nat) (i : Nat), p + l.length ≤ su.length →
    (DSt.layBy su (placed p l) cs).getD i [] = su.getD i [] ∨ (p ≤ i ∧ i < p + l.length ∧ ((DSt.layBy su (placed p l) cs).getD i [] = [] ∨ (DSt.layBy su (placed p l) cs).getD i [] = l.getD (i - p) []))
  | [], p, su, cs, i, _ => .inl rfl
  | b :: l, p, su, cs, i, h => by
    rw [List.length_cons] at h
    have e : DSt.layBy su (placed p (b :: l)) cs = DSt.layBy (DSt.lay1 su (p, b) cs) (placed (p + 1) l) cs.tail := rfl
    have hl := DSt.len_lay1 su (p, b) cs
    rw [e]
    rcases layBy_placed l (p + 1) (DSt.lay1 su (p, b) cs) cs.tail i (by omega) with h1 | ⟨h1, h2, h3⟩
    · rcases DSt.lay1_at (su := su) (x := (p, b)) (cs := cs) (i := i) (by show p < _; omega) with h4 | ⟨h4, h5⟩
      · exact .inl (h1.trans h4)
      · have h4 : p = i := h4
        subst h4
        refine .inr ⟨Nat.le_refl _, by rw [List.length_cons]; omega, ?_⟩
        rw [h1, Nat.sub_self]
        exact h5
    · refine .inr ⟨by omega, by rw [List.length_cons]; omega, ?_⟩
      have : i - p = i - (p + 1) + 1 := by omega
      rw [this]
      exact h3
theorem writes_cases : ∀ (l : List (List Nat)) (p : Nat) (s : DSt), s.down = false → p + l.length ≤ s.sure.length → (∀ b ∈ l, b.length = 64) →
    (writes s p l).1.sure = s.sure ∧ (writes s p l).1.stop = s.stop ∧ (writes s p l).1.begun ≤ s.begun + l.length ∧ ∃ j, j ≤ l.length ∧ (writes s p l).1.pend = s.pend ++ placed p (l.take j) ∧ (((writes s p l).2 = 0 ∧ j = l.length ∧ (writes s p l).1.down = false) ∨ ((writes s p l).2 = 4 ∧ (writes s p l).1.down = true))
  | [], p, s, hd, _, _ => ⟨rfl, rfl, Nat.le_refl _, 0, Nat.le_refl _, by simp [writes, placed], .inl ⟨rfl, rfl, hd⟩⟩
  | b :: l, p, s, hd, hp, hb => by
    rw [List.length_cons] at hp
    have hh : (s.has (p : Nat) && decide (b.length = 64)) = true := by
      have h1 : s.has (p : Nat) = true := decide_eq_true ⟨by omega, by omega⟩
      rw [h1, hb b (List.mem_cons_self ..)]; rfl
    rw [writes]
    cases hg : s.goes with
    | true =>
      rw [DSt.write_goes hd hh hg, if_neg (show ¬ (4 : Int) = 0 by decide)]
      exact ⟨rfl, rfl, by show s.begun + 1 ≤ _; rw [List.length_cons]; omega, 0, Nat.zero_le _, by show s.pend = _; simp [placed], .inr ⟨rfl, hg⟩⟩
    | false =>
      rw [DSt.write_ok hd hh hg, if_pos rfl]
      dsimp only
      obtain ⟨h1, h2, h3, j, h4, h5, h6⟩ := writes_cases l (p + 1) (DSt.mk s.beg.sure (s.pend ++ [(((p : Nat) : Int).toNat, b)]) s.beg.down s.beg.stop s.beg.begun) (by exact hg) (by show p + 1 + l.length ≤ s.sure.length; omega) (fun x hx => hb x (List.mem_cons_of_mem _ hx))
      refine ⟨h1, h2, ?_, j + 1, by rw [List.length_cons]; omega, ?_, ?_⟩
      · have h3 : _ ≤ s.begun + 1 + l.length := h3
        rw [List.length_cons]; omega
      · rw [h5, List.take_succ_cons, placed, Int.toNat_natCast]
        show (s.pend ++ [(p, b)]) ++ _ = _
        rw [List.append_assoc]; rfl
      · rcases h6 with ⟨h6, h7, h8⟩ | ⟨h6, h7⟩
        · exact .inl ⟨h6, by rw [List.length_cons, h7], h8⟩
        · exact .inr ⟨h6, h7⟩
theorem cells_len (s : DSt) (first n : Nat) : (cells s first n).length = n := by unfold cells; simp
theorem cells_get {s : DSt} {first n i : Nat} (h : i < n) : (cells s first n)[i]? = some (Cl.dec (s.read ((first + i : Nat) : Int)).1) := by
  unfold cells
  rw [List.getElem?_map, List.getElem?_range h]; rfl
theorem dec_may (l : List Nat) : (Cl.dec l).may = true ∨ (Cl.dec l).parts ≤ 0 := by
  unfold Cl.dec
  split
  · next h => exact .inl (Cl.isEnc_iff.1 h).2.1
  · exact .inr (Int.le_refl _)
theorem cells_may (s : DSt) (first n : Nat) : Sc.May (cells s first n) := ⟨fun x hx => by
  unfold cells at hx
  obtain ⟨i, _, rfl⟩ := List.mem_map.1 hx
  exact dec_may _⟩
theorem dec_seq (l : List Nat) : (Cl.dec l).seq = 0 ∨ 0 < (Cl.dec l).parts := by
  unfold Cl.dec
  split
  · next h => exact .inr (by have := (Cl.may_iff.1 (Cl.isEnc_iff.1 h).2.1).1; omega)
  · exact .inl rfl
/-- What sectors tell, of a disk that is there, with nothing pending. -/
def plainCells (su : List (List Nat)) (first n : Nat) : List Cl := (List.range n).map fun i => Cl.dec (su.getD (first + i) [])
theorem cells_plain {s : DSt} (hd : s.down = false) (hp : s.pend = []) {first n : Nat} (h : first + n ≤ s.sure.length) : cells s first n = plainCells s.sure first n := by
  unfold cells plainCells
  refine List.map_congr_left fun i hi => ?_
  have hi : i < n := List.mem_range.1 hi
  have hh : s.has ((first + i : Nat) : Int) = true := decide_eq_true ⟨by omega, by omega⟩
  have hc : s.cur (first + i) = s.sure.getD (first + i) [] := by unfold DSt.cur; rw [hp]; rfl
  congr 1
  by_cases h0 : s.sure.getD (first + i) [] = []
  · rw [DSt.read_torn hd hh (by rw [Int.toNat_natCast, hc]; exact h0), h0]
  · rw [DSt.read_ok hd hh (by rw [Int.toNat_natCast, hc]; exact h0), Int.toNat_natCast, hc]
theorem plainCells_len (su : List (List Nat)) (first n : Nat) : (plainCells su first n).length = n := by unfold plainCells; simp
theorem plainCells_get {su : List (List Nat)} {first n i : Nat} (h : i < n) : (plainCells su first n)[i]? = some (Cl.dec (su.getD (first + i) [])) := by
  unfold plainCells
  rw [List.getElem?_map, List.getElem?_range h]; rfl
theorem dec_nil : Cl.dec [] = Cl.zero := by
  unfold Cl.dec Cl.isEnc
  rw [decide_eq_false (show ¬ ([] : List Nat).length = 64 by decide), Bool.false_and]; rfl
theorem cellsOf_ok {gen : Nat} (hg : gen < 4294967296) : ∀ {rs : List (List Nat)} {top : Nat}, top + rs.length < 4294967296 → (∀ r ∈ rs, ∀ c ∈ r, c < 256) → ∀ x ∈ Sc.cellsOf gen top rs, x.Ok ∧ x.may = true
  | [], _, _, _, x, h => by cases h
  | r :: rs, top, ht, hr, x, h => by
    rw [List.length_cons] at ht
    rw [Sc.cellsOf] at h
    rcases List.mem_append.1 h with h | h
    · unfold Cl.split at h
      obtain ⟨i, hi, rfl⟩ := List.mem_map.1 h
      exact ⟨Cl.cellAt_ok i hg (by omega) (hr r (List.mem_cons_self ..)), Cl.cellAt_may (List.mem_range.1 hi)⟩
    · exact cellsOf_ok hg (by omega) (fun r' hr' => hr r' (List.mem_cons_of_mem _ hr')) x h
theorem good_iff {rs : List (List Nat)} : good rs = true ↔ ∀ r ∈ rs, Cl.need r.length ≠ 0 := by
  unfold good
  rw [List.all_eq_true]
  exact ⟨fun h r hr => by simpa using h r hr, fun h r hr => by simpa using h r hr⟩
theorem total_cells (gen top : Nat) (rs : List (List Nat)) : (Sc.cellsOf gen top rs).length = total rs := Sc.cellsOf_len gen rs top

/-- Records that lie in a segment's sectors. -/
structure Lay (su : List (List Nat)) (t : SegSt) (all : List (List Nat)) (pre old : List Cl) (b : Nat) : Prop where
  fits : t.first + t.n ≤ su.length
  is : plainCells su t.first t.n = pre ++ old
  laid : Sc.Laid t.gen 0 (pre ++ old) all b old
  stop : ¬ Sc.Begins t.gen b old
  fin : t.fin = pre.length
  last : b ≤ t.top
  top : ∀ x ∈ pre ++ old, x.seq ≤ t.top
  most : t.top ≤ 4294967295
  gen : t.gen < 4294967296
  all : ∀ r ∈ all, Cl.need r.length ≠ 0
structure Kept (s : DSt) (t : SegSt) (all : List (List Nat)) : Prop where
  down : s.down = false
  pend : s.pend = []
  lay : ∃ pre old b, Lay s.sure t all pre old b
/-- The power is gone in the midst of an adding. -/
structure Lost (s : DSt) (t : SegSt) (all tried : List (List Nat)) : Prop where
  down : s.down = true
  unk : t.fin = 0 ∧ t.top = 4294967295
  some_ : tried ≠ []
  lay : ∃ t0 pre old b j, t0.first = t.first ∧ t0.n = t.n ∧ t0.gen = t.gen ∧ Lay s.sure t0 all pre old b ∧ t0.fin + total tried ≤ t0.n ∧ t0.top + tried.length ≤ 4294967295 ∧ (∀ r ∈ tried, Cl.need r.length ≠ 0) ∧ (∀ r ∈ tried, ∀ c ∈ r, c < 256) ∧
    s.pend = placed (t0.first + t0.fin) (((Sc.cellsOf t0.gen t0.top tried).map Cl.enc).take j)
theorem seq_top {su : List (List Nat)} {first n : Nat} : ∀ x ∈ plainCells su first n, x.seq ≤ (plainCells su first n).foldl Sc.topOf 0 := by
  intro x hx
  have hx' := hx
  unfold plainCells at hx'
  obtain ⟨i, _, rfl⟩ := List.mem_map.1 hx'
  rcases dec_seq (su.getD (first + i) []) with h | h
  · omega
  · exact Sc.tops_mem hx h 0
theorem laid_seq {gen a b : Nat} {l m : List Cl} {rs : List (List Nat)} (h : Sc.Laid gen a l rs b m) : b = a ∨ ∃ x ∈ l, x.seq = b := by
  induction h with
  | nil => exact .inl rfl
  | @cons last seq last' r l rest rs hs hn h ih =>
    rcases ih with e | ⟨x, hx, e⟩
    · refine .inr ⟨Cl.cellAt gen seq r 0, List.mem_append_left _ (List.mem_of_getElem? (Cl.split_get (by omega))), e.symm⟩
    · exact .inr ⟨x, List.mem_append_right _ hx, e⟩
theorem dec_lt {l : List Nat} (h : ∀ c ∈ l, c < 256) : (Cl.dec l).seq < 4294967296 := (Cl.dec_ok h).seq
/-- A scan of what is laid. -/
theorem scan_laid {s : DSt} {t : SegSt} {all : List (List Nat)} {rest : List Cl} {b : Nat} (hd : s.down = false) (hp : s.pend = []) (hf : t.first + t.n ≤ s.sure.length) (hB : ∀ x ∈ s.sure, ∀ c ∈ x, c < 256) (hg : t.gen < 4294967296)
    (hl : Sc.Laid t.gen 0 (plainCells s.sure t.first t.n) all b rest) (hs : ¬ Sc.Begins t.gen b rest) (ha : ∀ r ∈ all, Cl.need r.length ≠ 0) :
    (scan s t).2 = (all, 0) ∧ Kept s (scan s t).1 all ∧ (scan s t).1.first = t.first ∧ (scan s t).1.n = t.n ∧ (scan s t).1.gen = t.gen := by
  have hc := cells_plain hd hp hf
  have hm : Sc.May (plainCells s.sure t.first t.n) := hc ▸ cells_may s t.first t.n
  obtain ⟨h1, h2, h3⟩ := hl.scanned hm hs
  obtain ⟨pre, e, _, _⟩ := hl.suffix
  have hlen := plainCells_len s.sure t.first t.n
  have hpre : (plainCells s.sure t.first t.n).length - rest.length = pre.length := by rw [e, List.length_append]; omega
  have hst := @seq_top s.sure t.first t.n
  unfold scan
  rw [if_neg (by rw [hd]; decide), hc, h1, h2, h3, hpre]
  refine ⟨rfl, ⟨hd, hp, pre, rest, b, hf, e, by rw [← e]; exact hl, hs, rfl, ?_, ?_, ?_, hg, ha⟩, rfl, rfl, rfl⟩
  · rcases laid_seq hl with e2 | ⟨x, hx, e2⟩
    · rw [e2]; exact Nat.zero_le _
    · rw [← e2]; exact hst x hx
  · rw [← e]; exact hst
  · refine Nat.le_of_lt_succ (Sc.tops_lt (B := 4294967296) (fun x hx => ?_) 0 (by decide))
    unfold plainCells at hx
    obtain ⟨i, _, rfl⟩ := List.mem_map.1 hx
    refine dec_lt fun c hc => ?_
    rw [List.getD_eq_getElem?_getD] at hc
    cases hi : s.sure[t.first + i]? with
    | none => rw [hi] at hc; cases hc
    | some x => rw [hi] at hc; exact hB x (List.mem_of_getElem? hi) c hc
end SegSt
end Go.Proofs.YtdlcngmcjidomaaDoor

/- What an adding makes of a segment, and a loss in its midst: plain. No condition. -/
namespace Go.Proofs.YtdlcngmcjidomaaDoor
set_option linter.unusedSimpArgs false
set_option linter.unusedVariables false

namespace SegSt
theorem getD_map_enc {l : List Cl} {i : Nat} {x : Cl} (h : l[i]? = some x) : (l.map Cl.enc).getD i [] = x.enc := by
  rw [List.getD_eq_getElem?_getD, List.getElem?_map, h]; rfl
/-- Sectors behind writes that are there. -/
theorem cells_lay {su : List (List Nat)} {first n gen top : Nat} {pre old : List Cl} {rs : List (List Nat)} (hf : first + n ≤ su.length) (his : plainCells su first n = pre ++ old) (hfit : pre.length + total rs ≤ n)
    (hg : gen < 4294967296) (ht : top + rs.length < 4294967296) (hr : ∀ r ∈ rs, ∀ c ∈ r, c < 256) :
    plainCells (DSt.lay su (placed (first + pre.length) ((Sc.cellsOf gen top rs).map Cl.enc))) first n = (pre ++ Sc.cellsOf gen top rs) ++ old.drop (total rs) := by
  have hlen := plainCells_len su first n
  rw [his, List.length_append] at hlen
  have htc := total_cells gen top rs
  have hml : ((Sc.cellsOf gen top rs).map Cl.enc).length = total rs := by rw [List.length_map, htc]
  refine List.ext_getElem? fun i => ?_
  by_cases hi : i < n
  · rw [plainCells_get hi, lay_placed _ _ _ _ (by omega), hml]
    have hold : (pre ++ old)[i]? = some (Cl.dec (su.getD (first + i) [])) := by rw [← his, plainCells_get hi]
    by_cases h1 : pre.length ≤ i ∧ i < pre.length + total rs
    · rw [if_pos (by omega), List.append_assoc, List.getElem?_append_right h1.1, List.getElem?_append_left (by omega)]
      have hx : (Sc.cellsOf gen top rs)[i - pre.length]? = some (Sc.cellsOf gen top rs)[i - pre.length] := List.getElem?_eq_getElem (by omega)
      have hok := cellsOf_ok hg ht hr _ (List.mem_of_getElem? hx)
      rw [show first + i - (first + pre.length) = i - pre.length by omega, getD_map_enc hx, hx, (Cl.dec_enc hok.1 hok.2).1]
    · rw [if_neg (by omega), ← hold]
      by_cases h2 : i < pre.length
      · rw [List.getElem?_append_left h2, List.append_assoc, List.getElem?_append_left h2]
      · rw [List.getElem?_append_right (by omega), List.getElem?_append_right (by rw [List.length_append]; omega), List.getElem?_drop, List.length_append]
        congr 1
        omega
  · rw [List.getElem?_eq_none (by rw [plainCells_len]; omega), List.getElem?_eq_none (by simp only [List.length_append, List.length_drop]; omega)]
theorem Lay.add {su : List (List Nat)} {t : SegSt} {all rs : List (List Nat)} {pre old : List Cl} {b : Nat} (h : Lay su t all pre old b) (h0 : rs ≠ []) (hfit : t.fin + total rs ≤ t.n) (ht : t.top + rs.length ≤ 4294967295)
    (hn : ∀ r ∈ rs, Cl.need r.length ≠ 0) (hr : ∀ r ∈ rs, ∀ c ∈ r, c < 256) :
    ∃ pre' old' b', Lay (DSt.lay su (placed (t.first + t.fin) ((Sc.cellsOf t.gen t.top rs).map Cl.enc))) { t with fin := t.fin + total rs, top := t.top + rs.length } (all ++ rs) pre' old' b' := by
  have hc := cells_lay h.fits h.is (by rw [← h.fin]; exact hfit) h.gen (by omega) hr (top := t.top)
  rw [← h.fin] at hc
  obtain ⟨b', h1, h2, _⟩ := Sc.laid_cellsOf t.gen rs b t.top (old.drop (total rs)) h.last hn
  have h2 := h2 h0
  have hlaid : Sc.Laid t.gen 0 ((pre ++ Sc.cellsOf t.gen t.top rs) ++ old.drop (total rs)) (all ++ rs) b' (old.drop (total rs)) := by
    rw [List.append_assoc]
    exact (h.laid.swap rfl _).trans h1
  refine ⟨_, _, b', ⟨by rw [DSt.len_lay]; exact h.fits, hc, hlaid, Sc.not_begins_seq fun x hx => ?_, ?_, ?_, fun x hx => ?_, ht, h.gen, fun r hr' => ?_⟩⟩
  · have := h.top x (List.mem_append_right _ (List.mem_of_mem_drop hx))
    omega
  · show t.fin + total rs = _
    rw [List.length_append, total_cells, h.fin]
  · show b' ≤ t.top + rs.length
    omega
  · show x.seq ≤ t.top + rs.length
    rcases List.mem_append.1 hx with hx | hx
    · rcases List.mem_append.1 hx with hx | hx
      · have := h.top x (List.mem_append_left _ hx); omega
      · exact (Sc.cellsOf_seq hx).2
    · have := h.top x (List.mem_append_right _ (List.mem_of_mem_drop hx)); omega
  · rcases List.mem_append.1 hr' with hr' | hr'
    · exact h.all r hr'
    · exact hn r hr'
/-- The three ways an adding ends. -/
theorem kept_add {s : DSt} {t : SegSt} {all rs : List (List Nat)} (K : Kept s t all) (hr : ∀ r ∈ rs, ∀ c ∈ r, c < 256) :
    ((((add s t rs).2.2 = 1 ∨ (add s t rs).2.2 = 3) ∧ (add s t rs).1 = s ∧ (add s t rs).2.1 = t) ∨ ((add s t rs).2.2 = 0 ∧ Kept (add s t rs).1 (add s t rs).2.1 (all ++ rs)) ∨ ((add s t rs).2.2 = 4 ∧ Lost (add s t rs).1 (add s t rs).2.1 all rs)) ∧
      (add s t rs).2.1.first = t.first ∧ (add s t rs).2.1.n = t.n ∧ (add s t rs).2.1.gen = t.gen ∧ (add s t rs).1.sure.length = s.sure.length ∧ (add s t rs).1.begun ≤ s.begun + t.n + 1 ∧ (add s t rs).1.pend.length ≤ t.n := by
  obtain ⟨pre, old, b, L⟩ := K.lay
  have hp0 : s.pend.length ≤ t.n := by rw [K.pend]; exact Nat.zero_le _
  unfold add
  cases hgood : good rs with
  | false => rw [if_pos rfl]; exact ⟨.inl ⟨.inl rfl, rfl, rfl⟩, rfl, rfl, rfl, rfl, by dsimp only; omega, hp0⟩
  | true =>
    rw [if_neg (by decide)]
    by_cases hfull : t.n < t.fin + total rs ∨ 4294967295 < t.top + rs.length
    · rw [if_pos hfull]; exact ⟨.inl ⟨.inr rfl, rfl, rfl⟩, rfl, rfl, rfl, rfl, by dsimp only; omega, hp0⟩
    · rw [if_neg hfull, if_neg (by rw [K.down]; decide)]
      by_cases h0 : rs = []
      · rw [if_pos h0, h0, List.append_nil]; exact ⟨.inr (.inl ⟨rfl, K⟩), rfl, rfl, rfl, rfl, by dsimp only; omega, hp0⟩
      · rw [if_neg h0]
        have hn := good_iff.1 hgood
        have hml : ((Sc.cellsOf t.gen t.top rs).map Cl.enc).length = total rs := by rw [List.length_map, total_cells]
        have hfin := L.fin
        have hlen := plainCells_len s.sure t.first t.n
        rw [L.is, List.length_append] at hlen
        have hfits := L.fits
        obtain ⟨w1, w2, w3, j, w4, w5, w6⟩ := writes_cases ((Sc.cellsOf t.gen t.top rs).map Cl.enc) (t.first + t.fin) s K.down (by omega) (fun x hx => by
          obtain ⟨y, hy, rfl⟩ := List.mem_map.1 hx
          exact Cl.enc_len (Cl.may_iff.1 (cellsOf_ok L.gen (by omega) hr y hy).2).2.2.2.2.2.1)
        rw [K.pend, List.nil_append] at w5
        have hpl : (writes s (t.first + t.fin) ((Sc.cellsOf t.gen t.top rs).map Cl.enc)).1.pend.length ≤ t.n := by
          rw [w5, placed_len, List.length_take]; omega
        generalize hW : writes s (t.first + t.fin) ((Sc.cellsOf t.gen t.top rs).map Cl.enc) = W at *
        have hlost : ∀ d : DSt, d.down = true → d.sure = s.sure → d.pend = W.1.pend → Lost d t.unknown all rs := fun d e1 e2 e3 =>
          ⟨e1, ⟨rfl, rfl⟩, h0, t, pre, old, b, j, rfl, rfl, rfl, by rw [e2]; exact L, by omega, by omega, hn, hr, by rw [e3, w5]⟩
        rcases w6 with ⟨h1, h2, h3⟩ | ⟨h1, h2⟩
        · rw [if_neg (show ¬ W.2 ≠ 0 by rw [h1]; decide)]
          cases hg : W.1.goes with
          | true =>
            rw [DSt.flush_goes h3 hg, if_pos (show (4 : Int) ≠ 0 by decide)]
            exact ⟨.inr (.inr ⟨rfl, hlost _ hg w1 rfl⟩), rfl, rfl, rfl, by show W.1.sure.length = _; rw [w1], by show W.1.begun + 1 ≤ _; omega, hpl⟩
          | false =>
            rw [DSt.flush_ok h3 hg, if_neg (show ¬ (0 : Int) ≠ 0 by decide)]
            have hsu : DSt.lay W.1.sure W.1.pend = DSt.lay s.sure (placed (t.first + t.fin) ((Sc.cellsOf t.gen t.top rs).map Cl.enc)) := by
              rw [w1, w5, h2, List.take_of_length_le (Nat.le_refl _)]
            refine ⟨.inr (.inl ⟨rfl, hg, rfl, ?_⟩), rfl, rfl, rfl, by show (DSt.lay W.1.sure W.1.pend).length = _; rw [DSt.len_lay, w1], by show W.1.begun + 1 ≤ _; omega, Nat.zero_le _⟩
            show ∃ pre old b, Lay (DSt.lay W.1.sure W.1.pend) _ _ pre old b
            rw [hsu]
            exact L.add h0 (by omega) (by omega) hn hr
        · rw [if_pos (show W.2 ≠ 0 by rw [h1]; decide), h1]
          exact ⟨.inr (.inr ⟨rfl, hlost _ h2 w1 rfl⟩), rfl, rfl, rfl, by show W.1.sure.length = _; rw [w1], by show W.1.begun ≤ _; omega, hpl⟩
/-- What a loss leaves. -/
theorem lost_up {s : DSt} {t : SegSt} {all tried : List (List Nat)} (h : Lost s t all tried) (cs : List Nat) :
    ∃ k rest b, k ≤ tried.length ∧ Sc.Laid t.gen 0 (plainCells (s.up cs).sure t.first t.n) (all ++ tried.take k) b rest ∧ ¬ Sc.Begins t.gen b rest ∧ (∀ r ∈ all ++ tried.take k, Cl.need r.length ≠ 0) ∧ t.gen < 4294967296 ∧ t.first + t.n ≤ (s.up cs).sure.length := by
  obtain ⟨t0, pre, old, b, j, e1, e2, e3, L, hfit, htop, hn, hr, hp⟩ := h.lay
  rw [← e1, ← e2, ← e3]
  have hlen := plainCells_len s.sure t0.first t0.n
  rw [L.is, List.length_append] at hlen
  have hfin := L.fin
  have hfits := L.fits
  have hml : ((Sc.cellsOf t0.gen t0.top tried).map Cl.enc).length = total tried := by rw [List.length_map, total_cells]
  have htk : (((Sc.cellsOf t0.gen t0.top tried).map Cl.enc).take j).length ≤ total tried := by rw [List.length_take, hml]; omega
  have hsl : (s.up cs).sure.length = s.sure.length := DSt.len_layBy _ _ _
  have hget : ∀ i, i < t0.n → (plainCells (s.up cs).sure t0.first t0.n)[i]? = (pre ++ old)[i]? ∨ (pre.length ≤ i ∧ ((plainCells (s.up cs).sure t0.first t0.n)[i]? = some Cl.zero ∨ ∃ x, (plainCells (s.up cs).sure t0.first t0.n)[i]? = some x ∧ (Sc.cellsOf t0.gen t0.top tried)[i - pre.length]? = some x)) := by
    intro i hi
    rw [plainCells_get hi, ← L.is, plainCells_get hi]
    have hsu : (s.up cs).sure = DSt.layBy s.sure (placed (t0.first + t0.fin) (((Sc.cellsOf t0.gen t0.top tried).map Cl.enc).take j)) cs := by
      show DSt.layBy s.sure s.pend cs = _
      rw [hp]
    rw [hsu]
    rcases layBy_placed (((Sc.cellsOf t0.gen t0.top tried).map Cl.enc).take j) (t0.first + t0.fin) s.sure cs (t0.first + i) (by omega) with h1 | ⟨h1, h2, h3⟩
    · rw [h1]; exact .inl rfl
    · refine .inr ⟨by omega, ?_⟩
      rcases h3 with h3 | h3
      · rw [h3, dec_nil]; exact .inl rfl
      · refine .inr ⟨_, rfl, ?_⟩
        obtain ⟨x, hx⟩ : ∃ x, (Sc.cellsOf t0.gen t0.top tried)[i - pre.length]? = some x := ⟨_, List.getElem?_eq_getElem (show i - pre.length < (Sc.cellsOf t0.gen t0.top tried).length by rw [total_cells]; omega)⟩
        have hok := cellsOf_ok L.gen (by omega) hr _ (List.mem_of_getElem? hx)
        have hgt : (((Sc.cellsOf t0.gen t0.top tried).map Cl.enc).take j).getD (t0.first + i - (t0.first + t0.fin)) [] = x.enc := by
          have h5 := getD_map_enc hx
          rw [List.getD_eq_getElem?_getD, List.getElem?_take, if_pos (by rw [List.length_take] at h2; omega), ← List.getD_eq_getElem?_getD, show t0.first + i - (t0.first + t0.fin) = i - pre.length by omega, h5]
        rw [h3, hgt, (Cl.dec_enc hok.1 hok.2).1, hx]
  have hlen2 := plainCells_len (s.up cs).sure t0.first t0.n
  have hpre : (plainCells (s.up cs).sure t0.first t0.n).take pre.length = pre := by
    refine List.ext_getElem? fun i => ?_
    rw [List.getElem?_take]
    split
    · next hi =>
      rcases hget i (by omega) with h1 | ⟨h1, _⟩
      · rw [h1, List.getElem?_append_left hi]
      · omega
    · next hi => rw [List.getElem?_eq_none (by omega)]
  have hm : plainCells (s.up cs).sure t0.first t0.n = pre ++ (plainCells (s.up cs).sure t0.first t0.n).drop pre.length := by
    conv => lhs; rw [← List.take_append_drop pre.length (plainCells (s.up cs).sure t0.first t0.n), hpre]
  have hmix : Sc.Mix (Sc.cellsOf t0.gen t0.top tried) old ((plainCells (s.up cs).sure t0.first t0.n).drop pre.length) := by
    refine ⟨by rw [List.length_drop]; omega, fun i x hx => ?_⟩
    rw [List.getElem?_drop] at hx
    have hi : pre.length + i < t0.n := by
      have := (List.getElem?_eq_some_iff.1 hx).1
      omega
    rcases hget (pre.length + i) hi with h1 | ⟨_, h1 | ⟨y, h1, h2⟩⟩
    · rw [hx] at h1
      rw [List.getElem?_append_right (by omega), Nat.add_sub_cancel_left] at h1
      exact .inl h1.symm
    · rw [hx] at h1; cases h1; exact .inr (.inl rfl)
    · rw [hx] at h1; cases h1
      rw [Nat.add_sub_cancel_left] at h2
      exact .inr (.inr h2)
  obtain ⟨k, b', rest, k1, k2, k3⟩ := Sc.mix_laid t0.gen tried b t0.top t0.top old _ L.last (Nat.le_refl _) (fun x hx => L.top x (List.mem_append_right _ hx)) hn L.stop hmix
  refine ⟨k, rest, b', k1, ?_, k3, fun r hr' => ?_, L.gen, by rw [hsl]; exact hfits⟩
  · rw [hm]
    exact (L.laid.swap rfl _).trans k2
  · rcases List.mem_append.1 hr' with h1 | h1
    · exact L.all r h1
    · exact hn r (List.mem_of_mem_take h1)
theorem Kept.up {s : DSt} {t : SegSt} {all : List (List Nat)} (K : Kept s t all) (cs : List Nat) : Kept (s.up cs) t all := by
  obtain ⟨pre, old, b, L⟩ := K.lay
  refine ⟨rfl, rfl, pre, old, b, ?_⟩
  have : (s.up cs).sure = s.sure := by
    show DSt.layBy s.sure s.pend cs = _
    rw [K.pend]; rfl
  rw [this]; exact L
theorem Kept.plan {s : DSt} {t : SegSt} {all : List (List Nat)} (K : Kept s t all) (k : Int) : Kept (s.plan k) t all := ⟨K.down, K.pend, K.lay⟩
theorem Lost.plan {s : DSt} {t : SegSt} {all tried : List (List Nat)} (K : Lost s t all tried) (k : Int) : Lost (s.plan k) t all tried := ⟨K.down, K.unk, K.some_, K.lay⟩
/-- The power being gone nothing is added. -/
theorem lost_add {s : DSt} {t : SegSt} {all tried rs : List (List Nat)} (K : Lost s t all tried) : (add s t rs).1 = s ∧ (add s t rs).2.1 = t ∧ ((add s t rs).2.2 = 1 ∨ (add s t rs).2.2 = 3 ∨ (add s t rs).2.2 = 4) := by
  unfold add
  cases hgood : good rs with
  | false => rw [if_pos rfl]; exact ⟨rfl, rfl, .inl rfl⟩
  | true =>
    rw [if_neg (by decide)]
    by_cases hfull : t.n < t.fin + total rs ∨ 4294967295 < t.top + rs.length
    · rw [if_pos hfull]; exact ⟨rfl, rfl, .inr (.inl rfl)⟩
    · rw [if_neg hfull, if_pos K.down]; exact ⟨rfl, rfl, .inr (.inr rfl)⟩
end SegSt
end Go.Proofs.YtdlcngmcjidomaaDoor

/- A segment whose disk has power: what is added is there: plain. No condition. -/
namespace Go.Proofs.YtdlcngmcjidomaaDoor
set_option linter.unusedSimpArgs false
set_option linter.unusedVariables false

namespace SegSt
theorem goes_no {s : DSt} (hd : s.down = false) (hs : s.stop = 0) : s.goes = false := by unfold DSt.goes; rw [hd, hs]; rfl
theorem writes_up : ∀ (l : List (List Nat)) (p : Nat) (s : DSt), s.down = false → s.stop = 0 → p + l.length ≤ s.sure.length → (∀ b ∈ l, b.length = 64) → (writes s p l).2 = 0 ∧ (writes s p l).1.down = false ∧ (writes s p l).1.stop = 0
  | [], p, s, hd, hs, _, _ => ⟨rfl, hd, hs⟩
  | b :: l, p, s, hd, hs, hp, hb => by
    rw [List.length_cons] at hp
    have hh : (s.has (p : Nat) && decide (b.length = 64)) = true := by
      have h1 : s.has (p : Nat) = true := decide_eq_true ⟨by omega, by omega⟩
      rw [h1, hb b (List.mem_cons_self ..)]; rfl
    have hg := goes_no hd hs
    rw [writes, DSt.write_ok hd hh hg, if_pos rfl]
    exact writes_up l (p + 1) _ (by exact hg) hs (by show p + 1 + l.length ≤ s.sure.length; omega) (fun x hx => hb x (List.mem_cons_of_mem _ hx))
theorem cells_enc {gen : Nat} (hg : gen < 4294967296) {rs : List (List Nat)} {top : Nat} (ht : top + rs.length < 4294967296) (hr : ∀ r ∈ rs, ∀ c ∈ r, c < 256) : ∀ b ∈ (Sc.cellsOf gen top rs).map Cl.enc, b.length = 64 := by
  intro b hb
  obtain ⟨x, hx, rfl⟩ := List.mem_map.1 hb
  exact Cl.enc_len (Cl.may_iff.1 (cellsOf_ok hg ht hr x hx).2).2.2.2.2.2.1
theorem add_up {s : DSt} {t : SegSt} {rs : List (List Nat)} (hd : s.down = false) (hs : s.stop = 0) (hg : good rs = true) (hfit : t.fin + total rs ≤ t.n) (htop : t.top + rs.length ≤ 4294967295) (hin : t.first + t.n ≤ s.sure.length) (hgen : t.gen < 4294967296) (hr : ∀ r ∈ rs, ∀ c ∈ r, c < 256) :
    (add s t rs).2.2 = 0 ∧ (add s t rs).2.1 = { t with fin := t.fin + total rs, top := t.top + rs.length } ∧ (add s t rs).1.down = false ∧ (add s t rs).1.stop = 0 := by
  unfold add
  rw [if_neg (by rw [hg]; decide), if_neg (by omega), if_neg (by rw [hd]; decide)]
  by_cases h0 : rs = []
  · rw [if_pos h0]
    subst h0
    exact ⟨rfl, rfl, hd, hs⟩
  · rw [if_neg h0]
    have hl := total_cells t.gen t.top rs
    obtain ⟨w1, w2, w3⟩ := writes_up ((Sc.cellsOf t.gen t.top rs).map Cl.enc) (t.first + t.fin) s hd hs (by rw [List.length_map, hl]; omega) (cells_enc hgen (by omega) hr)
    have hf := DSt.flush_ok w2 (goes_no w2 w3)
    rw [if_neg (by rw [w1]; exact fun h => h rfl), hf, if_neg (fun h => h rfl)]
    exact ⟨rfl, rfl, goes_no w2 w3, w3⟩
theorem add_full {s : DSt} {t : SegSt} {rs : List (List Nat)} (hg : good rs = true) (hfit : t.n < t.fin + total rs ∨ 4294967295 < t.top + rs.length) : add s t rs = (s, t, 3) := by
  unfold add
  rw [if_neg (by rw [hg]; decide), if_pos hfit]
theorem add_arg {s : DSt} {t : SegSt} {rs : List (List Nat)} (hg : good rs = false) : add s t rs = (s, t, 1) := by
  unfold add
  rw [if_pos hg]
/-- What is kept is scanned. -/
theorem kept_scan {s : DSt} {t : SegSt} {all : List (List Nat)} (K : Kept s t all) (hB : ∀ x ∈ s.sure, ∀ c ∈ x, c < 256) :
    (scan s t).2 = (all, 0) ∧ Kept s (scan s t).1 all ∧ (scan s t).1.first = t.first ∧ (scan s t).1.n = t.n ∧ (scan s t).1.gen = t.gen := by
  obtain ⟨pre, old, b, L⟩ := K.lay
  refine scan_laid K.down K.pend L.fits hB L.gen ?_ L.stop L.all
  rw [L.is]
  exact L.laid
/-- A segment with power, its end and top told. -/
structure SUp (s : DSt) (t : SegSt) (all : List (List Nat)) : Prop where
  kept : Kept s t all
  stop : s.stop = 0
theorem SUp.ok {s : DSt} {t : SegSt} {all : List (List Nat)} (K : SUp s t all) : t.first + t.n ≤ s.sure.length ∧ t.fin ≤ t.n ∧ t.top ≤ 4294967295 ∧ t.gen < 4294967296 := by
  obtain ⟨pre, old, b, L⟩ := K.kept.lay
  refine ⟨L.fits, ?_, L.most, L.gen⟩
  have := plainCells_len s.sure t.first t.n
  rw [L.is, List.length_append] at this
  have := L.fin
  omega
theorem SUp.add {s : DSt} {t : SegSt} {all rs : List (List Nat)} (K : SUp s t all) (hg : good rs = true) (hfit : t.fin + total rs ≤ t.n) (htop : t.top + rs.length ≤ 4294967295) (hr : ∀ r ∈ rs, ∀ c ∈ r, c < 256) :
    (SegSt.add s t rs).2.2 = 0 ∧ (SegSt.add s t rs).2.1 = { t with fin := t.fin + total rs, top := t.top + rs.length } ∧ SUp (SegSt.add s t rs).1 (SegSt.add s t rs).2.1 (all ++ rs) ∧ (SegSt.add s t rs).1.begun ≤ s.begun + t.n + 1 := by
  have hok := K.ok
  obtain ⟨h1, h2, h3, h4⟩ := add_up K.kept.down K.stop hg hfit htop hok.1 hok.2.2.2 hr
  obtain ⟨h5, _, _, _, _, h6, _⟩ := kept_add K.kept hr
  refine ⟨h1, h2, ⟨?_, h4⟩, h6⟩
  rcases h5 with ⟨h5, _⟩ | ⟨_, h5⟩ | ⟨h5, _⟩
  · rw [h1] at h5
    rcases h5 with h5 | h5 <;> cases h5
  · exact h5
  · rw [h1] at h5; cases h5
theorem fin_nil {s : DSt} {t : SegSt} (K : Kept s t []) : t.fin = 0 := by
  obtain ⟨pre, old, b, L⟩ := K.lay
  obtain ⟨p, e, hp, _⟩ := L.laid.suffix
  have h1 := List.append_cancel_right e
  rw [L.fin, h1, hp rfl]; rfl
theorem fin_all {s : DSt} {t : SegSt} {all : List (List Nat)} (K : Kept s t all) : t.fin = total all := by
  obtain ⟨pre, old, b, L⟩ := K.lay
  obtain ⟨p, e, _, hp⟩ := L.laid.suffix
  have h1 := List.append_cancel_right e
  rw [L.fin, h1, hp]; rfl
/-- A new disk's segment. -/
theorem new_dec {D i : Nat} (h : i < D) : Cl.dec ((DSt.new D).sure.getD i []) = Cl.zero := by
  have e : (DSt.new D).sure.getD i [] = List.replicate 64 0 := by
    show (List.replicate D (List.replicate 64 0)).getD i [] = _
    rw [List.getD_eq_getElem?_getD, List.getElem?_replicate, if_pos h]; rfl
  have : Cl.isEnc (List.replicate 64 0) = false := by
    unfold Cl.isEnc
    have : (Cl.raw (List.replicate 64 0)).may = false := by
      unfold Cl.may Cl.raw
      exact decide_eq_false (fun h => by have := h.1; simp at this)
    rw [this]; simp
  rw [e]
  unfold Cl.dec
  rw [this]; rfl
theorem new_plain {D first n : Nat} (h : first + n ≤ D) : plainCells (DSt.new D).sure first n = List.replicate n Cl.zero := by
  refine List.ext_getElem? fun i => ?_
  rcases Nat.lt_or_ge i n with hi | hi
  · rw [plainCells_get hi, new_dec (by omega), List.getElem?_replicate, if_pos hi]
  · rw [List.getElem?_eq_none (by rw [plainCells_len]; exact hi), List.getElem?_eq_none (by simp; exact hi)]
theorem tops_zero (n : Nat) : (List.replicate n Cl.zero).foldl Sc.topOf 0 = 0 := by
  induction n with
  | zero => rfl
  | succ n ih =>
    rw [List.replicate_succ, List.foldl_cons]
    exact ih
theorem new_up {D n first gen : Nat} (hn : first + n ≤ D) (hg : gen < 4294967296) (f tp : Nat) :
    scan (DSt.new D) ⟨first, n, gen, f, tp⟩ = (⟨first, n, gen, 0, 0⟩, [], 0) ∧ SUp (DSt.new D) ⟨first, n, gen, 0, 0⟩ [] := by
  have hl : (DSt.new D).sure.length = D := by show (List.replicate D _).length = D; simp
  have hc : cells (DSt.new D) first n = List.replicate n Cl.zero := by rw [cells_plain rfl rfl (by rw [hl]; exact hn), new_plain hn]
  obtain ⟨h1, h2, h3, h4, h5⟩ := scan_laid (s := DSt.new D) (t := ⟨first, n, gen, f, tp⟩) (rest := plainCells (DSt.new D).sure first n) (b := 0) rfl rfl (by rw [hl]; exact hn) (fun x hx c hc => by
      have hx : x ∈ List.replicate D (List.replicate 64 0) := hx
      rw [List.mem_replicate] at hx
      rw [hx.2, List.mem_replicate] at hc
      omega) hg (.nil _ _) (Sc.not_begins_gen fun x hx => .inr (by
      rw [new_plain hn, List.mem_replicate] at hx
      rw [hx.2]
      exact Int.le_refl _)) (fun _ h => by cases h)
  have hf := fin_nil h2
  have ht : (scan (DSt.new D) ⟨first, n, gen, f, tp⟩).1.top = 0 := by
    show (Sc.scan gen (cells (DSt.new D) first n)).top = 0
    unfold Sc.scan
    rw [Sc.run_top, hc]
    exact tops_zero n
  have e : (scan (DSt.new D) ⟨first, n, gen, f, tp⟩).1 = ⟨first, n, gen, 0, 0⟩ := by
    generalize (scan (DSt.new D) ⟨first, n, gen, f, tp⟩).1 = z at *
    obtain ⟨a, b, c, d, e⟩ := z
    dsimp only at h3 h4 h5 hf ht
    rw [h3, h4, h5, hf, ht]
  refine ⟨Prod.ext e h1, ?_, rfl⟩
  rw [e] at h2
  exact h2
theorem good_one {r : List Nat} (h1 : 1 ≤ r.length) (h2 : r.length ≤ 392) : good [r] = true := good_iff.2 fun x hx => by
  rw [List.mem_singleton] at hx
  subst hx
  rw [ne_eq, Cl.need_iff]; omega
end SegSt
end Go.Proofs.YtdlcngmcjidomaaDoor

/- What a root is, and which generation a disk tells: plain. No condition. -/
namespace Go.Proofs.YtdlcngmcjidomaaDoor
set_option linter.unusedSimpArgs false
set_option linter.unusedVariables false

def rootC (gen : Nat) : Cl := ⟨gen, 0, 0, 1, [114, 111, 111, 116]⟩
def rootS (gen : Nat) : List Nat := (rootC gen).enc
theorem rootC_may (gen : Nat) : (rootC gen).may = true := by rw [Cl.may_iff]; unfold rootC; simp
theorem rootC_ok {gen : Nat} (h : gen < 4294967296) : (rootC gen).Ok := ⟨h, (by decide : (0 : Nat) < 4294967296), fun c hc => by
  unfold rootC at hc
  simp only [List.mem_cons, List.not_mem_nil, or_false] at hc
  omega⟩
theorem rootS_len (gen : Nat) : (rootS gen).length = 64 := Cl.enc_len (by unfold rootC; simp)
theorem rootS_lt {gen : Nat} (h : gen < 4294967296) : ∀ c ∈ rootS gen, c < 256 := Cl.enc_lt (rootC_ok h) (rootC_may gen)
/-- Whether bytes are a root of a sector. -/
def isRootL (l : List Nat) (slot : Nat) : Bool := Cl.isEnc l && (decide (0 < (Cl.raw l).gen ∧ (Cl.raw l).gen % 2 = slot) && decide (Cl.raw l = rootC (Cl.raw l).gen))
def genOf (l : List Nat) (slot : Nat) : Nat := if isRootL l slot then (Cl.raw l).gen else 0
theorem genOf_lt {l : List Nat} (hl : ∀ x ∈ l, x < 256) (slot : Nat) : genOf l slot < 4294967296 := by
  unfold genOf
  split
  · exact (Cl.raw_ok hl).gen
  · decide
theorem genOf_root {gen : Nat} (h0 : 0 < gen) (h : gen < 4294967296) : genOf (rootS gen) (gen % 2) = gen := by
  have e := Cl.raw_enc (rootC_ok h) (rootC_may gen)
  unfold genOf isRootL
  have e1 : Cl.raw (rootS gen) = rootC gen := e
  have e2 : Cl.isEnc (rootS gen) = true := Cl.isEnc_enc (rootC_ok h) (rootC_may gen)
  rw [e1, e2, decide_eq_true (show 0 < (rootC gen).gen ∧ (rootC gen).gen % 2 = gen % 2 from ⟨h0, rfl⟩), decide_eq_true (show rootC gen = rootC (rootC gen).gen from rfl)]
  rfl
theorem genOf_other {gen slot : Nat} (h : gen < 4294967296) (hs : gen % 2 ≠ slot) : genOf (rootS gen) slot = 0 := by
  have e1 : Cl.raw (rootS gen) = rootC gen := Cl.raw_enc (rootC_ok h) (rootC_may gen)
  unfold genOf isRootL
  rw [e1, decide_eq_false (show ¬ (0 < (rootC gen).gen ∧ (rootC gen).gen % 2 = slot) from fun e => hs e.2), Bool.false_and, Bool.and_false]
  rfl
theorem genOf_nil (slot : Nat) : genOf [] slot = 0 := by
  unfold genOf isRootL Cl.isEnc
  rw [decide_eq_false (show ¬ ([] : List Nat).length = 64 by decide), Bool.false_and, Bool.false_and]
  rfl

namespace DSt
/-- What a sector tells. -/
def found (s : DSt) (i : Nat) : Nat := genOf (s.read i).1 i
def load (s : DSt) : Nat × Int := if s.down then (0, 4) else if s.sure.length < 2 then (0, 1) else (max (s.found 0) (s.found 1), 0)
def save (s : DSt) (gen : Nat) : DSt × Int :=
  if s.sure.length < 2 ∨ gen = 0 then (s, 1) else if (s.write (gen % 2 : Nat) (rootS gen)).2 = 0 then (s.write (gen % 2 : Nat) (rootS gen)).1.flush else s.write (gen % 2 : Nat) (rootS gen)
end DSt
end Go.Proofs.YtdlcngmcjidomaaDoor

/- What becomes of a disk whose roots are saved one by one: plain. No condition. -/
namespace Go.Proofs.YtdlcngmcjidomaaDoor
set_option linter.unusedSimpArgs false
set_option linter.unusedVariables false

namespace DSt
variable {s : DSt}
theorem cur_nil (h : s.pend = []) (i : Nat) : s.cur i = s.sure.getD i [] := by unfold cur; rw [h]; rfl
theorem read_plain (hd : s.down = false) (hp : s.pend = []) {i : Nat} (hi : i < s.sure.length) : (s.read (i : Int)).1 = s.sure.getD i [] := by
  have hh : s.has (i : Int) = true := decide_eq_true ⟨by omega, by omega⟩
  by_cases h : s.sure.getD i [] = []
  · rw [read_torn hd hh (by rw [Int.toNat_natCast, cur_nil hp]; exact h), h]
  · rw [read_ok hd hh (by rw [Int.toNat_natCast, cur_nil hp]; exact h), Int.toNat_natCast, cur_nil hp]
theorem found_plain (hd : s.down = false) (hp : s.pend = []) {i : Nat} (hi : i < s.sure.length) : s.found i = genOf (s.sure.getD i []) i := by
  unfold found; rw [read_plain hd hp hi]
theorem load_plain (hd : s.down = false) (hp : s.pend = []) (h2 : 2 ≤ s.sure.length) : s.load = (max (genOf (s.sure.getD 0 []) 0) (genOf (s.sure.getD 1 []) 1), 0) := by
  unfold load
  rw [hd, if_neg (by decide), if_neg (by omega), found_plain hd hp (by omega), found_plain hd hp (by omega)]
/-- A root is saved: there, or not, or pending, the power being gone. -/
theorem save_cases (hd : s.down = false) (hp : s.pend = []) (h2 : 2 ≤ s.sure.length) {gen : Nat} (h0 : gen ≠ 0) :
    (s.save gen = ({ s.beg.beg with sure := s.sure.set (gen % 2) (rootS gen), pend := [] }, 0) ∧ s.goes = false ∧ s.beg.goes = false) ∨ (s.save gen = (s.beg, 4) ∧ s.goes = true) ∨
      (s.save gen = ({ s.beg.beg with pend := [(gen % 2, rootS gen)] }, 4) ∧ s.goes = false ∧ s.beg.goes = true) := by
  have hh : (s.has (gen % 2 : Nat) && decide ((rootS gen).length = 64)) = true := by
    have h1 : s.has (gen % 2 : Nat) = true := decide_eq_true ⟨by omega, by omega⟩
    rw [h1, rootS_len]; rfl
  have hn : ¬ (s.sure.length < 2 ∨ gen = 0) := by omega
  unfold save
  rw [if_neg hn]
  cases hg : s.goes with
  | true =>
    refine .inr (.inl ⟨?_, rfl⟩)
    rw [write_goes hd hh hg, if_neg (show ¬ (4 : Int) = 0 by decide)]
  | false =>
    rw [write_ok hd hh hg, if_pos rfl]
    dsimp only
    have hd2 : s.beg.down = false := hg
    cases hg2 : s.beg.goes with
    | true =>
      refine .inr (.inr ⟨?_, rfl, rfl⟩)
      rw [flush_goes (by exact hd2) (by exact hg2), hp]
      rfl
    | false =>
      refine .inl ⟨?_, rfl, rfl⟩
      rw [flush_ok (by exact hd2) (by exact hg2), hp]
      rfl
/-- Between two savings, the power being there. -/
structure Flip (s : DSt) (gen : Nat) : Prop where
  up : s.Up
  len : s.sure.length = 2
  pend : s.pend = []
  beg : s.begun ≤ 2
  is : s.sure.getD (gen % 2) [] = rootS gen
  other : genOf (s.sure.getD ((gen + 1) % 2) []) ((gen + 1) % 2) ≤ gen
theorem Flip.load {gen : Nat} (h : Flip s gen) (h0 : 0 < gen) (h1 : gen < 4294967296) : s.load = (gen, 0) := by
  rw [load_plain h.up.down h.pend (by rw [h.len]; exact Nat.le_refl _)]
  have e1 := genOf_root h0 h1
  rw [← h.is] at e1
  have e2 := h.other
  congr 1
  have hm : gen % 2 = 0 ∨ gen % 2 = 1 := by omega
  rcases hm with hm | hm
  · have hk : (gen + 1) % 2 = 1 := by omega
    rw [hm] at e1; rw [hk] at e2
    rw [e1]; omega
  · have hk : (gen + 1) % 2 = 0 := by omega
    rw [hm] at e1; rw [hk] at e2
    rw [e1]; omega
theorem new_zero (i : Nat) : genOf ((DSt.new 2).sure.getD i []) i = 0 := by
  have hz : (DSt.new 2).sure.getD i [] = List.replicate 64 0 ∨ (DSt.new 2).sure.getD i [] = [] := by
    match i with
    | 0 => exact .inl rfl
    | 1 => exact .inl rfl
    | (k + 2) => exact .inr rfl
  rcases hz with e | e
  · rw [e]
    have : Cl.isEnc (List.replicate 64 0) = false := by
      unfold Cl.isEnc
      have : (Cl.raw (List.replicate 64 0)).may = false := by
        unfold Cl.may Cl.raw
        exact decide_eq_false (fun h => by have := h.1; simp at this)
      rw [this]; simp
    unfold genOf isRootL
    rw [this]; rfl
  · rw [e]; exact genOf_nil i
theorem set_len (s : DSt) (i : Nat) (l : List Nat) : (s.sure.set i l).length = s.sure.length := List.length_set ..
theorem layBy_one (su : List (List Nat)) (x : Nat × List Nat) (cs : List Nat) : layBy su [x] cs = su ∨ layBy su [x] cs = su.set x.1 x.2 ∨ layBy su [x] cs = su.set x.1 [] := by
  show lay1 su x cs = su ∨ lay1 su x cs = _ ∨ lay1 su x cs = _
  unfold lay1
  split
  · exact .inl rfl
  · split
    · exact .inr (.inl rfl)
    · split
      · exact .inr (.inr rfl)
      · exact .inl rfl
/-- The first root. -/
theorem Flip.first {gen : Nat} (h0 : gen ≠ 0) : ((DSt.new 2).save gen).2 = 0 ∧ Flip ((DSt.new 2).save gen).1 gen := by
  rcases save_cases (s := DSt.new 2) rfl rfl (by decide) h0 with ⟨e, _, _⟩ | ⟨_, hg⟩ | ⟨_, _, hg⟩
  · rw [e]
    refine ⟨rfl, ⟨rfl, rfl⟩, by show ((DSt.new 2).sure.set _ _).length = 2; rw [set_len]; rfl, rfl, (by decide : 0 + 1 + 1 ≤ 2), ?_, ?_⟩
    · show ((DSt.new 2).sure.set (gen % 2) (rootS gen)).getD (gen % 2) [] = _
      rw [getD_set (by show gen % 2 < 2; omega), if_pos rfl]
    · show genOf (((DSt.new 2).sure.set (gen % 2) (rootS gen)).getD ((gen + 1) % 2) []) _ ≤ gen
      rw [getD_set (by show gen % 2 < 2; omega), if_neg (by omega), new_zero]
      exact Nat.zero_le _
  · cases hg
  · cases hg
/-- One more, behind a plan and a loss. -/
theorem Flip.next {gen : Nat} (h : Flip s gen) (h0 : 0 < gen) (h1 : gen + 1 < 4294967296) (k : Int) (cs : List Nat) :
    (((s.plan k).save (gen + 1)).2 = 0 → Flip (((s.plan k).save (gen + 1)).1.up cs) (gen + 1)) ∧ (Flip (((s.plan k).save (gen + 1)).1.up cs) gen ∨ Flip (((s.plan k).save (gen + 1)).1.up cs) (gen + 1)) := by
  have hpd : (s.plan k).pend = [] := h.pend
  have hsu : (s.plan k).sure = s.sure := rfl
  have hdn : (s.plan k).down = false := h.up.down
  have hlen := h.len
  have hnew : ∀ t : DSt, t.sure = s.sure.set ((gen + 1) % 2) (rootS (gen + 1)) → t.down = false → t.stop = 0 → t.pend = [] → t.begun ≤ 2 → Flip t (gen + 1) := fun t e e1 e2 e3 e4 =>
    ⟨⟨e1, e2⟩, by rw [e, set_len]; exact hlen, e3, e4, by rw [e, getD_set (by omega), if_pos rfl], by
      rw [e, getD_set (by omega), if_neg (by omega)]
      have e5 : (gen + 1 + 1) % 2 = gen % 2 := by omega
      rw [e5, h.is, genOf_root h0 (by omega)]
      omega⟩
  have hold : ∀ t : DSt, t.sure = s.sure → t.down = false → t.stop = 0 → t.pend = [] → t.begun ≤ 2 → Flip t gen := fun t e e1 e2 e3 e4 =>
    ⟨⟨e1, e2⟩, by rw [e]; exact hlen, e3, e4, by rw [e]; exact h.is, by rw [e]; exact h.other⟩
  have htorn : ∀ t : DSt, t.sure = s.sure.set ((gen + 1) % 2) [] → t.down = false → t.stop = 0 → t.pend = [] → t.begun ≤ 2 → Flip t gen := fun t e e1 e2 e3 e4 =>
    ⟨⟨e1, e2⟩, by rw [e, set_len]; exact hlen, e3, e4, by rw [e, getD_set (by omega), if_neg (by omega)]; exact h.is, by
      rw [e, getD_set (by omega), if_pos rfl, genOf_nil]; exact Nat.zero_le _⟩
  rcases save_cases (s := s.plan k) hdn hpd (by rw [hsu, hlen]; exact Nat.le_refl _) (gen := gen + 1) (by omega) with ⟨e, _, _⟩ | ⟨e, hg⟩ | ⟨e, _, hg⟩
  · rw [e]
    have hf : Flip ((DSt.mk ((s.plan k).sure.set ((gen + 1) % 2) (rootS (gen + 1))) [] (s.plan k).beg.beg.down (s.plan k).beg.beg.stop (s.plan k).beg.beg.begun).up cs) (gen + 1) := hnew _ rfl rfl rfl rfl (by show 0 ≤ 2; decide)
    exact ⟨fun _ => hf, .inr hf⟩
  · rw [e]
    refine ⟨fun h4 => (by cases h4), .inl (hold _ ?_ rfl rfl rfl (by show 0 ≤ 2; decide))⟩
    show layBy (s.plan k).beg.sure (s.plan k).beg.pend cs = s.sure
    rw [show (s.plan k).beg.pend = [] from hpd]
    rfl
  · rw [e]
    refine ⟨fun h4 => (by cases h4), ?_⟩
    rcases layBy_one s.sure ((gen + 1) % 2, rootS (gen + 1)) cs with e2 | e2 | e2
    · exact .inl (hold _ e2 rfl rfl rfl (by show 0 ≤ 2; decide))
    · exact .inr (hnew _ e2 rfl rfl rfl (by show 0 ≤ 2; decide))
    · exact .inl (htorn _ e2 rfl rfl rfl (by show 0 ≤ 2; decide))
end DSt
end Go.Proofs.YtdlcngmcjidomaaDoor

/- The ledger, plain: its halves, its roots, what adding, compacting and opening come to while the power is there. No program here. -/
namespace Go.Proofs.YtdlcngmcjidomaaDoor
set_option linter.unusedVariables false
set_option linter.unusedSimpArgs false
namespace SegSt
theorem plain_congr {su su' : List (List Nat)} {first n : Nat} (h : ∀ i, i < n → su'.getD (first + i) [] = su.getD (first + i) []) : plainCells su' first n = plainCells su first n := by
  unfold plainCells
  refine List.map_congr_left fun i hi => ?_
  rw [h i (List.mem_range.1 hi)]
theorem Kept.congr {s s' : DSt} {t : SegSt} {all : List (List Nat)} (K : Kept s t all) (hd : s'.down = false) (hp : s'.pend = []) (hl : s.sure.length ≤ s'.sure.length) (hc : plainCells s'.sure t.first t.n = plainCells s.sure t.first t.n) : Kept s' t all := by
  obtain ⟨pre, old, b, L⟩ := K.lay
  exact ⟨hd, hp, pre, old, b, ⟨Nat.le_trans L.fits hl, hc.trans L.is, L.laid, L.stop, L.fin, L.last, L.top, L.most, L.gen, L.all⟩⟩
theorem cellAt_gen {gen seq k : Nat} {r : List Nat} : (Cl.cellAt gen seq r k).gen = gen := rfl
theorem cellsOf_gen {gen : Nat} : ∀ {rs : List (List Nat)} {top : Nat} {x : Cl}, x ∈ Sc.cellsOf gen top rs → x.gen = gen
  | [], _, _, h => by cases h
  | r :: rs, top, x, h => by
    rw [Sc.cellsOf] at h
    rcases List.mem_append.1 h with h | h
    · unfold Cl.split at h
      obtain ⟨i, hi, rfl⟩ := List.mem_map.1 h
      rfl
    · exact cellsOf_gen h
theorem add_nil {s : DSt} {t : SegSt} {all : List (List Nat)} (K : SUp s t all) : add s t [] = (s, t, 0) := by
  have hok := K.ok
  unfold add
  rw [if_neg (by decide), if_neg (by show ¬ (t.n < t.fin + 0 ∨ 4294967295 < t.top + 0); omega), if_neg (by rw [K.kept.down]; decide), if_pos rfl]
theorem add_sure {s : DSt} {t : SegSt} {all rs : List (List Nat)} (K : SUp s t all) (hne : rs ≠ []) (hg : good rs = true) (hfit : t.fin + total rs ≤ t.n) (htop : t.top + rs.length ≤ 4294967295) (hr : ∀ r ∈ rs, ∀ c ∈ r, c < 256) :
    (add s t rs).1.sure = DSt.lay s.sure (placed (t.first + t.fin) ((Sc.cellsOf t.gen t.top rs).map Cl.enc)) := by
  have hok := K.ok
  have hl := total_cells t.gen t.top rs
  have hce := cells_enc hok.2.2.2 (by omega) hr (top := t.top)
  obtain ⟨w1, w2, w3⟩ := writes_up ((Sc.cellsOf t.gen t.top rs).map Cl.enc) (t.first + t.fin) s K.kept.down K.stop (by rw [List.length_map, hl]; omega) hce
  obtain ⟨v1, _, _, j, _, v5, v6⟩ := writes_cases ((Sc.cellsOf t.gen t.top rs).map Cl.enc) (t.first + t.fin) s K.kept.down (by rw [List.length_map, hl]; omega) hce
  have hj : j = ((Sc.cellsOf t.gen t.top rs).map Cl.enc).length := by
    rcases v6 with v6 | v6
    · exact v6.2.1
    · rw [w1] at v6; exact absurd v6.1 (by decide)
  rw [hj, List.take_length, K.kept.pend, List.nil_append] at v5
  have hf := DSt.flush_ok w2 (goes_no w2 w3)
  unfold add
  rw [if_neg (by rw [hg]; decide), if_neg (by omega), if_neg (by rw [K.kept.down]; decide), if_neg hne, if_neg (by rw [w1]; exact fun h => h rfl), hf, if_neg (fun h => h rfl)]
  show DSt.lay (writes s _ _).1.sure (writes s _ _).1.pend = _
  rw [v1, v5]
theorem add_far {s : DSt} {t : SegSt} {all rs : List (List Nat)} (K : SUp s t all) (hg : good rs = true) (hfit : t.fin + total rs ≤ t.n) (htop : t.top + rs.length ≤ 4294967295) (hr : ∀ r ∈ rs, ∀ c ∈ r, c < 256) {j : Nat} (hj : j < t.first ∨ t.first + t.n ≤ j) :
    (add s t rs).1.sure.getD j [] = s.sure.getD j [] := by
  by_cases hne : rs = []
  · subst hne; rw [add_nil K]
  · have hok := K.ok
    have hl := total_cells t.gen t.top rs
    rw [add_sure K hne hg hfit htop hr, lay_placed _ _ _ _ (by rw [List.length_map, hl]; omega), List.length_map, hl, if_neg (by omega)]
theorem add_cells {s : DSt} {t : SegSt} {all rs : List (List Nat)} (K : SUp s t all) (hg : good rs = true) (hfit : t.fin + total rs ≤ t.n) (htop : t.top + rs.length ≤ 4294967295) (hr : ∀ r ∈ rs, ∀ c ∈ r, c < 256) :
    ∀ x ∈ plainCells (add s t rs).1.sure t.first t.n, x ∈ plainCells s.sure t.first t.n ∨ (x.gen = t.gen ∧ x.seq ≤ t.top + rs.length) := by
  by_cases hne : rs = []
  · subst hne; rw [add_nil K]; exact fun x hx => .inl hx
  · obtain ⟨pre, old, b, L⟩ := K.kept.lay
    have hc := cells_lay L.fits L.is (by rw [← L.fin]; exact hfit) L.gen (by omega) hr (top := t.top)
    rw [← L.fin] at hc
    rw [add_sure K hne hg hfit htop hr, hc, L.is]
    intro x hx
    rcases List.mem_append.1 hx with hx | hx
    · rcases List.mem_append.1 hx with hx | hx
      · exact .inl (List.mem_append_left _ hx)
      · exact .inr ⟨cellsOf_gen hx, (Sc.cellsOf_seq hx).2⟩
    · exact .inl (List.mem_append_right _ (List.mem_of_mem_drop hx))
theorem scan_top_le {s : DSt} {t : SegSt} {B : Nat} (hd : s.down = false) (hp : s.pend = []) (hf : t.first + t.n ≤ s.sure.length) (h : ∀ x ∈ plainCells s.sure t.first t.n, x.seq ≤ B) : (scan s t).1.top ≤ B := by
  unfold scan
  rw [if_neg (by rw [hd]; decide)]
  show (Sc.scan t.gen (cells s t.first t.n)).top ≤ B
  unfold Sc.scan
  rw [Sc.run_top, cells_plain hd hp hf]
  have := Sc.tops_lt (l := plainCells s.sure t.first t.n) (B := B + 1) (fun x hx => by have := h x hx; omega) 0 (by omega)
  show (plainCells s.sure t.first t.n).foldl Sc.topOf 0 ≤ B
  omega
theorem scan_tops {s : DSt} {t : SegSt} (hd : s.down = false) (hp : s.pend = []) (hf : t.first + t.n ≤ s.sure.length) : (scan s t).1.top = (plainCells s.sure t.first t.n).foldl Sc.topOf 0 := by
  unfold scan
  rw [if_neg (by rw [hd]; decide)]
  show (Sc.scan t.gen (cells s t.first t.n)).top = _
  unfold Sc.scan
  rw [Sc.run_top, cells_plain hd hp hf]
  rfl
end SegSt
namespace DSt
/-- A write and a flush, the power being there. -/
theorem put_up {s : DSt} (hd : s.down = false) (hs : s.stop = 0) (hp : s.pend = []) {i : Nat} (hi : i < s.sure.length) {b : List Nat} (hb : b.length = 64) :
    (s.write (i : Int) b).2 = 0 ∧ (s.write (i : Int) b).1.flush.2 = 0 ∧ (s.write (i : Int) b).1.begun = s.begun + 1 ∧ (s.write (i : Int) b).1.pend.length = 1 ∧ (s.write (i : Int) b).1.flush.1.sure = s.sure.set i b ∧ (s.write (i : Int) b).1.flush.1.pend = [] ∧ (s.write (i : Int) b).1.flush.1.down = false ∧ (s.write (i : Int) b).1.flush.1.stop = 0 ∧ (s.write (i : Int) b).1.flush.1.begun = s.begun + 2 := by
  have hh : (s.has (i : Int) && decide (b.length = 64)) = true := by
    have h1 : s.has (i : Int) = true := decide_eq_true ⟨by omega, by omega⟩
    rw [h1, hb]; rfl
  have hg := SegSt.goes_no hd hs
  rw [write_ok hd hh hg]
  have hd2 : s.beg.down = false := hg
  have hg2 : s.beg.goes = false := SegSt.goes_no hd2 hs
  refine ⟨rfl, ?_⟩
  dsimp only
  rw [flush_ok (s := { s.beg with pend := s.pend ++ [((i : Int).toNat, b)] }) hd2 hg2, hp, Int.toNat_natCast]
  exact ⟨rfl, rfl, rfl, rfl, rfl, hg2, hs, rfl⟩
/-- A root is saved, the power being there. -/
theorem save_up {s : DSt} (hd : s.down = false) (hs : s.stop = 0) (hp : s.pend = []) (h2 : 2 ≤ s.sure.length) {gen : Nat} (h0 : gen ≠ 0) :
    (s.save gen).2 = 0 ∧ (s.save gen).1.sure = s.sure.set (gen % 2) (rootS gen) ∧ (s.save gen).1.pend = [] ∧ (s.save gen).1.down = false ∧ (s.save gen).1.stop = 0 ∧ (s.save gen).1.begun = s.begun + 2 := by
  obtain ⟨h1, h3, h4, h5, h6, h7, h8, h9, h10⟩ := put_up hd hs hp (i := gen % 2) (by omega) (rootS_len gen)
  unfold save
  rw [if_neg (by omega), if_pos h1]
  exact ⟨h3, h6, h7, h8, h9, h10⟩
end DSt
namespace Led
open SegSt
/-- Cells of a half: of which generation, and which numbers. -/
structure Old (su : List (List Nat)) (first n G B : Nat) : Prop where
  at_ : ∀ x ∈ plainCells su first n, (x.gen ≤ G ∨ x.parts ≤ 0) ∧ x.seq ≤ B
theorem Old.mono {su : List (List Nat)} {first n G B G' B' : Nat} (h : Old su first n G B) (hG : G ≤ G') (hB : B ≤ B') : Old su first n G' B' :=
  ⟨fun x hx => ⟨(h.at_ x hx).1.elim (fun h => .inl (by omega)) .inr, by have := (h.at_ x hx).2; omega⟩⟩
theorem Old.same {su su' : List (List Nat)} {first n G B : Nat} (h : Old su first n G B) (he : ∀ i, i < n → su'.getD (first + i) [] = su.getD (first + i) []) : Old su' first n G B := ⟨by rw [plain_congr he]; exact h.at_⟩
theorem mod_two (k : Nat) : k % 2 = 0 ∨ k % 2 = 1 := by omega
theorem half_apart (half gen : Nat) : 2 + gen % 2 * half + half ≤ 2 + (gen + 1) % 2 * half ∨ 2 + (gen + 1) % 2 * half + half ≤ 2 + gen % 2 * half := by
  rcases mod_two gen with h | h
  · rw [h, show (gen + 1) % 2 = 1 by omega]; omega
  · rw [h, show (gen + 1) % 2 = 0 by omega]; omega
theorem half_in (half gen : Nat) : 2 + gen % 2 * half + half ≤ 2 + 2 * half := by
  rcases mod_two gen with h | h <;> (rw [h]; omega)
/-- What the root sectors tell. -/
def rootOf (su : List (List Nat)) : Nat := max (genOf (su.getD 0 []) 0) (genOf (su.getD 1 []) 1)
/-- A ledger, the power being there: its segment holds its records, its root is saved. -/
structure LUp (s : DSt) (half gen : Nat) (t : SegSt) (all : List (List Nat)) (B : Nat) : Prop where
  up : SUp s t all
  first : t.first = 2 + gen % 2 * half
  n : t.n = half
  gn : t.gen = gen
  half1 : 1 ≤ half
  len : 2 + 2 * half ≤ s.sure.length ∧ s.sure.length ≤ 3 + 2 * half
  root : rootOf s.sure = gen
  cur : Old s.sure (2 + gen % 2 * half) half gen B
  oth : Old s.sure (2 + (gen + 1) % 2 * half) half gen B
  top : t.top ≤ B
/-- The next half, before its root is saved. -/
structure Nx (s : DSt) (half gen : Nat) (t : SegSt) (rs : List (List Nat)) (B : Nat) : Prop where
  up : SUp s t rs
  first : t.first = 2 + (gen + 1) % 2 * half
  n : t.n = half
  gn : t.gen = gen + 1
  half1 : 1 ≤ half
  len : 2 + 2 * half ≤ s.sure.length ∧ s.sure.length ≤ 3 + 2 * half
  root : rootOf s.sure = gen
  cur : Old s.sure (2 + (gen + 1) % 2 * half) half (gen + 1) B
  oth : Old s.sure (2 + gen % 2 * half) half (gen + 1) B
  top : t.top ≤ B
variable {s : DSt} {half gen : Nat} {t : SegSt} {all rs : List (List Nat)} {B : Nat}
theorem LUp.load (h : LUp s half gen t all B) : s.load = (gen, 0) := by
  rw [DSt.load_plain h.up.kept.down h.up.kept.pend (by have := h.len; omega)]
  have := h.root
  unfold rootOf at this
  rw [this]
theorem LUp.ok (h : LUp s half gen t all B) : t.fin = total all ∧ t.fin ≤ half ∧ 1 ≤ t.n ∧ gen < 4294967296 := by
  have h1 := fin_all h.up.kept
  have h2 := h.up.ok
  have := h.n; have := h.half1; have := h.gn
  exact ⟨h1, by omega, by omega, by omega⟩
theorem new_getD {D i : Nat} (h : i < D) : (DSt.new D).sure.getD i [] = List.replicate 64 0 := by
  show (List.replicate D (List.replicate 64 0)).getD i [] = _
  rw [List.getD_eq_getElem?_getD, List.getElem?_replicate, if_pos h]; rfl
theorem genOf_zero (k : Nat) : genOf (List.replicate 64 0) k = 0 := by
  have : Cl.isEnc (List.replicate 64 0) = false := by
    unfold Cl.isEnc
    have : (Cl.raw (List.replicate 64 0)).may = false := by
      unfold Cl.may Cl.raw
      exact decide_eq_false (fun h => by have := h.1; simp at this)
    rw [this]; simp
  unfold genOf isRootL
  rw [this]; rfl
theorem LUp.new {D : Nat} (h1 : 1 ≤ half) (hD : 2 + 2 * half ≤ D ∧ D ≤ 3 + 2 * half) : LUp (DSt.new D) half 0 ⟨2, half, 0, 0, 0⟩ [] 0 := by
  have hl : (DSt.new D).sure.length = D := by show (List.replicate D _).length = D; simp
  have hz : ∀ first, first + half ≤ D → Old (DSt.new D).sure first half 0 0 := fun first hf => ⟨fun x hx => by
    rw [new_plain hf, List.mem_replicate] at hx
    rw [hx.2]
    exact ⟨.inr (Int.le_refl _), Nat.le_refl _⟩⟩
  refine ⟨(new_up (D := D) (n := half) (first := 2) (gen := 0) (by omega) (by omega) 0 0).2, by show 2 = 2 + 0 % 2 * half; omega, rfl, rfl, h1, by rw [hl]; exact hD, ?_, hz _ (by omega), hz _ (by show 2 + 1 * half + half ≤ D; omega), Nat.le_refl _⟩
  unfold rootOf
  rw [new_getD (by omega), new_getD (by omega), genOf_zero, genOf_zero]
  rfl
/-- Records more. -/
theorem LUp.add (h : LUp s half gen t all B) (hg : good rs = true) (hfit : total all + total rs ≤ half) (hB : B + rs.length ≤ 4294967295) (hr : ∀ r ∈ rs, ∀ c ∈ r, c < 256) :
    (SegSt.add s t rs).2.2 = 0 ∧ LUp (SegSt.add s t rs).1 half gen (SegSt.add s t rs).2.1 (all ++ rs) (B + rs.length) ∧ (SegSt.add s t rs).1.begun ≤ s.begun + half + 1 := by
  have hok := h.ok
  have htp := h.top
  have hn := h.n
  have hf : t.fin + total rs ≤ t.n := by omega
  have ht : t.top + rs.length ≤ 4294967295 := by omega
  obtain ⟨a1, a2, a3, a4⟩ := h.up.add hg hf ht hr
  have hfar : ∀ {j : Nat}, (j < t.first ∨ t.first + t.n ≤ j) → (SegSt.add s t rs).1.sure.getD j [] = s.sure.getD j [] := fun hj => add_far h.up hg hf ht hr hj
  have hlen : (SegSt.add s t rs).1.sure.length = s.sure.length := (kept_add h.up.kept hr).2.2.2.2.1
  have hfi := h.first
  have hap := half_apart half gen
  refine ⟨a1, ⟨a3, ?_, ?_, ?_, h.half1, by rw [hlen]; exact h.len, ?_, ⟨fun x hx => ?_⟩, ?_, ?_⟩, by omega⟩
  · rw [a2]; exact h.first
  · rw [a2]; exact h.n
  · rw [a2]; exact h.gn
  · unfold rootOf
    rw [hfar (by omega), hfar (by omega)]
    exact h.root
  · rw [← hfi, ← hn] at hx
    rcases add_cells h.up hg hf ht hr x hx with hx | ⟨e1, e2⟩
    · rw [hfi, hn] at hx
      have := h.cur.at_ x hx
      exact ⟨this.1, by omega⟩
    · exact ⟨.inl (by rw [e1, h.gn]; omega), by omega⟩
  · exact (h.oth.mono (Nat.le_refl _) (by omega)).same fun i hi => hfar (by omega)
  · rw [a2]; show t.top + rs.length ≤ _; omega
/-- Opened anew. -/
theorem LUp.again (h : LUp s half gen t all B) (hB : ∀ x ∈ s.sure, ∀ c ∈ x, c < 256) (f tp : Nat) :
    (scan s ⟨2 + gen % 2 * half, half, gen, f, tp⟩).2 = (all, 0) ∧ LUp s half gen (scan s ⟨2 + gen % 2 * half, half, gen, f, tp⟩).1 all B := by
  have e : (scan s ⟨2 + gen % 2 * half, half, gen, f, tp⟩) = scan s t := by
    obtain ⟨a, b, c, d, e⟩ := t
    have h1 : a = _ := h.first
    have h2 : b = _ := h.n
    have h3 : c = _ := h.gn
    subst h1 h2 h3
    unfold scan
    rw [if_neg (by rw [h.up.kept.down]; decide), if_neg (by rw [h.up.kept.down]; decide)]
  obtain ⟨h1, h2, h3, h4, h5⟩ := kept_scan h.up.kept hB
  rw [e]
  have hok := h.up.ok
  exact ⟨h1, ⟨⟨h2, h.up.stop⟩, h3.trans h.first, h4.trans h.n, h5.trans h.gn, h.half1, h.len, h.root, h.cur, h.oth, scan_top_le h.up.kept.down h.up.kept.pend hok.1 (fun x hx => by rw [h.first, h.n] at hx; exact (h.cur.at_ x hx).2)⟩⟩
theorem LUp.loss (h : LUp s half gen t all B) (cs : List Nat) : LUp (s.up cs) half gen t all B := by
  have e : (s.up cs).sure = s.sure := by unfold DSt.up; rw [h.up.kept.pend]; rfl
  exact ⟨⟨h.up.kept.up cs, rfl⟩, h.first, h.n, h.gn, h.half1, by rw [e]; exact h.len, by rw [e]; exact h.root, by rw [e]; exact h.cur, by rw [e]; exact h.oth, h.top⟩
/-- The next half, begun. -/
theorem LUp.begin (h : LUp s half gen t all B) (hg1 : gen + 1 < 4294967296) (hBm : B ≤ 4294967295) (f tp : Nat) :
    (scan s ⟨2 + (gen + 1) % 2 * half, half, gen + 1, f, tp⟩).2.2 = 0 ∧ Nx s half gen { (scan s ⟨2 + (gen + 1) % 2 * half, half, gen + 1, f, tp⟩).1 with fin := 0 } [] B := by
  have hin := half_in half (gen + 1)
  have hl := h.len
  have hd := h.up.kept.down
  have hp := h.up.kept.pend
  have e1 : (scan s ⟨2 + (gen + 1) % 2 * half, half, gen + 1, f, tp⟩).2.2 = 0 := by unfold scan; rw [if_neg (by rw [hd]; decide)]
  have etop := scan_tops (t := ⟨2 + (gen + 1) % 2 * half, half, gen + 1, f, tp⟩) hd hp (by show 2 + (gen + 1) % 2 * half + half ≤ _; omega)
  have htop := scan_top_le (B := B) (t := ⟨2 + (gen + 1) % 2 * half, half, gen + 1, f, tp⟩) hd hp (by show 2 + (gen + 1) % 2 * half + half ≤ _; omega) (fun x hx => (h.oth.at_ x hx).2)
  have e2 : (scan s ⟨2 + (gen + 1) % 2 * half, half, gen + 1, f, tp⟩).1.first = 2 + (gen + 1) % 2 * half ∧ (scan s ⟨2 + (gen + 1) % 2 * half, half, gen + 1, f, tp⟩).1.n = half ∧ (scan s ⟨2 + (gen + 1) % 2 * half, half, gen + 1, f, tp⟩).1.gen = gen + 1 := by
    unfold scan; rw [if_neg (by rw [hd]; decide)]; exact ⟨rfl, rfl, rfl⟩
  generalize (scan s ⟨2 + (gen + 1) % 2 * half, half, gen + 1, f, tp⟩).1 = z at *
  obtain ⟨a, b, c, d, q⟩ := z
  dsimp only at e2 etop htop
  obtain ⟨rfl, rfl, rfl⟩ := e2
  refine ⟨e1, ⟨⟨⟨hd, hp, [], plainCells s.sure (2 + (gen + 1) % 2 * b) b, 0, ⟨by show 2 + (gen + 1) % 2 * b + b ≤ _; omega, rfl, .nil _ _, Sc.not_begins_gen fun x hx => ?_, rfl, Nat.zero_le _, fun x hx => ?_, by show q ≤ _; omega, hg1, fun _ h => by cases h⟩⟩, h.up.stop⟩, rfl, rfl, rfl, h.half1, h.len, h.root, h.oth.mono (by omega) (Nat.le_refl _), h.cur.mono (by omega) (Nat.le_refl _), htop⟩⟩
  · rcases (h.oth.at_ x hx).1 with h1 | h1
    · exact .inl (by show x.gen ≠ gen + 1; omega)
    · exact .inr h1
  · show x.seq ≤ q
    rw [etop]
    exact seq_top x hx
theorem getD_set_ {l : List (List Nat)} {i j : Nat} {b : List Nat} (hi : i < l.length) : (l.set i b).getD j [] = if j = i then b else l.getD j [] := by
  rw [List.getD_eq_getElem?_getD, List.getElem?_set]
  by_cases h : i = j
  · subst h; rw [if_pos rfl, if_pos hi, if_pos rfl]; rfl
  · rw [if_neg h, if_neg (fun e => h e.symm), ← List.getD_eq_getElem?_getD]
theorem zero64 : Cl.dec (List.replicate 64 0) = Cl.zero := by
  have h := new_dec (D := 1) (i := 0) (by decide)
  exact h
/-- An empty list: the first sector is cleared. -/
theorem Nx.clear (h : Nx s half gen t [] B) :
    (s.write ((2 + (gen + 1) % 2 * half : Nat) : Int) (List.replicate 64 0)).2 = 0 ∧ (s.write ((2 + (gen + 1) % 2 * half : Nat) : Int) (List.replicate 64 0)).1.flush.2 = 0 ∧ (s.write ((2 + (gen + 1) % 2 * half : Nat) : Int) (List.replicate 64 0)).1.begun = s.begun + 1 ∧
      Nx (s.write ((2 + (gen + 1) % 2 * half : Nat) : Int) (List.replicate 64 0)).1.flush.1 half gen t [] B ∧ (s.write ((2 + (gen + 1) % 2 * half : Nat) : Int) (List.replicate 64 0)).1.flush.1.begun = s.begun + 2 := by
  have hin := half_in half (gen + 1)
  have hl := h.len
  have h1 := h.half1
  obtain ⟨p1, p2, p3, _, p5, p6, p7, p8, p9⟩ := DSt.put_up h.up.kept.down h.up.stop h.up.kept.pend (i := 2 + (gen + 1) % 2 * half) (by omega) (b := List.replicate 64 0) (by simp)
  refine ⟨p1, p2, p3, ?_, p9⟩
  have hap := half_apart half gen
  have hset : ∀ j, (s.write ((2 + (gen + 1) % 2 * half : Nat) : Int) (List.replicate 64 0)).1.flush.1.sure.getD j [] = if j = 2 + (gen + 1) % 2 * half then List.replicate 64 0 else s.sure.getD j [] := fun j => by rw [p5]; exact getD_set_ (by omega)
  have hmem : ∀ x ∈ plainCells (s.write ((2 + (gen + 1) % 2 * half : Nat) : Int) (List.replicate 64 0)).1.flush.1.sure (2 + (gen + 1) % 2 * half) half, x = Cl.zero ∨ x ∈ plainCells s.sure (2 + (gen + 1) % 2 * half) half := fun x hx => by
    unfold plainCells at hx ⊢
    obtain ⟨i, hi, rfl⟩ := List.mem_map.1 hx
    rw [hset]
    split
    · exact .inl zero64
    · exact .inr (List.mem_map.2 ⟨i, hi, rfl⟩)
  obtain ⟨pre, old, b, L⟩ := h.up.kept.lay
  have hfi := h.first
  have hn := h.n
  have hgen := h.gn
  have hlay := L.is
  have hpre : pre = [] := by
    have h3 := fin_nil h.up.kept
    rw [L.fin] at h3
    exact List.eq_nil_of_length_eq_zero h3
  subst hpre
  rw [List.nil_append] at hlay
  rw [hfi, hn] at hlay
  refine ⟨⟨⟨p7, p6, [], plainCells (s.write ((2 + (gen + 1) % 2 * half : Nat) : Int) (List.replicate 64 0)).1.flush.1.sure (2 + (gen + 1) % 2 * half) half, 0, ⟨?_, ?_, .nil _ _, ?_, L.fin, Nat.zero_le _, fun x hx => ?_, L.most, L.gen, fun _ h => by cases h⟩⟩, p8⟩, hfi, hn, hgen, h.half1, ?_, ?_, ⟨fun x hx => ?_⟩, ?_, h.top⟩
  · rw [p5, List.length_set]; exact L.fits
  · rw [hfi, hn]; rfl
  · intro hb
    obtain ⟨seq, p, q1, q2, q3, q4⟩ := hb.head
    obtain ⟨x, hx, hxp, _, _⟩ := q4 0 q2
    rw [plainCells_get h1, hset, if_pos (by omega), zero64] at hx
    cases hx
    have hxp : (0 : Int) = (p : Nat) := hxp
    omega
  · rcases hmem x hx with rfl | hx
    · exact Nat.zero_le _
    · exact L.top x (by rw [List.nil_append, ← hlay]; exact hx)
  · rw [p5, List.length_set]; exact hl
  · unfold rootOf
    rw [hset, hset, if_neg (by omega), if_neg (by omega)]
    exact h.root
  · rcases hmem x hx with rfl | hx
    · exact ⟨.inr (Int.le_refl _), Nat.zero_le _⟩
    · exact h.cur.at_ x hx
  · exact h.oth.same fun i hi => by rw [hset, if_neg (by omega)]
theorem Nx.add (h : Nx s half gen t [] B) (hg : good rs = true) (hfit : total rs ≤ half) (hB : B + rs.length ≤ 4294967295) (hr : ∀ r ∈ rs, ∀ c ∈ r, c < 256) :
    (SegSt.add s t rs).2.2 = 0 ∧ Nx (SegSt.add s t rs).1 half gen (SegSt.add s t rs).2.1 rs (B + rs.length) ∧ (SegSt.add s t rs).1.begun ≤ s.begun + half + 1 := by
  have hfin := fin_nil h.up.kept
  have htp := h.top
  have hn := h.n
  have hf : t.fin + total rs ≤ t.n := by omega
  have ht : t.top + rs.length ≤ 4294967295 := by omega
  obtain ⟨a1, a2, a3, a4⟩ := h.up.add hg hf ht hr
  have hfar : ∀ {j : Nat}, (j < t.first ∨ t.first + t.n ≤ j) → (SegSt.add s t rs).1.sure.getD j [] = s.sure.getD j [] := fun hj => add_far h.up hg hf ht hr hj
  have hlen : (SegSt.add s t rs).1.sure.length = s.sure.length := (kept_add h.up.kept hr).2.2.2.2.1
  have hfi := h.first
  have hap := half_apart half gen
  refine ⟨a1, ⟨a3, ?_, ?_, ?_, h.half1, by rw [hlen]; exact h.len, ?_, ⟨fun x hx => ?_⟩, ?_, ?_⟩, by omega⟩
  · rw [a2]; exact h.first
  · rw [a2]; exact h.n
  · rw [a2]; exact h.gn
  · unfold rootOf
    rw [hfar (by omega), hfar (by omega)]
    exact h.root
  · rw [← hfi, ← hn] at hx
    rcases add_cells h.up hg hf ht hr x hx with hx | ⟨e1, e2⟩
    · rw [hfi, hn] at hx
      have := h.cur.at_ x hx
      exact ⟨this.1, by omega⟩
    · exact ⟨.inl (by rw [e1, h.gn]; omega), by omega⟩
  · exact (h.oth.mono (Nat.le_refl _) (by omega)).same fun i hi => hfar (by omega)
  · rw [a2]; show t.top + rs.length ≤ _; omega
/-- The next half's root is saved. -/
theorem Nx.save (h : Nx s half gen t rs B) (hg1 : gen + 1 < 4294967296) :
    (s.save (gen + 1)).2 = 0 ∧ LUp (s.save (gen + 1)).1 half (gen + 1) t rs B ∧ (s.save (gen + 1)).1.begun = s.begun + 2 := by
  have hl := h.len
  have h1 := h.half1
  obtain ⟨p1, p2, p3, p4, p5, p6⟩ := DSt.save_up h.up.kept.down h.up.stop h.up.kept.pend (by omega) (gen := gen + 1) (by omega)
  have hset : ∀ j, (s.save (gen + 1)).1.sure.getD j [] = if j = (gen + 1) % 2 then rootS (gen + 1) else s.sure.getD j [] := fun j => by rw [p2]; exact getD_set_ (by omega)
  have hfi := h.first
  have hn := h.n
  refine ⟨p1, ⟨⟨h.up.kept.congr p4 p3 (by rw [p2, List.length_set]; omega) (plain_congr fun i hi => ?_), p5⟩, hfi, hn, h.gn, h1, by rw [p2, List.length_set]; exact hl, ?_, h.cur.same fun i hi => ?_, ?_, h.top⟩, p6⟩
  · rw [hset, if_neg (by omega)]
  · have hr := h.root
    unfold rootOf at hr ⊢
    have e := genOf_root (gen := gen + 1) (by omega) hg1
    rw [hset, hset]
    rcases mod_two (gen + 1) with hm | hm
    · rw [hm] at e
      rw [hm, if_pos rfl, if_neg (by omega), e]
      omega
    · rw [hm] at e
      rw [hm, if_neg (by omega), if_pos rfl, e]
      omega
  · rw [hset, if_neg (by omega)]
  · have e : (gen + 1 + 1) % 2 = gen % 2 := by omega
    rw [e]
    exact h.oth.same fun i hi => by rw [hset, if_neg (by omega)]
end Led
end Go.Proofs.YtdlcngmcjidomaaDoor
