/- A disk on which no power is planned to go: plain lists. No condition. -/
import Derived.Test.YtfoeapjlklfjgaaDoorDMath
namespace Go.Proofs.YtfoeapjlklfjgaaDoor
set_option linter.unusedSimpArgs false
set_option linter.unusedVariables false
namespace DSt

/-- Nothing is planned, and the power is there. -/
structure Up (s : DSt) : Prop where
  down : s.down = false
  stop : s.stop = 0
section
variable {s : DSt}
theorem Up.goes (h : s.Up) : s.goes = false := by unfold DSt.goes; rw [h.down, h.stop]; rfl
theorem Up.write (h : s.Up) {i : Nat} (hi : i < s.sure.length) {l : List Nat} (hl : l.length = 64) :
    s.write (i : Int) l = ({ sure := s.sure, pend := s.pend ++ [(i, l)], down := false, stop := 0, begun := s.begun + 1 }, 0) := by
  rw [write_ok h.down (by rw [has_nat rfl hi, decide_eq_true hl]; rfl) h.goes]
  have h1 : s.beg = { sure := s.sure, pend := s.pend, down := false, stop := 0, begun := s.begun + 1 } := by
    unfold DSt.beg
    rw [h.goes, h.stop]
  rw [h1]
  rfl
theorem Up.flush (h : s.Up) : s.flush = ({ sure := lay s.sure s.pend, pend := [], down := false, stop := 0, begun := s.begun + 1 }, 0) := by
  rw [flush_ok h.down h.goes]
  have h1 : s.beg = { sure := s.sure, pend := s.pend, down := false, stop := 0, begun := s.begun + 1 } := by
    unfold DSt.beg
    rw [h.goes, h.stop]
  rw [h1]
theorem Up.read (h : s.Up) {i : Nat} (hi : i < s.sure.length) : s.read (i : Int) = if s.cur i = [] then ([], 6) else (s.cur i, 0) := by
  unfold DSt.read
  rw [h.down, has_nat rfl hi]
  rfl
theorem up_up (s : DSt) (cs : List Nat) : (s.up cs).Up := ⟨rfl, rfl⟩
theorem new_up (n : Nat) : (DSt.new n).Up := ⟨rfl, rfl⟩
theorem plan0_up (h : s.Up) : (s.plan 0).Up := ⟨h.down, rfl⟩
theorem getD_set {l : List (List Nat)} {i j : Nat} {x : List Nat} (hi : i < l.length) : (l.set i x).getD j [] = if j = i then x else l.getD j [] := by
  by_cases h : j = i
  · subst h; rw [if_pos rfl, List.getD_eq_getElem?_getD, List.getElem?_set_self hi]; rfl
  · rw [if_neg h, List.getD_eq_getElem?_getD, List.getD_eq_getElem?_getD, List.getElem?_set_ne (Ne.symm h)]
theorem getD_rep {n j : Nat} {x : List Nat} (h : j < n) : (List.replicate n x).getD j [] = x := by
  rw [List.getD_eq_getElem?_getD, List.getElem?_replicate, if_pos h]; rfl

/-- DiskTorn's disk: behind a write and a loss that tears. -/
def torn (k : Nat) (su : List (List Nat)) : DSt := { sure := su.set k [], pend := [], down := false, stop := 0, begun := 0 }
theorem torn_of {su : List (List Nat)} {k : Nat} (h : s.Up) (hp : s.pend = []) (hs : s.sure = su) (hk : k < su.length) {l : List Nat} (hl : l.length = 64) : s.write (k : Int) l = ((s.write (k : Int) l).1, 0) ∧ (s.write (k : Int) l).1.up [2] = torn k su := by
  rw [h.write (by rw [hs]; exact hk) hl]
  refine ⟨rfl, ?_⟩
  rw [hp, hs]
  rfl
theorem torn_up (k : Nat) (su : List (List Nat)) : (torn k su).Up := ⟨rfl, rfl⟩
theorem torn_read {su : List (List Nat)} {k j : Nat} (hk : k < su.length) (hj : j < su.length) (hne : su.getD j [] ≠ []) : (torn k su).read (j : Int) = if j = k then ([], 6) else (su.getD j [], 0) := by
  rw [(torn_up k su).read (by show j < (su.set k []).length; rw [List.length_set]; exact hj)]
  have e : (torn k su).cur j = if j = k then [] else su.getD j [] := by
    show (su.set k []).getD j [] = _
    exact getD_set hk
  rw [e]
  by_cases h : j = k
  · rw [if_pos h, if_pos rfl, if_pos h]
  · rw [if_neg h, if_neg hne, if_neg h]
/-- Written again. -/
theorem torn_write {su : List (List Nat)} {k : Nat} (hk : k < su.length) {l : List Nat} (hl : l.length = 64) : (torn k su).write (k : Int) l = ({ sure := su.set k [], pend := [(k, l)], down := false, stop := 0, begun := 1 }, 0) :=
  (torn_up k su).write (by show k < (su.set k []).length; rw [List.length_set]; exact hk) hl
theorem again_read {su : List (List Nat)} {k : Nat} (hk : k < su.length) {l : List Nat} (hl : l.length = 64) : (DSt.mk (su.set k []) [(k, l)] false 0 1).read (k : Int) = (l, 0) ∧ ((DSt.mk (su.set k []) [(k, l)] false 0 1).up []).read (k : Int) = ([], 6) := by
  have hne : l ≠ [] := fun e => by rw [e] at hl; cases hl
  constructor
  · rw [Up.read ⟨rfl, rfl⟩ (by show k < (su.set k []).length; rw [List.length_set]; exact hk)]
    have e : (DSt.mk (su.set k []) [(k, l)] false 0 1).cur k = l := by
      show (if k = k then l else _) = l
      rw [if_pos rfl]
    rw [e, if_neg hne]
  · have e : (DSt.mk (su.set k []) [(k, l)] false 0 1).up [] = torn k su := rfl
    rw [e]
    rw [(torn_up k su).read (by show k < (su.set k []).length; rw [List.length_set]; exact hk), if_pos]
    show (su.set k []).getD k [] = []
    rw [getD_set hk, if_pos rfl]
theorem flush_read {su : List (List Nat)} {k : Nat} (hk : k < su.length) {l : List Nat} (hl : l.length = 64) : (DSt.mk (su.set k []) [(k, l)] false 0 1).flush.2 = 0 ∧ (DSt.mk (su.set k []) [(k, l)] false 0 1).flush.1.read (k : Int) = (l, 0) ∧ ((DSt.mk (su.set k []) [(k, l)] false 0 1).flush.1.up []).read (k : Int) = (l, 0) := by
  have hne : l ≠ [] := fun e => by rw [e] at hl; cases hl
  have e : (DSt.mk (su.set k []) [(k, l)] false 0 1).flush = ({ sure := su.set k l, pend := [], down := false, stop := 0, begun := 2 }, 0) := by
    rw [Up.flush ⟨rfl, rfl⟩]
    show (DSt.mk ((su.set k []).set k l) [] false 0 2, (0 : Int)) = _
    rw [List.set_set]
  rw [e]
  have h1 : (su.set k l).getD k [] = l := by rw [getD_set hk, if_pos rfl]
  have hlen : k < (su.set k l).length := by rw [List.length_set]; exact hk
  refine ⟨rfl, ?_, ?_⟩
  · rw [Up.read ⟨rfl, rfl⟩ hlen]
    show (if (su.set k l).getD k [] = [] then _ else ((su.set k l).getD k [], _)) = _
    rw [h1, if_neg hne]
  · rw [Up.read ⟨rfl, rfl⟩ hlen]
    show (if (su.set k l).getD k [] = [] then _ else ((su.set k l).getD k [], _)) = _
    rw [h1, if_neg hne]
end
end DSt
end Go.Proofs.YtfoeapjlklfjgaaDoor
