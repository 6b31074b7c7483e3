/- What a root is, and which generation a disk tells: plain. No condition. -/
import Derived.Test.YtfoeapjlklfjgaaDoorCellMath2
import Derived.Test.YtfoeapjlklfjgaaDoorDiskMath
namespace Go.Proofs.YtfoeapjlklfjgaaDoor
set_option linter.unusedSimpArgs false
set_option linter.unusedVariables false

def rootC (gen : Nat) : Cl := ⟨gen, 0, 0, 1, [114, 111, 111, 116]⟩
def rootS (gen : Nat) : List Nat := (rootC gen).enc
theorem rootC_may (gen : Nat) : (rootC gen).may = true := by rw [Cl.may_iff]; unfold rootC; simp
theorem rootC_ok {gen : Nat} (h : gen < 4294967296) : (rootC gen).Ok := ⟨h, (by decide : (0 : Nat) < 4294967296), fun c hc => by
  unfold rootC at hc
  simp only [List.mem_cons, List.not_mem_nil, or_false] at hc
  omega⟩
theorem rootS_len (gen : Nat) : (rootS gen).length = 64 := Cl.enc_len (by unfold rootC; simp)
theorem rootS_lt {gen : Nat} (h : gen < 4294967296) : ∀ c ∈ rootS gen, c < 256 := Cl.enc_lt (rootC_ok h) (rootC_may gen)
/-- Whether bytes are a root of a sector. -/
def isRootL (l : List Nat) (slot : Nat) : Bool := Cl.isEnc l && (decide (0 < (Cl.raw l).gen ∧ (Cl.raw l).gen % 2 = slot) && decide (Cl.raw l = rootC (Cl.raw l).gen))
def genOf (l : List Nat) (slot : Nat) : Nat := if isRootL l slot then (Cl.raw l).gen else 0
theorem genOf_lt {l : List Nat} (hl : ∀ x ∈ l, x < 256) (slot : Nat) : genOf l slot < 4294967296 := by
  unfold genOf
  split
  · exact (Cl.raw_ok hl).gen
  · decide
theorem genOf_root {gen : Nat} (h0 : 0 < gen) (h : gen < 4294967296) : genOf (rootS gen) (gen % 2) = gen := by
  have e := Cl.raw_enc (rootC_ok h) (rootC_may gen)
  unfold genOf isRootL
  have e1 : Cl.raw (rootS gen) = rootC gen := e
  have e2 : Cl.isEnc (rootS gen) = true := Cl.isEnc_enc (rootC_ok h) (rootC_may gen)
  rw [e1, e2, decide_eq_true (show 0 < (rootC gen).gen ∧ (rootC gen).gen % 2 = gen % 2 from ⟨h0, rfl⟩), decide_eq_true (show rootC gen = rootC (rootC gen).gen from rfl)]
  rfl
theorem genOf_other {gen slot : Nat} (h : gen < 4294967296) (hs : gen % 2 ≠ slot) : genOf (rootS gen) slot = 0 := by
  have e1 : Cl.raw (rootS gen) = rootC gen := Cl.raw_enc (rootC_ok h) (rootC_may gen)
  unfold genOf isRootL
  rw [e1, decide_eq_false (show ¬ (0 < (rootC gen).gen ∧ (rootC gen).gen % 2 = slot) from fun e => hs e.2), Bool.false_and, Bool.and_false]
  rfl
theorem genOf_nil (slot : Nat) : genOf [] slot = 0 := by
  unfold genOf isRootL Cl.isEnc
  rw [decide_eq_false (show ¬ ([] : List Nat).length = 64 by decide), Bool.false_and, Bool.false_and]
  rfl

namespace DSt
/-- What a sector tells. -/
def found (s : DSt) (i : Nat) : Nat := genOf (s.read i).1 i
def load (s : DSt) : Nat × Int := if s.down then (0, 4) else if s.sure.length < 2 then (0, 1) else (max (s.found 0) (s.found 1), 0)
def save (s : DSt) (gen : Nat) : DSt × Int :=
  if s.sure.length < 2 ∨ gen = 0 then (s, 1) else if (s.write (gen % 2 : Nat) (rootS gen)).2 = 0 then (s.write (gen % 2 : Nat) (rootS gen)).1.flush else s.write (gen % 2 : Nat) (rootS gen)
end DSt
end Go.Proofs.YtfoeapjlklfjgaaDoor
