/- What a disk is, and what becomes of it: plain lists. No condition. -/
import Derived.Test.YtdlcngmcjidomaaDoorBase
namespace Go.Proofs.YtdlcngmcjidomaaDoor
set_option linter.unusedSimpArgs false
set_option linter.unusedVariables false

/-- A disk: its sectors ([]: torn), the writes that are pending, whether the power is gone, when it goes, and how many have begun. -/
structure DSt where
  sure : List (List Nat)
  pend : List (Nat × List Nat)
  down : Bool
  stop : Int
  begun : Nat

namespace DSt
def lastOf (p : List (Nat × List Nat)) (i : Nat) (d : List Nat) : List Nat := p.foldl (fun b x => if x.1 = i then x.2 else b) d
def cur (s : DSt) (i : Nat) : List Nat := lastOf s.pend i (s.sure.getD i [])
def has (s : DSt) (i : Int) : Bool := decide (0 ≤ i ∧ i < s.sure.length)
def goes (s : DSt) : Bool := s.down || (decide (0 < s.stop) && decide ((s.begun : Int) + 1 = s.stop))
def beg (s : DSt) : DSt := { s with begun := s.begun + 1, down := s.goes }
def lay (sure : List (List Nat)) (pend : List (Nat × List Nat)) : List (List Nat) := pend.foldl (fun l x => l.set x.1 x.2) sure
def lay1 (sure : List (List Nat)) (x : Nat × List Nat) (cs : List Nat) : List (List Nat) :=
  match cs with
  | [] => sure
  | c :: _ => if c % 3 = 1 then sure.set x.1 x.2 else if c % 3 = 2 then sure.set x.1 [] else sure
def layBy (sure : List (List Nat)) (pend : List (Nat × List Nat)) (cs : List Nat) : List (List Nat) :=
  match pend with
  | [] => sure
  | x :: p => layBy (lay1 sure x cs) p cs.tail
def read (s : DSt) (i : Int) : List Nat × Int := if s.down then ([], 4) else if s.has i then (if s.cur i.toNat = [] then ([], 6) else (s.cur i.toNat, 0)) else ([], 1)
def write (s : DSt) (i : Int) (b : List Nat) : DSt × Int :=
  if s.down then (s, 4) else if s.has i && decide (b.length = 64) then (if s.goes then (s.beg, 4) else ({ s.beg with pend := s.pend ++ [(i.toNat, b)] }, 0)) else (s, 1)
def flush (s : DSt) : DSt × Int := if s.down then (s, 4) else if s.goes then (s.beg, 4) else ({ s.beg with sure := lay s.sure s.pend, pend := [] }, 0)
def plan (s : DSt) (k : Int) : DSt := { s with stop := max k 0, begun := 0 }
def up (s : DSt) (cs : List Nat) : DSt := { sure := layBy s.sure s.pend cs, pend := [], down := false, stop := 0, begun := 0 }
def new (n : Nat) : DSt := { sure := List.replicate n (List.replicate 64 0), pend := [], down := false, stop := 0, begun := 0 }

theorem len_lay (sure : List (List Nat)) (pend : List (Nat × List Nat)) : (lay sure pend).length = sure.length := by
  unfold lay
  induction pend generalizing sure with
  | nil => rfl
  | cons x p ih => rw [List.foldl_cons, ih]; simp
theorem len_lay1 (sure : List (List Nat)) (x : Nat × List Nat) (cs : List Nat) : (lay1 sure x cs).length = sure.length := by
  unfold lay1
  split
  · rfl
  · split
    · simp
    · split <;> simp
theorem len_layBy (sure : List (List Nat)) (pend : List (Nat × List Nat)) (cs : List Nat) : (layBy sure pend cs).length = sure.length := by
  induction pend generalizing sure cs with
  | nil => rfl
  | cons x p ih => rw [layBy, ih, len_lay1]
theorem lastOf_nil (i : Nat) (d : List Nat) : lastOf [] i d = d := rfl
theorem lastOf_cons (x : Nat × List Nat) (p : List (Nat × List Nat)) (i : Nat) (d : List Nat) : lastOf (x :: p) i d = lastOf p i (if x.1 = i then x.2 else d) := rfl
theorem lastOf_snoc (x : Nat × List Nat) (p : List (Nat × List Nat)) (i : Nat) (d : List Nat) : lastOf (p ++ [x]) i d = if x.1 = i then x.2 else lastOf p i d := by
  unfold lastOf
  rw [List.foldl_append]
  rfl
theorem lay_get (pend : List (Nat × List Nat)) (sure : List (List Nat)) (i : Nat) (hi : i < sure.length) : (lay sure pend).getD i [] = lastOf pend i (sure.getD i []) := by
  induction pend generalizing sure with
  | nil => rfl
  | cons x p ih =>
    have h := ih (sure.set x.1 x.2) (by simpa using hi)
    rw [lastOf_cons]
    have e : (sure.set x.1 x.2).getD i [] = if x.1 = i then x.2 else sure.getD i [] := by
      rw [List.getD_eq_getElem?_getD, List.getElem?_set]
      split
      · next h1 => subst h1; simp [hi]
      · simp
    rw [e] at h
    exact h
theorem read_down {s : DSt} (h : s.down = true) (i : Int) : s.read i = ([], 4) := by unfold read; rw [h]; rfl
theorem read_arg {s : DSt} (h : s.down = false) {i : Int} (hi : s.has i = false) : s.read i = ([], 1) := by unfold read; rw [h, hi]; rfl
theorem read_torn {s : DSt} (h : s.down = false) {i : Int} (hi : s.has i = true) (hc : s.cur i.toNat = []) : s.read i = ([], 6) := by unfold read; rw [h, hi, if_pos hc]; rfl
theorem read_ok {s : DSt} (h : s.down = false) {i : Int} (hi : s.has i = true) (hc : s.cur i.toNat ≠ []) : s.read i = (s.cur i.toNat, 0) := by unfold read; rw [h, hi, if_neg hc]; rfl
theorem write_down {s : DSt} (h : s.down = true) (i : Int) (b : List Nat) : s.write i b = (s, 4) := by unfold write; rw [h]; rfl
theorem write_arg {s : DSt} (h : s.down = false) {i : Int} {b : List Nat} (hi : (s.has i && decide (b.length = 64)) = false) : s.write i b = (s, 1) := by unfold write; rw [h, hi]; rfl
theorem write_goes {s : DSt} (h : s.down = false) {i : Int} {b : List Nat} (hi : (s.has i && decide (b.length = 64)) = true) (hg : s.goes = true) : s.write i b = (s.beg, 4) := by unfold write; rw [h, hi, hg]; rfl
theorem write_ok {s : DSt} (h : s.down = false) {i : Int} {b : List Nat} (hi : (s.has i && decide (b.length = 64)) = true) (hg : s.goes = false) : s.write i b = ({ s.beg with pend := s.pend ++ [(i.toNat, b)] }, 0) := by unfold write; rw [h, hi, hg]; rfl
theorem flush_down {s : DSt} (h : s.down = true) : s.flush = (s, 4) := by unfold flush; rw [h]; rfl
theorem flush_goes {s : DSt} (h : s.down = false) (hg : s.goes = true) : s.flush = (s.beg, 4) := by unfold flush; rw [h, hg]; rfl
theorem flush_ok {s : DSt} (h : s.down = false) (hg : s.goes = false) : s.flush = ({ s.beg with sure := lay s.sure s.pend, pend := [] }, 0) := by unfold flush; rw [h, hg]; rfl
end DSt
end Go.Proofs.YtdlcngmcjidomaaDoor
