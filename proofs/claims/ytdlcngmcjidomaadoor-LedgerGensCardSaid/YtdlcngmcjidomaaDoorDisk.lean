/- A disk in memory: what its blocks hold. No condition. -/
import Derived.Test.YtdlcngmcjidomaaDoorDiskMath
import Derived.Test.YtdlcngmcjidomaaDoorOff
namespace Go.Proofs.YtdlcngmcjidomaaDoor
set_option linter.unusedSimpArgs false
set_option linter.unusedVariables false
open Go.RowKit

/-- Bytes, as a slice holds them. -/
structure BEl where
  (A : Option Addr) (n c : Nat) (l : List Nat)
def BEl.v (x : BEl) : Value := .slice x.A x.n x.c
structure BEl.In (w : World) (x : BEl) : Prop where
  own : OwnI w 0 .u8 256 5 x.A x.n x.c x.l
  nil : x.A = none ↔ x.l = []
theorem BEl.In.ints {w : World} {x : BEl} (h : x.In w) : Ints w .u8 256 x.A x.n x.c x.l := h.own.ints
theorem BEl.v_one (x : BEl) : x.v.oneCell' = true := rfl
theorem BEl.In.len {w : World} {x : BEl} (h : x.In w) : x.l.length = x.n := h.ints.len

/-- No byte lies in the blocks T. -/
structure NoU8 (w : World) (T : List Nat) : Prop where
  no : ∀ k ∈ T, ∃ t cs, Blk w k t cs ∧ t ≠ 5

section
variable {w w' : World} {T T1 : List Nat} {A : Option Addr} {n c : Nat} {l : List Nat}
theorem Blk.type_ne {k k' : Nat} {t t' : TypeId} {cs cs' : Array Value} (h : Blk w k t cs) (h' : Blk w k' t' cs') (ht : t ≠ t') : k ≠ k' := by
  rintro rfl
  have e := h.is.symm.trans h'.is
  simp only [Option.some.injEq, Obj.cells.injEq] at e
  exact ht e.2.1
theorem OwnR.type_ne {base : Nat} {e : TypeId} {sz : Nat} {vs : List Value} (h : OwnR w base e sz A n c vs) {k : Nat} {t : TypeId} {cs : Array Value} (h' : Blk w k t cs) (ht : e ≠ t) : ∀ ad, A = some ad → ad.block ≠ k := by
  intro ad he
  rcases h.form with ⟨rfl, _⟩ | ⟨g, cur, rfl, _, hg, _⟩
  · cases he
  · cases he
    exact hg.type_ne h' ht
theorem Own.type_ne {base : Nat} {e : TypeId} {vs : List Value} (h : Own w base e A n c vs) {k : Nat} {t : TypeId} {cs : Array Value} (h' : Blk w k t cs) (ht : e ≠ t) : ∀ ad, A = some ad → ad.block ≠ k := by
  intro ad he
  rcases h.form with ⟨rfl, _⟩ | ⟨g, cur, rfl, _, hg, _⟩
  · cases he
  · cases he
    exact hg.type_ne h' ht
theorem NoU8.off (h : NoU8 w T) {base : Nat} (hi : OwnI w base .u8 256 5 A n c l) : ∀ ad, A = some ad → ad.block ∉ T := by
  intro ad he hT
  obtain ⟨t, cs, hblk, ht⟩ := h.no _ hT
  exact hi.own.type_ne hblk (Ne.symm ht) ad he rfl
theorem BEl.In.stay {x : BEl} (hx : x.In w) (h : NoU8 w T) (hm : Moved w w' T T1) : x.In w' := ⟨hx.own.moved hm (h.off hx.own), hx.nil⟩
end

def flatW (ys : List (Nat × BEl)) : List Value := ys.flatMap fun y => [.int .i64 (y.1 : Int), y.2.v]
theorem flatW_len (ys : List (Nat × BEl)) : (flatW ys).length = ys.length * 2 := by
  induction ys with
  | nil => rfl
  | cons y ys ih => unfold flatW at *; simp only [List.flatMap_cons, List.length_append, List.length_cons, List.length_nil, ih]; omega
theorem flatW_get {ys : List (Nat × BEl)} {k : Nat} {y : Nat × BEl} (h : ys[k]? = some y) : (flatW ys)[k * 2]? = some (.int .i64 (y.1 : Int)) ∧ (flatW ys)[k * 2 + 1]? = some y.2.v := by
  induction ys generalizing k with
  | nil => simp at h
  | cons x ys ih =>
    cases k with
    | zero => simp only [List.getElem?_cons_zero, Option.some.injEq] at h; subst h; exact ⟨rfl, rfl⟩
    | succ k =>
      have := ih (k := k) (by simpa using h)
      have e : (k + 1) * 2 = k * 2 + 2 := by omega
      rw [e]
      unfold flatW at *
      simp only [List.flatMap_cons]
      rw [List.getElem?_append_right (by simp), List.getElem?_append_right (by simp)]
      simpa using this
theorem flatW_snoc (ys : List (Nat × BEl)) (y : Nat × BEl) : flatW (ys ++ [y]) = flatW ys ++ [.int .i64 (y.1 : Int), y.2.v] := by
  unfold flatW; rw [List.flatMap_append]; rfl
/-- What is asked of a disk. -/
structure DSt.Wf (s : DSt) : Prop where
  sure : ∀ l ∈ s.sure, l = [] ∨ l.length = 64
  pend : ∀ p ∈ s.pend, p.1 < s.sure.length ∧ p.2.length = 64
  most : s.sure.length ≤ 512
  stop0 : 0 ≤ s.stop
  stop1 : s.stop < 9223372036854775808

def Ab (A : Option Addr) : List Nat := (A.map (·.block)).toList

structure DiskIn (w : World) (T : List Nat) (g : Nat) (s : DSt) (A : Option Addr) (n c : Nat) (pA : Option Addr) (pn pc : Nat) (xs : List BEl) (ys : List (Nat × BEl)) : Prop where
  blk : Blk w g 64 #[.slice A n c, .slice pA pn pc, .bool s.down, .int .i64 s.stop, .int .i64 (s.begun : Int)]
  sure : OwnR w 0 22 1 A n c (xs.map BEl.v)
  pend : OwnR w 0 83 2 pA pn pc (flatW ys)
  xin : ∀ x ∈ xs, x.In w
  yin : ∀ y ∈ ys, y.2.In w
  es : s.sure = xs.map (·.l)
  ep : s.pend = ys.map fun y => (y.1, y.2.l)
  hT : T = g :: (Ab A ++ Ab pA)
  no : NoU8 w T
  wf : s.Wf

/-- The disk s lies at block g; T: the blocks that it writes. -/
structure DiskAt (w : World) (T : List Nat) (g : Nat) (s : DSt) : Prop where
  ex : ∃ A n c pA pn pc xs ys, DiskIn w T g s A n c pA pn pc xs ys

section
variable {w w' : World} {T T1 : List Nat} {g : Nat} {s : DSt} {A : Option Addr} {n c : Nat} {pA : Option Addr} {pn pc : Nat} {xs : List BEl} {ys : List (Nat × BEl)}
theorem DiskIn.n_eq (h : DiskIn w T g s A n c pA pn pc xs ys) : s.sure.length = n := by
  have := h.sure.len
  rw [h.es, List.length_map]; simpa using this
theorem DiskIn.pn_eq (h : DiskIn w T g s A n c pA pn pc xs ys) : s.pend.length = pn := by
  have := h.pend.len
  rw [flatW_len] at this
  rw [h.ep, List.length_map]; omega
theorem DiskIn.c0 (h : DiskIn w T g s A n c pA pn pc xs ys) : w.cell? ⟨g, 0, none⟩ = some (.slice A n c) := h.blk.cell 0
theorem DiskIn.c1 (h : DiskIn w T g s A n c pA pn pc xs ys) : w.cell? ⟨g, 1, none⟩ = some (.slice pA pn pc) := h.blk.cell 1
theorem DiskIn.c2 (h : DiskIn w T g s A n c pA pn pc xs ys) : w.cell? ⟨g, 2, none⟩ = some (.bool s.down) := h.blk.cell 2
theorem DiskIn.c3 (h : DiskIn w T g s A n c pA pn pc xs ys) : w.cell? ⟨g, 3, none⟩ = some (.int .i64 s.stop) := h.blk.cell 3
theorem DiskIn.c4 (h : DiskIn w T g s A n c pA pn pc xs ys) : w.cell? ⟨g, 4, none⟩ = some (.int .i64 (s.begun : Int)) := h.blk.cell 4
theorem DiskIn.at_ (h : DiskIn w T g s A n c pA pn pc xs ys) : DiskAt w T g s := ⟨⟨_, _, _, _, _, _, _, _, h⟩⟩
theorem DiskIn.gT (h : DiskIn w T g s A n c pA pn pc xs ys) : g ∈ T := by rw [h.hT]; simp
theorem DiskIn.AT (h : DiskIn w T g s A n c pA pn pc xs ys) {ad : Addr} (e : A = some ad) : ad.block ∈ T := by rw [h.hT, e]; simp [Ab]
theorem DiskIn.pAT (h : DiskIn w T g s A n c pA pn pc xs ys) {ad : Addr} (e : pA = some ad) : ad.block ∈ T := by rw [h.hT, e]; simp [Ab]
theorem NoU8.lt (h : NoU8 w T) : ∀ k ∈ T, k < w.heap.size := fun k hk => by
  obtain ⟨_, _, hb, _⟩ := h.no k hk
  exact hb.lt
theorem NoU8.moved {T0 T2 : List Nat} (h : NoU8 w T) (hm : Moved w w' T0 T2) (hd : ∀ k ∈ T, k ∉ T0) : NoU8 w' T :=
  ⟨fun k hk => by
    obtain ⟨t, cs, hb, hc⟩ := h.no k hk
    exact ⟨t, cs, hb.moved hm (hd k hk), hc⟩⟩
theorem NoU8.below (h : NoU8 w T) (hb : Below w.heap.size w w') : NoU8 w' T :=
  h.moved (Moved.of_below hb []) (fun _ _ h => by cases h)
/-- Whatever turns none of its blocks leaves it. -/
theorem DiskIn.moved {T0 T2 : List Nat} (h : DiskIn w T g s A n c pA pn pc xs ys) (hm : Moved w w' T0 T2) (hd : ∀ k ∈ T, k ∉ T0) (hx : ∀ x ∈ xs, x.In w') (hy : ∀ y ∈ ys, y.2.In w') : DiskIn w' T g s A n c pA pn pc xs ys :=
  ⟨h.blk.moved hm (hd g h.gT), h.sure.moved hm (fun ad e => hd _ (h.AT e)), h.pend.moved hm (fun ad e => hd _ (h.pAT e)), hx, hy, h.es, h.ep, h.hT, h.no.moved hm hd, h.wf⟩
theorem BEl.In.below {x : BEl} (h : x.In w) (hb : Below w.heap.size w w') : x.In w' := ⟨h.own.below hb, h.nil⟩
theorem DiskIn.below (h : DiskIn w T g s A n c pA pn pc xs ys) (hb : Below w.heap.size w w') : DiskIn w' T g s A n c pA pn pc xs ys :=
  h.moved (Moved.of_below hb []) (fun _ _ h => by cases h) (fun x hx => (h.xin x hx).below hb) (fun y hy => (h.yin y hy).below hb)
theorem DiskAt.below (h : DiskAt w T g s) (hb : Below w.heap.size w w') : DiskAt w' T g s := by
  obtain ⟨_, _, _, _, _, _, _, _, h⟩ := h.ex
  exact (h.below hb).at_
theorem DiskAt.no (h : DiskAt w T g s) : NoU8 w T := by
  obtain ⟨_, _, _, _, _, _, _, _, h⟩ := h.ex
  exact h.no
theorem DiskAt.wf (h : DiskAt w T g s) : s.Wf := by
  obtain ⟨_, _, _, _, _, _, _, _, h⟩ := h.ex
  exact h.wf
theorem DiskAt.lt (h : DiskAt w T g s) : ∀ k ∈ T, k < w.heap.size := h.no.lt
/-- Another disk's turn (bytes stay by themselves). -/
theorem DiskAt.other {T0 T2 : List Nat} (h : DiskAt w T g s) (h0 : NoU8 w T0) (hm : Moved w w' T0 T2) (hd : ∀ k ∈ T, k ∉ T0) : DiskAt w' T g s := by
  obtain ⟨_, _, _, _, _, _, _, _, h⟩ := h.ex
  exact (h.moved hm hd (fun x hx => (h.xin x hx).stay h0 hm) (fun y hy => (h.yin y hy).stay h0 hm)).at_
end
end Go.Proofs.YtdlcngmcjidomaaDoor
