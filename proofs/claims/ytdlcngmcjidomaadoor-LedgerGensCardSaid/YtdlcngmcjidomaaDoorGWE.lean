/- Texts of several parts in one: WE, SegA, SegB, WK. Each says what it proves; no condition but those named there. -/
import Derived.Test.YtdlcngmcjidomaaDoorLCellJ
import Derived.Test.YtdlcngmcjidomaaDoorLDiskI
import Derived.Test.YtdlcngmcjidomaaDoorLawR
import Derived.Test.YtdlcngmcjidomaaDoorGSM
import Derived.Test.YtdlcngmcjidomaaDoorRangeF
import Derived.Deep.DeepCutAuto
import Derived.Deep.CutBlock
/- A walk's environment: a disk, struct blocks, rows and bytes beside it, as one fact. No condition. -/
namespace Go.Proofs.YtdlcngmcjidomaaDoor
set_option linter.unusedSimpArgs false
set_option linter.unusedVariables false
open Go.RowKit Go.Shelf

abbrev WBk := Nat × TypeId × Array Value
structure WRow where
  (ty : TypeId) (sz : Nat) (A : Option Addr) (n c : Nat) (vs : List Value)
/-- Bytes in a block of bytes, or in one that lay there before. -/
structure FarB (w : World) (base : Nat) (x : BEl) : Prop where
  ints : Ints w .u8 256 x.A x.n x.c x.l
  far : 0 < x.n → ∀ ad, x.A = some ad → ad.block < base ∨ ∃ cs, Blk w ad.block 5 cs

/-- What was there is there, but for the blocks S, in which no bytes lie. -/
structure Ch (base : Nat) (w w' : World) (S : List Nat) : Prop where
  os : w'.os = w.os
  tape : w'.tape = w.tape
  output : w'.output = w.output
  size : w.heap.size ≤ w'.heap.size
  block : ∀ k, k < w.heap.size → k ∉ S → w'.heap[k]? = w.heap[k]?
  safe : ∀ k ∈ S, base ≤ k ∧ ∀ cs, ¬ Blk w k 5 cs

section
variable {w0 w w' : World} {base : Nat} {S T T' : List Nat} {g : Nat} {s s' : DSt} {bl : List WBk} {ys : List WRow} {rd : List BEl}
theorem Ch.of_below (hb : Below w.heap.size w w') : Ch base w w' [] := ⟨hb.os, hb.tape, hb.output, hb.size, fun k hk _ => hb.block k hk, fun _ h => by cases h⟩
theorem Ch.below (h : Ch base w w' S) {B : Nat} {a : World} (hb : Below base a w) (hB : base ≤ w.heap.size) : Below base a w' :=
  ⟨h.os.trans hb.os, h.tape.trans hb.tape, h.output.trans hb.output, Nat.le_trans hb.size h.size, fun k hk => (h.block k (by omega) (fun hs => by have := (h.safe k hs).1; omega)).trans (hb.block k hk)⟩
theorem Ch.u8 (h : Ch base w w' S) {k : Nat} {cs : Array Value} (hb : Blk w k 5 cs) : Blk w' k 5 cs :=
  ⟨(h.block k hb.lt (fun hs => (h.safe k hs).2 cs hb)).trans hb.is⟩
theorem Ch.blk (h : Ch base w w' S) {k : Nat} {t : TypeId} {cs : Array Value} (hb : Blk w k t cs) (hk : k ∉ S) : Blk w' k t cs := ⟨(h.block k hb.lt hk).trans hb.is⟩
theorem Ch.el (h : Ch base w w' S) {x : BEl} (hx : x.In w) : x.In w' := by
  refine ⟨⟨?_, hx.own.lt⟩, hx.nil⟩
  rcases hx.own.own.form with ⟨h7, h8, h9, h10⟩ | ⟨k, cur, h7, hg0, hg7, q1, q2, q3, q4⟩
  · rw [h7, h8, h9, h10]; exact Own.nil_ ..
  · rw [h7]; exact Own.of_blk hg0 (h.u8 hg7) q1 q2 q3 q4
theorem Ch.row (h : Ch base w w' S) {b sz n c : Nat} {t : TypeId} {A : Option Addr} {vs : List Value} (hr : OwnR w b t sz A n c vs) (hA : ∀ ad, A = some ad → ad.block ∉ S) : OwnR w' b t sz A n c vs := by
  rcases hr.form with ⟨h7, h8, h9, h10⟩ | ⟨k, cur, h7, hg0, hg7, q1, q2, q3, q4⟩
  · rw [h7, h8, h9, h10]; exact OwnR.nil_ ..
  · rw [h7]; exact OwnR.of_blk hg0 (h.blk hg7 (hA _ h7)) q1 q2 q3 q4
theorem Ch.far (h : Ch base w w' S) {x : BEl} (hx : FarB w base x) (hB : base ≤ w.heap.size) : FarB w' base x := by
  have hsame : 0 < x.n → ∀ ad, x.A = some ad → ad.block < w.heap.size ∧ w'.heap[ad.block]? = w.heap[ad.block]? := fun hn ad e => by
    rcases hx.far hn ad e with h1 | ⟨cs, h1⟩
    · exact ⟨by omega, h.block _ (by omega) (fun hs => by have := (h.safe _ hs).1; omega)⟩
    · exact ⟨h1.lt, (h.u8 h1).is.trans h1.is.symm⟩
  refine ⟨⟨⟨hx.ints.rd.len, hx.ints.rd.cap, fun hn => ?_⟩, hx.ints.lt⟩, fun hn ad e => ?_⟩
  · obtain ⟨b, o, e, hb, hc⟩ := hx.ints.rd.at_ hn
    have h1 := hsame hn _ e
    exact ⟨b, o, e, by have := h.size; omega, fun j u hu => (World.cell?_of_block (a := ⟨b, o + j, none⟩) h1.2).trans (hc j u hu)⟩
  · rcases hx.far hn ad e with h1 | ⟨cs, h1⟩
    · exact .inl h1
    · exact .inr ⟨cs, h.u8 h1⟩
theorem Ch.disk (h : Ch base w w' S) (D : DiskAt w T g s) (hd : ∀ k ∈ T, k ∉ S) : DiskAt w' T g s := by
  obtain ⟨A, n, c, pA, pn, pc, xs, zs, D⟩ := D.ex
  exact (show DiskIn w' T g s A n c pA pn pc xs zs from ⟨h.blk D.blk (hd g D.gT), h.row D.sure (fun ad e => hd _ (D.AT e)), h.row D.pend (fun ad e => hd _ (D.pAT e)), fun x hx => h.el (D.xin x hx), fun y hy => h.el (D.yin y hy), D.es, D.ep, D.hT,
    ⟨fun k hk => by
      obtain ⟨t, cs, hb, hc⟩ := D.no.no k hk
      exact ⟨t, cs, h.blk hb (hd k hk), hc⟩⟩, D.wf⟩).at_

structure WE (w0 w : World) (g : Nat) (s : DSt) (bl : List WBk) (ys : List WRow) (rd : List BEl) : Prop where
  ex : ∃ T, DiskAt w T g s ∧ (∀ k ∈ T, w0.heap.size ≤ k) ∧ Below w0.heap.size w0 w ∧
    (∀ b ∈ bl, Blk w b.1 b.2.1 b.2.2 ∧ b.2.1 ≠ 5 ∧ b.1 ∉ T ∧ w0.heap.size ≤ b.1) ∧ (bl.map (·.1)).Nodup ∧
    (∀ y ∈ ys, OwnR w w0.heap.size y.ty y.sz y.A y.n y.c y.vs ∧ y.ty ≠ 5 ∧ ∀ ad, y.A = some ad → ad.block ∉ T ∧ ∀ b ∈ bl, b.1 ≠ ad.block) ∧
    (ys.Pairwise fun x y => Dis x.A y.A) ∧ ∀ x ∈ rd, FarB w w0.heap.size x
theorem WE.bel (E : WE w0 w g s bl ys rd) : Below w0.heap.size w0 w := by
  obtain ⟨_, _, _, h, _⟩ := E.ex
  exact h
theorem WE.size (E : WE w0 w g s bl ys rd) : w0.heap.size ≤ w.heap.size := E.bel.size
theorem WE.wf (E : WE w0 w g s bl ys rd) : s.Wf := by
  obtain ⟨T, D, _⟩ := E.ex
  exact D.wf
theorem WE.cell (E : WE w0 w g s bl ys rd) (i j : Nat) {b : WBk} {u : Value} (hb : bl[i]? = some b) (hu : b.2.2[j]? = some u) : w.cell? ⟨b.1, j, none⟩ = some u := by
  obtain ⟨T, D, hT, hb0, hB, _⟩ := E.ex
  exact ((hB b (List.mem_of_getElem? hb)).1.cell j).trans hu
theorem WE.b (E : WE w0 w g s bl ys rd) (i : Nat) {b : WBk} (hb : bl[i]? = some b) : Blk w b.1 b.2.1 b.2.2 := by
  obtain ⟨T, D, hT, hb0, hB, _⟩ := E.ex
  exact (hB b (List.mem_of_getElem? hb)).1
theorem WE.frozen (E : WE w0 w g s bl ys rd) (i j : Nat) {b : WBk} (hb : bl[i]? = some b) : w.frozen? ⟨b.1, j, none⟩ = false := (E.b i hb).frozen j
theorem WE.ge (E : WE w0 w g s bl ys rd) (i : Nat) {b : WBk} (hb : bl[i]? = some b) : w0.heap.size ≤ b.1 := by
  obtain ⟨T, D, hT, hb0, hB, _⟩ := E.ex
  exact (hB b (List.mem_of_getElem? hb)).2.2.2
theorem WE.row (E : WE w0 w g s bl ys rd) (i : Nat) {y : WRow} (hy : ys[i]? = some y) : OwnR w w0.heap.size y.ty y.sz y.A y.n y.c y.vs := by
  obtain ⟨T, D, hT, hb0, hB, hN, hY, _⟩ := E.ex
  exact (hY y (List.mem_of_getElem? hy)).1
theorem WE.rdm (E : WE w0 w g s bl ys rd) {x : BEl} (hx : x ∈ rd) : Ints w .u8 256 x.A x.n x.c x.l := by
  obtain ⟨T, D, hT, hb0, hB, hN, hY, hP, hR⟩ := E.ex
  exact (hR x hx).ints
theorem WE.rd0 (E : WE w0 w g s bl ys rd) (i : Nat) {x : BEl} (hx : rd[i]? = some x) : Ints w .u8 256 x.A x.n x.c x.l := E.rdm (List.mem_of_getElem? hx)

theorem FarB.of_in {x : BEl} (h : x.In w) : FarB w base x := ⟨h.ints, fun hn ad e => by
  rcases h.own.own.form with ⟨h7, _⟩ | ⟨k, cur, h7, _, hg7, _⟩
  · rw [h7] at e; cases e
  · rw [h7] at e; cases e; exact .inr ⟨cur, hg7⟩⟩
theorem FarB.of_own {A : Option Addr} {n c b : Nat} {l : List Nat} (h : OwnI w b .u8 256 5 A n c l) : FarB w base ⟨A, n, c, l⟩ := ⟨h.ints, fun hn ad e => by
  rcases h.own.form with ⟨h7, _⟩ | ⟨k, cur, h7, _, hg7, _⟩
  · have e : A = some ad := e
    rw [h7] at e; cases e
  · have e : A = some ad := e
    rw [h7] at e; cases e; exact .inr ⟨cur, hg7⟩⟩
theorem FarB.of_low {A : Option Addr} {n c : Nat} {l : List Nat} (h : Ints w0 .u8 256 A n c l) (hb : Below w0.heap.size w0 w) : FarB w w0.heap.size ⟨A, n, c, l⟩ := ⟨h.below hb, fun hn ad e => by
  obtain ⟨b, o, e', hb', _⟩ := h.rd.at_ hn
  have e : A = some ad := e
  rw [e'] at e; cases e; exact .inl hb'⟩

/-- Whatever turns none of its blocks leaves it. -/
theorem WE.ch (E : WE w0 w g s bl ys rd) (h : Ch w0.heap.size w w' S) (hS : ∀ k ∈ S, ∀ t cs, ¬ Blk w k t cs) : WE w0 w' g s bl ys rd := by
  obtain ⟨T, D, hT, hb0, hB, hN, hY, hP, hR⟩ := E.ex
  have hno : ∀ {k : Nat} {t : TypeId} {cs : Array Value}, Blk w k t cs → k ∉ S := fun hb hk => hS _ hk _ _ hb
  refine ⟨T, h.disk D (fun k hk => by obtain ⟨t, cs, hb, _⟩ := D.no.no k hk; exact hno hb), hT, h.below (B := 0) hb0 hb0.size, fun b hb => ⟨h.blk (hB b hb).1 (hno (hB b hb).1), (hB b hb).2⟩, hN, fun y hy => ⟨h.row (hY y hy).1 (fun ad e => ?_), (hY y hy).2⟩, hP, fun x hx => h.far (hR x hx) hb0.size⟩
  rcases (hY y hy).1.form with ⟨h7, _⟩ | ⟨k, cur, h7, _, hg7, _⟩
  · rw [h7] at e; cases e
  · rw [h7] at e; cases e; exact hno hg7
theorem WE.below (E : WE w0 w g s bl ys rd) (hb : Below w.heap.size w w') : WE w0 w' g s bl ys rd := E.ch (Ch.of_below hb) (fun _ h => by cases h)
theorem WE.drew (E : WE w0 w g s bl ys rd) : WE w0 w.drew g s bl ys rd := E.below ((Below.refl _ _).drew)
theorem WE.drewN (E : WE w0 w g s bl ys rd) (n : Nat) : WE w0 (w.drewN n) g s bl ys rd := E.below (((Moved.refl w []).drewN n).below0)
theorem WE.alloc (E : WE w0 w g s bl ys rd) (o : Obj) : WE w0 (w.alloc o) g s bl ys rd := E.below ((Below.refl _ _).alloc (Nat.le_refl _) o)
theorem WE.own (E : WE w0 w g s bl ys rd) {row : Option Nat} (hg : w.grownBy w' row) (hr : ∀ r, row = some r → w0.heap.size ≤ r ∧ ∃ o : Obj, w.heap[r]? = some o ∧ o.isCells = false) : WE w0 w' g s bl ys rd := by
  have hno : ∀ k ∈ row.toList, ∀ t cs, ¬ Blk w k t cs := fun k hk t cs hb => by
    obtain ⟨_, o, ho, hc⟩ := hr k (by simpa using hk)
    rw [hb.is] at ho; cases ho; cases hc
  exact E.ch (S := row.toList) ⟨hg.os, hg.tape, hg.output, hg.size, fun k hk hs => hg.block k hk (fun e => hs (by simp [← e])), fun k hk => ⟨(hr k (by simpa using hk)).1, fun cs => hno k hk _ _⟩⟩ hno
/-- A block that was just laid. -/
theorem WE.add (E : WE w0 w g s bl ys rd) (ty : TypeId) (cs : Array Value) (hty : ty ≠ 5) : WE w0 (w.alloc (.cells cs ty)) g s ((w.heap.size, ty, cs) :: bl) ys rd := by
  have E' := E.alloc (.cells cs ty)
  obtain ⟨T, D, hT, hb0, hB, hN, hY, hP, hR⟩ := E.ex
  obtain ⟨_, _, _, _, hB0, _⟩ := E.ex
  have hb : Below w.heap.size w (w.alloc (.cells cs ty)) := (Below.refl _ _).alloc (Nat.le_refl _) _
  have hc : Ch w0.heap.size w (w.alloc (.cells cs ty)) [] := Ch.of_below hb
  refine ⟨T, D.below hb, hT, below_step hb0 hb hb0.size, fun b h => ?_, ?_, fun y hy => ⟨(hY y hy).1.below hb, (hY y hy).2.1, fun ad e => ⟨((hY y hy).2.2 ad e).1, fun b h => ?_⟩⟩, hP, fun x hx => hc.far (hR x hx) hb0.size⟩
  · rcases List.mem_cons.1 h with rfl | h
    · exact ⟨Blk.new .., hty, fun hk => by have := D.lt _ hk; dsimp only at this; omega, hb0.size⟩
    · exact ⟨(hB b h).1.below hb (hB b h).1.lt, (hB b h).2⟩
  · rw [List.map_cons, List.nodup_cons]
    refine ⟨fun hm => ?_, hN⟩
    obtain ⟨b, hb1, hb2⟩ := List.mem_map.1 hm
    have := (hB b hb1).1.lt
    dsimp only at hb2
    omega
  · have hlt := ((hY y hy).1.lt ad e).2
    rcases List.mem_cons.1 h with rfl | h
    · dsimp only; omega
    · exact ((hY y hy).2.2 ad e).2 b h
/-- Bytes that lie there. -/
theorem WE.see (E : WE w0 w g s bl ys rd) {x : BEl} (hx : FarB w w0.heap.size x) : WE w0 w g s bl ys (x :: rd) := by
  obtain ⟨T, D, hT, hb0, hB, hN, hY, hP, hR⟩ := E.ex
  exact ⟨T, D, hT, hb0, hB, hN, hY, hP, fun y hy => by
    rcases List.mem_cons.1 hy with rfl | hy
    · exact hx
    · exact hR y hy⟩
theorem WE.sees (E : WE w0 w g s bl ys rd) {xs : List BEl} (hx : ∀ x ∈ xs, FarB w w0.heap.size x) : WE w0 w g s bl ys (xs ++ rd) := by
  obtain ⟨T, D, hT, hb0, hB, hN, hY, hP, hR⟩ := E.ex
  exact ⟨T, D, hT, hb0, hB, hN, hY, hP, fun y hy => by
    rcases List.mem_append.1 hy with hy | hy
    · exact hx y hy
    · exact hR y hy⟩
theorem WE.low (E : WE w0 w g s bl ys rd) {A : Option Addr} {n c : Nat} {l : List Nat} (h : Ints w0 .u8 256 A n c l) : WE w0 w g s bl ys (⟨A, n, c, l⟩ :: rd) := E.see (FarB.of_low h E.bel)
theorem WE.farm (E : WE w0 w g s bl ys rd) {x : BEl} (hx : x ∈ rd) : FarB w w0.heap.size x := by
  obtain ⟨T, D, hT, hb0, hB, hN, hY, hP, hR⟩ := E.ex
  exact hR x hx
/-- Less is known of it. -/
theorem WE.pick (E : WE w0 w g s bl ys rd) {bl' : List WBk} {ys' : List WRow} {rd' : List BEl} (h1 : bl'.Sublist bl) (h2 : ys'.Sublist ys) (h3 : ∀ x ∈ rd', x ∈ rd) : WE w0 w g s bl' ys' rd' := by
  obtain ⟨T, D, hT, hb0, hB, hN, hY, hP, hR⟩ := E.ex
  exact ⟨T, D, hT, hb0, fun b hb => hB b (h1.subset hb), (h1.map _).nodup hN, fun y hy => ⟨(hY y (h2.subset hy)).1, (hY y (h2.subset hy)).2.1, fun ad e => ⟨((hY y (h2.subset hy)).2.2 ad e).1, fun b hb => ((hY y (h2.subset hy)).2.2 ad e).2 b (h1.subset hb)⟩⟩, hP.sublist h2, fun x hx => hR x (h3 x hx)⟩
theorem nodup_ne {bl : List WBk} (h : (bl.map (·.1)).Nodup) {i j : Nat} {b b' : WBk} (hi : bl[i]? = some b) (hj : bl[j]? = some b') (hne : i ≠ j) : b.1 ≠ b'.1 := by
  intro e
  have h1 : (bl.map (·.1))[i]? = some b.1 := by rw [List.getElem?_map, hi]; rfl
  have h2 : (bl.map (·.1))[j]? = some b.1 := by rw [List.getElem?_map, hj, Option.map_some, e]
  obtain ⟨l1, e1⟩ := List.getElem?_eq_some_iff.1 h1
  obtain ⟨l2, e2⟩ := List.getElem?_eq_some_iff.1 h2
  rcases Nat.lt_or_gt_of_ne hne with hlt | hlt
  · exact List.pairwise_iff_getElem.1 h i j l1 l2 hlt (e1.trans e2.symm)
  · exact List.pairwise_iff_getElem.1 h j i l2 l1 hlt (e2.trans e1.symm)
theorem Ch.setCell {p : Addr} {t : TypeId} {cs : Array Value} (h : Blk w p.block t cs) (ht : t ≠ 5) (hb : base ≤ p.block) (u : Value) : Ch base w (w.setCell p u) [p.block] :=
  ⟨rfl, rfl, rfl, by simp [World.setCell], fun k _ hs => heap_setCell_other w p k u (fun e => hs (by simp [e])), fun k hk => by
    rw [List.mem_singleton] at hk
    subst hk
    exact ⟨hb, fun cs' h' => (h.type_ne h' ht) rfl⟩⟩
/-- A store into one of its blocks. -/
theorem WE.set (E : WE w0 w g s bl ys rd) (i j : Nat) {a : Nat} {t : TypeId} {cs : Array Value} (hi : bl[i]? = some (a, t, cs)) (u : Value) : WE w0 (w.setCell ⟨a, j, none⟩ u) g s (bl.set i (a, t, cs.setIfInBounds j u)) ys rd := by
  obtain ⟨T, D, hT, hb0, hB, hN, hY, hP, hR⟩ := E.ex
  have hb := hB _ (List.mem_of_getElem? hi)
  have hc : Ch w0.heap.size w (w.setCell ⟨a, j, none⟩ u) [a] := Ch.setCell (p := ⟨a, j, none⟩) hb.1 hb.2.1 hb.2.2.2 u
  have hil : i < bl.length := (List.getElem?_eq_some_iff.1 hi).1
  have hmap : (bl.set i (a, t, cs.setIfInBounds j u)).map (·.1) = bl.map (·.1) := by
    rw [List.map_set]
    refine List.ext_getElem? fun k => ?_
    rw [List.getElem?_set]
    split
    · next hk =>
      subst hk
      rw [List.getElem?_map, hi, if_pos (by simpa using hil)]
      rfl
    · rfl
  refine ⟨T, hc.disk D (fun k hk e => by rw [List.mem_singleton] at e; subst e; exact hb.2.2.1 hk), hT, hc.below (B := 0) hb0 hb0.size, fun b h => ?_, by rw [hmap]; exact hN, fun y hy => ⟨hc.row (hY y hy).1 (fun ad e => ?_), (hY y hy).2.1, fun ad e => ⟨((hY y hy).2.2 ad e).1, fun b h => ?_⟩⟩, hP, fun x hx => hc.far (hR x hx) hb0.size⟩
  · obtain ⟨k, hk⟩ := List.mem_iff_getElem?.1 h
    rw [List.getElem?_set] at hk
    split at hk
    · next hik =>
      subst hik
      (try rw [if_pos hil] at hk)
      cases hk
      exact ⟨hb.1.set_ j u, hb.2⟩
    · next hik =>
      have h1 := hB b (List.mem_of_getElem? hk)
      exact ⟨hc.blk h1.1 (fun e => by rw [List.mem_singleton] at e; exact nodup_ne hN hk hi (fun e => hik e.symm) e), h1.2⟩
  · intro e2
    rw [List.mem_singleton] at e2
    exact ((hY y hy).2.2 ad e).2 _ (List.mem_of_getElem? hi) e2.symm
  · have h1 := ((hY y hy).2.2 ad e).2
    rcases List.mem_or_eq_of_mem_set h with h | rfl
    · exact h1 b h
    · exact h1 (a, t, cs) (List.mem_of_getElem? hi)
/-- A turn of the disk. -/
theorem WE.disk1 (D : DiskAt w T g s) (hT : ∀ k ∈ T, w0.heap.size ≤ k) (hb0 : Below w0.heap.size w0 w) (hB : ∀ b ∈ bl, Blk w b.1 b.2.1 b.2.2 ∧ b.2.1 ≠ 5 ∧ b.1 ∉ T ∧ w0.heap.size ≤ b.1) (hN : (bl.map (·.1)).Nodup)
    (hY : ∀ y ∈ ys, OwnR w w0.heap.size y.ty y.sz y.A y.n y.c y.vs ∧ y.ty ≠ 5 ∧ ∀ ad, y.A = some ad → ad.block ∉ T ∧ ∀ b ∈ bl, b.1 ≠ ad.block) (hP : ys.Pairwise fun x y => Dis x.A y.A) (hR : ∀ x ∈ rd, FarB w w0.heap.size x)
    (D' : DiskAt w' T' g s') (hm : Moved w w' T T') : WE w0 w' g s' bl ys rd := by
  have hc : Ch w0.heap.size w w' T := ⟨hm.os, hm.tape, hm.output, hm.size, hm.block, fun k hk => ⟨hT k hk, fun cs hb => by
    obtain ⟨t, cs', hb', ht⟩ := D.no.no k hk
    exact (hb'.type_ne hb ht) rfl⟩⟩
  exact ⟨T', D', fun k hk => (hm.new k hk).elim (hT k) (fun h => by have := hb0.size; omega), hc.below (B := 0) hb0 hb0.size, fun b h => ⟨hc.blk (hB b h).1 (hB b h).2.2.1, (hB b h).2.1, hm.apart (hB b h).1.lt (hB b h).2.2.1, (hB b h).2.2.2⟩, hN,
    fun y hy => ⟨hc.row (hY y hy).1 (fun ad e => ((hY y hy).2.2 ad e).1), (hY y hy).2.1, fun ad e => ⟨hm.apart ((hY y hy).1.lt ad e).2 ((hY y hy).2.2 ad e).1, ((hY y hy).2.2 ad e).2⟩⟩, hP, fun x hx => hc.far (hR x hx) hb0.size⟩
theorem WE.at_ (E : WE w0 w g s bl ys rd) : ∃ T, DiskAt w T g s ∧ ∀ k ∈ T, w0.heap.size ≤ k := by
  obtain ⟨T, D, hT, _⟩ := E.ex
  exact ⟨T, D, hT⟩
/-- A row that a call laid. -/
theorem WE.fresh (E : WE w0 w g s bl ys rd) (hb : Below w.heap.size w w') {ty : TypeId} {sz n c : Nat} {A : Option Addr} {vs : List Value} (ho : OwnR w' w.heap.size ty sz A n c vs) (hty : ty ≠ 5) : WE w0 w' g s bl (⟨ty, sz, A, n, c, vs⟩ :: ys) rd := by
  have hsz := E.size
  have E' := E.below hb
  obtain ⟨T0, D0, hT0, hb00, hB0, hN0, hY0, hP0, hR0⟩ := E.ex
  have hc : Ch w0.heap.size w w' [] := Ch.of_below hb
  refine ⟨T0, D0.below hb, hT0, below_step hb00 hb hsz, fun b h => ⟨(hB0 b h).1.below hb (hB0 b h).1.lt, (hB0 b h).2⟩, hN0, fun y hy => ?_, ?_, fun x hx => hc.far (hR0 x hx) hsz⟩
  · rcases List.mem_cons.1 hy with rfl | hy
    · refine ⟨ho.mono hsz, hty, fun ad e => ?_⟩
      have h1 := (ho.lt ad e).1
      exact ⟨fun hk => by have := D0.lt _ hk; omega, fun b h e2 => by have := (hB0 b h).1.lt; omega⟩
    · exact ⟨(hY0 y hy).1.below hb, (hY0 y hy).2⟩
  · rw [List.pairwise_cons]
    refine ⟨fun y hy => ⟨fun a b ha hb' e => ?_⟩, hP0⟩
    have h1 := (ho.lt a ha).1
    have h2 := ((hY0 y hy).1.lt b hb').2
    omega
theorem WE.nil (E : WE w0 w g s bl ys rd) {ty : TypeId} (sz : Nat) (hty : ty ≠ 5) : WE w0 w g s bl (⟨ty, sz, none, 0, 0, []⟩ :: ys) rd := E.fresh (Below.refl _ _) (OwnR.nil_ ..) hty
theorem Ch.grown {A : Option Addr} {b sz n c : Nat} {t : TypeId} {vs : List Value} (h : OwnR w b t sz A n c vs) (ht : t ≠ 5) (hb : base ≤ b) (hg : w.grownBy w' (A.map (·.block))) : Ch base w w' (Ab A) := by
  refine ⟨hg.os, hg.tape, hg.output, hg.size, fun k hk hs => hg.block k hk (fun e => hs ?_), fun k hk => ?_⟩
  · unfold Ab
    simp [← e]
  · cases A with
    | none => simp [Ab] at hk
    | some ad =>
      have hk : k = ad.block := by simpa [Ab] using hk
      subst hk
      refine ⟨by have := (h.lt ad rfl).1; omega, fun cs hbk => ?_⟩
      exact h.type_ne hbk ht ad rfl rfl
/-- An append to one of its rows. -/
theorem WE.app (E : WE w0 w g s bl ys rd) (i : Nat) {ty : TypeId} {sz n c : Nat} {A : Option Addr} {vs : List Value} (hi : ys[i]? = some ⟨ty, sz, A, n, c, vs⟩) {A' : Option Addr} {n' c' : Nat} {vs' : List Value}
    (ho : OwnR w' w0.heap.size ty sz A' n' c' vs') (hg : w.grownBy w' (A.map (·.block))) (hA : A' = A ∨ A' = some ⟨w.heap.size, 0, none⟩) : WE w0 w' g s bl (ys.set i ⟨ty, sz, A', n', c', vs'⟩) rd := by
  obtain ⟨T, D, hT, hb0, hB, hN, hY, hP, hR⟩ := E.ex
  have h0 := hY _ (List.mem_of_getElem? hi)
  have hc : Ch w0.heap.size w w' (Ab A) := Ch.grown h0.1 h0.2.1 (Nat.le_refl _) hg
  have hmem : ∀ {k : Nat}, k ∈ Ab A → ∃ ad, A = some ad ∧ ad.block = k := fun {k} hk => by
    cases A with
    | none => simp [Ab] at hk
    | some ad => exact ⟨ad, rfl, by have : k = ad.block := by simpa [Ab] using hk
                                    exact this.symm⟩
  have hdis : ∀ j y, j ≠ i → ys[j]? = some y → Dis A y.A := fun j y hj hy => by
    rcases Nat.lt_or_gt_of_ne hj with hlt | hlt
    · have := List.pairwise_iff_getElem.1 hP j i (List.getElem?_eq_some_iff.1 hy).1 (List.getElem?_eq_some_iff.1 hi).1 hlt
      rw [(List.getElem?_eq_some_iff.1 hy).2, (List.getElem?_eq_some_iff.1 hi).2] at this
      exact this.symm
    · have := List.pairwise_iff_getElem.1 hP i j (List.getElem?_eq_some_iff.1 hi).1 (List.getElem?_eq_some_iff.1 hy).1 hlt
      rw [(List.getElem?_eq_some_iff.1 hy).2, (List.getElem?_eq_some_iff.1 hi).2] at this
      exact this
  have hdis' : ∀ j y, j ≠ i → ys[j]? = some y → Dis A' y.A := fun j y hj hy => by
    rcases hA with rfl | rfl
    · exact hdis j y hj hy
    · refine ⟨fun a b ha hb e => ?_⟩
      cases ha
      have := ((hY y (List.mem_of_getElem? hy)).1.lt b hb).2
      dsimp only at e
      omega
  have hil := (List.getElem?_eq_some_iff.1 hi).1
  refine ⟨T, hc.disk D (fun k hk e => ?_), hT, hc.below (B := 0) hb0 hb0.size, fun b h => ⟨hc.blk (hB b h).1 (fun e => ?_), (hB b h).2⟩, hN, fun y hy => ?_, ?_, fun x hx => hc.far (hR x hx) hb0.size⟩
  · obtain ⟨ad, rfl, rfl⟩ := hmem e
    exact (h0.2.2 ad rfl).1 hk
  · obtain ⟨ad, rfl, e2⟩ := hmem e
    exact (h0.2.2 ad rfl).2 b h e2.symm
  · obtain ⟨k, hk⟩ := List.mem_iff_getElem?.1 hy
    rw [List.getElem?_set] at hk
    split at hk
    · (try rw [if_pos hil] at hk)
      cases hk
      refine ⟨ho, h0.2.1, fun ad e => ?_⟩
      rcases hA with rfl | rfl
      · exact h0.2.2 ad e
      · cases e
        exact ⟨fun hk => by have := D.lt _ hk; dsimp only at this; omega, fun b h e2 => by have := (hB b h).1.lt; dsimp only at e2; omega⟩
    · next hik =>
      have h1 := hY y (List.mem_of_getElem? hk)
      refine ⟨hc.row h1.1 (fun ad e hm => ?_), h1.2⟩
      obtain ⟨ad', e', e2⟩ := hmem hm
      exact (hdis k y (fun e => hik e.symm) hk).ne ad' ad e' e e2
  · rw [List.pairwise_iff_getElem]
    intro a b ha hb hab
    rw [List.length_set] at ha hb
    rw [List.getElem_set, List.getElem_set]
    have hPab := List.pairwise_iff_getElem.1 hP a b ha hb hab
    split
    · next e1 =>
      rw [if_neg (by omega)]
      exact hdis' b _ (by omega) (List.getElem?_eq_getElem hb)
    · split
      · next e1 e2 =>
        exact (hdis' a _ (by omega) (List.getElem?_eq_getElem ha)).symm
      · exact hPab
end
end Go.Proofs.YtdlcngmcjidomaaDoor

/- The contracts of seg's small functions: unknown, New, Free, Gen. No condition. -/
namespace Go.Proofs.YtdlcngmcjidomaaDoor
set_option linter.unusedSimpArgs false
set_option linter.unusedVariables false
open Go.RowKit

def segV (g : Nat) (t : SegSt) : Array Value := #[.pointer (some ⟨g, 0, none⟩), .int .i64 (t.first : Int), .int .i64 (t.n : Int), .int .u32 (t.gen : Int), .int .i64 (t.fin : Int), .int .u64 (t.top : Int)]
abbrev segB (h g : Nat) (t : SegSt) : WBk := (h, 67, segV g t)
theorem segV4 (g : Nat) (t : SegSt) (k : Nat) : (segV g t).setIfInBounds 4 (.int .i64 (k : Int)) = segV g { t with fin := k } := rfl
theorem segV5 (g : Nat) (t : SegSt) (k : Nat) : (segV g t).setIfInBounds 5 (.int .u64 (k : Int)) = segV g { t with top := k } := rfl
theorem segV_unk (g : Nat) (t : SegSt) : ((segV g t).setIfInBounds 4 (.int .i64 0)).setIfInBounds 5 (.int .u64 4294967295) = segV g t.unknown := rfl
/-- A segment that may be. -/
structure SegSt.Ok (s : DSt) (t : SegSt) : Prop where
  n1 : 1 ≤ t.n
  fits : t.first + t.n ≤ s.sure.length
  fin : t.fin ≤ t.n
  top : t.top ≤ 4294967295
  gen : t.gen < 4294967296

section
variable {w0 w w' : World} {g h : Nat} {s : DSt} {t : SegSt} {bl : List WBk} {ys : List WRow} {rd : List BEl}
set_option maxRecDepth 100000 in
theorem unknown_any (B : Blk w h 67 (segV g t)) :
    Calls Tryd.prog 32 #[.pointer (some ⟨h, 0, none⟩)] w fun e w' => (∃ v, e = .returned v) ∧ w' = (w.setCell ⟨h, 4, none⟩ (.int .i64 0)).setCell ⟨h, 5, none⟩ (.int .u64 4294967295) := by
  have f4 := B.frozen 4
  have f5 := B.frozen 5
  have c4 : w.cell? ⟨h, 4, none⟩ = some (.int .i64 (t.fin : Int)) := B.cell 4
  have c5 : w.cell? ⟨h, 5, none⟩ = some (.int .u64 (t.top : Int)) := B.cell 5
  clear B
  go_enter Tryd.func32, Tryd.ntmps32
  go_wp2_with fail
  go_end0
  exact ⟨⟨_, rfl⟩, rfl⟩
theorem WE.setEq (E : WE w0 w g s bl ys rd) {bl' : List WBk} (h : bl = bl') : WE w0 w g s bl' ys rd := h ▸ E
theorem unknown_we (E : WE w0 w g s bl ys rd) (i : Nat) (hi : bl[i]? = some (segB h g t)) :
    Calls Tryd.prog 32 #[.pointer (some ⟨h, 0, none⟩)] w fun e w' => (∃ v, e = .returned v) ∧ WE w0 w' g s (bl.set i (segB h g t.unknown)) ys rd := by
  refine (unknown_any (E.b i hi)).mono fun e w' ⟨he, hw⟩ => ⟨he, ?_⟩
  subst hw
  have hil := (List.getElem?_eq_some_iff.1 hi).1
  have E1 := E.set i 4 hi (.int .i64 0)
  have E2 := E1.set i 5 (List.getElem?_set_self hil) (.int .u64 4294967295)
  rw [List.set_set, segV_unk] at E2
  exact E2
set_option maxRecDepth 100000 in
theorem free_any (B : Blk w h 67 (segV g t)) (hf : t.fin ≤ t.n) (hn : t.n ≤ 512) :
    Calls Tryd.prog 16 #[.pointer (some ⟨h, 0, none⟩)] w fun e w' => e = .returned (.int .i64 ((t.n - t.fin : Nat) : Int)) ∧ ∃ q, w' = w.drewN q := by
  have c2 : w.cell? ⟨h, 2, none⟩ = some (.int .i64 (t.n : Int)) := B.cell 2
  have c4 : w.cell? ⟨h, 4, none⟩ = some (.int .i64 (t.fin : Int)) := B.cell 4
  have hr : IntKind.i64.wrap ((t.n : Int) - (t.fin : Int)) = ((t.n - t.fin : Nat) : Int) := by rw [IntWalk.i64_in _ (by omega)]; omega
  clear B hf hn
  go_enter Tryd.func16, Tryd.ntmps16
  go_wp2_with (go_quiet (fail))
  go_ret
  exact ⟨rfl, _, rfl⟩
set_option maxRecDepth 100000 in
theorem gen_any (B : Blk w h 67 (segV g t)) :
    Calls Tryd.prog 30 #[.pointer (some ⟨h, 0, none⟩)] w fun e w' => e = .returned (.int .u32 (t.gen : Int)) ∧ w' = w := by
  have c3 : w.cell? ⟨h, 3, none⟩ = some (.int .u32 (t.gen : Int)) := B.cell 3
  clear B
  go_enter Tryd.func30, Tryd.ntmps30
  go_wp2_with fail
  go_ret
  exact ⟨rfl, rfl⟩
set_option maxRecDepth 100000 in
set_option maxHeartbeats 1600000 in
theorem segnew_we (E : WE w0 w g s bl ys rd) (first n gen : Nat) (hn : 1 ≤ n) (hf : first + n ≤ s.sure.length) (hg : gen < 4294967296) :
    Calls Tryd.prog 12 #[.pointer (some ⟨g, 0, none⟩), .int .i64 (first : Int), .int .i64 (n : Int), .int .u32 (gen : Int)] w fun e w' => ∃ h, e = .returned (.tuple #[.pointer (some ⟨h, 0, none⟩), .int .i64 0]) ∧ w.heap.size ≤ h ∧ WE w0 w' g s (segB h g ⟨first, n, gen, 0, 4294967295⟩ :: bl) ys rd ∧ Below w.heap.size w w' := by
  have hm := E.wf.most
  obtain ⟨T, D, _⟩ := E.at_
  have hsec := sectors_any D
  obtain ⟨L, hL⟩ : ∃ L, s.sure.length = L := ⟨_, rfl⟩
  rw [hL] at hm hf hsec
  have q1 : ¬ (n : Int) < 1 := by omega
  have q1d : decide ((n : Int) < 1) = false := decide_eq_false q1
  have q2 : ¬ (first : Int) < 0 := by omega
  have q2d : decide ((first : Int) < 0) = false := decide_eq_false q2
  have q3 : ¬ (L : Int) < (first : Int) := by omega
  have q3d : decide ((L : Int) < (first : Int)) = false := decide_eq_false q3
  have hw : IntKind.i64.wrap ((L : Int) - (first : Int)) = ((L - first : Nat) : Int) := by rw [IntWalk.i64_in _ (by omega)]; omega
  have hw' : wrap64 ((L : Int) - (first : Int)) = ((L - first : Nat) : Int) := by rw [IntWalk.wrap64_in _ (by omega)]; omega
  have q4 : ¬ ((L - first : Nat) : Int) < (n : Int) := by omega
  have q4d : decide (((L - first : Nat) : Int) < (n : Int)) = false := decide_eq_false q4
  have E1 := E.add 67 #[.pointer (some ⟨g, 0, none⟩), .int .i64 (first : Int), .int .i64 (n : Int), .int .u32 (gen : Int), .int .i64 0, .int .u64 0] (by decide)
  have E3 := (E.add 67 (segV g ⟨first, n, gen, 0, 4294967295⟩) (by decide))
  have HF := Lib.hid (And.intro E3 ((Below.refl _ w).alloc (Nat.le_refl _) (.cells (segV g ⟨first, n, gen, 0, 4294967295⟩) 67)))
  have HE := Lib.hid (And.intro E1 ((Below.refl _ w).alloc (Nat.le_refl _) (.cells #[.pointer (some ⟨g, 0, none⟩), .int .i64 (first : Int), .int .i64 (n : Int), .int .u32 (gen : Int), .int .i64 0, .int .u64 0] 67)))
  clear E E1 E3 hm hf hL D
  go_enter Tryd.func12, Tryd.ntmps12
  go_wp2_with fail
  refine hsec.mono ?_; rintro e w1 ⟨rfl, rfl⟩
  go_wp2_with fail
  refine hsec.mono ?_; rintro e w1 ⟨rfl, rfl⟩
  clear hsec
  go_wp2_with fail
  refine (unknown_any (t := ⟨first, n, gen, 0, 0⟩) (HE.out.1.b 0 rfl)).mono ?_; rintro e w2 ⟨⟨_, rfl⟩, rfl⟩
  clear HE
  go_wp2_with fail
  go_ret2
  exact ⟨w.heap.size, rfl, Nat.le_refl _, HF.out.1, HF.out.2⟩
set_option maxRecDepth 100000 in
set_option maxHeartbeats 1600000 in
theorem segnew_no {T : List Nat} (D : DiskAt w T g s) (first n gen : Nat) (hn : 1 ≤ n) (hf : s.sure.length < first + n) (hfl : first ≤ s.sure.length) (hnb : n ≤ 512) :
    Calls Tryd.prog 12 #[.pointer (some ⟨g, 0, none⟩), .int .i64 (first : Int), .int .i64 (n : Int), .int .u32 (gen : Int)] w fun e w' => e = .returned (.tuple #[.pointer none, .int .i64 1]) ∧ w' = w := by
  have hm := D.wf.most
  have hsec := sectors_any D
  obtain ⟨L, hL⟩ : ∃ L, s.sure.length = L := ⟨_, rfl⟩
  rw [hL] at hm hf hsec hfl
  have q1 : ¬ (n : Int) < 1 := by omega
  have q1d : decide ((n : Int) < 1) = false := decide_eq_false q1
  have q2 : ¬ (first : Int) < 0 := by omega
  have q2d : decide ((first : Int) < 0) = false := decide_eq_false q2
  have q3 : ¬ (L : Int) < (first : Int) := by omega
  have q3d : decide ((L : Int) < (first : Int)) = false := decide_eq_false q3
  have hw : IntKind.i64.wrap ((L : Int) - (first : Int)) = ((L - first : Nat) : Int) := by rw [IntWalk.i64_in _ (by omega)]; omega
  have hw' : wrap64 ((L : Int) - (first : Int)) = ((L - first : Nat) : Int) := by rw [IntWalk.wrap64_in _ (by omega)]; omega
  have q4 : ((L - first : Nat) : Int) < (n : Int) := by omega
  have q4d : decide (((L - first : Nat) : Int) < (n : Int)) = true := decide_eq_true q4
  clear hm hf hL D hfl
  go_enter Tryd.func12, Tryd.ntmps12
  go_wp2_with fail
  refine hsec.mono ?_; rintro e w1 ⟨rfl, rfl⟩
  go_wp2_with fail
  refine hsec.mono ?_; rintro e w1 ⟨rfl, rfl⟩
  clear hsec
  go_wp2_with fail
  go_ret2
  exact ⟨rfl, rfl⟩
end
end Go.Proofs.YtdlcngmcjidomaaDoor

/- The cells of a segment, one by one. No condition. -/
namespace Go.Proofs.YtdlcngmcjidomaaDoor
set_option linter.unusedSimpArgs false
set_option linter.unusedVariables false
open Go.RowKit Go.Shelf
attribute [local go_sem] Oper.semAt_some

/-- What the iterator reads. -/
structure Src (W : World) (g h Bc first n : Nat) (s : DSt) : Prop where
  disk : ∃ T, DiskAt W T g s
  seg : ∃ gn e tp, Blk W h 67 (segV g ⟨first, n, gn, e, tp⟩)
  box : Blk W Bc 28 #[.pointer (some ⟨h, 0, none⟩)]
def CTold.At (s : DSt) (first k : Nat) : List Nat × Int := s.read ((first : Int) + (k : Int))
/-- What it tells. -/
structure CTold (s : DSt) (first n k : Nat) (x : Nat × CEl) (W : World) : Prop where
  lt : k < n
  i : x.1 = k
  is : x.2.x = Cl.dec (s.read ((first + k : Nat) : Int)).1
  in_ : x.2.In W
  fi : FI W x.2.A x.2.n x.2.c x.2.x.data
def clEnc (x : Nat × CEl) : Array Value := #[.int .i64 (x.1 : Int), .agg #[.int .u32 (x.2.x.gen : Int), .int .u32 (x.2.x.seq : Int), .int .i64 x.2.x.part, .int .i64 x.2.x.parts, .slice x.2.A x.2.n x.2.c]]
theorem read_len2 {s : DSt} (h : s.Wf) (i : Int) : (s.read i).1.length ≤ 64 := by
  have hc : ∀ k, (s.cur k).length ≤ 64 := fun k => by
    unfold DSt.cur
    have h1 : ∀ (p : List (Nat × List Nat)) (d : List Nat), (∀ x ∈ p, x.2.length = 64) → d.length ≤ 64 → (DSt.lastOf p k d).length ≤ 64 := by
      intro p
      induction p with
      | nil => intro d _ hd; exact hd
      | cons x xs ih =>
        intro d hx hd
        rw [DSt.lastOf_cons]
        refine ih _ (fun y hy => hx y (List.mem_cons_of_mem _ hy)) ?_
        split
        · rw [hx x (List.mem_cons_self ..)]; exact Nat.le_refl _
        · exact hd
    refine h1 _ _ (fun x hx => (h.pend x hx).2) ?_
    rw [List.getD_eq_getElem?_getD]
    cases hk : s.sure[k]? with
    | none => exact Nat.zero_le _
    | some l => rcases h.sure l (List.mem_of_getElem? hk) with e | e <;> simp [e]
  unfold DSt.read
  split
  · exact Nat.zero_le _
  · split
    · split
      · exact Nat.zero_le _
      · exact hc _
    · exact Nat.zero_le _
theorem dec_rng {l : List Nat} (hl : ∀ x ∈ l, x < 256) : (-9223372036854775808 ≤ (Cl.dec l).part ∧ (Cl.dec l).part ≤ 9223372036854775807) ∧ (-9223372036854775808 ≤ (Cl.dec l).parts ∧ (Cl.dec l).parts ≤ 9223372036854775807) ∧ (Cl.dec l).data.length ≤ l.length := by
  have hg : ∀ i, l.getD i 0 < 256 := fun i => by
    rw [List.getD_eq_getElem?_getD]
    cases h : l[i]? with
    | none => exact Nat.zero_lt_succ _
    | some x => exact hl x (List.mem_of_getElem? h)
  unfold Cl.dec
  split
  · have h1 := hg 12
    have h2 := hg 13
    refine ⟨⟨?_, ?_⟩, ⟨?_, ?_⟩, ?_⟩
    · show _ ≤ ((l.getD 12 0 : Nat) : Int); omega
    · show ((l.getD 12 0 : Nat) : Int) ≤ _; omega
    · show _ ≤ ((l.getD 13 0 : Nat) : Int); omega
    · show ((l.getD 13 0 : Nat) : Int) ≤ _; omega
    · show ((l.drop 15).take _).length ≤ _
      rw [List.length_take, List.length_drop]; omega
  · exact ⟨by decide, by decide, Nat.zero_le _⟩
/-- A struct's store leaves bytes as they are. -/
theorem FI.put {w w' : World} {A : Option Addr} {n c k : Nat} {l : List Nat} {cs : Array Value} (h : FI w A n c l) (hg : w.grownBy w' (some k)) (hk : Blk w k 73 cs) : FI w' A n c l := by
  have hne : 0 < n → ∀ ad, A = some ad → ∃ cs', Blk w ad.block 5 cs' ∧ ad.block ≠ k := fun hn ad e => by
    obtain ⟨cs', hb⟩ := h.far hn ad e
    exact ⟨cs', hb, hb.type_ne hk (by decide)⟩
  refine ⟨⟨⟨h.ints.rd.len, h.ints.rd.cap, fun hn => ?_⟩, h.ints.lt⟩, fun hn ad e => ?_⟩
  · obtain ⟨b, o, e, hb, hc⟩ := h.ints.rd.at_ hn
    obtain ⟨cs', hb', hne'⟩ := hne hn _ e
    exact ⟨b, o, e, Nat.lt_of_lt_of_le hb hg.size, fun j u hu => (World.cell?_of_block (a := ⟨b, o + j, none⟩) (hg.block b hb (fun e => hne' (by injection e)))).trans (hc j u hu)⟩
  · obtain ⟨cs', hb', hne'⟩ := hne hn _ e
    exact ⟨cs', hb'.grown hg (fun e => hne' (by injection e))⟩
theorem dec_read {s : DSt} {i : Int} (h : (s.read i).2 ≠ 0) : Cl.dec (s.read i).1 = Cl.zero := by
  have e : (s.read i).1 = [] := by
    revert h
    unfold DSt.read
    split
    · intro _; rfl
    · split
      · split
        · intro _; rfl
        · intro h; exact absurd rfl h
      · intro _; rfl
  rw [e, SegSt.dec_nil]

set_option maxRecDepth 100000 in
theorem cells_any (h : Nat) (w : World) :
    Calls Tryd.prog 34 #[.pointer (some ⟨h, 0, none⟩)] w fun e w' => e = .returned (.func (.func 55) #[] #[.pointer (some ⟨w.heap.size, 0, none⟩)]) ∧ w' = w.alloc (.cells #[.pointer (some ⟨h, 0, none⟩)] 28) := by
  have hmf : ∀ (fn : Fn) (first cap : Array Value) (w : World), (Instr.makeFunc fn first cap).run Tryd.prog w = .ok (.func fn first cap) w := fun _ _ _ _ => rfl
  go_enter Tryd.func34, Tryd.ntmps34
  go_wp2_with fail
  go_ret
  exact ⟨rfl, rfl⟩

set_option maxRecDepth 100000 in
set_option maxHeartbeats 6400000 in
theorem cells1_in (m : Nat) (hm : 1 ≤ m) (l Bc g h first n : Nat) (s : DSt) (hf : first + n ≤ 512) (J : List (Nat × CEl) → World → Prop)
    (hJ : ∀ p A B, J p A → Below A.heap.size A B → J p B) (hS : ∀ p A, J p A → Src A g h Bc first n s)
    (hY : ∀ pre x W, J pre W → CTold s first n pre.length x W → YieldAt Fence.wide (m - 1) Tryd.prog l (clEnc x) W fun e W' => e = .returned (.bool true) ∧ J (pre ++ [x]) W')
    (W : World) (h0 : J [] W) :
    CallsIn Fence.wide m Tryd.prog 55 #[.func (.yield l) #[] #[], .pointer (some ⟨Bc, 0, none⟩)] W fun e W' => (∃ v, e = .returned v) ∧ ∃ xs, J xs W' ∧ xs.length = n := by
  have S0 := hS _ _ h0
  obtain ⟨gn, e, tp, hB0⟩ := S0.seg
  have cb : W.cell? ⟨Bc, 0, none⟩ = some (.pointer (some ⟨h, 0, none⟩)) := S0.box.cell 0
  have c2 : W.cell? ⟨h, 2, none⟩ = some (.int .i64 (n : Int)) := hB0.cell 2
  clear hB0 S0
  refine callsIn_of_wp Tryd.func55 rfl trivial ?_ rfl
  simp only [Tryd.ntmps55, List.size_toArray, List.length_cons, List.length_nil, Nat.reduceAdd, Nat.reduceSub, Array.replicate_succ, Array.replicate_zero, List.push_toArray, List.append_toArray, List.nil_append, List.cons_append]
  gi_wp2
  clear cb c2
  gi_loopw [11] (fun i wr => ∃ pre : List (Nat × CEl), pre.length ≤ n ∧ i = .int .i64 (pre.length : Int) ∧ J pre wr) (fun i _ => n - (intOf i).toNat)
  case atStart => exact ⟨[], Nat.zero_le _, rfl, h0⟩
  case round =>
    obtain ⟨pre, hk, rfl, hJs⟩ := hrel
    obtain ⟨k, hkk⟩ : ∃ k, pre.length = k := ⟨_, rfl⟩
    have HK := Lib.hid hkk
    rw [hkk] at hk ⊢
    clear hkk
    by_cases hlt : k < n
    · have hlti : (k : Int) < (n : Int) := by omega
      have S1 := hS _ _ hJs
      obtain ⟨T, D⟩ := S1.disk
      obtain ⟨gn, e, tp, hB⟩ := S1.seg
      have hBx := S1.box
      have hZ := Blk.new wr 73 #[.int .u32 0, .int .u32 0, .int .i64 0, .int .i64 0, .slice none 0 0]
      have hbz : Below wr.heap.size wr (wr.alloc (.cells #[.int .u32 0, .int .u32 0, .int .i64 0, .int .i64 0, .slice none 0 0] 73)) := (Below.refl _ _).alloc (Nat.le_refl _) _
      have hlb := hB.lt
      have hlx := hBx.lt
      have HH := Lib.hid (And.intro hJs (And.intro (D.below hbz) (And.intro (hB.below hbz hlb) (And.intro (hBx.below hbz hlx) (And.intro hZ hbz)))))
      clear hJs S1 D hB hBx hZ hbz
      gi_wp2
      refine wpIn_wide.2 ?_
      have hw : IntKind.i64.wrap ((first : Int) + (k : Int)) = ((first + k : Nat) : Int) := by rw [IntWalk.i64_in _ (by omega)]; omega
      have hj := HH.out.1
      have D3 := HH.out.2.1.below ((Below.refl _ _).drew)
      have hB := HH.out.2.2.1.drew
      have hBx := HH.out.2.2.2.1.drew
      have hZ := HH.out.2.2.2.2.1.drew
      have hbz := HH.out.2.2.2.2.2.drew
      have c0 := hB.cell 0
      have c1 := hB.cell 1
      have cb := hBx.cell 0
      simp only [segV, List.getElem?_toArray, List.getElem?_cons_zero, List.getElem?_cons_succ] at c0 c1 cb
      have s0 : (fun W : World => W.cell? ⟨Bc, 0, none⟩ = some (.pointer (some ⟨h, 0, none⟩)) ∧ W.cell? ⟨h, 0, none⟩ = some (.pointer (some ⟨g, 0, none⟩)) ∧ W.cell? ⟨h, 1, none⟩ = some (.int .i64 (first : Int))) _ := ⟨cb, c0, c1⟩
      have LT := Lib.hid (And.intro hBx.lt hB.lt)
      have HH2 := Lib.hid (And.intro hj (And.intro hBx (And.intro hB (And.intro hZ hbz))))
      clear HH hj hB hBx hbz hZ c0 c1 cb
      generalize hwd : World.drew _ = w5 at *
      refine wp_region_late [] (fun W : World => W.cell? ⟨Bc, 0, none⟩ = some (.pointer (some ⟨h, 0, none⟩)) ∧ W.cell? ⟨h, 0, none⟩ = some (.pointer (some ⟨g, 0, none⟩)) ∧ W.cell? ⟨h, 1, none⟩ = some (.int .i64 (first : Int))) (by kernel_rfl) ?_
      rw [hwd]
      clear hwd
      refine wpAnyL_take (i := 0) (v := ?_) rfl (by kernel_rfl) (by kernel_rfl) (by kernel_rfl) (by kernel_rfl) (by kernel_rfl) (fun _ _ _ h => h) (Or.inl ⟨by kernel_rfl, ?_⟩) s0 ?_
      rotate_left
      · rintro w0 ⟨h1_, h2_, h3_⟩; go_simp; (try with_reducible rfl)
      try simp only [Act.put, List.getElem_toArray, List.getElem_cons_succ, List.getElem_cons_zero, List.setIfInBounds_toArray, List.set_cons_zero, List.set_cons_succ]
      refine wpAnyL_take (i := 1) (v := ?_) rfl (by kernel_rfl) (by kernel_rfl) (by kernel_rfl) (by kernel_rfl) (by kernel_rfl) (fun _ _ _ h => h) (Or.inl ⟨by kernel_rfl, ?_⟩) s0 ?_
      rotate_left
      · rintro w0 ⟨h1_, h2_, h3_⟩; go_simp; (try with_reducible rfl)
      try simp only [Act.put, List.getElem_toArray, List.getElem_cons_succ, List.getElem_cons_zero, List.setIfInBounds_toArray, List.set_cons_zero, List.set_cons_succ]
      refine wpAnyL_take (i := 2) (v := ?_) rfl (by kernel_rfl) (by kernel_rfl) (by kernel_rfl) (by kernel_rfl) (by kernel_rfl) (fun _ _ _ h => h) (Or.inl ⟨by kernel_rfl, ?_⟩) s0 ?_
      rotate_left
      · rintro w0 ⟨h1_, h2_, h3_⟩; go_simp; (try with_reducible rfl)
      try simp only [Act.put, List.getElem_toArray, List.getElem_cons_succ, List.getElem_cons_zero, List.setIfInBounds_toArray, List.set_cons_zero, List.set_cons_succ]
      refine wpAnyL_take (i := 3) (v := ?_) rfl (by kernel_rfl) (by kernel_rfl) (by kernel_rfl) (by kernel_rfl) (by kernel_rfl) (fun _ _ _ h => h) (Or.inl ⟨by kernel_rfl, ?_⟩) s0 ?_
      rotate_left
      · rintro w0 ⟨h1_, h2_, h3_⟩; go_simp; (try with_reducible rfl)
      try simp only [Act.put, List.getElem_toArray, List.getElem_cons_succ, List.getElem_cons_zero, List.setIfInBounds_toArray, List.set_cons_zero, List.set_cons_succ]
      refine wpAnyL_take (i := 4) (v := ?_) rfl (by kernel_rfl) (by kernel_rfl) (by kernel_rfl) (by kernel_rfl) (by kernel_rfl) (fun _ _ _ h => h) (Or.inl ⟨by kernel_rfl, ?_⟩) s0 ?_
      rotate_left
      · rintro w0 ⟨h1_, h2_, h3_⟩; go_simp; (try with_reducible rfl)
      try simp only [Act.put, List.getElem_toArray, List.getElem_cons_succ, List.getElem_cons_zero, List.setIfInBounds_toArray, List.set_cons_zero, List.set_cons_succ]
      refine wpAnyL_take (i := 5) (v := ?_) rfl (by kernel_rfl) (by kernel_rfl) (by kernel_rfl) (by kernel_rfl) (by kernel_rfl) (fun _ _ _ h => h) (Or.inl ⟨by kernel_rfl, ?_⟩) s0 ?_
      rotate_left
      · rintro w0 ⟨h1_, h2_, h3_⟩; go_simp; (try with_reducible rfl)
      try simp only [Act.put, List.getElem_toArray, List.getElem_cons_succ, List.getElem_cons_zero, List.setIfInBounds_toArray, List.set_cons_zero, List.set_cons_succ]
      refine wpAnyL_take (i := 6) (v := ?_) rfl (by kernel_rfl) (by kernel_rfl) (by kernel_rfl) (by kernel_rfl) (by kernel_rfl) (fun _ _ _ h => h) (Or.inl ⟨by kernel_rfl, ?_⟩) s0 ?_
      rotate_left
      · rintro w0 ⟨h1_, h2_, h3_⟩; go_simp; (try with_reducible rfl)
      try simp only [Act.put, List.getElem_toArray, List.getElem_cons_succ, List.getElem_cons_zero, List.setIfInBounds_toArray, List.set_cons_zero, List.set_cons_succ]
      refine wpAnyL_take (i := 7) (v := ?_) rfl (by kernel_rfl) (by kernel_rfl) (by kernel_rfl) (by kernel_rfl) (by kernel_rfl) (fun _ _ _ h => h) (Or.inl ⟨by kernel_rfl, ?_⟩) s0 ?_
      rotate_left
      · rintro w0 ⟨h1_, h2_, h3_⟩; go_simp; (try with_reducible rfl)
      try simp only [Act.put, List.getElem_toArray, List.getElem_cons_succ, List.getElem_cons_zero, List.setIfInBounds_toArray, List.set_cons_zero, List.set_cons_succ]
      refine wpAnyL_take (i := 8) (v := ?_) rfl (by kernel_rfl) (by kernel_rfl) (by kernel_rfl) (by kernel_rfl) (by kernel_rfl) (fun _ _ _ h => h) (Or.inl ⟨by kernel_rfl, ?_⟩) s0 ?_
      rotate_left
      · rintro w0 ⟨h1_, h2_, h3_⟩; go_simp; (try with_reducible rfl)
      try simp only [Act.put, List.getElem_toArray, List.getElem_cons_succ, List.getElem_cons_zero, List.setIfInBounds_toArray, List.set_cons_zero, List.set_cons_succ]
      refine wpAnyL_take (i := 9) (v := ?_) rfl (by kernel_rfl) (by kernel_rfl) (by kernel_rfl) (by kernel_rfl) (by kernel_rfl) (fun _ _ _ h => h) (Or.inl ⟨by kernel_rfl, ?_⟩) s0 ?_
      rotate_left
      · rintro w0 ⟨h1_, h2_, h3_⟩; go_simp; (try with_reducible rfl)
      try simp only [Act.put, List.getElem_toArray, List.getElem_cons_succ, List.getElem_cons_zero, List.setIfInBounds_toArray, List.set_cons_zero, List.set_cons_succ]
      refine wpAnyL_one (i := 10) (by kernel_rfl) rfl (fun K hK => ?_)
      go_simp
      refine (dread_any D3 ((first : Int) + (k : Int))).mono ?_; rintro e w6 ⟨A6, n6, c6, rfl, hx6, hb6⟩
      have s1 : (fun W : World => W.cell? ⟨Bc, 0, none⟩ = some (.pointer (some ⟨h, 0, none⟩)) ∧ W.cell? ⟨h, 0, none⟩ = some (.pointer (some ⟨g, 0, none⟩)) ∧ W.cell? ⟨h, 1, none⟩ = some (.int .i64 (first : Int))) w6 := ⟨(hb6.cell (p := ⟨Bc, 0, none⟩) LT.out.1).trans s0.1, (hb6.cell (p := ⟨h, 0, none⟩) LT.out.2).trans s0.2.1, (hb6.cell (p := ⟨h, 1, none⟩) LT.out.2).trans s0.2.2⟩
      go_wp2_with fail
      refine hK.out _ _ (fun _ => s1) ?_
      clear hK K
      try simp only [Act.put, List.getElem_toArray, List.getElem_cons_succ, List.getElem_cons_zero, List.setIfInBounds_toArray, List.set_cons_zero, List.set_cons_succ]
      refine wpAnyL_take (i := 11) (v := ?_) rfl (by kernel_rfl) (by kernel_rfl) (by kernel_rfl) (by kernel_rfl) (by kernel_rfl) (fun _ _ _ h => h) (Or.inl ⟨by kernel_rfl, ?_⟩) s1 ?_
      rotate_left
      · rintro w0 ⟨h1_, h2_, h3_⟩; go_simp; (try with_reducible rfl)
      try simp only [Act.put, List.getElem_toArray, List.getElem_cons_succ, List.getElem_cons_zero, List.setIfInBounds_toArray, List.set_cons_zero, List.set_cons_succ]
      refine wpAnyL_take (i := 12) (v := ?_) rfl (by kernel_rfl) (by kernel_rfl) (by kernel_rfl) (by kernel_rfl) (by kernel_rfl) (fun _ _ _ h => h) (Or.inl ⟨by kernel_rfl, ?_⟩) s1 ?_
      rotate_left
      · rintro w0 ⟨h1_, h2_, h3_⟩; go_simp; (try with_reducible rfl)
      try simp only [Act.put, List.getElem_toArray, List.getElem_cons_succ, List.getElem_cons_zero, List.setIfInBounds_toArray, List.set_cons_zero, List.set_cons_succ]
      refine wpAnyL_take (i := 13) (v := ?_) rfl (by kernel_rfl) (by kernel_rfl) (by kernel_rfl) (by kernel_rfl) (by kernel_rfl) (fun _ _ _ h => h) (Or.inl ⟨by kernel_rfl, ?_⟩) s1 ?_
      rotate_left
      · rintro w0 ⟨h1_, h2_, h3_⟩; go_simp; (try with_reducible rfl)
      try simp only [Act.put, List.getElem_toArray, List.getElem_cons_succ, List.getElem_cons_zero, List.setIfInBounds_toArray, List.set_cons_zero, List.set_cons_succ]
      refine wpAnyL_one (i := 14) (by kernel_rfl) rfl (fun K hK => ?_)
      go_simp
      refine hK.out _ _ (fun _ => s1) ?_
      clear hK K
      try simp only [Act.put, List.getElem_toArray, List.getElem_cons_succ, List.getElem_cons_zero, List.setIfInBounds_toArray, List.set_cons_zero, List.set_cons_succ]
      refine wpAnyL_one (i := 15) (by kernel_rfl) rfl (fun K hK => ?_)
      go_simp
      refine hK.out _ _ (fun _ => s1) ?_
      clear hK K
      try simp only [Act.put, List.getElem_toArray, List.getElem_cons_succ, List.getElem_cons_zero, List.setIfInBounds_toArray, List.set_cons_zero, List.set_cons_succ]
      refine wpAnyL_done (by kernel_rfl) ?_ _
      have hwl := hx6.len
      dsimp only at hwl
      have hB6 := HH2.out.2.2.1.below hb6 LT.out.2
      have hZ6 := HH2.out.2.2.2.1.below hb6 HH2.out.2.2.2.1.lt
      have hb6' := below_step HH2.out.2.2.2.2 hb6 HH2.out.2.2.2.2.size
      have hrl := read_len2 (D3.wf) ((first : Int) + (k : Int))
      have HN := Lib.hid (And.intro (show CTold.At s first k = ((s.read ((first : Int) + (k : Int))).1, (s.read ((first : Int) + (k : Int))).2) from rfl) (And.intro (@dec_read s ((first : Int) + (k : Int))) hrl))
      have HX := Lib.hid (And.intro HH2.out.1 (And.intro hb6' (And.intro hZ6 hx6)))
      clear HH2 hB6 hZ6 hb6 hx6 s0 s1 D3 LT
      generalize (s.read ((first : Int) + (k : Int))).1 = rl at *
      generalize (s.read ((first : Int) + (k : Int))).2 = rc at *
      rename_i hK5
      by_cases hrc : rc = 0
      · have q0 : (rc == 0) = true := by simp [hrc]
        clear hrc
        refine hK5 _ _ (wpIn_wide.2 ?_)
        go_wp2_with fail
        refine (decode_any (HX.out.2.2.2.ints) (by show n6 ≤ _; omega)).mono ?_
        unfold DecPost
        rintro e w7 ⟨A7, m7, c7, rfl, hf7, hb7⟩
        generalize Cl.code rl = cd7 at *
        obtain ⟨cx, hcx⟩ : ∃ cx, Cl.dec rl = cx := ⟨_, rfl⟩
        rw [hcx] at hf7 ⊢
        obtain ⟨g1, g2, p1, p2, d1⟩ := cx
        have hok := Cl.dec_ok (l := rl) HX.out.2.2.2.own.lt
        have hrg := dec_rng (l := rl) HX.out.2.2.2.own.lt
        have hml := hf7.ints.len
        rw [hcx] at hok hrg
        dsimp only at hf7 hrg hml ⊢
        have HQ := Lib.hid (And.intro HX.out.1 (And.intro (below_step HX.out.2.1 hb7 HX.out.2.1.size) (And.intro hf7 (And.intro hok (And.intro hrg hml)))))
        have hZ7 := HX.out.2.2.1.below hb7 HX.out.2.2.1.lt
        have HR := Lib.hid (And.intro HN.out hcx)
        have HZ7 := Lib.hid hZ7
        clear HX HN hf7 hok hrg hcx hb7 hml
        go_wp2_with (refine wpList_store_blk rfl 73 (.tmp 4) (.tmp 33) rfl wr.heap.size rfl 73 _ #[.int .u32 (g1 : Int), .int .u32 (g2 : Int), .int .i64 p1, .int .i64 p2, .slice A7 m7 c7] rfl hZ7 cell_size5 rfl (by simp [Value.oneCell']) ?_; intro w8 hZ8 hg8; clear hZ7)
        have hJ8 : J pre w8 := hJ _ _ _ HQ.out.1 (HQ.out.2.1.grown hg8 HQ.out.2.1.size (fun k e => by cases e; exact Nat.le_refl _))
        have hT8 : CTold s first n k (k, ⟨⟨g1, g2, p1, p2, d1⟩, A7, m7, c7⟩) w8 := by
          have hfi : FI w8 A7 m7 c7 d1 := HQ.out.2.2.1.put hg8 HZ7.out
          refine ⟨hlt, rfl, ?_, ⟨hfi.ints, HQ.out.2.2.2.1.gen, HQ.out.2.2.2.1.seq, HQ.out.2.2.2.2.1.1, HQ.out.2.2.2.2.1.2.1, by have := HQ.out.2.2.2.2.1.2.2; have := HQ.out.2.2.2.2.2; have := HR.out.1.2.2; dsimp only at *; omega⟩, hfi⟩
          have h1 := HR.out.1.1
          unfold CTold.At at h1
          rw [← Int.natCast_add] at h1
          rw [h1]
          exact HR.out.2.symm
        clear HQ HR hg8
        obtain ⟨fn, tmps, assign, body, hy, hRd⟩ := hY pre (k, ⟨⟨g1, g2, p1, p2, d1⟩, A7, m7, c7⟩) w8 hJ8 (by rw [HK.out]; exact hT8)
        unfold clEnc at hy
        dsimp only at hy
        have k0 := hZ8.cell 0
        have k1 := hZ8.cell 1
        have k2 := hZ8.cell 2
        have k3 := hZ8.cell 3
        have k4 := hZ8.cell 4
        simp only [List.getElem?_toArray, List.getElem?_cons_zero, List.getElem?_cons_succ] at k0 k1 k2 k3 k4
        clear hZ8 hJ8 hT8
        gi_wp2
        refine hRd.mono ?_
        rintro e W3 ⟨rfl, hJ3⟩
        have HJ := Lib.hid hJ3
        clear hJ3 hy hRd k0 k1 k2 k3 k4
        gi_wp2
        go_roundw
        case rel => exact ⟨pre ++ [(k, ⟨⟨g1, g2, p1, p2, d1⟩, A7, m7, c7⟩)], by rw [List.length_append, HK.out]; simp; omega, by rw [List.length_append, HK.out]; go_num, HJ.out⟩
        case measure => simp [intOf]; omega
      · have q0 : (rc == 0) = false := by simpa using hrc
        have HR := Lib.hid hrc
        have hZ8 := HX.out.2.2.1
        have hJ8 : J pre w6 := hJ _ _ _ HX.out.1 HX.out.2.1
        have hT8 : CTold s first n k (k, ⟨⟨0, 0, 0, 0, []⟩, none, 0, 0⟩) w6 := by
          refine ⟨hlt, rfl, ?_, ⟨Ints.nil_ .., by show (0 : Nat) < _; decide, by show (0 : Nat) < _; decide, by show _ ≤ (0 : Int) ∧ (0 : Int) ≤ _; decide, by show _ ≤ (0 : Int) ∧ (0 : Int) ≤ _; decide, by show (0 : Nat) ≤ _; decide⟩, FI.nil_ ..⟩
          have h1 := HN.out.1
          unfold CTold.At at h1
          rw [← Int.natCast_add] at h1
          rw [h1]
          exact (HN.out.2.1 HR.out).symm
        generalize hw8 : w6 = w8 at *
        clear HX HN hrc hw8
        obtain ⟨fn, tmps, assign, body, hy, hRd⟩ := hY pre (k, ⟨⟨0, 0, 0, 0, []⟩, none, 0, 0⟩) w8 hJ8 (by rw [HK.out]; exact hT8)
        unfold clEnc at hy
        dsimp only at hy
        have hy : (Instr.yield l #[.int .i64 (k : Int), .agg #[.int .u32 0, .int .u32 0, .int .i64 0, .int .i64 0, .slice none 0 0]]).run Tryd.prog w8 = .ok (.round l fn tmps assign body) w8 := hy
        have k0 := hZ8.cell 0
        have k1 := hZ8.cell 1
        have k2 := hZ8.cell 2
        have k3 := hZ8.cell 3
        have k4 := hZ8.cell 4
        simp only [List.getElem?_toArray, List.getElem?_cons_zero, List.getElem?_cons_succ] at k0 k1 k2 k3 k4
        clear hZ8 hJ8 hT8
        gi_wp2
        refine hRd.mono ?_
        rintro e W3 ⟨rfl, hJ3⟩
        have HJ := Lib.hid hJ3
        clear hJ3 hy hRd k0 k1 k2 k3 k4
        gi_wp2
        go_roundw
        case rel => exact ⟨pre ++ [(k, ⟨⟨0, 0, 0, 0, []⟩, none, 0, 0⟩)], by rw [List.length_append, HK.out]; simp; omega, by rw [List.length_append, HK.out]; go_num, HJ.out⟩
        case measure => simp [intOf]; omega
    · obtain rfl : k = n := by omega
      have hlti : ¬ (k : Int) < (k : Int) := by omega
      gi_wp2
      go_end0
      exact ⟨⟨_, rfl⟩, pre, hJs, HK.out⟩
end Go.Proofs.YtdlcngmcjidomaaDoor

/- The environment within a round: what isn't cells stays. No condition. -/
namespace Go.Proofs.YtdlcngmcjidomaaDoor
set_option linter.unusedSimpArgs false
set_option linter.unusedVariables false
open Go.RowKit Go.Shelf

structure WK (W w0 w : World) (g : Nat) (s : DSt) (bl : List WBk) (ys : List WRow) (rd : List BEl) : Prop where
  e : WE w0 w g s bl ys rd
  size : W.heap.size ≤ w.heap.size
  same : ∀ (k : Nat) (o : Obj), W.heap[k]? = some o → o.isCells = false → w.heap[k]? = some o
section
variable {W w0 w w' : World} {g : Nat} {s s' : DSt} {bl : List WBk} {ys : List WRow} {rd : List BEl}
theorem WK.start (E : WE w0 w g s bl ys rd) : WK w w0 w g s bl ys rd := ⟨E, Nat.le_refl _, fun _ _ h _ => h⟩
theorem WK.keeps (h : WK W w0 w g s bl ys rd) (B : Nat) : KeepsFrom B W w := ⟨h.size, fun k o _ hk ho => h.same k o hk ho⟩
theorem WK.to (h : WK W w0 w g s bl ys rd) {bl' : List WBk} {ys' : List WRow} {rd' : List BEl} (E : WE w0 w g s bl' ys' rd') : WK W w0 w g s bl' ys' rd' := ⟨E, h.size, h.same⟩
theorem WK.next (h : WK W w0 w g s bl ys rd) {bl' : List WBk} {ys' : List WRow} {rd' : List BEl} (hs : w.heap.size ≤ w'.heap.size) (hk : ∀ (k : Nat) (o : Obj), w.heap[k]? = some o → o.isCells = false → w'.heap[k]? = some o) (E : WE w0 w' g s bl' ys' rd') : WK W w0 w' g s bl' ys' rd' :=
  ⟨E, Nat.le_trans h.size hs, fun k o h1 h2 => hk k o (h.same k o h1 h2) h2⟩
theorem others_below (hb : Below w.heap.size w w') : ∀ (k : Nat) (o : Obj), w.heap[k]? = some o → o.isCells = false → w'.heap[k]? = some o := fun k o h _ => (hb.block k (Array.getElem?_eq_some_iff.1 h).1).trans h
theorem WK.below (h : WK W w0 w g s bl ys rd) (hb : Below w.heap.size w w') : WK W w0 w' g s bl ys rd := h.next hb.size (others_below hb) (h.e.below hb)
theorem WK.drew (h : WK W w0 w g s bl ys rd) : WK W w0 w.drew g s bl ys rd := h.below ((Below.refl _ _).drew)
theorem WK.alloc (h : WK W w0 w g s bl ys rd) (o : Obj) : WK W w0 (w.alloc o) g s bl ys rd := h.below ((Below.refl _ _).alloc (Nat.le_refl _) o)
theorem WK.add (h : WK W w0 w g s bl ys rd) (ty : TypeId) (cs : Array Value) (hty : ty ≠ 5) : WK W w0 (w.alloc (.cells cs ty)) g s ((w.heap.size, ty, cs) :: bl) ys rd :=
  (h.alloc (.cells cs ty)).to (h.e.add ty cs hty)
theorem WK.set (h : WK W w0 w g s bl ys rd) (i j : Nat) {a : Nat} {t : TypeId} {cs : Array Value} (hi : bl[i]? = some (a, t, cs)) (u : Value) : WK W w0 (w.setCell ⟨a, j, none⟩ u) g s (bl.set i (a, t, cs.setIfInBounds j u)) ys rd :=
  h.next (by simp [World.setCell]) (fun k o hk ho => (heap_setCell_other w _ k u (fun e => by
    have hb := h.e.b i hi
    have e : k = a := e
    subst e
    rw [hb.is] at hk; cases hk; cases ho)).trans hk) (h.e.set i j hi u)
theorem WK.app (h : WK W w0 w g s bl ys rd) (i : Nat) {ty : TypeId} {sz n c : Nat} {A : Option Addr} {vs : List Value} (hi : ys[i]? = some ⟨ty, sz, A, n, c, vs⟩) {A' : Option Addr} {n' c' : Nat} {vs' : List Value}
    (ho : OwnR w' w0.heap.size ty sz A' n' c' vs') (hg : w.grownBy w' (A.map (·.block))) (hA : A' = A ∨ A' = some ⟨w.heap.size, 0, none⟩) : WK W w0 w' g s bl (ys.set i ⟨ty, sz, A', n', c', vs'⟩) rd :=
  h.next hg.size (fun k o hk hc => (hg.block k (Array.getElem?_eq_some_iff.1 hk).1 (fun e => by
    have hr := h.e.row i hi
    dsimp only at hr
    rcases hr.form with ⟨h7, _⟩ | ⟨q, cur, h7, _, hg7, _⟩
    · rw [h7] at e; cases e
    · rw [h7] at e
      injection e with e
      have e : k = q := e
      subst e
      rw [hg7.is] at hk; cases hk; cases hc)).trans hk) (h.e.app i hi ho hg hA)
theorem WK.cell (h : WK W w0 w g s bl ys rd) (i j : Nat) {b : WBk} {u : Value} (hb : bl[i]? = some b) (hu : b.2.2[j]? = some u) : w.cell? ⟨b.1, j, none⟩ = some u := h.e.cell i j hb hu
theorem WK.frozen (h : WK W w0 w g s bl ys rd) (i j : Nat) {b : WBk} (hb : bl[i]? = some b) : w.frozen? ⟨b.1, j, none⟩ = false := h.e.frozen i j hb
theorem WK.eq (h : WK W w0 w g s bl ys rd) {bl' : List WBk} (e : bl = bl') : WK W w0 w g s bl' ys rd := e ▸ h
/-- A whole struct into one of its blocks. -/
theorem WE.put (E : WE w0 w g s bl ys rd) (i : Nat) {a : Nat} {t : TypeId} {cs cs' : Array Value} (hi : bl[i]? = some (a, t, cs)) (hb' : Blk w' a t cs') (hg : w.grownBy w' (some a)) : WE w0 w' g s (bl.set i (a, t, cs')) ys rd := by
  obtain ⟨T, D, hT, hb0, hB, hN, hY, hP, hR⟩ := E.ex
  have hb := hB _ (List.mem_of_getElem? hi)
  have hc : Ch w0.heap.size w w' [a] := ⟨hg.os, hg.tape, hg.output, hg.size, fun k hk hs => hg.block k hk (fun e => hs (by injection e with e; simp [e])), fun k hk => by
    rw [List.mem_singleton] at hk
    subst hk
    exact ⟨hb.2.2.2, fun cs' h' => (hb.1.type_ne h' hb.2.1) rfl⟩⟩
  have hil : i < bl.length := (List.getElem?_eq_some_iff.1 hi).1
  have hmap : (bl.set i (a, t, cs')).map (·.1) = bl.map (·.1) := by
    rw [List.map_set]
    refine List.ext_getElem? fun k => ?_
    rw [List.getElem?_set]
    split
    · next hk =>
      subst hk
      rw [List.getElem?_map, hi, if_pos (by simpa using hil)]
      rfl
    · rfl
  refine ⟨T, hc.disk D (fun k hk e => by rw [List.mem_singleton] at e; subst e; exact hb.2.2.1 hk), hT, hc.below (B := 0) hb0 hb0.size, fun b h => ?_, by rw [hmap]; exact hN, fun y hy => ⟨hc.row (hY y hy).1 (fun ad e => ?_), (hY y hy).2.1, fun ad e => ⟨((hY y hy).2.2 ad e).1, fun b h => ?_⟩⟩, hP, fun x hx => hc.far (hR x hx) hb0.size⟩
  · obtain ⟨k, hk⟩ := List.mem_iff_getElem?.1 h
    rw [List.getElem?_set] at hk
    split at hk
    · next hik =>
      subst hik
      (try rw [if_pos hil] at hk)
      cases hk
      exact ⟨hb', hb.2⟩
    · next hik =>
      have h1 := hB b (List.mem_of_getElem? hk)
      exact ⟨hc.blk h1.1 (fun e => by rw [List.mem_singleton] at e; exact nodup_ne hN hk hi (fun e => hik e.symm) e), h1.2⟩
  · intro e2
    rw [List.mem_singleton] at e2
    exact ((hY y hy).2.2 ad e).2 _ (List.mem_of_getElem? hi) e2.symm
  · have h1 := ((hY y hy).2.2 ad e).2
    rcases List.mem_or_eq_of_mem_set h with h | rfl
    · exact h1 b h
    · exact h1 (a, t, cs) (List.mem_of_getElem? hi)
theorem WK.put (h : WK W w0 w g s bl ys rd) (i : Nat) {a : Nat} {t : TypeId} {cs cs' : Array Value} (hi : bl[i]? = some (a, t, cs)) (hb' : Blk w' a t cs') (hg : w.grownBy w' (some a)) : WK W w0 w' g s (bl.set i (a, t, cs')) ys rd :=
  h.next hg.size (fun k o hk ho => (hg.block k (Array.getElem?_eq_some_iff.1 hk).1 (fun e => by
    have hb := h.e.b i hi
    injection e with e
    subst e
    rw [hb.is] at hk; cases hk; cases ho)).trans hk) (h.e.put i hi hb' hg)
theorem WK.see (h : WK W w0 w g s bl ys rd) {x : BEl} (hx : FarB w w0.heap.size x) : WK W w0 w g s bl ys (x :: rd) := h.to (h.e.see hx)
end
end Go.Proofs.YtdlcngmcjidomaaDoor
