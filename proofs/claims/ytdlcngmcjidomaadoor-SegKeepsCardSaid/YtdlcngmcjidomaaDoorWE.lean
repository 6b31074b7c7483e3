/- A walk's environment: a disk, struct blocks, rows and bytes beside it, as one fact. No condition. -/
import Derived.Test.YtdlcngmcjidomaaDoorCellJ
import Derived.Test.YtdlcngmcjidomaaDoorDiskI
import Derived.Test.YtdlcngmcjidomaaDoorLawR
namespace Go.Proofs.YtdlcngmcjidomaaDoor
set_option linter.unusedSimpArgs false
set_option linter.unusedVariables false
open Go.RowKit Go.Shelf

abbrev WBk := Nat × TypeId × Array Value
structure WRow where
  (ty : TypeId) (sz : Nat) (A : Option Addr) (n c : Nat) (vs : List Value)
/-- Bytes in a block of bytes, or in one that lay there before. -/
structure FarB (w : World) (base : Nat) (x : BEl) : Prop where
  ints : Ints w .u8 256 x.A x.n x.c x.l
  far : 0 < x.n → ∀ ad, x.A = some ad → ad.block < base ∨ ∃ cs, Blk w ad.block 5 cs

/-- What was there is there, but for the blocks S, in which no bytes lie. -/
structure Ch (base : Nat) (w w' : World) (S : List Nat) : Prop where
  os : w'.os = w.os
  tape : w'.tape = w.tape
  output : w'.output = w.output
  size : w.heap.size ≤ w'.heap.size
  block : ∀ k, k < w.heap.size → k ∉ S → w'.heap[k]? = w.heap[k]?
  safe : ∀ k ∈ S, base ≤ k ∧ ∀ cs, ¬ Blk w k 5 cs

section
variable {w0 w w' : World} {base : Nat} {S T T' : List Nat} {g : Nat} {s s' : DSt} {bl : List WBk} {ys : List WRow} {rd : List BEl}
theorem Ch.of_below (hb : Below w.heap.size w w') : Ch base w w' [] := ⟨hb.os, hb.tape, hb.output, hb.size, fun k hk _ => hb.block k hk, fun _ h => by cases h⟩
theorem Ch.below (h : Ch base w w' S) {B : Nat} {a : World} (hb : Below base a w) (hB : base ≤ w.heap.size) : Below base a w' :=
  ⟨h.os.trans hb.os, h.tape.trans hb.tape, h.output.trans hb.output, Nat.le_trans hb.size h.size, fun k hk => (h.block k (by omega) (fun hs => by have := (h.safe k hs).1; omega)).trans (hb.block k hk)⟩
theorem Ch.u8 (h : Ch base w w' S) {k : Nat} {cs : Array Value} (hb : Blk w k 5 cs) : Blk w' k 5 cs :=
  ⟨(h.block k hb.lt (fun hs => (h.safe k hs).2 cs hb)).trans hb.is⟩
theorem Ch.blk (h : Ch base w w' S) {k : Nat} {t : TypeId} {cs : Array Value} (hb : Blk w k t cs) (hk : k ∉ S) : Blk w' k t cs := ⟨(h.block k hb.lt hk).trans hb.is⟩
theorem Ch.el (h : Ch base w w' S) {x : BEl} (hx : x.In w) : x.In w' := by
  refine ⟨⟨?_, hx.own.lt⟩, hx.nil⟩
  rcases hx.own.own.form with ⟨h7, h8, h9, h10⟩ | ⟨k, cur, h7, hg0, hg7, q1, q2, q3, q4⟩
  · rw [h7, h8, h9, h10]; exact Own.nil_ ..
  · rw [h7]; exact Own.of_blk hg0 (h.u8 hg7) q1 q2 q3 q4
theorem Ch.row (h : Ch base w w' S) {b sz n c : Nat} {t : TypeId} {A : Option Addr} {vs : List Value} (hr : OwnR w b t sz A n c vs) (hA : ∀ ad, A = some ad → ad.block ∉ S) : OwnR w' b t sz A n c vs := by
  rcases hr.form with ⟨h7, h8, h9, h10⟩ | ⟨k, cur, h7, hg0, hg7, q1, q2, q3, q4⟩
  · rw [h7, h8, h9, h10]; exact OwnR.nil_ ..
  · rw [h7]; exact OwnR.of_blk hg0 (h.blk hg7 (hA _ h7)) q1 q2 q3 q4
theorem Ch.far (h : Ch base w w' S) {x : BEl} (hx : FarB w base x) (hB : base ≤ w.heap.size) : FarB w' base x := by
  have hsame : 0 < x.n → ∀ ad, x.A = some ad → ad.block < w.heap.size ∧ w'.heap[ad.block]? = w.heap[ad.block]? := fun hn ad e => by
    rcases hx.far hn ad e with h1 | ⟨cs, h1⟩
    · exact ⟨by omega, h.block _ (by omega) (fun hs => by have := (h.safe _ hs).1; omega)⟩
    · exact ⟨h1.lt, (h.u8 h1).is.trans h1.is.symm⟩
  refine ⟨⟨⟨hx.ints.rd.len, hx.ints.rd.cap, fun hn => ?_⟩, hx.ints.lt⟩, fun hn ad e => ?_⟩
  · obtain ⟨b, o, e, hb, hc⟩ := hx.ints.rd.at_ hn
    have h1 := hsame hn _ e
    exact ⟨b, o, e, by have := h.size; omega, fun j u hu => (World.cell?_of_block (a := ⟨b, o + j, none⟩) h1.2).trans (hc j u hu)⟩
  · rcases hx.far hn ad e with h1 | ⟨cs, h1⟩
    · exact .inl h1
    · exact .inr ⟨cs, h.u8 h1⟩
theorem Ch.disk (h : Ch base w w' S) (D : DiskAt w T g s) (hd : ∀ k ∈ T, k ∉ S) : DiskAt w' T g s := by
  obtain ⟨A, n, c, pA, pn, pc, xs, zs, D⟩ := D.ex
  exact (show DiskIn w' T g s A n c pA pn pc xs zs from ⟨h.blk D.blk (hd g D.gT), h.row D.sure (fun ad e => hd _ (D.AT e)), h.row D.pend (fun ad e => hd _ (D.pAT e)), fun x hx => h.el (D.xin x hx), fun y hy => h.el (D.yin y hy), D.es, D.ep, D.hT,
    ⟨fun k hk => by
      obtain ⟨t, cs, hb, hc⟩ := D.no.no k hk
      exact ⟨t, cs, h.blk hb (hd k hk), hc⟩⟩, D.wf⟩).at_

structure WE (w0 w : World) (g : Nat) (s : DSt) (bl : List WBk) (ys : List WRow) (rd : List BEl) : Prop where
  ex : ∃ T, DiskAt w T g s ∧ (∀ k ∈ T, w0.heap.size ≤ k) ∧ Below w0.heap.size w0 w ∧
    (∀ b ∈ bl, Blk w b.1 b.2.1 b.2.2 ∧ b.2.1 ≠ 5 ∧ b.1 ∉ T ∧ w0.heap.size ≤ b.1) ∧ (bl.map (·.1)).Nodup ∧
    (∀ y ∈ ys, OwnR w w0.heap.size y.ty y.sz y.A y.n y.c y.vs ∧ y.ty ≠ 5 ∧ ∀ ad, y.A = some ad → ad.block ∉ T ∧ ∀ b ∈ bl, b.1 ≠ ad.block) ∧
    (ys.Pairwise fun x y => Dis x.A y.A) ∧ ∀ x ∈ rd, FarB w w0.heap.size x
theorem WE.bel (E : WE w0 w g s bl ys rd) : Below w0.heap.size w0 w := by
  obtain ⟨_, _, _, h, _⟩ := E.ex
  exact h
theorem WE.size (E : WE w0 w g s bl ys rd) : w0.heap.size ≤ w.heap.size := E.bel.size
theorem WE.wf (E : WE w0 w g s bl ys rd) : s.Wf := by
  obtain ⟨T, D, _⟩ := E.ex
  exact D.wf
theorem WE.cell (E : WE w0 w g s bl ys rd) (i j : Nat) {b : WBk} {u : Value} (hb : bl[i]? = some b) (hu : b.2.2[j]? = some u) : w.cell? ⟨b.1, j, none⟩ = some u := by
  obtain ⟨T, D, hT, hb0, hB, _⟩ := E.ex
  exact ((hB b (List.mem_of_getElem? hb)).1.cell j).trans hu
theorem WE.b (E : WE w0 w g s bl ys rd) (i : Nat) {b : WBk} (hb : bl[i]? = some b) : Blk w b.1 b.2.1 b.2.2 := by
  obtain ⟨T, D, hT, hb0, hB, _⟩ := E.ex
  exact (hB b (List.mem_of_getElem? hb)).1
theorem WE.frozen (E : WE w0 w g s bl ys rd) (i j : Nat) {b : WBk} (hb : bl[i]? = some b) : w.frozen? ⟨b.1, j, none⟩ = false := (E.b i hb).frozen j
theorem WE.ge (E : WE w0 w g s bl ys rd) (i : Nat) {b : WBk} (hb : bl[i]? = some b) : w0.heap.size ≤ b.1 := by
  obtain ⟨T, D, hT, hb0, hB, _⟩ := E.ex
  exact (hB b (List.mem_of_getElem? hb)).2.2.2
theorem WE.row (E : WE w0 w g s bl ys rd) (i : Nat) {y : WRow} (hy : ys[i]? = some y) : OwnR w w0.heap.size y.ty y.sz y.A y.n y.c y.vs := by
  obtain ⟨T, D, hT, hb0, hB, hN, hY, _⟩ := E.ex
  exact (hY y (List.mem_of_getElem? hy)).1
theorem WE.rdm (E : WE w0 w g s bl ys rd) {x : BEl} (hx : x ∈ rd) : Ints w .u8 256 x.A x.n x.c x.l := by
  obtain ⟨T, D, hT, hb0, hB, hN, hY, hP, hR⟩ := E.ex
  exact (hR x hx).ints
theorem WE.rd0 (E : WE w0 w g s bl ys rd) (i : Nat) {x : BEl} (hx : rd[i]? = some x) : Ints w .u8 256 x.A x.n x.c x.l := E.rdm (List.mem_of_getElem? hx)

theorem FarB.of_in {x : BEl} (h : x.In w) : FarB w base x := ⟨h.ints, fun hn ad e => by
  rcases h.own.own.form with ⟨h7, _⟩ | ⟨k, cur, h7, _, hg7, _⟩
  · rw [h7] at e; cases e
  · rw [h7] at e; cases e; exact .inr ⟨cur, hg7⟩⟩
theorem FarB.of_own {A : Option Addr} {n c b : Nat} {l : List Nat} (h : OwnI w b .u8 256 5 A n c l) : FarB w base ⟨A, n, c, l⟩ := ⟨h.ints, fun hn ad e => by
  rcases h.own.form with ⟨h7, _⟩ | ⟨k, cur, h7, _, hg7, _⟩
  · have e : A = some ad := e
    rw [h7] at e; cases e
  · have e : A = some ad := e
    rw [h7] at e; cases e; exact .inr ⟨cur, hg7⟩⟩
theorem FarB.of_low {A : Option Addr} {n c : Nat} {l : List Nat} (h : Ints w0 .u8 256 A n c l) (hb : Below w0.heap.size w0 w) : FarB w w0.heap.size ⟨A, n, c, l⟩ := ⟨h.below hb, fun hn ad e => by
  obtain ⟨b, o, e', hb', _⟩ := h.rd.at_ hn
  have e : A = some ad := e
  rw [e'] at e; cases e; exact .inl hb'⟩

/-- Whatever turns none of its blocks leaves it. -/
theorem WE.ch (E : WE w0 w g s bl ys rd) (h : Ch w0.heap.size w w' S) (hS : ∀ k ∈ S, ∀ t cs, ¬ Blk w k t cs) : WE w0 w' g s bl ys rd := by
  obtain ⟨T, D, hT, hb0, hB, hN, hY, hP, hR⟩ := E.ex
  have hno : ∀ {k : Nat} {t : TypeId} {cs : Array Value}, Blk w k t cs → k ∉ S := fun hb hk => hS _ hk _ _ hb
  refine ⟨T, h.disk D (fun k hk => by obtain ⟨t, cs, hb, _⟩ := D.no.no k hk; exact hno hb), hT, h.below (B := 0) hb0 hb0.size, fun b hb => ⟨h.blk (hB b hb).1 (hno (hB b hb).1), (hB b hb).2⟩, hN, fun y hy => ⟨h.row (hY y hy).1 (fun ad e => ?_), (hY y hy).2⟩, hP, fun x hx => h.far (hR x hx) hb0.size⟩
  rcases (hY y hy).1.form with ⟨h7, _⟩ | ⟨k, cur, h7, _, hg7, _⟩
  · rw [h7] at e; cases e
  · rw [h7] at e; cases e; exact hno hg7
theorem WE.below (E : WE w0 w g s bl ys rd) (hb : Below w.heap.size w w') : WE w0 w' g s bl ys rd := E.ch (Ch.of_below hb) (fun _ h => by cases h)
theorem WE.drew (E : WE w0 w g s bl ys rd) : WE w0 w.drew g s bl ys rd := E.below ((Below.refl _ _).drew)
theorem WE.drewN (E : WE w0 w g s bl ys rd) (n : Nat) : WE w0 (w.drewN n) g s bl ys rd := E.below (((Moved.refl w []).drewN n).below0)
theorem WE.alloc (E : WE w0 w g s bl ys rd) (o : Obj) : WE w0 (w.alloc o) g s bl ys rd := E.below ((Below.refl _ _).alloc (Nat.le_refl _) o)
theorem WE.own (E : WE w0 w g s bl ys rd) {row : Option Nat} (hg : w.grownBy w' row) (hr : ∀ r, row = some r → w0.heap.size ≤ r ∧ ∃ o : Obj, w.heap[r]? = some o ∧ o.isCells = false) : WE w0 w' g s bl ys rd := by
  have hno : ∀ k ∈ row.toList, ∀ t cs, ¬ Blk w k t cs := fun k hk t cs hb => by
    obtain ⟨_, o, ho, hc⟩ := hr k (by simpa using hk)
    rw [hb.is] at ho; cases ho; cases hc
  exact E.ch (S := row.toList) ⟨hg.os, hg.tape, hg.output, hg.size, fun k hk hs => hg.block k hk (fun e => hs (by simp [← e])), fun k hk => ⟨(hr k (by simpa using hk)).1, fun cs => hno k hk _ _⟩⟩ hno
/-- A block that was just laid. -/
theorem WE.add (E : WE w0 w g s bl ys rd) (ty : TypeId) (cs : Array Value) (hty : ty ≠ 5) : WE w0 (w.alloc (.cells cs ty)) g s ((w.heap.size, ty, cs) :: bl) ys rd := by
  have E' := E.alloc (.cells cs ty)
  obtain ⟨T, D, hT, hb0, hB, hN, hY, hP, hR⟩ := E.ex
  obtain ⟨_, _, _, _, hB0, _⟩ := E.ex
  have hb : Below w.heap.size w (w.alloc (.cells cs ty)) := (Below.refl _ _).alloc (Nat.le_refl _) _
  have hc : Ch w0.heap.size w (w.alloc (.cells cs ty)) [] := Ch.of_below hb
  refine ⟨T, D.below hb, hT, below_step hb0 hb hb0.size, fun b h => ?_, ?_, fun y hy => ⟨(hY y hy).1.below hb, (hY y hy).2.1, fun ad e => ⟨((hY y hy).2.2 ad e).1, fun b h => ?_⟩⟩, hP, fun x hx => hc.far (hR x hx) hb0.size⟩
  · rcases List.mem_cons.1 h with rfl | h
    · exact ⟨Blk.new .., hty, fun hk => by have := D.lt _ hk; dsimp only at this; omega, hb0.size⟩
    · exact ⟨(hB b h).1.below hb (hB b h).1.lt, (hB b h).2⟩
  · rw [List.map_cons, List.nodup_cons]
    refine ⟨fun hm => ?_, hN⟩
    obtain ⟨b, hb1, hb2⟩ := List.mem_map.1 hm
    have := (hB b hb1).1.lt
    dsimp only at hb2
    omega
  · have hlt := ((hY y hy).1.lt ad e).2
    rcases List.mem_cons.1 h with rfl | h
    · dsimp only; omega
    · exact ((hY y hy).2.2 ad e).2 b h
/-- Bytes that lie there. -/
theorem WE.see (E : WE w0 w g s bl ys rd) {x : BEl} (hx : FarB w w0.heap.size x) : WE w0 w g s bl ys (x :: rd) := by
  obtain ⟨T, D, hT, hb0, hB, hN, hY, hP, hR⟩ := E.ex
  exact ⟨T, D, hT, hb0, hB, hN, hY, hP, fun y hy => by
    rcases List.mem_cons.1 hy with rfl | hy
    · exact hx
    · exact hR y hy⟩
theorem WE.sees (E : WE w0 w g s bl ys rd) {xs : List BEl} (hx : ∀ x ∈ xs, FarB w w0.heap.size x) : WE w0 w g s bl ys (xs ++ rd) := by
  obtain ⟨T, D, hT, hb0, hB, hN, hY, hP, hR⟩ := E.ex
  exact ⟨T, D, hT, hb0, hB, hN, hY, hP, fun y hy => by
    rcases List.mem_append.1 hy with hy | hy
    · exact hx y hy
    · exact hR y hy⟩
theorem WE.low (E : WE w0 w g s bl ys rd) {A : Option Addr} {n c : Nat} {l : List Nat} (h : Ints w0 .u8 256 A n c l) : WE w0 w g s bl ys (⟨A, n, c, l⟩ :: rd) := E.see (FarB.of_low h E.bel)
theorem WE.farm (E : WE w0 w g s bl ys rd) {x : BEl} (hx : x ∈ rd) : FarB w w0.heap.size x := by
  obtain ⟨T, D, hT, hb0, hB, hN, hY, hP, hR⟩ := E.ex
  exact hR x hx
/-- Less is known of it. -/
theorem WE.pick (E : WE w0 w g s bl ys rd) {bl' : List WBk} {ys' : List WRow} {rd' : List BEl} (h1 : bl'.Sublist bl) (h2 : ys'.Sublist ys) (h3 : ∀ x ∈ rd', x ∈ rd) : WE w0 w g s bl' ys' rd' := by
  obtain ⟨T, D, hT, hb0, hB, hN, hY, hP, hR⟩ := E.ex
  exact ⟨T, D, hT, hb0, fun b hb => hB b (h1.subset hb), (h1.map _).nodup hN, fun y hy => ⟨(hY y (h2.subset hy)).1, (hY y (h2.subset hy)).2.1, fun ad e => ⟨((hY y (h2.subset hy)).2.2 ad e).1, fun b hb => ((hY y (h2.subset hy)).2.2 ad e).2 b (h1.subset hb)⟩⟩, hP.sublist h2, fun x hx => hR x (h3 x hx)⟩
theorem nodup_ne {bl : List WBk} (h : (bl.map (·.1)).Nodup) {i j : Nat} {b b' : WBk} (hi : bl[i]? = some b) (hj : bl[j]? = some b') (hne : i ≠ j) : b.1 ≠ b'.1 := by
  intro e
  have h1 : (bl.map (·.1))[i]? = some b.1 := by rw [List.getElem?_map, hi]; rfl
  have h2 : (bl.map (·.1))[j]? = some b.1 := by rw [List.getElem?_map, hj, Option.map_some, e]
  obtain ⟨l1, e1⟩ := List.getElem?_eq_some_iff.1 h1
  obtain ⟨l2, e2⟩ := List.getElem?_eq_some_iff.1 h2
  rcases Nat.lt_or_gt_of_ne hne with hlt | hlt
  · exact List.pairwise_iff_getElem.1 h i j l1 l2 hlt (e1.trans e2.symm)
  · exact List.pairwise_iff_getElem.1 h j i l2 l1 hlt (e2.trans e1.symm)
theorem Ch.setCell {p : Addr} {t : TypeId} {cs : Array Value} (h : Blk w p.block t cs) (ht : t ≠ 5) (hb : base ≤ p.block) (u : Value) : Ch base w (w.setCell p u) [p.block] :=
  ⟨rfl, rfl, rfl, by simp [World.setCell], fun k _ hs => heap_setCell_other w p k u (fun e => hs (by simp [e])), fun k hk => by
    rw [List.mem_singleton] at hk
    subst hk
    exact ⟨hb, fun cs' h' => (h.type_ne h' ht) rfl⟩⟩
/-- A store into one of its blocks. -/
theorem WE.set (E : WE w0 w g s bl ys rd) (i j : Nat) {a : Nat} {t : TypeId} {cs : Array Value} (hi : bl[i]? = some (a, t, cs)) (u : Value) : WE w0 (w.setCell ⟨a, j, none⟩ u) g s (bl.set i (a, t, cs.setIfInBounds j u)) ys rd := by
  obtain ⟨T, D, hT, hb0, hB, hN, hY, hP, hR⟩ := E.ex
  have hb := hB _ (List.mem_of_getElem? hi)
  have hc : Ch w0.heap.size w (w.setCell ⟨a, j, none⟩ u) [a] := Ch.setCell (p := ⟨a, j, none⟩) hb.1 hb.2.1 hb.2.2.2 u
  have hil : i < bl.length := (List.getElem?_eq_some_iff.1 hi).1
  have hmap : (bl.set i (a, t, cs.setIfInBounds j u)).map (·.1) = bl.map (·.1) := by
    rw [List.map_set]
    refine List.ext_getElem? fun k => ?_
    rw [List.getElem?_set]
    split
    · next hk =>
      subst hk
      rw [List.getElem?_map, hi, if_pos (by simpa using hil)]
      rfl
    · rfl
  refine ⟨T, hc.disk D (fun k hk e => by rw [List.mem_singleton] at e; subst e; exact hb.2.2.1 hk), hT, hc.below (B := 0) hb0 hb0.size, fun b h => ?_, by rw [hmap]; exact hN, fun y hy => ⟨hc.row (hY y hy).1 (fun ad e => ?_), (hY y hy).2.1, fun ad e => ⟨((hY y hy).2.2 ad e).1, fun b h => ?_⟩⟩, hP, fun x hx => hc.far (hR x hx) hb0.size⟩
  · obtain ⟨k, hk⟩ := List.mem_iff_getElem?.1 h
    rw [List.getElem?_set] at hk
    split at hk
    · next hik =>
      subst hik
      (try rw [if_pos hil] at hk)
      cases hk
      exact ⟨hb.1.set_ j u, hb.2⟩
    · next hik =>
      have h1 := hB b (List.mem_of_getElem? hk)
      exact ⟨hc.blk h1.1 (fun e => by rw [List.mem_singleton] at e; exact nodup_ne hN hk hi (fun e => hik e.symm) e), h1.2⟩
  · intro e2
    rw [List.mem_singleton] at e2
    exact ((hY y hy).2.2 ad e).2 _ (List.mem_of_getElem? hi) e2.symm
  · have h1 := ((hY y hy).2.2 ad e).2
    rcases List.mem_or_eq_of_mem_set h with h | rfl
    · exact h1 b h
    · exact h1 (a, t, cs) (List.mem_of_getElem? hi)
/-- A turn of the disk. -/
theorem WE.disk1 (D : DiskAt w T g s) (hT : ∀ k ∈ T, w0.heap.size ≤ k) (hb0 : Below w0.heap.size w0 w) (hB : ∀ b ∈ bl, Blk w b.1 b.2.1 b.2.2 ∧ b.2.1 ≠ 5 ∧ b.1 ∉ T ∧ w0.heap.size ≤ b.1) (hN : (bl.map (·.1)).Nodup)
    (hY : ∀ y ∈ ys, OwnR w w0.heap.size y.ty y.sz y.A y.n y.c y.vs ∧ y.ty ≠ 5 ∧ ∀ ad, y.A = some ad → ad.block ∉ T ∧ ∀ b ∈ bl, b.1 ≠ ad.block) (hP : ys.Pairwise fun x y => Dis x.A y.A) (hR : ∀ x ∈ rd, FarB w w0.heap.size x)
    (D' : DiskAt w' T' g s') (hm : Moved w w' T T') : WE w0 w' g s' bl ys rd := by
  have hc : Ch w0.heap.size w w' T := ⟨hm.os, hm.tape, hm.output, hm.size, hm.block, fun k hk => ⟨hT k hk, fun cs hb => by
    obtain ⟨t, cs', hb', ht⟩ := D.no.no k hk
    exact (hb'.type_ne hb ht) rfl⟩⟩
  exact ⟨T', D', fun k hk => (hm.new k hk).elim (hT k) (fun h => by have := hb0.size; omega), hc.below (B := 0) hb0 hb0.size, fun b h => ⟨hc.blk (hB b h).1 (hB b h).2.2.1, (hB b h).2.1, hm.apart (hB b h).1.lt (hB b h).2.2.1, (hB b h).2.2.2⟩, hN,
    fun y hy => ⟨hc.row (hY y hy).1 (fun ad e => ((hY y hy).2.2 ad e).1), (hY y hy).2.1, fun ad e => ⟨hm.apart ((hY y hy).1.lt ad e).2 ((hY y hy).2.2 ad e).1, ((hY y hy).2.2 ad e).2⟩⟩, hP, fun x hx => hc.far (hR x hx) hb0.size⟩
theorem WE.at_ (E : WE w0 w g s bl ys rd) : ∃ T, DiskAt w T g s ∧ ∀ k ∈ T, w0.heap.size ≤ k := by
  obtain ⟨T, D, hT, _⟩ := E.ex
  exact ⟨T, D, hT⟩
/-- A row that a call laid. -/
theorem WE.fresh (E : WE w0 w g s bl ys rd) (hb : Below w.heap.size w w') {ty : TypeId} {sz n c : Nat} {A : Option Addr} {vs : List Value} (ho : OwnR w' w.heap.size ty sz A n c vs) (hty : ty ≠ 5) : WE w0 w' g s bl (⟨ty, sz, A, n, c, vs⟩ :: ys) rd := by
  have hsz := E.size
  have E' := E.below hb
  obtain ⟨T0, D0, hT0, hb00, hB0, hN0, hY0, hP0, hR0⟩ := E.ex
  have hc : Ch w0.heap.size w w' [] := Ch.of_below hb
  refine ⟨T0, D0.below hb, hT0, below_step hb00 hb hsz, fun b h => ⟨(hB0 b h).1.below hb (hB0 b h).1.lt, (hB0 b h).2⟩, hN0, fun y hy => ?_, ?_, fun x hx => hc.far (hR0 x hx) hsz⟩
  · rcases List.mem_cons.1 hy with rfl | hy
    · refine ⟨ho.mono hsz, hty, fun ad e => ?_⟩
      have h1 := (ho.lt ad e).1
      exact ⟨fun hk => by have := D0.lt _ hk; omega, fun b h e2 => by have := (hB0 b h).1.lt; omega⟩
    · exact ⟨(hY0 y hy).1.below hb, (hY0 y hy).2⟩
  · rw [List.pairwise_cons]
    refine ⟨fun y hy => ⟨fun a b ha hb' e => ?_⟩, hP0⟩
    have h1 := (ho.lt a ha).1
    have h2 := ((hY0 y hy).1.lt b hb').2
    omega
theorem WE.nil (E : WE w0 w g s bl ys rd) {ty : TypeId} (sz : Nat) (hty : ty ≠ 5) : WE w0 w g s bl (⟨ty, sz, none, 0, 0, []⟩ :: ys) rd := E.fresh (Below.refl _ _) (OwnR.nil_ ..) hty
theorem Ch.grown {A : Option Addr} {b sz n c : Nat} {t : TypeId} {vs : List Value} (h : OwnR w b t sz A n c vs) (ht : t ≠ 5) (hb : base ≤ b) (hg : w.grownBy w' (A.map (·.block))) : Ch base w w' (Ab A) := by
  refine ⟨hg.os, hg.tape, hg.output, hg.size, fun k hk hs => hg.block k hk (fun e => hs ?_), fun k hk => ?_⟩
  · unfold Ab
    simp [← e]
  · cases A with
    | none => simp [Ab] at hk
    | some ad =>
      have hk : k = ad.block := by simpa [Ab] using hk
      subst hk
      refine ⟨by have := (h.lt ad rfl).1; omega, fun cs hbk => ?_⟩
      exact h.type_ne hbk ht ad rfl rfl
/-- An append to one of its rows. -/
theorem WE.app (E : WE w0 w g s bl ys rd) (i : Nat) {ty : TypeId} {sz n c : Nat} {A : Option Addr} {vs : List Value} (hi : ys[i]? = some ⟨ty, sz, A, n, c, vs⟩) {A' : Option Addr} {n' c' : Nat} {vs' : List Value}
    (ho : OwnR w' w0.heap.size ty sz A' n' c' vs') (hg : w.grownBy w' (A.map (·.block))) (hA : A' = A ∨ A' = some ⟨w.heap.size, 0, none⟩) : WE w0 w' g s bl (ys.set i ⟨ty, sz, A', n', c', vs'⟩) rd := by
  obtain ⟨T, D, hT, hb0, hB, hN, hY, hP, hR⟩ := E.ex
  have h0 := hY _ (List.mem_of_getElem? hi)
  have hc : Ch w0.heap.size w w' (Ab A) := Ch.grown h0.1 h0.2.1 (Nat.le_refl _) hg
  have hmem : ∀ {k : Nat}, k ∈ Ab A → ∃ ad, A = some ad ∧ ad.block = k := fun {k} hk => by
    cases A with
    | none => simp [Ab] at hk
    | some ad => exact ⟨ad, rfl, by have : k = ad.block := by simpa [Ab] using hk
                                    exact this.symm⟩
  have hdis : ∀ j y, j ≠ i → ys[j]? = some y → Dis A y.A := fun j y hj hy => by
    rcases Nat.lt_or_gt_of_ne hj with hlt | hlt
    · have := List.pairwise_iff_getElem.1 hP j i (List.getElem?_eq_some_iff.1 hy).1 (List.getElem?_eq_some_iff.1 hi).1 hlt
      rw [(List.getElem?_eq_some_iff.1 hy).2, (List.getElem?_eq_some_iff.1 hi).2] at this
      exact this.symm
    · have := List.pairwise_iff_getElem.1 hP i j (List.getElem?_eq_some_iff.1 hi).1 (List.getElem?_eq_some_iff.1 hy).1 hlt
      rw [(List.getElem?_eq_some_iff.1 hy).2, (List.getElem?_eq_some_iff.1 hi).2] at this
      exact this
  have hdis' : ∀ j y, j ≠ i → ys[j]? = some y → Dis A' y.A := fun j y hj hy => by
    rcases hA with rfl | rfl
    · exact hdis j y hj hy
    · refine ⟨fun a b ha hb e => ?_⟩
      cases ha
      have := ((hY y (List.mem_of_getElem? hy)).1.lt b hb).2
      dsimp only at e
      omega
  have hil := (List.getElem?_eq_some_iff.1 hi).1
  refine ⟨T, hc.disk D (fun k hk e => ?_), hT, hc.below (B := 0) hb0 hb0.size, fun b h => ⟨hc.blk (hB b h).1 (fun e => ?_), (hB b h).2⟩, hN, fun y hy => ?_, ?_, fun x hx => hc.far (hR x hx) hb0.size⟩
  · obtain ⟨ad, rfl, rfl⟩ := hmem e
    exact (h0.2.2 ad rfl).1 hk
  · obtain ⟨ad, rfl, e2⟩ := hmem e
    exact (h0.2.2 ad rfl).2 b h e2.symm
  · obtain ⟨k, hk⟩ := List.mem_iff_getElem?.1 hy
    rw [List.getElem?_set] at hk
    split at hk
    · (try rw [if_pos hil] at hk)
      cases hk
      refine ⟨ho, h0.2.1, fun ad e => ?_⟩
      rcases hA with rfl | rfl
      · exact h0.2.2 ad e
      · cases e
        exact ⟨fun hk => by have := D.lt _ hk; dsimp only at this; omega, fun b h e2 => by have := (hB b h).1.lt; dsimp only at e2; omega⟩
    · next hik =>
      have h1 := hY y (List.mem_of_getElem? hk)
      refine ⟨hc.row h1.1 (fun ad e hm => ?_), h1.2⟩
      obtain ⟨ad', e', e2⟩ := hmem hm
      exact (hdis k y (fun e => hik e.symm) hk).ne ad' ad e' e e2
  · rw [List.pairwise_iff_getElem]
    intro a b ha hb hab
    rw [List.length_set] at ha hb
    rw [List.getElem_set, List.getElem_set]
    have hPab := List.pairwise_iff_getElem.1 hP a b ha hb hab
    split
    · next e1 =>
      rw [if_neg (by omega)]
      exact hdis' b _ (by omega) (List.getElem?_eq_getElem hb)
    · split
      · next e1 e2 =>
        exact (hdis' a _ (by omega) (List.getElem?_eq_getElem ha)).symm
      · exact hPab
end
end Go.Proofs.YtdlcngmcjidomaaDoor
