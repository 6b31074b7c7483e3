/- Texts of several parts in one: Base, NumMath, More, NatA, NatB, NatC, RefMath, RefA, RefB, Bits, NatH, LongMath, Struct, Struct2, WholeMath, WholeA, NatD. Each says what it proves; no condition but those named there. -/
import Derived.Test.YticjhlbmdjijnaaDoorRows
import Derived.WalkKit
import Derived.WalkSpells
import Derived.WalkLawsBesides
import Derived.Deep.LoopGhost
import Derived.Lib.Hide
import Derived.Maps.AppendAt
import Derived.Deep.AppendLies
import Derived.Deep.Draws
import Derived.Deep.QuietTactic
import Derived.BigQuiet
import Derived.Deep.RegionHeld3
import Derived.Deep.RegionWith
import Derived.Deep.DeepFit
import Derived.Laws.OwnMore
import Derived.Lib.SlBytesConst
import Derived.Laws.CopyOwn
/- Words for memory, of whatever program: slices that read as lists, blocks known whole. No condition. -/
namespace Go.Proofs.YticjhlbmdjijnaaDoor
open Go.RowKit

theorem block_of_add (a : Addr) (n : Nat) : (a.add n).block = a.block := by unfold Addr.add; split <;> rfl
theorem add_of_add (a : Addr) (i j : Nat) : (a.add i).add j = a.add (i + j) := by
  unfold Addr.add
  by_cases hi : i = 0 <;> by_cases hj : j = 0 <;> simp [hi, hj, Nat.add_assoc]

/-- Block g is just the cells cs of element type t, none frozen. (A structure: nothing unfolds it by chance.) -/
structure Blk (w : World) (g : Nat) (t : TypeId) (cs : Array Value) : Prop where
  is : w.heap[g]? = some (.cells cs t (0, 0))

section
variable {w w' : World} {g : Nat} {t : TypeId} {cs : Array Value}
theorem Blk.lt (h : Blk w g t cs) : g < w.heap.size := by
  rcases Nat.lt_or_ge g w.heap.size with hlt | hge
  · exact hlt
  · have h := h.is; rw [Array.getElem?_eq_none hge] at h; cases h
theorem Blk.cell (h : Blk w g t cs) (i : Nat) : w.cell? ⟨g, i, none⟩ = cs[i]? := cell_of_row w g i cs t (0, 0) h.is
theorem Blk.frozen (h : Blk w g t cs) (i : Nat) : w.frozen? ⟨g, i, none⟩ = false := by
  have h := h.is
  simp [World.frozen?, h]
theorem Blk.new (w : World) (t : TypeId) (cs : Array Value) : Blk (w.alloc (.cells cs t)) w.heap.size t cs := ⟨heap_alloc_new w _⟩
theorem Blk.drew (h : Blk w g t cs) : Blk w.drew g t cs := ⟨h.is⟩
theorem Blk.drewN (h : Blk w g t cs) (n : Nat) : Blk (w.drewN n) g t cs := ⟨h.is⟩
theorem Blk.alloc (h : Blk w g t cs) (o : Obj) : Blk (w.alloc o) g t cs := ⟨(Below.heap_alloc w o g h.lt).trans h.is⟩
theorem Blk.set_ (h : Blk w g t cs) (i : Nat) (u : Value) : Blk (w.setCell ⟨g, i, none⟩ u) g t (cs.setIfInBounds i u) := by
  have h := h.is
  constructor
  simp [World.setCell, Array.getElem?_modify, h]
theorem Blk.far (h : Blk w g t cs) {p : Addr} (hp : g ≠ p.block) (u : Value) : Blk (w.setCell p u) g t cs := ⟨(Below.heap_setCell w p u g hp).trans h.is⟩
theorem Blk.below {B : Nat} (h : Blk w g t cs) (hb : Below B w w') (hg : g < B) : Blk w' g t cs := ⟨(hb.block g hg).trans h.is⟩
theorem Blk.grown {row : Option Nat} (h : Blk w g t cs) (hb : w.grownBy w' row) (hg : some g ≠ row) : Blk w' g t cs := ⟨(hb.block g h.lt hg).trans h.is⟩
end

/-- A whole array or struct into a block that is known. -/
theorem wpList_store_blk {P : Program} {ops : Array Oper} {rest : List Oper} {o : Oper} {a : Act} {w : World} {Q : Exit → Act → World → Prop} (hgd : o.guard = none) (ty : TypeId) (x y : Operand) (ho : o.op = .store ty x y)
    (g : Nat) (hx : a.eval x = .pointer (some ⟨g, 0, none⟩)) (t : TypeId) (cs cs' : Array Value) (hy : a.eval y = .agg cs') (hg : Blk w g t cs)
    (hi : (P.info? ty).map (·.size) = some cs'.size) (hsz : cs.size = cs'.size) (h1 : cs'.all (·.oneCell') = true)
    (h : ∀ w', Blk w' g t cs' → w.grownBy w' (some g) → wpList P ops Q rest (a.put o.dst undef) w') : wpList P ops Q (o :: rest) a w :=
  wpList_store_row hgd ty x y ho g cs' hx hy t cs hg.is hi hsz h1
    (h _ ⟨setRow_heap w g cs cs' t (0, 0) hg.is⟩ ⟨rfl, rfl, rfl, by simp, fun k _ hk => setRow_other w g k cs' (fun e => hk (by rw [e]))⟩)
theorem wpList_load_blk {P : Program} {ops : Array Oper} {rest : List Oper} {o : Oper} {a : Act} {w : World} {Q : Exit → Act → World → Prop} (hgd : o.guard = none) (ty : TypeId) (x : Operand) (ho : o.op = .load ty x)
    (g : Nat) (hx : a.eval x = .pointer (some ⟨g, 0, none⟩)) (t : TypeId) (cs : Array Value) (d : TypeDesc) (hg : Blk w g t cs)
    (hu : P.underlying ty = some d) (hd : (match d with | .struct _ | .array _ _ => true | _ => false) = true) (hi : (P.info? ty).map (·.size) = some cs.size)
    (h : wpList P ops Q rest (a.put o.dst (.agg cs)) w) : wpList P ops Q (o :: rest) a w :=
  wpList_load_row hgd ty x ho g hx t cs (0, 0) d hg.is hu hd hi h

/-! ### A slice that reads as a list of one-cell elements, nil let in -/
structure Rd (w : World) (A : Option Addr) (n c : Nat) (xs : List Value) : Prop where
  len : xs.length = n
  cap : n ≤ c
  at_ : 0 < n → ∃ b o, A = some ⟨b, o, none⟩ ∧ b < w.heap.size ∧ ∀ j u, xs[j]? = some u → w.cell? ⟨b, o + j, none⟩ = some u

theorem add_plain (b o k : Nat) : (⟨b, o, none⟩ : Addr).add k = ⟨b, o + k, none⟩ := Addr.add_lit ..

section
variable {w w' : World} {A : Option Addr} {n c : Nat} {xs : List Value}
theorem Rd.nil_ (w : World) (A : Option Addr) (c : Nat) : Rd w A 0 c [] := ⟨rfl, Nat.zero_le _, fun h => absurd h (by omega)⟩
theorem Rd.get {k : Nat} (h : Rd w A n c xs) (hk : k < n) : ∃ b o u, A = some ⟨b, o, none⟩ ∧ b < w.heap.size ∧ xs[k]? = some u ∧ w.cell? ⟨b, o + k, none⟩ = some u := by
  obtain ⟨b, o, e, hb, hc⟩ := h.at_ (by omega)
  have hl : k < xs.length := by have := h.len; omega
  exact ⟨b, o, xs[k], e, hb, List.getElem?_eq_getElem hl, hc k _ (List.getElem?_eq_getElem hl)⟩
theorem Rd.keep (h : Rd w A n c xs) (hs : w.heap.size ≤ w'.heap.size) (hk : ∀ p : Addr, p.block < w.heap.size → w'.cell? p = w.cell? p) : Rd w' A n c xs :=
  ⟨h.len, h.cap, fun hn => by
    obtain ⟨b, o, e, hb, hc⟩ := h.at_ hn
    exact ⟨b, o, e, by omega, fun j u hu => (hk _ hb).trans (hc j u hu)⟩⟩
theorem Rd.below (h : Rd w A n c xs) (hb : Below w.heap.size w w') : Rd w' A n c xs := h.keep hb.size fun _ hp => hb.cell hp
theorem Rd.drew (h : Rd w A n c xs) : Rd w.drew A n c xs := h.keep (Nat.le_refl _) fun _ _ => rfl
theorem Rd.drewN (h : Rd w A n c xs) (k : Nat) : Rd (w.drewN k) A n c xs := h.keep (Nat.le_refl _) fun _ _ => rfl
theorem Rd.alloc (h : Rd w A n c xs) (o : Obj) : Rd (w.alloc o) A n c xs := h.keep (by simp) fun p hp => World.cell?_alloc_lt w o p hp
/-- Whatever turns another block alone keeps it. -/
theorem Rd.grown (h : Rd w A n c xs) {row : Option Nat} (hg : w.grownBy w' row) (hr : ∀ ad, A = some ad → some ad.block ≠ row) : Rd w' A n c xs :=
  ⟨h.len, h.cap, fun hn => by
    obtain ⟨b, o, e, hb, hc⟩ := h.at_ hn
    exact ⟨b, o, e, Nat.lt_of_lt_of_le hb hg.size, fun j u hu => (World.cell?_of_block (a := ⟨b, o + j, none⟩) (hg.block b hb (hr _ e))).trans (hc j u hu)⟩⟩
theorem Rd.setCell (h : Rd w A n c xs) {p : Addr} (hr : ∀ ad, A = some ad → ad.block ≠ p.block) (u : Value) : Rd (w.setCell p u) A n c xs :=
  ⟨h.len, h.cap, fun hn => by
    obtain ⟨b, o, e, hb, hc⟩ := h.at_ hn
    exact ⟨b, o, e, by simpa [World.setCell] using hb, fun j v hv =>
      (World.cell?_setCell_other w p ⟨b, o + j, none⟩ u (fun e' => hr _ e (by rw [e']))).trans (hc j v hv)⟩⟩
theorem Rd.cut (h : Rd w A n c xs) {k : Nat} (hk : k ≤ n) : Rd w (if c = k then A else A.map (·.add k)) (n - k) (c - k) (xs.drop k) := by
  refine ⟨by rw [List.length_drop, h.len], by have := h.cap; omega, fun hn => ?_⟩
  obtain ⟨b, o, rfl, hb, hcell⟩ := h.at_ (by omega)
  rw [if_neg (by have := h.cap; omega)]
  refine ⟨b, o + k, by rw [Option.map_some, add_plain], hb, fun j u hu => ?_⟩
  rw [Nat.add_assoc]
  exact hcell _ u (by rw [← hu, List.getElem?_drop])
theorem Rd.take (h : Rd w A n c xs) {k c' : Nat} (hk : k ≤ n) (hc : k ≤ c') : Rd w A k c' (xs.take k) :=
  ⟨by rw [List.length_take, h.len]; omega, hc, fun hn => by
    obtain ⟨b, o, e, hb, hcell⟩ := h.at_ (by omega)
    exact ⟨b, o, e, hb, fun j u hu => hcell j u (by
      rw [List.getElem?_take] at hu
      split at hu
      · exact hu
      · cases hu)⟩⟩
end

/-! ### A slice that the call owns -/
structure Own (w : World) (base : Nat) (e : TypeId) (A : Option Addr) (n c : Nat) (xs : List Value) : Prop where
  row : w.ownsRow base e 1 (.slice A n c) n xs

section
variable {w w' : World} {base : Nat} {e : TypeId} {A : Option Addr} {n c : Nat} {xs : List Value}
theorem Own.nil_ (w : World) (base : Nat) (e : TypeId) : Own w base e none 0 0 [] := ⟨World.ownsRow_nil w base e 1⟩
theorem Own.len (h : Own w base e A n c xs) : xs.length = n := by simpa using h.row.1
theorem Own.form (h : Own w base e A n c xs) : (A = none ∧ n = 0 ∧ c = 0 ∧ xs = []) ∨ ∃ g cur, A = some ⟨g, 0, none⟩ ∧ base ≤ g ∧ Blk w g e cur ∧ n ≤ c ∧ c ≤ maxLen ∧ cur.size = c ∧ cur.toList.take n = xs := by
  have h1 := h.row.1
  rcases h.row.2 with ⟨hv, rfl⟩ | ⟨g, cap, cur, hv, hb, hg, hnc, hm, hs, ht⟩
  · simp only [Value.slice.injEq] at hv
    obtain ⟨rfl, _, rfl⟩ := hv
    exact .inl ⟨rfl, rfl, rfl, List.eq_nil_of_length_eq_zero (by simpa using h1)⟩
  · simp only [Value.slice.injEq] at hv
    obtain ⟨rfl, _, rfl⟩ := hv
    exact .inr ⟨g, cur, rfl, hb, ⟨hg⟩, hnc, hm, by simpa using hs, by simpa using ht⟩
theorem Own.of_blk {g : Nat} {cur : Array Value} (hb : base ≤ g) (h : Blk w g e cur) (hnc : n ≤ c) (hm : c ≤ maxLen) (hs : cur.size = c) (ht : cur.toList.take n = xs) : Own w base e (some ⟨g, 0, none⟩) n c xs :=
  ⟨⟨by rw [← ht]; simp; omega, .inr ⟨g, c, cur, rfl, hb, h.is, hnc, hm, by simpa using hs, by simpa using ht⟩⟩⟩
theorem Own.cap (h : Own w base e A n c xs) : n ≤ c := by
  rcases h.form with ⟨_, rfl, rfl, _⟩ | ⟨_, _, _, _, _, h, _⟩
  · exact Nat.le_refl _
  · exact h
theorem Own.lt (h : Own w base e A n c xs) : ∀ ad, A = some ad → base ≤ ad.block ∧ ad.block < w.heap.size := by
  intro ad he
  rcases h.form with ⟨rfl, _⟩ | ⟨g, cur, rfl, hb, hg, _⟩
  · cases he
  · cases he; exact ⟨hb, hg.lt⟩
theorem Own.rd (h : Own w base e A n c xs) : Rd w A n c xs := by
  refine ⟨h.len, h.cap, fun hn => ?_⟩
  rcases h.form with ⟨_, rfl, _⟩ | ⟨g, cur, rfl, hb, hg, hnc, hm, hs, ht⟩
  · omega
  · exact ⟨_, _, rfl, hg.lt, fun j u hu => by rw [← add_plain]; exact h.row.cells (g := g) rfl j u hu⟩
theorem Own.mono {b' : Nat} (h : Own w base e A n c xs) (hb : b' ≤ base) : Own w b' e A n c xs := by
  rcases h.form with ⟨rfl, rfl, rfl, rfl⟩ | ⟨g, cur, rfl, hg0, hg, hnc, hm, hs, ht⟩
  · exact Own.nil_ ..
  · exact Own.of_blk (by omega) hg hnc hm hs ht
theorem Own.kept {row : Option Nat} (h : Own w base e A n c xs) (hg : w.grownBy w' row) (hne : ∀ ad, A = some ad → some ad.block ≠ row) : Own w' base e A n c xs :=
  ⟨h.row.kept hg (by cases A with
    | none => exact .inl rfl
    | some ad => exact .inr (hne ad rfl))⟩
theorem Own.below (h : Own w base e A n c xs) (hb : Below w.heap.size w w') : Own w' base e A n c xs :=
  h.kept (row := none) ⟨hb.os, hb.tape, hb.output, hb.size, fun i hi _ => hb.block i hi⟩ (fun _ _ h => by cases h)
theorem Own.alloc (h : Own w base e A n c xs) (o : Obj) : Own (w.alloc o) base e A n c xs := ⟨h.row.alloc o⟩
theorem Own.drew (h : Own w base e A n c xs) : Own w.drew base e A n c xs := ⟨h.row⟩
theorem Own.drewN (h : Own w base e A n c xs) (k : Nat) : Own (w.drewN k) base e A n c xs := ⟨h.row⟩
theorem Own.setCell (h : Own w base e A n c xs) {p : Addr} (hne : ∀ ad, A = some ad → ad.block ≠ p.block) (u : Value) : Own (w.setCell p u) base e A n c xs :=
  h.kept (row := some p.block) ⟨rfl, rfl, rfl, by simp [World.setCell], fun k _ hk => heap_setCell_other w p k u (fun e => hk (by rw [e]))⟩ (fun ad he h => hne ad he (by injection h))
theorem Own.stored {g : Nat} (h : Own w base e (some ⟨g, 0, none⟩) n c xs) (j : Nat) (u : Value) : Own (w.setCell ⟨g, j, none⟩ u) base e (some ⟨g, 0, none⟩) n c (xs.set j u) := ⟨(h.row.stored j u).1⟩
/-- The cell of an element, and that it may be written. -/
theorem Own.get {k : Nat} (h : Own w base e A n c xs) (hk : k < n) : ∃ g u, A = some ⟨g, 0, none⟩ ∧ base ≤ g ∧ g < w.heap.size ∧ xs[k]? = some u ∧ w.cell? ⟨g, k, none⟩ = some u ∧ w.frozen? ⟨g, k, none⟩ = false := by
  rcases h.form with ⟨_, rfl, _⟩ | ⟨g, cur, rfl, hb, hg, hnc, hm, hs, ht⟩
  · omega
  · have hl : k < xs.length := by rw [h.len]; exact hk
    refine ⟨g, xs[k], rfl, hb, hg.lt, List.getElem?_eq_getElem hl, ?_, hg.frozen k⟩
    have := h.row.cells (g := g) rfl k xs[k] (List.getElem?_eq_getElem hl)
    simpa [Addr.add_lit] using this
end

section
variable {P : Program} (w : World)
theorem run_append_of_nil (base : Nat) (t ty e : TypeId) (i : TypeInfo) (size : Nat) (ht : P.underlying t = some (.slice e)) (hi : P.info? e = some i)
    (v : Value) (n : Nat) (xs : List Value) (hown : w.ownsRow base e size v n xs) (c : Nat) : (Builtin.append_ #[t, t] ty #[v, .slice none 0 c]).run P w = .ok v w := by
  rcases hown.2 with ⟨rfl, rfl⟩ | ⟨g, cap, cur, rfl, _, _, hnc, _⟩
  · simp [Builtin.append_, run_underlying ht, sizeOf, typeInfo, hi, Builtin.lenOf, Builtin.firstCells]
  · simp [Builtin.append_, run_underlying ht, sizeOf, typeInfo, hi, Builtin.lenOf, Builtin.firstCells, hnc, storeCells]

theorem run_app (base : Nat) (t ty e : TypeId) (z : Value) (bytes : Nat) (ht : P.underlying t = some (.slice e)) (hinfo : (P.info? e).map (fun i => (i.zero, i.size, i.bytes)) = some (some z, 1, bytes)) (hz1 : z.cells.size = 1)
    (A : Option Addr) (n c : Nat) (xs : List Value) (hown : Own w base e A n c xs)
    (A' : Option Addr) (m c' : Nat) (news : List Value) (hr : Rd w A' m c' news) (h1 : ∀ u ∈ news, u.oneCell' = true)
    (hbytes : (n + m) * bytes ≤ 140737488355328) (hby : 0 < bytes) (hbase : base ≤ w.heap.size) :
    ∃ A2 c2 w', (Builtin.append_ #[t, t] ty #[.slice A n c, .slice A' m c']).run P w = .ok (.slice A2 (n + m) c2) w' ∧ Own w' base e A2 (n + m) c2 (xs ++ news) ∧ w.grownBy w' (A.map (·.block)) ∧
      (A2 = A ∨ A2 = some ⟨w.heap.size, 0, none⟩) := by
  obtain ⟨i, hi, hz, hs1, hs2⟩ := info_parts hinfo
  have hob : (Value.slice A n c).ownBlock = A.map (·.block) := by cases A <;> rfl
  have h63 : n + m ≤ maxLen := by
    have : n + m ≤ (n + m) * bytes := Nat.le_mul_of_pos_right _ hby
    simp only [maxLen]
    omega
  cases A' with
  | none =>
    have hm : m = 0 := by
      rcases Nat.eq_zero_or_pos m with h0 | h0
      · exact h0
      · obtain ⟨_, _, h, _⟩ := hr.at_ h0
        cases h
    subst hm
    have hn : news = [] := List.eq_nil_of_length_eq_zero hr.len
    subst hn
    exact ⟨A, c, w, run_append_of_nil w base t ty e i 1 ht hi _ n xs hown.row c', by simpa using hown, World.grownBy.refl w _, .inl rfl⟩
  | some ad =>
    have hcells : ∀ j u, news[j]? = some u → w.cell? (ad.add j) = some u := by
      intro j u hu
      rcases Nat.eq_zero_or_pos m with h0 | h0
      · subst h0
        have hn : news = [] := List.eq_nil_of_length_eq_zero hr.len
        subst hn
        simp at hu
      · obtain ⟨b, o, h, _, hc⟩ := hr.at_ h0
        injection h with h
        subst h
        rw [add_plain]
        exact hc j u hu
    obtain ⟨v', w', hrun, h2, h3, h4, h5⟩ := run_append_own_at (P := P) w base t ty e i z 1 bytes ht hi hz hs1 hs2 hz1 (by omega) (.slice A n c) n xs hown.row ad m c' news (by simpa using hr.len) hcells h1 h63 hbytes hbase
    rw [hob] at h3 h5
    have hf : ∃ A2 c2, v' = .slice A2 (n + m) c2 ∧ (A2 = none ∨ ∃ g, A2 = some ⟨g, 0, none⟩) := by
      rcases h2.2 with ⟨rfl, h0⟩ | ⟨g, cap, cur, rfl, _⟩
      · exact ⟨none, 0, by rw [h0], .inl rfl⟩
      · exact ⟨_, _, rfl, .inr ⟨g, rfl⟩⟩
    obtain ⟨A2, c2, rfl, hA2⟩ := hf
    have hA : A = none ∨ ∃ g, A = some ⟨g, 0, none⟩ := by
      rcases hown.form with ⟨h, _⟩ | ⟨g, cur, h, _⟩
      · exact .inl h
      · exact .inr ⟨g, h⟩
    refine ⟨A2, c2, w', hrun, ⟨h2⟩, h3, ?_⟩
    have hob2 : (Value.slice A2 (n + m) c2).ownBlock = A2.map (·.block) := by cases A2 <;> rfl
    rw [hob2] at h5
    rcases hA2 with rfl | ⟨g, rfl⟩ <;> rcases hA with rfl | ⟨g', rfl⟩ <;> simp_all

/-- 'append(s, x...)', s the call's own, x nil, empty or not. -/
theorem wpList_app {ops : Array Oper} {rest : List Oper} {o : Oper} {a : Act} {Q : Exit → Act → World → Prop} (hgd : o.guard = none) (s x : Operand) (t : TypeId)
    (ho : o.op = .call { callee := .builtin .append, args := #[s, x], argTypes := #[t, t] })
    (e : TypeId) (z : Value) (bytes : Nat) (ht : P.underlying t = some (.slice e)) (hinfo : (P.info? e).map (fun i => (i.zero, i.size, i.bytes)) = some (some z, 1, bytes)) (hz1 : z.cells.size = 1) (hby : 0 < bytes)
    (base : Nat) (A : Option Addr) (n c : Nat) (xs : List Value) (hs : a.eval s = .slice A n c) (hown : Own w base e A n c xs)
    (A' : Option Addr) (m c' : Nat) (news : List Value) (hx : a.eval x = .slice A' m c') (hr : Rd w A' m c' news) (h1 : ∀ u ∈ news, u.oneCell' = true)
    (hbytes : (n + m) * bytes ≤ 140737488355328) (hbase : base ≤ w.heap.size)
    (h : ∀ A2 c2 w', Own w' base e A2 (n + m) c2 (xs ++ news) → w.grownBy w' (A.map (·.block)) → (A2 = A ∨ A2 = some ⟨w.heap.size, 0, none⟩) → wpList P ops Q rest (a.put o.dst (.slice A2 (n + m) c2)) w') :
    wpList P ops Q (o :: rest) a w := by
  refine wpList_plain hgd fun K hK => ?_
  obtain ⟨A2, c2, w', hrun, h2, h3, h4⟩ := run_app (P := P) w base t o.type e z bytes ht hinfo hz1 A n c xs hown A' m c' news hr h1 hbytes hby hbase
  unfold Oper.wp execOp
  simp only [ho, resolve, invoke, builtin, Sem.run_bind, Sem.run_pure, Result.andThen_ok, List.map_toArray, List.map_cons, List.map_nil, hs, hx, hrun]
  exact hK _ _ (h A2 c2 w' h2 h3 h4)

/-- 'make([]T, n)'. -/
theorem wpList_mk {ops : Array Oper} {rest : List Oper} {o : Oper} {a : Act} {Q : Exit → Act → World → Prop} (hgd : o.guard = none) (l c : Operand) (t : TypeId) (ho : o.op = Op.makeSlice t l c)
    (e : TypeId) (z : Value) (bytes : Nat) (ht : P.underlying t = some (.slice e)) (hinfo : (P.info? e).map (fun i => (i.zero, i.size, i.bytes)) = some (some z, 1, bytes)) (hz1 : z.cells = #[z])
    (kl kc : IntKind) (L C : Int) (n : Nat) (hl : a.eval l = .int kl L) (hc : a.eval c = .int kc C) (hL : L = (n : Int)) (hC : C = (n : Int)) (b2 : bytes * n ≤ 281474976710656) (b3 : n ≤ maxLen)
    (base : Nat) (hbase : base ≤ w.heap.size)
    (h : ∀ w', Own w' base e (some ⟨w.heap.size, 0, none⟩) n n (List.replicate n z) → w.grownBy w' none → wpList P ops Q rest (a.put o.dst (.slice (some ⟨w.heap.size, 0, none⟩) n n)) w') :
    wpList P ops Q (o :: rest) a w := by
  obtain ⟨i, hi, hz, hs1, hs2⟩ := info_parts hinfo
  refine wpList_make_full w hgd l c t ho base e i z 1 ht hi hz hs1 kl kc L C n hl hc hL hC (by rw [hs2]; exact b2) b3 hbase fun w' h2 h3 => h w' ⟨?_⟩ h3
  rw [hz1, Nat.mul_one, toList_madeCells_one] at h2
  exact h2
/-- 'make([]T, 0, n)'. -/
theorem wpList_mk0 {ops : Array Oper} {rest : List Oper} {o : Oper} {a : Act} {Q : Exit → Act → World → Prop} (hgd : o.guard = none) (l c : Operand) (t : TypeId) (ho : o.op = Op.makeSlice t l c)
    (e : TypeId) (z : Value) (bytes : Nat) (ht : P.underlying t = some (.slice e)) (hinfo : (P.info? e).map (fun i => (i.zero, i.size, i.bytes)) = some (some z, 1, bytes))
    (kl kc : IntKind) (C : Int) (n : Nat) (hl : a.eval l = .int kl 0) (hc : a.eval c = .int kc C) (hC : C = (n : Int)) (b2 : bytes * n ≤ 281474976710656) (b3 : n ≤ maxLen)
    (base : Nat) (hbase : base ≤ w.heap.size)
    (h : ∀ w', Own w' base e (some ⟨w.heap.size, 0, none⟩) 0 n [] → w.grownBy w' none → wpList P ops Q rest (a.put o.dst (.slice (some ⟨w.heap.size, 0, none⟩) 0 n)) w') :
    wpList P ops Q (o :: rest) a w := by
  obtain ⟨i, hi, hz, hs1, hs2⟩ := info_parts hinfo
  exact wpList_make_own w hgd l c t ho base e i z 1 ht hi hz hs1 kl kc C n hl hc hC (by rw [hs2]; exact b2) b3 hbase fun w' h2 h3 => h w' ⟨h2⟩ h3
end

/-- 'Below', out of a step that turns an own row alone. -/
theorem below_own {B : Nat} {a w w' : World} {A : Option Addr} (h : Below B a w) (hg : w.grownBy w' (A.map (·.block))) (hB : B ≤ w.heap.size) (hr : ∀ ad, A = some ad → B ≤ ad.block) : Below B a w' :=
  h.grown hg hB fun k hk => by
    cases A with
    | none => cases hk
    | some ad => cases hk; exact hr ad rfl
theorem below_none {B : Nat} {a w w' : World} (h : Below B a w) (hg : w.grownBy w' none) (hB : B ≤ w.heap.size) : Below B a w' := h.grown hg hB fun k hk => by cases hk
/-- 'Below' along a callee's own. -/
theorem below_step {B : Nat} {a w w' : World} (h : Below B a w) (hb : Below w.heap.size w w') (hB : B ≤ w.heap.size) : Below B a w' := h.trans (hb.mono hB)

/-! ### Slices of numbers -/
/-- A slice that reads as natural numbers, each a value of the kind. -/
structure Ints (w : World) (kd : IntKind) (lim : Nat) (A : Option Addr) (n c : Nat) (l : List Nat) : Prop where
  rd : Rd w A n c (l.map fun x : Nat => .int kd (x : Int))
  lt : ∀ x ∈ l, x < lim

section
variable {w w' : World} {kd : IntKind} {lim : Nat} {A : Option Addr} {n c : Nat} {l : List Nat}
theorem Ints.len (h : Ints w kd lim A n c l) : l.length = n := by simpa using h.rd.len
theorem Ints.nil_ (w : World) (kd : IntKind) (lim : Nat) (A : Option Addr) (c : Nat) : Ints w kd lim A 0 c [] := ⟨Rd.nil_ w A c, fun _ h => by cases h⟩
theorem Ints.get {k : Nat} (h : Ints w kd lim A n c l) (hk : k < n) : ∃ b o x, A = some ⟨b, o, none⟩ ∧ b < w.heap.size ∧ l[k]? = some x ∧ x < lim ∧ w.cell? ⟨b, o + k, none⟩ = some (.int kd (x : Int)) := by
  obtain ⟨b, o, u, e, hb, hu, hc⟩ := h.rd.get hk
  rw [List.getElem?_map] at hu
  obtain ⟨x, hx, rfl⟩ := Option.map_eq_some_iff.1 hu
  exact ⟨b, o, x, e, hb, hx, h.lt x (List.mem_of_getElem? hx), hc⟩
/-- A further element, the place being known. -/
theorem Ints.get' {b o : Nat} {k : Nat} (h : Ints w kd lim (some ⟨b, o, none⟩) n c l) (hk : k < n) : ∃ x, l[k]? = some x ∧ x < lim ∧ w.cell? ⟨b, o + k, none⟩ = some (.int kd (x : Int)) := by
  obtain ⟨_, _, x, e, _, hx, hl, hc⟩ := h.get hk
  cases e
  exact ⟨x, hx, hl, hc⟩
theorem Ints.below (h : Ints w kd lim A n c l) (hb : Below w.heap.size w w') : Ints w' kd lim A n c l := ⟨h.rd.below hb, h.lt⟩
theorem Ints.alloc (h : Ints w kd lim A n c l) (o : Obj) : Ints (w.alloc o) kd lim A n c l := ⟨h.rd.alloc o, h.lt⟩
theorem Ints.drew (h : Ints w kd lim A n c l) : Ints w.drew kd lim A n c l := ⟨h.rd.drew, h.lt⟩
theorem Ints.drewN (h : Ints w kd lim A n c l) (k : Nat) : Ints (w.drewN k) kd lim A n c l := ⟨h.rd.drewN k, h.lt⟩
theorem Ints.grown (h : Ints w kd lim A n c l) {row : Option Nat} (hg : w.grownBy w' row) (hr : ∀ ad, A = some ad → some ad.block ≠ row) : Ints w' kd lim A n c l := ⟨h.rd.grown hg hr, h.lt⟩
theorem Ints.setCell (h : Ints w kd lim A n c l) {p : Addr} (hr : ∀ ad, A = some ad → ad.block ≠ p.block) (u : Value) : Ints (w.setCell p u) kd lim A n c l := ⟨h.rd.setCell hr u, h.lt⟩
theorem Ints.cut (h : Ints w kd lim A n c l) {k : Nat} (hk : k ≤ n) : Ints w kd lim (if c = k then A else A.map (·.add k)) (n - k) (c - k) (l.drop k) :=
  ⟨by rw [List.map_drop]; exact h.rd.cut hk, fun x hx => h.lt x (List.mem_of_mem_drop hx)⟩
/-- 's[k:]', its address under one name: the equation goes into the walk's context as a rule. -/
theorem Ints.cutAt {b o : Nat} (h : Ints w kd lim (some ⟨b, o, none⟩) n c l) {k : Nat} (hk : k ≤ n) : ∃ A', (if c = k then some (⟨b, o, none⟩ : Addr) else some ⟨b, o + k, none⟩) = A' ∧ Ints w kd lim A' (n - k) (c - k) (l.drop k) :=
  ⟨_, rfl, by have := h.cut hk; simpa only [Option.map_some, add_plain] using this⟩
theorem Ints.take (h : Ints w kd lim A n c l) {k c' : Nat} (hk : k ≤ n) (hc : k ≤ c') : Ints w kd lim A k c' (l.take k) :=
  ⟨by rw [List.map_take]; exact h.rd.take hk hc, fun x hx => h.lt x (List.mem_of_mem_take hx)⟩
theorem ints_one (kd : IntKind) (l : List Nat) : ∀ u ∈ l.map (fun x : Nat => Value.int kd (x : Int)), u.oneCell' = true := by
  intro u hu
  obtain ⟨x, _, rfl⟩ := List.mem_map.1 hu
  rfl
end
/-- A row of numbers that the call owns. -/
structure OwnI (w : World) (base : Nat) (kd : IntKind) (lim : Nat) (e : TypeId) (A : Option Addr) (n c : Nat) (l : List Nat) : Prop where
  own : Own w base e A n c (l.map fun x : Nat => .int kd (x : Int))
  lt : ∀ x ∈ l, x < lim

section
variable {w w' : World} {base : Nat} {kd : IntKind} {lim : Nat} {e : TypeId} {A : Option Addr} {n c : Nat} {l : List Nat}
theorem OwnI.nil_ (w : World) (base : Nat) (kd : IntKind) (lim : Nat) (e : TypeId) : OwnI w base kd lim e none 0 0 [] := ⟨Own.nil_ w base e, fun _ h => by cases h⟩
theorem OwnI.len (h : OwnI w base kd lim e A n c l) : l.length = n := by simpa using h.own.len
theorem OwnI.cap (h : OwnI w base kd lim e A n c l) : n ≤ c := h.own.cap
theorem OwnI.ints (h : OwnI w base kd lim e A n c l) : Ints w kd lim A n c l := ⟨h.own.rd, h.lt⟩
theorem OwnI.mono {b' : Nat} (h : OwnI w base kd lim e A n c l) (hb : b' ≤ base) : OwnI w b' kd lim e A n c l := ⟨h.own.mono hb, h.lt⟩
theorem OwnI.kept {row : Option Nat} (h : OwnI w base kd lim e A n c l) (hg : w.grownBy w' row) (hne : ∀ ad, A = some ad → some ad.block ≠ row) : OwnI w' base kd lim e A n c l := ⟨h.own.kept hg hne, h.lt⟩
theorem OwnI.below (h : OwnI w base kd lim e A n c l) (hb : Below w.heap.size w w') : OwnI w' base kd lim e A n c l := ⟨h.own.below hb, h.lt⟩
theorem OwnI.alloc (h : OwnI w base kd lim e A n c l) (o : Obj) : OwnI (w.alloc o) base kd lim e A n c l := ⟨h.own.alloc o, h.lt⟩
theorem OwnI.drew (h : OwnI w base kd lim e A n c l) : OwnI w.drew base kd lim e A n c l := ⟨h.own.drew, h.lt⟩
theorem OwnI.drewN (h : OwnI w base kd lim e A n c l) (k : Nat) : OwnI (w.drewN k) base kd lim e A n c l := ⟨h.own.drewN k, h.lt⟩
theorem OwnI.setCell (h : OwnI w base kd lim e A n c l) {p : Addr} (hne : ∀ ad, A = some ad → ad.block ≠ p.block) (u : Value) : OwnI (w.setCell p u) base kd lim e A n c l := ⟨h.own.setCell hne u, h.lt⟩
theorem OwnI.get {k : Nat} (h : OwnI w base kd lim e A n c l) (hk : k < n) : ∃ g x, A = some ⟨g, 0, none⟩ ∧ base ≤ g ∧ g < w.heap.size ∧ l[k]? = some x ∧ x < lim ∧ w.cell? ⟨g, k, none⟩ = some (.int kd (x : Int)) ∧ w.frozen? ⟨g, k, none⟩ = false := by
  obtain ⟨g, u, e, hb, hs, hu, hc, hf⟩ := h.own.get hk
  rw [List.getElem?_map] at hu
  obtain ⟨x, hx, rfl⟩ := Option.map_eq_some_iff.1 hu
  exact ⟨g, x, e, hb, hs, hx, h.lt x (List.mem_of_getElem? hx), hc, hf⟩
theorem OwnI.stored {g : Nat} (h : OwnI w base kd lim e (some ⟨g, 0, none⟩) n c l) (j : Nat) (x : Nat) (hx : x < lim) : OwnI (w.setCell ⟨g, j, none⟩ (.int kd (x : Int))) base kd lim e (some ⟨g, 0, none⟩) n c (l.set j x) :=
  ⟨by rw [List.map_set]; exact h.own.stored j _, fun y hy => by
    rcases List.mem_or_eq_of_mem_set hy with hy | rfl
    · exact h.lt y hy
    · exact hx⟩
theorem OwnI.lt_ (h : OwnI w base kd lim e A n c l) : ∀ ad, A = some ad → base ≤ ad.block ∧ ad.block < w.heap.size := h.own.lt
end

/-- One element in a new block of its own, as 'append(s, x)' lays it. -/
theorem Ints.one {w : World} (kd : IntKind) (lim : Nat) (t : TypeId) (x : Nat) {E : Int} (hE : E = (x : Int)) (hx : x < lim) {g : Nat} (hg : g = w.heap.size) : Ints (w.alloc (.cells #[.int kd E] t)) kd lim (some ⟨g, 0, none⟩) 1 1 [x] := by
  subst hE; subst hg
  refine ⟨⟨rfl, Nat.le_refl _, fun _ => ⟨_, _, rfl, by simp, ?_⟩⟩, by simpa using hx⟩
  intro j u hu
  rw [← add_plain]
  exact cell_one_new w (.int kd (x : Int)) t j u (by simpa using hu)
section
variable {P : Program} (w : World)
/-- 'append(s, x...)' of numbers. -/
theorem wpList_appI {ops : Array Oper} {rest : List Oper} {o : Oper} {a : Act} {Q : Exit → Act → World → Prop} (hgd : o.guard = none) (s x : Operand) (t : TypeId)
    (ho : o.op = .call { callee := .builtin .append, args := #[s, x], argTypes := #[t, t] })
    {kd : IntKind} {lim : Nat} (e : TypeId) (bytes : Nat) (ht : P.underlying t = some (.slice e)) (hinfo : (P.info? e).map (fun i => (i.zero, i.size, i.bytes)) = some (some (.int kd 0), 1, bytes)) (hby : 0 < bytes)
    {base : Nat} {A : Option Addr} {n c : Nat} {l : List Nat} (hown : OwnI w base kd lim e A n c l) (hs : a.eval s = .slice A n c)
    {A' : Option Addr} {m c' : Nat} {l' : List Nat} (hr : Ints w kd lim A' m c' l') (hx : a.eval x = .slice A' m c')
    (hbytes : (n + m) * bytes ≤ 140737488355328) (hbase : base ≤ w.heap.size)
    (h : ∀ A2 c2 w', OwnI w' base kd lim e A2 (n + m) c2 (l ++ l') → w.grownBy w' (A.map (·.block)) → (A2 = A ∨ A2 = some ⟨w.heap.size, 0, none⟩) → wpList P ops Q rest (a.put o.dst (.slice A2 (n + m) c2)) w') :
    wpList P ops Q (o :: rest) a w :=
  wpList_app w hgd s x t ho e (.int kd 0) bytes ht hinfo rfl hby base A n c _ hs hown.own A' m c' _ hx hr.rd (ints_one kd l') hbytes hbase fun A2 c2 w' h2 h3 h4 =>
    h A2 c2 w' ⟨by rw [List.map_append]; exact h2, fun y hy => by
      rcases List.mem_append.1 hy with hy | hy
      · exact hown.lt y hy
      · exact hr.lt y hy⟩ h3 h4
theorem wpList_mkI {ops : Array Oper} {rest : List Oper} {o : Oper} {a : Act} {Q : Exit → Act → World → Prop} (hgd : o.guard = none) (l c : Operand) (t : TypeId) (ho : o.op = Op.makeSlice t l c)
    {kd : IntKind} {lim : Nat} (hlim : 0 < lim) (e : TypeId) (bytes : Nat) (ht : P.underlying t = some (.slice e)) (hinfo : (P.info? e).map (fun i => (i.zero, i.size, i.bytes)) = some (some (.int kd 0), 1, bytes))
    {kl kc : IntKind} {L C : Int} (n : Nat) (hl : a.eval l = .int kl L) (hc : a.eval c = .int kc C) (hL : L = (n : Int)) (hC : C = (n : Int)) (b2 : bytes * n ≤ 281474976710656) (b3 : n ≤ maxLen)
    (base : Nat) (hbase : base ≤ w.heap.size)
    (h : ∀ w', OwnI w' base kd lim e (some ⟨w.heap.size, 0, none⟩) n n (List.replicate n 0) → w.grownBy w' none → wpList P ops Q rest (a.put o.dst (.slice (some ⟨w.heap.size, 0, none⟩) n n)) w') :
    wpList P ops Q (o :: rest) a w :=
  wpList_mk w hgd l c t ho e (.int kd 0) bytes ht hinfo rfl kl kc L C n hl hc hL hC b2 b3 base hbase fun w' h2 h3 =>
    h w' ⟨by rw [List.map_replicate]; exact h2, fun x hx => by rw [List.eq_of_mem_replicate hx]; exact hlim⟩ h3
end

/-- '[]T{}'. -/
theorem Own.empty {w : World} {base : Nat} (e : TypeId) {g : Nat} (hg : g = w.heap.size) (hb : base ≤ w.heap.size) : Own (w.alloc (.cells #[] e)) base e (some ⟨g, 0, none⟩) 0 0 [] := by
  subst hg
  exact Own.of_blk hb (Blk.new w e #[]) (Nat.le_refl _) (Nat.zero_le _) rfl rfl
theorem OwnI.empty {w : World} {base : Nat} (kd : IntKind) (lim : Nat) (e : TypeId) {g : Nat} (hg : g = w.heap.size) (hb : base ≤ w.heap.size) : OwnI (w.alloc (.cells #[] e)) base kd lim e (some ⟨g, 0, none⟩) 0 0 [] :=
  ⟨Own.empty e hg hb, fun _ h => by cases h⟩

/-- '[]T{..}', its elements written out. -/
theorem OwnI.lit {w : World} {base : Nat} (kd : IntKind) (lim : Nat) (e : TypeId) {n : Nat} {cs : Array Value} (l : List Nat) {g : Nat} (hg : g = w.heap.size) (hn : l.length = n) (hcs : cs.toList = l.map fun x : Nat => Value.int kd (x : Int)) (hl : ∀ x ∈ l, x < lim)
    (hm : n ≤ 4096) (hb : base ≤ w.heap.size) : OwnI (w.alloc (.cells cs e)) base kd lim e (some ⟨g, 0, none⟩) n n l := by
  subst hg
  have hs : cs.size = n := by rw [← Array.length_toList, hcs, List.length_map, hn]
  exact ⟨Own.of_blk hb (Blk.new w e cs) (Nat.le_refl _) (by simp only [maxLen]; omega) hs (by rw [← hcs]; exact List.take_of_length_le (by simp [hs])), hl⟩

/-- A literal's row, marked or not, as it is read. -/
theorem Ints.lit {w : World} (kd : IntKind) (lim : Nat) (e : TypeId) {fr : Nat × Nat} {n : Nat} {cs : Array Value} (l : List Nat) {g : Nat} (hg : g = w.heap.size) (hn : l.length = n) (hcs : cs.toList = l.map fun x : Nat => Value.int kd (x : Int)) (hl : ∀ x ∈ l, x < lim) :
    Ints (w.alloc (.cells cs e fr)) kd lim (some ⟨g, 0, none⟩) n n l := by
  subst hg
  refine ⟨⟨by simp [hn], Nat.le_refl _, fun _ => ⟨_, _, rfl, by simp, fun j u hu => ?_⟩⟩, hl⟩
  rw [← hcs] at hu
  have hg : (w.alloc (.cells cs e fr)).heap[w.heap.size]? = some (.cells cs e fr) := heap_alloc_new w _
  simp only [World.cell?, hg, Nat.zero_add]
  simpa using hu

/-- '[]byte("..")' of a constant, the block's number as the walk spells it. -/
theorem conv_const {P : Program} (t e : TypeId) (ht : P.underlying t = some (.slice e)) (he : P.underlying e = some (.int .u8)) (w : World) (C : Array Value) (n c k : Nat) (hk : k = w.heap.size) :
    (convert t t (.slice (some ⟨k, 0, none⟩) n c)).run P (w.alloc (.cells C e)) = .ok (.slice (some ⟨k, 0, none⟩) n c) (w.alloc (.cells C e (C.size, C.size + 1))) := by
  subst hk
  exact Lib.run_convert_bytes_const w t e C n c ht he

section
variable {P : Program} (w : World)
/-- 'append(s, x...)' of numbers, in a region that draws its order. -/
theorem step_appI {ops : Array Oper} {o : Oper} {a : Act} {K : Act → World → Prop} {Q : Exit → Act → World → Prop} {E : Prop} (hgd : o.guard = none) (s x : Operand) (t : TypeId)
    (ho : o.op = .call { callee := .builtin .append, args := #[s, x], argTypes := #[t, t] })
    {kd : IntKind} {lim : Nat} (e : TypeId) (bytes : Nat) (ht : P.underlying t = some (.slice e)) (hinfo : (P.info? e).map (fun i => (i.zero, i.size, i.bytes)) = some (some (.int kd 0), 1, bytes)) (hby : 0 < bytes)
    {base : Nat} {A : Option Addr} {n c : Nat} {l : List Nat} (hown : OwnI w base kd lim e A n c l) (hs : a.eval s = .slice A n c)
    {A' : Option Addr} {m c' : Nat} {l' : List Nat} (hr : Ints w kd lim A' m c' l') (hx : a.eval x = .slice A' m c')
    (hbytes : (n + m) * bytes ≤ 140737488355328) (hbase : base ≤ w.heap.size)
    (h : ∀ A2 c2 w', OwnI w' base kd lim e A2 (n + m) c2 (l ++ l') → w.grownBy w' (A.map (·.block)) → (A2 = A ∨ A2 = some ⟨w.heap.size, 0, none⟩) → K (a.put o.dst (.slice A2 (n + m) c2)) w') :
    if Region.wanted o (yielded ops a.tmps) = true then Oper.wp P o a w K Q else E := by
  have hw : Region.wanted o (yielded ops a.tmps) = true := by simp [Region.wanted, hgd]
  rw [if_pos hw]
  obtain ⟨A2, c2, w', hrun, h2, h3, h4⟩ := run_app (P := P) w base t o.type e (.int kd 0) bytes ht hinfo rfl A n c _ hown.own A' m c' _ hr.rd (ints_one kd l') hbytes hby hbase
  unfold Oper.wp execOp
  simp only [ho, resolve, invoke, builtin, Sem.run_bind, Sem.run_pure, Result.andThen_ok, List.map_toArray, List.map_cons, List.map_nil, hs, hx, hrun]
  exact h A2 c2 w' ⟨by rw [List.map_append]; exact h2, fun y hy => by
      rcases List.mem_append.1 hy with hy | hy
      · exact hown.lt y hy
      · exact hr.lt y hy⟩ h3 h4
end

/-- Two slices lie in two blocks. -/
structure Dis (A B : Option Addr) : Prop where
  ne : ∀ x y, A = some x → B = some y → x.block ≠ y.block
theorem Dis.none_l (B : Option Addr) : Dis none B := ⟨fun _ _ h => by cases h⟩
theorem Dis.none_r (A : Option Addr) : Dis A none := ⟨fun _ _ _ h => by cases h⟩
theorem Dis.symm {A B : Option Addr} (h : Dis A B) : Dis B A := ⟨fun x y hx hy e => h.ne y x hy hx e.symm⟩
section
variable {w w' : World} {base : Nat} {kd : IntKind} {lim : Nat} {e : TypeId} {A B A2 : Option Addr} {n c : Nat} {l : List Nat}
/-- Another own row behind an append. -/
theorem OwnI.beside (h : OwnI w base kd lim e B n c l) (hg : w.grownBy w' (A.map (·.block))) (hd : Dis A B) : OwnI w' base kd lim e B n c l :=
  h.kept hg fun ad he h => by
    cases A with
    | none => cases h
    | some a => exact hd.ne a ad rfl he (by injection h with h; exact h.symm)
theorem Dis.beside (hb : ∀ ad, B = some ad → ad.block < w.heap.size) (hd : Dis A B) (ha : A2 = A ∨ A2 = some ⟨w.heap.size, 0, none⟩) : Dis A2 B := by
  rcases ha with rfl | rfl
  · exact hd
  · exact ⟨fun x y hx hy h => by cases hx; have := hb y hy; simp at h; omega⟩
end
end Go.Proofs.YticjhlbmdjijnaaDoor

/- Numbers as rows of digits, of whatever base: plain mathematics, no program in sight. No condition. -/
namespace Go.Proofs.YticjhlbmdjijnaaDoor
namespace Num

def val (b : Nat) : List Nat → Nat
  | [] => 0
  | x :: l => x + b * val b l

theorem val_nil (b : Nat) : val b [] = 0 := rfl
theorem val_cons (b x : Nat) (l : List Nat) : val b (x :: l) = x + b * val b l := rfl
theorem val_append (b : Nat) (l m : List Nat) : val b (l ++ m) = val b l + b ^ l.length * val b m := by
  induction l with
  | nil => simp [val]
  | cons x l ih => simp only [List.cons_append, val, ih, List.length_cons, Nat.pow_succ, Nat.mul_add]; rw [Nat.add_assoc, Nat.mul_comm (b ^ l.length) b, Nat.mul_assoc]
theorem val_one (b x : Nat) : val b [x] = x := by simp [val]
theorem val_snoc (b : Nat) (l : List Nat) (x : Nat) : val b (l ++ [x]) = val b l + b ^ l.length * x := by rw [val_append, val_one]
theorem val_lt (b : Nat) (l : List Nat) (h : ∀ x ∈ l, x < b) : val b l < b ^ l.length := by
  induction l with
  | nil => simp [val]
  | cons x l ih =>
    have h1 := ih fun y hy => h y (List.mem_cons_of_mem _ hy)
    have h2 := h x List.mem_cons_self
    simp only [val, List.length_cons, Nat.pow_succ]
    have h3 : b * (val b l + 1) ≤ b * b ^ l.length := Nat.mul_le_mul_left b h1
    rw [Nat.mul_add, Nat.mul_one] at h3
    rw [Nat.mul_comm (b ^ l.length) b]
    omega
theorem val_zeros (b n : Nat) : val b (List.replicate n 0) = 0 := by
  induction n with
  | zero => rfl
  | succ n ih => simp [List.replicate_succ, val, ih]
theorem val_take_drop (b : Nat) (l : List Nat) (k : Nat) (hk : k ≤ l.length) : val b l = val b (l.take k) + b ^ k * val b (l.drop k) := by
  have h := val_append b (l.take k) (l.drop k)
  rw [List.take_append_drop, List.length_take, Nat.min_eq_left hk] at h
  exact h
theorem val_take_succ {l : List Nat} {k x : Nat} (b : Nat) (h : l[k]? = some x) : val b (l.take (k + 1)) = val b (l.take k) + b ^ k * x := by
  have hk := (List.getElem?_eq_some_iff.1 h).1
  rw [List.take_add_one, h, Option.toList_some, val_snoc, List.length_take, Nat.min_eq_left (by omega)]
theorem val_drop_pred {l : List Nat} {k x : Nat} (b : Nat) (h : l[k]? = some x) : val b (l.drop k) = x + b * val b (l.drop (k + 1)) := by
  obtain ⟨hk, rfl⟩ := List.getElem?_eq_some_iff.1 h
  rw [List.drop_eq_getElem_cons hk, val_cons]
theorem val_set {l : List Nat} {k x : Nat} (b y : Nat) (h : l[k]? = some x) : val b (l.set k y) + b ^ k * x = val b l + b ^ k * y := by
  obtain ⟨hk, rfl⟩ := List.getElem?_eq_some_iff.1 h
  clear h
  induction l generalizing k with
  | nil => simp at hk
  | cons z l ih =>
    cases k with
    | zero => simp only [List.set_cons_zero, val, Nat.pow_zero, Nat.one_mul, List.getElem_cons_zero]; omega
    | succ k =>
      have h2 := ih (k := k) (by simpa using hk)
      simp only [List.set_cons_succ, val, List.getElem_cons_succ]
      have h3 := congrArg (b * ·) h2
      simp only [Nat.mul_add] at h3
      rw [Nat.pow_succ, Nat.mul_comm (b ^ k) b, Nat.mul_assoc, Nat.mul_assoc]
      omega
/-- A place that has been written: what stands ahead of it, and the new digit. -/
theorem take_set_succ {l : List Nat} {k : Nat} (y : Nat) (hk : k < l.length) : (l.set k y).take (k + 1) = l.take k ++ [y] := by
  rw [List.take_add_one, List.take_set_of_le (Nat.le_refl _), List.getElem?_set_self hk]
  rfl
theorem val_take_set (b : Nat) {l : List Nat} {k : Nat} (y : Nat) (hk : k < l.length) : val b ((l.set k y).take (k + 1)) = val b (l.take k) + b ^ k * y := by
  rw [take_set_succ y hk, val_snoc, List.length_take, Nat.min_eq_left (by omega)]

/-! ### The digits of a number -/
def dig (b n : Nat) : List Nat := if _h : b < 2 ∨ n = 0 then [] else n % b :: dig b (n / b)
termination_by n
decreasing_by exact Nat.div_lt_self (by omega) (by omega)

theorem dig_zero (b : Nat) : dig b 0 = [] := by rw [dig]; simp
theorem dig_pos {b n : Nat} (hb : 2 ≤ b) (hn : 0 < n) : dig b n = n % b :: dig b (n / b) := by
  rw [dig, dif_neg (by omega)]
theorem val_dig {b : Nat} (hb : 2 ≤ b) (n : Nat) : val b (dig b n) = n := by
  induction n using Nat.strongRecOn with
  | ind n ih =>
    rcases Nat.eq_zero_or_pos n with rfl | hn
    · rw [dig_zero]; rfl
    · rw [dig_pos hb hn, val_cons, ih _ (Nat.div_lt_self hn (by omega))]
      exact Nat.mod_add_div n b
theorem dig_lt {b : Nat} (hb : 2 ≤ b) (n : Nat) : ∀ x ∈ dig b n, x < b := by
  induction n using Nat.strongRecOn with
  | ind n ih =>
    rcases Nat.eq_zero_or_pos n with rfl | hn
    · rw [dig_zero]; intro x hx; cases hx
    · rw [dig_pos hb hn]
      intro x hx
      rcases List.mem_cons.1 hx with rfl | hx
      · exact Nat.mod_lt _ (by omega)
      · exact ih _ (Nat.div_lt_self hn (by omega)) x hx
theorem dig_inj {b : Nat} (hb : 2 ≤ b) {n m : Nat} (h : dig b n = dig b m) : n = m := by
  rw [← val_dig hb n, h, val_dig hb]
theorem dig_eq_nil {b : Nat} (hb : 2 ≤ b) (n : Nat) : dig b n = [] ↔ n = 0 := by
  constructor
  · intro h
    have := val_dig hb n
    rw [h] at this
    exact this.symm
  · rintro rfl
    exact dig_zero b
theorem dig_cons {b : Nat} (hb : 2 ≤ b) {x m : Nat} (hx : x < b) (h : 0 < x + b * m) : dig b (x + b * m) = x :: dig b m := by
  rw [dig_pos hb h, Nat.add_mul_mod_self_left, Nat.mod_eq_of_lt hx, Nat.add_mul_div_left _ _ (by omega), Nat.div_eq_of_lt hx, Nat.zero_add]
/-- A row whose highest digit is none 0 is its value's. -/
theorem dig_val {b : Nat} (hb : 2 ≤ b) (l : List Nat) (h : ∀ x ∈ l, x < b) (ht : ∀ x, l[l.length - 1]? = some x → x ≠ 0) : dig b (val b l) = l := by
  induction l with
  | nil => exact dig_zero b
  | cons x l ih =>
    have hx := h x List.mem_cons_self
    cases l with
    | nil =>
      have h0 := ht x (by simp)
      have := dig_cons (m := 0) hb hx (by omega)
      rw [dig_zero] at this
      simpa [val] using this
    | cons y l =>
      have ih' := ih (fun z hz => h z (List.mem_cons_of_mem _ hz)) (fun z hz => ht z (by simpa using hz))
      have hp : 0 < val b (y :: l) := by
        rcases Nat.eq_zero_or_pos (val b (y :: l)) with h0 | h0
        · rw [h0, dig_zero] at ih'; cases ih'
        · exact h0
      rw [val_cons, dig_cons hb hx (Nat.lt_of_lt_of_le (Nat.mul_pos (by omega) hp) (Nat.le_add_left _ _)), ih']
theorem dig_len_le {b : Nat} (hb : 2 ≤ b) (k : Nat) : ∀ n, n < b ^ k → (dig b n).length ≤ k := by
  induction k with
  | zero => intro n hn; have : n = 0 := by simpa using hn
            subst this; simp [dig_zero]
  | succ k ih =>
    intro n hn
    rcases Nat.eq_zero_or_pos n with rfl | hp
    · simp [dig_zero]
    · rw [dig_pos hb hp, List.length_cons]
      have := ih (n / b) (by rw [Nat.div_lt_iff_lt_mul (by omega)]; rwa [Nat.pow_succ] at hn)
      omega
theorem lt_dig_len {b : Nat} (hb : 2 ≤ b) (n : Nat) : n < b ^ (dig b n).length := by
  have := val_lt b (dig b n) (dig_lt hb n)
  rwa [val_dig hb] at this
theorem dig_len_val {b : Nat} (hb : 2 ≤ b) (l : List Nat) (h : ∀ x ∈ l, x < b) : (dig b (val b l)).length ≤ l.length := dig_len_le hb _ _ (val_lt b l h)
theorem dig_len_mono {b : Nat} (hb : 2 ≤ b) {n m : Nat} (h : n ≤ m) : (dig b n).length ≤ (dig b m).length := dig_len_le hb _ _ (Nat.lt_of_le_of_lt h (lt_dig_len hb m))
/-- The highest digit of a number is none 0. -/
theorem dig_top {b : Nat} (hb : 2 ≤ b) (n : Nat) : ∀ x, (dig b n)[(dig b n).length - 1]? = some x → x ≠ 0 := by
  induction n using Nat.strongRecOn with
  | ind n ih =>
    rcases Nat.eq_zero_or_pos n with rfl | hn
    · intro x hx; simp [dig_zero] at hx
    · rw [dig_pos hb hn]
      intro x hx
      rcases Nat.eq_zero_or_pos (n / b) with h0 | h0
      · rw [h0, dig_zero] at hx
        have : n % b = x := by simpa using hx
        have h1 : n < b := by
          rcases Nat.lt_or_ge n b with h | h
          · exact h
          · have := Nat.div_pos h (by omega); omega
        rw [Nat.mod_eq_of_lt h1] at this
        omega
      · have hl : 0 < (dig b (n / b)).length := by
          rcases Nat.eq_zero_or_pos (dig b (n / b)).length with h | h
          · have := (dig_eq_nil hb _).1 (List.eq_nil_of_length_eq_zero h); omega
          · exact h
        have hlt : n / b < n := Nat.div_lt_self hn (by omega)
        have key : (dig b (n / b))[(dig b (n / b)).length - 1]? = some x := by
          rw [List.length_cons, Nat.add_sub_cancel, List.getElem?_cons, if_neg (by omega)] at hx
          exact hx
        exact ih _ hlt x key
theorem dig_ge {b : Nat} (hb : 2 ≤ b) {n : Nat} {k : Nat} (h : (dig b n).length = k + 1) : b ^ k ≤ n := by
  rcases Nat.lt_or_ge n (b ^ k) with hlt | hge
  · have := dig_len_le hb k n hlt; omega
  · exact hge
/-- A shorter number is less. -/
theorem lt_of_len {b : Nat} (hb : 2 ≤ b) {n m : Nat} (h : (dig b n).length < (dig b m).length) : n < m := by
  rcases Nat.lt_or_ge n m with hlt | hge
  · exact hlt
  · have := dig_len_mono hb hge; omega

/-- A digit; 0 beyond the end. -/
theorem val_take_getD (b : Nat) (l : List Nat) (k : Nat) : val b (l.take (k + 1)) = val b (l.take k) + b ^ k * l[k]?.getD 0 := by
  rcases Nat.lt_or_ge k l.length with h | h
  · rw [val_take_succ b (List.getElem?_eq_getElem h), List.getElem?_eq_getElem h]; rfl
  · rw [List.take_of_length_le (by omega), List.take_of_length_le h, List.getElem?_eq_none h]; simp
/-- Two rows of one length that are alike from a place on, and differ there. -/
theorem val_lt_at {b : Nat} (l m : List Nat) (k x y : Nat) (hlm : l.length = m.length) (hl : ∀ x ∈ l, x < b) (hx : l[k]? = some x) (hy : m[k]? = some y) (hd : l.drop (k + 1) = m.drop (k + 1)) (hxy : x < y) : val b l < val b m := by
  have hk := (List.getElem?_eq_some_iff.1 hx).1
  rw [val_take_drop b l k (by omega), val_take_drop b m k (by omega), val_drop_pred b hx, val_drop_pred b hy, hd]
  have h1 := val_lt b (l.take k) (fun z hz => hl z (List.mem_of_mem_take hz))
  rw [List.length_take, Nat.min_eq_left (by omega)] at h1
  have h2 : b ^ k * (x + 1) ≤ b ^ k * y := Nat.mul_le_mul_left _ hxy
  rw [Nat.mul_add, Nat.mul_one] at h2
  rw [Nat.mul_add, Nat.mul_add]
  omega

/-- How one number stands to another. -/
def cmp (n m : Nat) : Int := if n < m then -1 else if m < n then 1 else 0
theorem cmp_lt {n m : Nat} (h : n < m) : cmp n m = -1 := by unfold cmp; rw [if_pos h]
theorem cmp_gt {n m : Nat} (h : m < n) : cmp n m = 1 := by unfold cmp; rw [if_neg (by omega), if_pos h]
theorem cmp_eq (n : Nat) : cmp n n = 0 := by unfold cmp; rw [if_neg (by omega), if_neg (by omega)]
end Num
end Go.Proofs.YticjhlbmdjijnaaDoor

/- Further words for memory: copy, of whatever program. No condition. -/
namespace Go.Proofs.YticjhlbmdjijnaaDoor
open Go.RowKit

theorem ret_int {k : IntKind} {a b : Int} (h : a = b) : Ending.returned (.int k a) = .returned (.int k b) := by rw [h]
theorem ret_bool {a b : Bool} (h : a = b) : Ending.returned (.bool a) = .returned (.bool b) := by rw [h]

theorem grown_drew {w w' : World} {row : Option Nat} (h : w.grownBy w' row) : w.grownBy w'.drew row := ⟨h.os, h.tape, h.output, h.size, h.block⟩
theorem grown_drewN {w w' : World} {row : Option Nat} (h : w.grownBy w' row) (n : Nat) : w.grownBy (w'.drewN n) row := ⟨h.os, h.tape, h.output, h.size, h.block⟩
theorem grown_set {w w' : World} {b : Nat} (h : w.grownBy w' (some b)) (i : Nat) (v : Value) : w.grownBy (w'.setCell ⟨b, i, none⟩ v) (some b) :=
  ⟨h.os, h.tape, h.output, by simpa [World.setCell] using h.size, fun k hk hne => (heap_setCell_other w' ⟨b, i, none⟩ k v (fun e => hne (by rw [e]))).trans (h.block k hk hne)⟩

section
variable {P : Program} {w : World}
/-- 'copy(dst, src)' of numbers, dst a row of the call's own. -/
theorem wpList_copyI {ops : Array Oper} {rest : List Oper} {o : Oper} {a : Act} {Q : Exit → Act → World → Prop} (hgd : o.guard = none) (d s : Operand) (dT sT : TypeId)
    (ho : o.op = .call { callee := .builtin .copy, args := #[d, s], argTypes := #[dT, sT] }) {kd : IntKind} {lim : Nat} (e : TypeId) (hu : P.underlying dT = some (.slice e)) (hsz : (P.info? e).map (·.size) = some 1)
    {base g n c : Nat} {l : List Nat} (hown : OwnI w base kd lim e (some ⟨g, 0, none⟩) n c l) (hd : a.eval d = .slice (some ⟨g, 0, none⟩) n c)
    {A : Option Addr} {m c' : Nat} {l' : List Nat} (hr : Ints w kd lim A m c' l') (hs : a.eval s = .slice A m c')
    (h : ∀ w', OwnI w' base kd lim e (some ⟨g, 0, none⟩) n c (l'.take n ++ l.drop m) → w.grownBy w' (some g) → wpList P ops Q rest (a.put o.dst (goInt (Nat.min m n))) w') :
    wpList P ops Q (o :: rest) a w := by
  have hln := hown.len
  have hlm := hr.len
  rcases Nat.eq_zero_or_pos (Nat.min m n) with h0 | h0
  · refine wpList_copy_nothing hgd d s dT sT ho e hu hsz _ _ n c m c' hd hs h0 ?_
    have := h w (by
      have hz : l'.take n ++ l.drop m = l := by
        rcases Nat.eq_zero_or_pos m with rfl | hm
        · rw [List.eq_nil_of_length_eq_zero hlm]; simp
        · have hn : n = 0 := by
            rcases Nat.eq_zero_or_pos n with hn | hn
            · exact hn
            · have : 0 < Nat.min m n := Nat.lt_min.2 ⟨hm, hn⟩
              omega
          subst hn
          rw [List.eq_nil_of_length_eq_zero hln]; simp
      rw [hz]; exact hown) (World.grownBy.refl w _)
    rw [h0] at this
    exact this
  · have hm : 0 < m := Nat.lt_of_lt_of_le h0 (Nat.min_le_left ..)
    have hn : 0 < n := Nat.lt_of_lt_of_le h0 (Nat.min_le_right ..)
    obtain ⟨b, o', rfl, hb, hc⟩ := hr.rd.at_ hm
    rcases hown.own.form with ⟨h, _⟩ | ⟨g', cur, he, hbg, hblk, hnc, hmx, hcs, htk⟩
    · cases h
    · cases he
      have hlc : ((l'.take n).map fun x : Nat => Value.int kd (x : Int)).length = Nat.min m n := by
        rw [List.length_map, List.length_take, hlm, Nat.min_comm]
      refine wpList_copy_own hgd d s dT sT ho e hu hsz g 0 n c ⟨b, o', none⟩ m c' hd hs cur e hblk.is ((l'.take n).map fun x : Nat => .int kd (x : Int)) hlc ?_ (by rw [hlc, hcs]; exact Nat.le_trans (Nat.zero_add _ ▸ Nat.min_le_right m n) hnc) (ints_one kd _) ?_
      · intro j v hv
        rw [add_plain]
        refine hc j v ?_
        rw [List.map_take, List.getElem?_take] at hv
        split at hv
        · exact hv
        · cases hv
      · have hgrow : w.grownBy (w.setRow g (cur.toList.take 0 ++ (((l'.take n).map fun x : Nat => Value.int kd (x : Int)) ++ cur.toList.drop (0 + ((l'.take n).map fun x : Nat => Value.int kd (x : Int)).length))).toArray) (some g) :=
          ⟨rfl, rfl, rfl, by simp [World.setRow], fun k _ hk => setRow_other w g k _ (fun e => hk (by rw [e]))⟩
        have hblk' := setRow_heap w g cur (cur.toList.take 0 ++ (((l'.take n).map fun x : Nat => Value.int kd (x : Int)) ++ cur.toList.drop (0 + ((l'.take n).map fun x : Nat => Value.int kd (x : Int)).length))).toArray e _ hblk.is
        rw [show goInt ((l'.take n).map fun x : Nat => Value.int kd (x : Int)).length = goInt (Nat.min m n) by rw [hlc]]
        refine h _ ⟨Own.of_blk hbg ⟨hblk'⟩ hnc hmx ?_ ?_, ?_⟩ hgrow
        · have := Nat.min_le_right m n
          simp [hcs]; omega
        · have h1 := Nat.min_le_right m n
          simp only [List.take_zero, List.nil_append, Nat.zero_add, hlc]
          rw [List.map_append, List.take_append, hlc, List.take_of_length_le (by rw [hlc]; exact h1)]
          congr 1
          rw [List.map_drop, ← htk]
          rcases Nat.le_total m n with hmn' | hmn'
          · rw [show m.min n = m from Nat.min_eq_left hmn', List.take_drop]
            congr 2
            omega
          · rw [show m.min n = n from Nat.min_eq_right hmn', Nat.sub_self, List.take_zero, List.drop_eq_nil_of_le]
            simp; omega
        · intro x hx
          rcases List.mem_append.1 hx with hx | hx
          · exact hr.lt x (List.mem_of_mem_take hx)
          · exact hown.lt x (List.mem_of_mem_drop hx)
end
end Go.Proofs.YticjhlbmdjijnaaDoor

/- The contracts of package nat, first part: Trim, limb, Add, Sub, Cmp, Mul. No condition but the reach of a slice. -/
namespace Go.Proofs.YticjhlbmdjijnaaDoor
open Go.RowKit

/-- The value of a row of limbs; the limbs of a value. -/
def vl (l : List Nat) : Nat := Num.val 4294967296 l
def lmb (v : Nat) : List Nat := Num.dig 4294967296 v
theorem vl_lmb (v : Nat) : vl (lmb v) = v := Num.val_dig (by decide) v
theorem lmb_lt (v : Nat) : ∀ x ∈ lmb v, x < 4294967296 := Num.dig_lt (by decide) v
theorem lmb_len (l : List Nat) (h : ∀ x ∈ l, x < 4294967296) : (lmb (vl l)).length ≤ l.length := Num.dig_len_val (by decide) l h
theorem lmb_zero : lmb 0 = [] := Num.dig_zero _
theorem lmb_inj {v u : Nat} (h : lmb v = lmb u) : v = u := Num.dig_inj (by decide) h
/-- A row of limbs. -/
abbrev Lim (w : World) (A : Option Addr) (n c : Nat) (l : List Nat) : Prop := Ints w .u32 4294967296 A n c l
/-- A row of limbs of the call's own. -/
abbrev OwnL (w : World) (base : Nat) (A : Option Addr) (n c : Nat) (l : List Nat) : Prop := OwnI w base .u32 4294967296 43 A n c l
theorem info_u32 : (Tryd.prog.info? 43).map (fun i => (i.zero, i.size, i.bytes)) = some (some (.int .u32 0), 1, 4) := by kernel_rfl
theorem size_u32 : (Tryd.prog.info? 43).map (·.size) = some 1 := by kernel_rfl

section
variable {w : World} {ops : Array Oper} {rest : List Oper} {o : Oper} {a : Act} {Q : Exit → Act → World → Prop}
theorem wpList_mkL (hgd : o.guard = none) (l c : Operand) (ho : o.op = Op.makeSlice 22 l c) {kl kc : IntKind} {L C : Int} (n : Nat) (hl : a.eval l = .int kl L) (hc : a.eval c = .int kc C) (hL : L = (n : Int)) (hC : C = (n : Int)) (hn : n ≤ 17592186044416)
    (base : Nat) (hbase : base ≤ w.heap.size)
    (h : ∀ w', OwnL w' base (some ⟨w.heap.size, 0, none⟩) n n (List.replicate n 0) → w.grownBy w' none → wpList Tryd.prog ops Q rest (a.put o.dst (.slice (some ⟨w.heap.size, 0, none⟩) n n)) w') :
    wpList Tryd.prog ops Q (o :: rest) a w :=
  wpList_mkI w hgd l c 22 ho (lim := 4294967296) (by omega) 43 4 Tryd.underlying22 info_u32 n hl hc hL hC (by omega) (by unfold maxLen; omega) base hbase h
theorem wpList_copyL (hgd : o.guard = none) (d s : Operand) (ho : o.op = .call { callee := .builtin .copy, args := #[d, s], argTypes := #[22, 22] })
    {base g n c : Nat} {l : List Nat} (hown : OwnL w base (some ⟨g, 0, none⟩) n c l) (hd : a.eval d = .slice (some ⟨g, 0, none⟩) n c)
    {A : Option Addr} {m c' : Nat} {l' : List Nat} (hr : Lim w A m c' l') (hs : a.eval s = .slice A m c')
    (h : ∀ w', OwnL w' base (some ⟨g, 0, none⟩) n c (l'.take n ++ l.drop m) → w.grownBy w' (some g) → wpList Tryd.prog ops Q rest (a.put o.dst (goInt (Nat.min m n))) w') :
    wpList Tryd.prog ops Q (o :: rest) a w := wpList_copyI hgd d s _ _ ho 43 Tryd.underlying22 size_u32 hown hd hr hs h
end

set_option maxRecDepth 100000 in
set_option maxHeartbeats 400000 in
theorem trim_any (A : Option Addr) (n c : Nat) (l : List Nat) (w : World) (hr : Lim w A n c l) (hn : n ≤ 1099511627776) :
    Calls Tryd.prog 39 #[.slice A n c] w fun e w' => ∃ A' m, e = .returned (.slice A' m m) ∧ m ≤ n ∧ OwnL w' w.heap.size A' m m (lmb (vl l)) ∧ Below w.heap.size w w' := by
  have hlen := hr.len
  go_enter Tryd.func39, Tryd.ntmps39
  go_wp2
  go_loop [3] (fun i => ∃ k : Nat, k ≤ n ∧ i = .int .i64 k ∧ vl (l.take k) = vl l) (fun i => (intOf i).toNat)
  case atStart => exact ⟨n, Nat.le_refl _, rfl, by rw [List.take_of_length_le (by omega)]⟩
  case round =>
    obtain ⟨k, hk, rfl, hv⟩ := hrel
    by_cases h0 : k = 0
    · subst h0
      have HV : Hid (lmb (vl l) = l.take 0) := by
        show lmb (vl l) = l.take 0
        rw [← hv]; exact lmb_zero
      clear hv
      go_wp2_with (first
        | (refine wpList_mkL rfl _ _ rfl 0 rfl rfl rfl rfl (by omega) w.heap.size (Nat.le_refl _) ?_; intro w2 hown hg2)
        | (refine wpList_copyL (o := ⟨some 23, _, _, _, _, _⟩) rfl (.tmp 21) (.tmp 22) rfl hown rfl (hr.below (below_none (Below.refl _ _) hg2 (Nat.le_refl _))) rfl ?_; intro w3 hown3 hg3))
      go_ret
      refine ⟨_, 0, rfl, by omega, ?_, (below_none (Below.refl _ _) hg2 (Nat.le_refl _)).grown hg3 hg2.size (by simp)⟩
      rw [HV.out]
      simpa [hlen, hk] using hown3
    · obtain ⟨b, o, x, rfl, _, hx, hxl, hc⟩ := hr.get (k := k - 1) (by omega)
      have k1 : (k : Int) - 1 = ((k - 1 : Nat) : Int) := by omega
      have hs : l.take k = l.take (k - 1) ++ [x] := by
        rw [show k = (k - 1) + 1 by omega, List.take_add_one, hx]; rfl
      by_cases hx0 : x = 0
      · have hv2 : vl (l.take (k - 1)) = vl l := by
          rw [← hv, hs, hx0]
          unfold vl
          rw [Num.val_snoc]; simp
        have HV := Lib.hid hv2
        subst hx0
        clear hv hv2 hs hx
        go_wp2_with fail
        exact ⟨⟨k - 1, by omega, by go_num, HV.out⟩, by simp [intOf]; omega⟩
      · have HV : Hid (lmb (vl l) = l.take k) := by
          show lmb (vl l) = l.take k
          rw [← hv]
          refine Num.dig_val (by decide) _ (fun y hy => hr.lt y (List.mem_of_mem_take hy)) ?_
          intro y hy
          rw [List.length_take, Nat.min_eq_left (by omega), List.getElem?_take, if_pos (by omega), hx] at hy
          cases hy
          exact hx0
        have ht : ((x : Int) == 0) = false := by simp; exact hx0
        clear hv hs hx
        go_wp2_with (first
          | (refine wpList_mkL rfl _ _ rfl k rfl rfl rfl rfl (by omega) w.heap.size (Nat.le_refl _) ?_; intro w2 hown hg2)
          | (refine wpList_copyL (o := ⟨some 23, _, _, _, _, _⟩) rfl (.tmp 21) (.tmp 22) rfl hown rfl (hr.below (below_none (Below.refl _ _) hg2 (Nat.le_refl _))) rfl ?_; intro w3 hown3 hg3))
        go_ret
        refine ⟨_, k, rfl, by omega, ?_, (below_none (Below.refl _ _) hg2 (Nat.le_refl _)).grown hg3 hg2.size (by simp)⟩
        rw [HV.out]
        simpa [hlen, hk] using hown3
end Go.Proofs.YticjhlbmdjijnaaDoor

/- The contracts of package nat: limb, Add, Mul. No condition but the reach of a slice. -/
namespace Go.Proofs.YticjhlbmdjijnaaDoor
open Go.RowKit

set_option maxRecDepth 100000 in
theorem limb_any (A : Option Addr) (n c : Nat) (l : List Nat) (w : World) (hr : Lim w A n c l) (i : Nat) (y : Nat) (hy : l[i]?.getD 0 = y) :
    Calls Tryd.prog 47 #[.slice A n c, .int .i64 i] w fun e w' => e = .returned (.int .u64 y) ∧ w' = w := by
  have hlen := hr.len
  by_cases h : i < n
  · obtain ⟨b, o, x, rfl, _, hx, hxl, hc⟩ := hr.get h
    rw [hx] at hy
    obtain rfl : x = y := hy
    clear hx
    go_enter Tryd.func47, Tryd.ntmps47
    go_wp2
    go_ret
    exact ⟨ret_int (by omega), rfl⟩
  · rw [List.getElem?_eq_none (by omega)] at hy
    obtain rfl : 0 = y := hy
    go_enter Tryd.func47, Tryd.ntmps47
    go_wp2
    go_ret
    exact ⟨rfl, rfl⟩

/-- The value of the first k digits, those beyond the end 0. -/
theorem vl_take_getD (l : List Nat) (k y : Nat) (hy : l[k]?.getD 0 = y) : vl (l.take (k + 1)) = vl (l.take k) + 4294967296 ^ k * y := by
  subst hy; exact Num.val_take_getD _ l k
theorem vl_take_set {l : List Nat} {k : Nat} (y : Nat) (hk : k < l.length) : vl ((l.set k y).take (k + 1)) = vl (l.take k) + 4294967296 ^ k * y := Num.val_take_set _ y hk
theorem getD_lt {l : List Nat} {B : Nat} (hB : 0 < B) (h : ∀ x ∈ l, x < B) (k y : Nat) (hy : l[k]?.getD 0 = y) : y < B := by
  subst hy
  rcases Nat.lt_or_ge k l.length with hk | hk
  · rw [List.getElem?_eq_getElem hk]; exact h _ (List.getElem_mem hk)
  · rw [List.getElem?_eq_none hk]; exact hB

theorem add_step (P s t u B C x y : Nat) (hs : s + P * C = t + u) : s + P * ((C + (x + y)) % B) + P * B * ((C + (x + y)) / B) = (t + P * x) + (u + P * y) := by
  have h : P * ((C + (x + y)) % B + B * ((C + (x + y)) / B)) = P * (C + (x + y)) := by rw [Nat.mod_add_div]
  rw [Nat.mul_add, Nat.mul_add, Nat.mul_add, ← Nat.mul_assoc] at h
  omega

set_option maxRecDepth 100000 in
set_option maxHeartbeats 800000 in
theorem add_any (A A' : Option Addr) (n c n' c' : Nat) (l l' : List Nat) (w : World) (hr : Lim w A n c l) (hr' : Lim w A' n' c' l') (hn : n ≤ 549755813888) (hn' : n' ≤ 549755813888) :
    Calls Tryd.prog 29 #[.slice A n c, .slice A' n' c'] w fun e w' => ∃ A2 m, e = .returned (.slice A2 m m) ∧ m ≤ max n n' + 1 ∧ OwnL w' w.heap.size A2 m m (lmb (vl l + vl l')) ∧ Below w.heap.size w w' := by
  have hlen := hr.len
  have hlen' := hr'.len
  obtain ⟨N, hN⟩ : ∃ N, max n n' = N := ⟨_, rfl⟩
  have hmx : (if n < n' then (n' : Int) else (n : Int)) = (N : Int) := by omega
  have hN1 : N ≤ 549755813888 := by omega
  have hl1 : n ≤ N := by omega
  have hl2 : n' ≤ N := by omega
  rw [hN]
  clear hN
  go_enter Tryd.func29, Tryd.ntmps29
  go_wp2_with (refine wpList_mkL rfl _ _ rfl (N + 1) rfl rfl (by omega) (by omega) (by omega) w.heap.size (Nat.le_refl _) ?_; intro w2 hown hg2)
  have hb2 := below_none (Below.refl w.heap.size w) hg2 (Nat.le_refl _)
  go_loopw [7, 18] (fun cy i wr => ∃ k C : Nat, k ≤ N ∧ i = .int .i64 k ∧ cy = .int .u64 C ∧ C ≤ 1 ∧ ∃ o : List Nat, OwnL wr w.heap.size (some ⟨w.heap.size, 0, none⟩) (N + 1) (N + 1) o ∧
      vl (o.take k) + 4294967296 ^ k * C = vl (l.take k) + vl (l'.take k) ∧ Below w.heap.size w wr) (fun _ i _ => N - (intOf i).toNat)
  case atStart => exact ⟨0, 0, by omega, rfl, rfl, by omega, _, hown, by simp [vl, Num.val], hb2⟩
  case round =>
    obtain ⟨k, C, hk, rfl, rfl, hC, o, ho, hsum, hb⟩ := hrel
    by_cases hlt : k < N
    · obtain ⟨x, hx⟩ : ∃ x, l[k]?.getD 0 = x := ⟨_, rfl⟩
      obtain ⟨y, hy⟩ : ∃ y, l'[k]?.getD 0 = y := ⟨_, rfl⟩
      have hxl := getD_lt (by omega) hr.lt k x hx
      have hyl := getD_lt (by omega) hr'.lt k y hy
      obtain ⟨g, z, he, _, _, hz, _, hc, hf⟩ := ho.get (k := k) (by omega)
      cases he
      have hL1 := limb_any A n c l wr (hr.below hb) k x hx
      have hL2 := limb_any A' n' c' l' wr (hr'.below hb) k y hy
      have hstep : vl ((o.set k ((C + (x + y)) % 4294967296)).take (k + 1)) + 4294967296 ^ (k + 1) * ((C + (x + y)) / 4294967296) = vl (l.take (k + 1)) + vl (l'.take (k + 1)) := by
        rw [vl_take_set _ (by rw [ho.len]; omega), vl_take_getD l k x hx, vl_take_getD l' k y hy, Nat.pow_succ]
        exact add_step _ _ _ _ _ _ _ _ hsum
      have HS := Lib.hid hstep
      clear hz hx hy hstep hsum
      go_wp2_with fail
      refine hL1.mono ?_; rintro e w' ⟨rfl, rfl⟩
      go_wp2_with fail
      refine hL2.mono ?_; rintro e w' ⟨rfl, rfl⟩
      go_wp2_with fail
      have e1 : ((C : Int) + (x + y)) % 4294967296 = (((C + (x + y)) % 4294967296 : Nat) : Int) := by omega
      have e2 : ((C : Int) + (x + y)) / 4294967296 = (((C + (x + y)) / 4294967296 : Nat) : Int) := by omega
      rw [e1, e2]
      exact ⟨⟨k + 1, _, by omega, by go_num, rfl, by omega, _, ho.stored k _ (Nat.mod_lt _ (by omega)), HS.out, hb.setCell (Nat.le_refl _) _⟩, by simp [intOf]; omega⟩
    · obtain rfl : k = N := by omega
      obtain ⟨g, z, he, _, _, _, _, hc, hf⟩ := ho.get (k := k) (by omega)
      cases he
      have hfin : lmb (vl (o.set k C)) = lmb (vl l + vl l') := by
        have h1 := vl_take_set (l := o) (k := k) C (by rw [ho.len]; omega)
        rw [List.take_of_length_le (by simp [ho.len])] at h1
        rw [h1, hsum, List.take_of_length_le (by omega), List.take_of_length_le (by omega)]
      have HF := Lib.hid hfin
      have ho' := ho.stored k C (by omega)
      have ht := fun w0 h0 => trim_any (some ⟨w.heap.size, 0, none⟩) (k + 1) (k + 1) (o.set k C) w0 h0 (by omega)
      clear hfin hsum
      go_wp2_with fail
      refine (ht _ ho'.ints).mono ?_; rintro e w' ⟨A2, m, rfl, hm, hO, hB⟩
      rw [HF.out] at hO
      have hb3 := hb.setCell (p := ⟨w.heap.size, k, none⟩) (Nat.le_refl _) (.int .u32 (C : Int))
      go_wp2_with fail
      go_ret
      exact ⟨_, _, rfl, hm, hO.mono hb3.size, below_step hb3 hB hb3.size⟩
end Go.Proofs.YticjhlbmdjijnaaDoor

/- The contract of nat.Mul. No condition but the reach of a slice. -/
namespace Go.Proofs.YticjhlbmdjijnaaDoor
open Go.RowKit

theorem vl_set {l : List Nat} {k x : Nat} (y : Nat) (h : l[k]? = some x) : vl (l.set k y) + 4294967296 ^ k * x = vl l + 4294967296 ^ k * y := Num.val_set _ y h
theorem vl_take_succ {l : List Nat} {k x : Nat} (h : l[k]? = some x) : vl (l.take (k + 1)) = vl (l.take k) + 4294967296 ^ k * x := Num.val_take_succ _ h
/-- One digit of a product: vo, vo' the row's value ahead and behind; Pk, Pj the powers. -/
theorem mul_step (Pk Pj vo vo' t V B C x y z : Nat) (hs : vo + Pk * Pj * C = t + Pk * x * V) (hv : vo' + Pk * Pj * z = vo + Pk * Pj * ((C + (x * y + z)) % B)) :
    vo' + Pk * Pj * B * ((C + (x * y + z)) / B) = t + Pk * x * (V + Pj * y) := by
  have h : Pk * Pj * ((C + (x * y + z)) % B + B * ((C + (x * y + z)) / B)) = Pk * Pj * (C + (x * y + z)) := by rw [Nat.mod_add_div]
  have e : Pk * x * (V + Pj * y) = Pk * x * V + Pk * Pj * (x * y) := by
    rw [Nat.mul_add]
    congr 1
    rw [Nat.mul_assoc, Nat.mul_assoc, Nat.mul_left_comm x Pj y]
  rw [Nat.mul_add, Nat.mul_add, Nat.mul_add, ← Nat.mul_assoc] at h
  rw [e]
  omega
theorem zero_of (o : List Nat) (k y N : Nat) (h : ∀ j z, N ≤ j → o[j]? = some z → z = 0) (M : Nat) (hM : N ≤ M) (hk : k < M) : ∀ j z, M ≤ j → (o.set k y)[j]? = some z → z = 0 := by
  intro j z hj hz
  rw [List.getElem?_set_ne (by omega)] at hz
  exact h j z (by omega) hz

set_option maxRecDepth 100000 in
set_option maxHeartbeats 1600000 in
theorem mul_any (A A' : Option Addr) (n c n' c' : Nat) (l l' : List Nat) (w : World) (hr : Lim w A n c l) (hr' : Lim w A' n' c' l') (hn : n ≤ 549755813888) (hn' : n' ≤ 549755813888) :
    Calls Tryd.prog 31 #[.slice A n c, .slice A' n' c'] w fun e w' => ∃ A2 m, e = .returned (.slice A2 m m) ∧ m ≤ n + n' ∧ OwnL w' w.heap.size A2 m m (lmb (vl l * vl l')) ∧ Below w.heap.size w w' := by
  have hlen := hr.len
  have hlen' := hr'.len
  go_enter Tryd.func31, Tryd.ntmps31
  go_wp2_with (refine wpList_mkL rfl _ _ rfl (n + n') rfl rfl (by omega) (by omega) (by omega) w.heap.size (Nat.le_refl _) ?_; intro w2 hown hg2)
  have hb2 := below_none (Below.refl w.heap.size w) hg2 (Nat.le_refl _)
  go_loopw [19] (fun i wr => ∃ k : Nat, k ≤ n ∧ i = .int .i64 k ∧ ∃ o : List Nat, OwnL wr w.heap.size (some ⟨w.heap.size, 0, none⟩) (n + n') (n + n') o ∧
      vl o = vl (l.take k) * vl l' ∧ (∀ j z, k + n' ≤ j → o[j]? = some z → z = 0) ∧ Below w.heap.size w wr) (fun i _ => n - (intOf i).toNat)
  case atStart => exact ⟨0, by omega, rfl, _, hown, by simp [vl, Num.val, Num.val_zeros], fun j z _ hz => by simp [List.getElem?_replicate] at hz; omega, hb2⟩
  case round =>
    obtain ⟨k, hk, rfl, o, ho, hv, hz, hb⟩ := hrel
    by_cases hlt : k < n
    · obtain ⟨b, off, x, rfl, _, hx, hxl, hc⟩ := (hr.below hb).get hlt
      have HX := Lib.hid hx
      have HV := Lib.hid hv
      have HZ := Lib.hid hz
      clear hx hv hz
      go_wp2_with fail
      go_loopw [8, 26] (fun cy i wj => ∃ j C : Nat, j ≤ n' ∧ i = .int .i64 j ∧ cy = .int .u64 C ∧ C < 4294967296 ∧ ∃ o : List Nat, OwnL wj w.heap.size (some ⟨w.heap.size, 0, none⟩) (n + n') (n + n') o ∧
          Hid (vl o + 4294967296 ^ k * 4294967296 ^ j * C = vl (l.take k) * vl l' + 4294967296 ^ k * x * vl (l'.take j)) ∧ Hid (∀ j z, k + n' ≤ j → o[j]? = some z → z = 0) ∧ Below w.heap.size w wj) (fun _ i _ => n' - (intOf i).toNat)
      case atStart =>
        refine ⟨0, 0, by omega, rfl, rfl, by omega, o, ho, ?_, HZ, hb⟩
        show _ = _
        rw [HV.out]; simp [vl, Num.val]
      case round =>
        obtain ⟨j, C, hj, rfl, rfl, hC, o, ho, HS, HZ, hb⟩ := hrel
        by_cases hlj : j < n'
        · obtain ⟨b', off', y, rfl, _, hy, hyl, hc'⟩ := (hr'.below hb).get hlj
          obtain ⟨g, z, he, _, _, hz, hzl, hco, hf⟩ := ho.get (k := k + j) (by omega)
          cases he
          obtain ⟨P, hP⟩ : ∃ P, x * y = P := ⟨_, rfl⟩
          have hPi : (x : Int) * (y : Int) = (P : Int) := by rw [← hP]; simp
          have hPl : P ≤ 18446744065119617025 := by
            rw [← hP]
            exact Nat.le_trans (Nat.mul_le_mul (Nat.le_of_lt_succ hxl) (Nat.le_of_lt_succ hyl)) (by decide)
          have hstep := mul_step (4294967296 ^ k) (4294967296 ^ j) (vl o) (vl (o.set (k + j) ((C + (P + z)) % 4294967296))) (vl (l.take k) * vl l') (vl (l'.take j)) 4294967296 C x y z HS.out
            (by rw [← Nat.pow_add, hP]; exact vl_set _ hz)
          rw [hP, ← vl_take_succ hy] at hstep
          have HT := Lib.hid hstep
          clear hstep hy hz hP
          go_wp2_with fail
          have e1 : ((C : Int) + (P + z)) % 4294967296 = (((C + (P + z)) % 4294967296 : Nat) : Int) := by omega
          have e2 : ((C : Int) + (P + z)) / 4294967296 = (((C + (P + z)) / 4294967296 : Nat) : Int) := by omega
          rw [e1, e2]
          refine ⟨⟨j + 1, _, by omega, by go_num, rfl, by omega, _, ho.stored (k + j) _ (Nat.mod_lt _ (by omega)), ?_, zero_of _ _ _ _ HZ _ (Nat.le_refl _) (by omega), hb.setCell (Nat.le_refl _) _⟩, by simp [intOf]; omega⟩
          show _ = _
          rw [Nat.pow_succ, ← Nat.mul_assoc]
          exact HT.out
        · obtain rfl : j = n' := by omega
          obtain ⟨g, z, he, _, _, hz, _, hco, hf⟩ := ho.get (k := k + j) (by omega)
          cases he
          obtain rfl := HZ.out _ z (Nat.le_refl _) hz
          have hfin : vl (o.set (k + j) C) = vl (l.take (k + 1)) * vl l' := by
            have h1 := vl_set C hz
            have h2 := HS.out
            rw [List.take_of_length_le (l := l') (by omega)] at h2
            rw [Nat.mul_zero, Nat.add_zero, Nat.pow_add] at h1
            rw [h1, h2, vl_take_succ HX.out, Nat.add_mul]
          have HF := Lib.hid hfin
          clear hfin hz
          go_wp2_with fail
          exact ⟨⟨k + 1, by omega, by go_num, _, ho.stored (k + j) C hC, HF.out, fun i u hi hu => zero_of o (k + j) C _ HZ.out (k + 1 + j) (by omega) (by omega) i u hi hu, hb.setCell (Nat.le_refl _) _⟩, by simp [intOf]; omega⟩
    · obtain rfl : k = n := by omega
      rw [List.take_of_length_le (by omega)] at hv
      have HV := Lib.hid hv
      have ht := trim_any (some ⟨w.heap.size, 0, none⟩) (k + n') (k + n') o _ ho.ints (by omega)
      clear hv hz
      go_wp2_with fail
      refine ht.mono ?_; rintro e w' ⟨A2, m, rfl, hm, hO, hB⟩
      rw [HV.out] at hO
      go_wp2_with fail
      go_ret
      exact ⟨_, _, rfl, hm, hO.mono hb.size, below_step hb hB hb.size⟩
end Go.Proofs.YticjhlbmdjijnaaDoor

/- Rows of digits, further: plain mathematics. No condition. -/
namespace Go.Proofs.YticjhlbmdjijnaaDoor
namespace Num

/-- Two rows that are alike from a place on. -/
theorem pad {b : Nat} (l m : List Nat) (k : Nat) (hd : ∀ j : Nat, k ≤ j → l[j]?.getD 0 = m[j]?.getD 0) : val b l + val b (m.take k) = val b m + val b (l.take k) := by
  have h : ∀ d, val b (l.take (k + d)) + val b (m.take k) = val b (m.take (k + d)) + val b (l.take k) := by
    intro d
    induction d with
    | zero => rw [Nat.add_zero, Nat.add_comm]
    | succ d ih =>
      rw [← Nat.add_assoc, val_take_getD, val_take_getD, hd (k + d) (by omega)]
      omega
  have := h (l.length + m.length)
  rw [List.take_of_length_le (i := k + (l.length + m.length)) (l := l) (by omega), List.take_of_length_le (i := k + (l.length + m.length)) (l := m) (by omega)] at this
  exact this
theorem pad_lt {b : Nat} (hb : 1 ≤ b) (l m : List Nat) (k x y : Nat) (hl : ∀ x ∈ l, x < b) (hd : ∀ j : Nat, k + 1 ≤ j → l[j]?.getD 0 = m[j]?.getD 0) (hx : l[k]?.getD 0 = x) (hy : m[k]?.getD 0 = y) (h : x < y) : val b l < val b m := by
  have h1 := pad (b := b) l m (k + 1) hd
  rw [val_take_getD, val_take_getD, hx, hy] at h1
  have h2 := val_lt b (l.take k) (fun z hz => hl z (List.mem_of_mem_take hz))
  have h4 : b ^ (l.take k).length ≤ b ^ k := Nat.pow_le_pow_right hb (by rw [List.length_take]; exact Nat.min_le_left _ _)
  have h3 : b ^ k * (x + 1) ≤ b ^ k * y := Nat.mul_le_mul_left _ h
  rw [Nat.mul_add, Nat.mul_one] at h3
  omega
theorem pad_eq {b : Nat} (l m : List Nat) (hd : ∀ j : Nat, l[j]?.getD 0 = m[j]?.getD 0) : val b l = val b m := by
  have h1 := pad (b := b) l m 0 (fun j _ => hd j)
  simpa using h1
/-- A row of digits is its value's, if the value needs as many. -/
theorem dig_of {b : Nat} (hb : 2 ≤ b) (o : List Nat) (m v : Nat) (hm : o.length = m) (ho : ∀ x ∈ o, x < b) (hv : val b o = v) (h : m = 0 ∨ b ^ (m - 1) ≤ v) : o = dig b v := by
  subst hv
  refine (dig_val hb o ho ?_).symm
  intro x hx h0
  have hk := (List.getElem?_eq_some_iff.1 hx).1
  rcases h with h | h
  · omega
  · have e := val_take_succ b hx
    rw [List.take_of_length_le (by omega)] at e
    have h2 := val_lt b (o.take (o.length - 1)) (fun z hz => ho z (List.mem_of_mem_take hz))
    rw [List.length_take, Nat.min_eq_left (by omega), hm] at h2
    rw [h0, Nat.mul_zero, hm] at e
    omega
/-- Digits without the zeros at the end. -/
theorem take_dig {b : Nat} (hb : 2 ≤ b) (l : List Nat) (k : Nat) (hk : k ≤ l.length) (hl : ∀ x ∈ l, x < b) (hz : val b (l.take k) = val b l) (ht : k = 0 ∨ ∃ x, l[k - 1]? = some x ∧ x ≠ 0) : l.take k = dig b (val b l) := by
  rw [← hz]
  refine (dig_val hb _ (fun y hy => hl y (List.mem_of_mem_take hy)) ?_).symm
  intro y hy
  rw [List.length_take, Nat.min_eq_left hk] at hy
  rcases ht with rfl | ⟨x, hx, hx0⟩
  · simp at hy
  · have hk1 := (List.getElem?_eq_some_iff.1 hx).1
    rw [List.getElem?_take] at hy
    split at hy
    · rw [hx] at hy; cases hy; exact hx0
    · cases hy
theorem sub_fin {b : Nat} (l l' o : List Nat) (n d : Nat) (hl : l.length = n) (ho : o.length = n) (hll : ∀ x ∈ l, x < b) (hol : ∀ x ∈ o, x < b) (hle : val b l' ≤ val b l) (hs : val b o + val b (l'.take n) = val b l + b ^ n * d) :
    val b o = val b l - val b l' := by
  have h1 : val b l < b ^ n := by rw [← hl]; exact Num.val_lt _ l hll
  have h2 : val b o < b ^ n := by rw [← ho]; exact Num.val_lt _ o hol
  have h3 : val b l' = val b (l'.take n) + b ^ n * val b (l'.drop n) := by
    rcases Nat.lt_or_ge l'.length n with h | h
    · rw [List.take_of_length_le (by omega), List.drop_eq_nil_of_le (by omega)]; rfl
    · exact Num.val_take_drop _ l' n h
  have h4 : val b (l'.drop n) = 0 := by
    rcases Nat.eq_zero_or_pos (val b (l'.drop n)) with h | h
    · exact h
    · have := Nat.mul_le_mul_left (b ^ n) h
      omega
  have h5 : d = 0 := by
    rcases Nat.eq_zero_or_pos d with h | h
    · exact h
    · have := Nat.mul_le_mul_left (b ^ n) h
      omega
  rw [h4, Nat.mul_zero, Nat.add_zero] at h3
  rw [h5, Nat.mul_zero, Nat.add_zero] at hs
  omega
/-- A digit more of a quotient. -/
theorem div_step {H V Q R a n R' b : Nat} (h : H = V * Q + R) (h' : a + b * R = V * n + R') : a + b * H = V * (n + b * Q) + R' := by
  rw [h, Nat.mul_add, Nat.mul_add, Nat.mul_left_comm V b Q]
  omega
end Num
end Go.Proofs.YticjhlbmdjijnaaDoor

/- The contracts of package heijunkaref01, first part: cut, at, cmp, Digits, Limbs. No condition but the reach of a slice. -/
namespace Go.Proofs.YticjhlbmdjijnaaDoor
open Go.RowKit

/-- The value of a row of bytes as digits; the digits of a value. -/
def dv (l : List Nat) : Nat := Num.val 256 l
def dg (v : Nat) : List Nat := Num.dig 256 v
theorem dv_dg (v : Nat) : dv (dg v) = v := Num.val_dig (by decide) v
theorem dg_lt (v : Nat) : ∀ x ∈ dg v, x < 256 := Num.dig_lt (by decide) v
theorem dg_zero : dg 0 = [] := Num.dig_zero _
theorem dg_len (l : List Nat) (h : ∀ x ∈ l, x < 256) : (dg (dv l)).length ≤ l.length := Num.dig_len_val (by decide) l h
abbrev Dg (w : World) (A : Option Addr) (n c : Nat) (l : List Nat) : Prop := Ints w .i64 256 A n c l
abbrev OwnD (w : World) (base : Nat) (A : Option Addr) (n c : Nat) (l : List Nat) : Prop := OwnI w base .i64 256 3 A n c l
theorem info_int : (Tryd.prog.info? 3).map (fun i => (i.zero, i.size, i.bytes)) = some (some (.int .i64 0), 1, 8) := by kernel_rfl
theorem OwnI.shrink {w : World} {base : Nat} {kd : IntKind} {lim : Nat} {e : TypeId} {A : Option Addr} {n c : Nat} {l : List Nat} (h : OwnI w base kd lim e A n c l) {k : Nat} (hk : k ≤ n) : OwnI w base kd lim e A k c (l.take k) := by
  refine ⟨?_, fun x hx => h.lt x (List.mem_of_mem_take hx)⟩
  rcases h.own.form with ⟨rfl, rfl, rfl, hl⟩ | ⟨g, cur, rfl, hb, hg, hnc, hm, hs, ht⟩
  · obtain rfl : k = 0 := by omega
    exact Own.nil_ ..
  · refine Own.of_blk hb hg (by omega) hm hs ?_
    rw [List.map_take, ← ht, List.take_take, Nat.min_eq_left hk]

set_option maxRecDepth 100000 in
set_option maxHeartbeats 400000 in
theorem cut_any (A : Option Addr) (n c : Nat) (l : List Nat) (w : World) (hr : Dg w A n c l) (hn : n ≤ 17592186044416) :
    Calls Tryd.prog 50 #[.slice A n c] w fun e w' => ∃ k, k ≤ n ∧ e = .returned (.slice A k c) ∧ l.take k = dg (dv l) ∧ w' = w := by
  have hlen := hr.len
  have hcap := hr.rd.cap
  go_enter Tryd.func50, Tryd.ntmps50
  go_wp2
  go_loop [0] (fun d => ∃ k : Nat, k ≤ n ∧ d = .slice A k c ∧ dv (l.take k) = dv l) (fun d => match d with | .slice _ k _ => k | _ => 0)
  case atStart => exact ⟨n, Nat.le_refl _, rfl, by rw [List.take_of_length_le (by omega)]⟩
  case round =>
    obtain ⟨k, hk, rfl, hv⟩ := hrel
    cases k with
    | zero =>
      have HV := Lib.hid hv
      clear hv
      go_wp2_with fail
      go_ret
      refine ⟨0, by omega, rfl, ?_, rfl⟩
      exact Num.take_dig (by decide) l 0 (by omega) hr.lt HV.out (.inl rfl)
    | succ k =>
      obtain ⟨b, o, x, rfl, _, hx, hxl, hc⟩ := hr.get (k := k) (by omega)
      have ek : ((k + 1 : Nat) : Int) - 1 = (k : Int) := by omega
      by_cases hx0 : x = 0
      · subst hx0
        have hv2 : dv (l.take k) = dv l := by
          rw [← hv]
          have := Num.val_take_succ 256 hx
          rw [Nat.mul_zero, Nat.add_zero] at this
          exact this.symm
        have HV := Lib.hid hv2
        clear hv hv2 hx
        go_wp2_with fail
        exact ⟨⟨k, by omega, rfl, HV.out⟩, by simp⟩
      · have ht : ((x : Int) == 0) = false := by simp; exact hx0
        have HV := Lib.hid hv
        have HX := Lib.hid hx
        clear hv hx
        go_wp2_with fail
        go_ret
        refine ⟨k + 1, by omega, rfl, ?_, rfl⟩
        exact Num.take_dig (by decide) l (k + 1) (by omega) hr.lt HV.out (.inr ⟨x, HX.out, hx0⟩)

set_option maxRecDepth 100000 in
theorem at_any (A : Option Addr) (n c : Nat) (l : List Nat) (w : World) (hr : Dg w A n c l) (i : Nat) (y : Nat) (hy : l[i]?.getD 0 = y) :
    Calls Tryd.prog 46 #[.slice A n c, .int .i64 i] w fun e w' => e = .returned (.int .i64 y) ∧ w' = w := by
  have hlen := hr.len
  by_cases h : i < n
  · obtain ⟨b, o, x, rfl, _, hx, hxl, hc⟩ := hr.get h
    rw [hx] at hy
    obtain rfl : x = y := hy
    clear hx
    go_enter Tryd.func46, Tryd.ntmps46
    go_wp2
    go_ret
    exact ⟨rfl, rfl⟩
  · rw [List.getElem?_eq_none (by omega)] at hy
    obtain rfl : 0 = y := hy
    go_enter Tryd.func46, Tryd.ntmps46
    go_wp2
    go_ret
    exact ⟨rfl, rfl⟩

set_option maxRecDepth 100000 in
set_option maxHeartbeats 400000 in
theorem rcmp_any (A A' : Option Addr) (n c n' c' : Nat) (l l' : List Nat) (w : World) (hr : Dg w A n c l) (hr' : Dg w A' n' c' l') (hn : n ≤ 17592186044416) (hn' : n' ≤ 17592186044416) :
    Calls Tryd.prog 33 #[.slice A n c, .slice A' n' c'] w fun e w' => e = .returned (.int .i64 (Num.cmp (dv l) (dv l'))) ∧ w' = w := by
  have hlen := hr.len
  have hlen' := hr'.len
  go_enter Tryd.func33, Tryd.ntmps33
  go_wp2
  go_loop [5] (fun i => ∃ k : Nat, k ≤ n + n' + 1 ∧ i = .int .i64 ((k : Int) - 1) ∧ Hid (∀ j : Nat, k ≤ j → l[j]?.getD 0 = l'[j]?.getD 0)) (fun i => (intOf i + 1).toNat)
  case atStart =>
    refine ⟨n + n' + 1, Nat.le_refl _, by go_num, ?_⟩
    show ∀ j : Nat, _
    intro j hj
    rw [List.getElem?_eq_none (by omega), List.getElem?_eq_none (by omega)]
  case round =>
    obtain ⟨k, hk, rfl, HE⟩ := hrel
    cases k with
    | zero =>
      have he : Num.cmp (dv l) (dv l') = 0 := by
        rw [show dv l = dv l' from Num.pad_eq l l' (fun j => HE.out j (by omega))]
        exact Num.cmp_eq _
      have HF := Lib.hid he
      clear he
      go_wp2_with fail
      go_ret
      exact ⟨ret_int HF.out.symm, rfl⟩
    | succ k =>
      have ek : ((k + 1 : Nat) : Int) - 1 = (k : Int) := by omega
      obtain ⟨x, hx⟩ : ∃ x, l[k]?.getD 0 = x := ⟨_, rfl⟩
      obtain ⟨y, hy⟩ : ∃ y, l'[k]?.getD 0 = y := ⟨_, rfl⟩
      have ha := fun w0 h0 => at_any A n c l w0 h0 k x hx
      have hb := fun w0 h0 => at_any A' n' c' l' w0 h0 k y hy
      have HX := Lib.hid hx
      have HY := Lib.hid hy
      clear hx hy
      rcases Nat.lt_trichotomy x y with h | h | h
      · have he : Num.cmp (dv l) (dv l') = -1 := Num.cmp_lt (Num.pad_lt (by decide) l l' k x y hr.lt HE.out HX.out HY.out h)
        have HF := Lib.hid he
        clear he
        go_wp2_with fail
        refine (ha _ hr).mono ?_; rintro e w' ⟨rfl, rfl⟩
        go_wp2_with fail
        refine (hb _ hr').mono ?_; rintro e w' ⟨rfl, rfl⟩
        go_wp2_with fail
        go_ret
        exact ⟨ret_int HF.out.symm, rfl⟩
      · have hxy : ¬ ((x : Int) < (y : Int)) := by omega
        have hyx : ¬ ((x : Int) > (y : Int)) := by omega
        have HXY := Lib.hid h
        clear h
        go_wp2_with fail
        refine (ha _ hr).mono ?_; rintro e w' ⟨rfl, rfl⟩
        go_wp2_with fail
        refine (hb _ hr').mono ?_; rintro e w' ⟨rfl, rfl⟩
        go_wp2_with fail
        refine (ha _ hr).mono ?_; rintro e w' ⟨rfl, rfl⟩
        go_wp2_with fail
        refine (hb _ hr').mono ?_; rintro e w' ⟨rfl, rfl⟩
        go_wp2_with fail
        refine ⟨⟨k, by omega, rfl, ?_⟩, by simp [intOf]⟩
        show ∀ j : Nat, _
        intro j hj
        rcases Nat.lt_or_ge k j with h | h
        · exact HE.out j h
        · obtain rfl : j = k := by omega
          rw [HX.out, HY.out, HXY.out]
      · have he : Num.cmp (dv l) (dv l') = 1 := Num.cmp_gt (Num.pad_lt (by decide) l' l k y x hr'.lt (fun j hj => (HE.out j hj).symm) HY.out HX.out h)
        have HF := Lib.hid he
        clear he
        go_wp2_with fail
        refine (ha _ hr).mono ?_; rintro e w' ⟨rfl, rfl⟩
        go_wp2_with fail
        refine (hb _ hr').mono ?_; rintro e w' ⟨rfl, rfl⟩
        go_wp2_with fail
        refine (ha _ hr).mono ?_; rintro e w' ⟨rfl, rfl⟩
        go_wp2_with fail
        refine (hb _ hr').mono ?_; rintro e w' ⟨rfl, rfl⟩
        go_wp2_with fail
        go_ret
        exact ⟨ret_int HF.out.symm, rfl⟩
end Go.Proofs.YticjhlbmdjijnaaDoor

/- The contracts of heijunkaref01.Digits, Limbs, Trim, Cmp. No condition but the reach of a slice. -/
namespace Go.Proofs.YticjhlbmdjijnaaDoor
open Go.RowKit

theorem pow_limb (k : Nat) : 4294967296 ^ k = 256 ^ (4 * k) := by rw [show (4294967296 : Nat) = 256 ^ 4 from rfl, ← Nat.pow_mul]
theorem dv_take_getD (l : List Nat) (k y : Nat) (hy : l[k]?.getD 0 = y) : dv (l.take (k + 1)) = dv (l.take k) + 256 ^ k * y := by subst hy; exact Num.val_take_getD _ l k

set_option maxRecDepth 100000 in
set_option maxHeartbeats 1600000 in
theorem digits_any (A : Option Addr) (n c : Nat) (l : List Nat) (w : World) (hr : Lim w A n c l) (hn : n ≤ 549755813888) :
    Calls Tryd.prog 34 #[.slice A n c] w fun e w' => ∃ A2 m c2, e = .returned (.slice A2 m c2) ∧ m ≤ 4 * n ∧ OwnD w' w.heap.size A2 m c2 (dg (vl l)) ∧ Below w.heap.size w w' := by
  have hlen := hr.len
  go_enter Tryd.func34, Tryd.ntmps34
  go_wp2_with fail
  go_loopw [3, 4] (fun dv_ iv wr => ∃ (k : Nat) (C : Option Addr) (x y : Nat) (D : List Nat), k ≤ n ∧ iv = .int .i64 k ∧ dv_ = .slice C x y ∧ x = 4 * k ∧ OwnD wr w.heap.size C x y D ∧ Hid (dv D = vl (l.take k)) ∧ Below w.heap.size w wr) (fun _ iv _ => n - (intOf iv).toNat)
  case atStart => exact ⟨0, none, 0, 0, [], by omega, rfl, rfl, rfl, OwnI.nil_ .., rfl, Below.refl _ _⟩
  case round =>
    obtain ⟨k, C, x, y, D, hk, rfl, rfl, rfl, hod, HV, hb⟩ := hrel
    by_cases hlt : k < n
    · obtain ⟨b, o, x0, rfl, _, hx, hxl, hc⟩ := (hr.below hb).get hlt
      have HX : Hid (vl (l.take (k + 1)) = vl (l.take k) + 4294967296 ^ k * x0) := vl_take_succ hx
      have hDl : D.length = 4 * k := by have := hod.len; exact this
      have HDL := Lib.hid hDl
      clear hx hDl
      go_wp2_with fail
      go_loopw [3, 5, 6] (fun dv_ xv jv wk => ∃ (j X : Nat) (E : List Nat) (C : Option Addr) (x y : Nat), j ≤ 4 ∧ jv = .int .i64 j ∧ xv = .int .u32 X ∧ X < 4294967296 ∧ dv_ = .slice C x y ∧ x = 4 * k + j ∧ OwnD wk w.heap.size C x y (D ++ E) ∧ Hid (E.length = j) ∧
          Hid (dv E + 256 ^ j * X = x0) ∧ Below w.heap.size w wk) (fun _ _ jv _ => 4 - (intOf jv).toNat)
      case atStart =>
        refine ⟨0, x0, [], C, 4 * k, y, by omega, rfl, rfl, hxl, rfl, rfl, by simpa using hod, rfl, ?_, hb⟩
        show _ = _
        simp [dv, Num.val]
      case round =>
        obtain ⟨j, X, E, C, x, y, hj, rfl, rfl, hX, rfl, rfl, hod, HL, HS, hb⟩ := hrel
        by_cases hlj : j < 4
        · obtain ⟨z, hz⟩ : ∃ z, X % 256 = z := ⟨_, rfl⟩
          obtain ⟨X1, hX1⟩ : ∃ X1, X / 256 = X1 := ⟨_, rfl⟩
          have hzl : z < 256 := by omega
          have hX1l : X1 < 4294967296 := by omega
          have e1 : (X : Int) % 256 = (z : Int) := by omega
          have e2 : (X : Int) / 256 = (X1 : Int) := by omega
          have HS2 : Hid (dv (E ++ [z]) + 256 ^ (j + 1) * X1 = x0) := by
            show _ = _
            have h1 := HS.out
            unfold dv at h1 ⊢
            rw [Num.val_snoc, HL.out, Nat.pow_succ, ← h1, show X = z + 256 * X1 by omega, Nat.mul_add]
            simp only [Nat.mul_assoc]
            omega
          clear hz hX1
          go_wp2_with (at_builtin; refine wpList_appI _ rfl _ _ _ rfl 3 8 Tryd.underlying55 info_int (by omega) (hod.alloc _) rfl (Ints.one .i64 256 3 z (by omega) hzl rfl) rfl (by omega) (by simp; have := hb.size; omega) ?_; intro A3 c3 w3 ho3 hg3 ha3)
          have e3 : 4 * k + j + 1 = 4 * k + (j + 1) := by omega
          rw [e3]
          rw [e3] at ho3
          refine ⟨⟨j + 1, X1, E ++ [z], A3, _, c3, by omega, by go_num, rfl, hX1l, rfl, rfl, by simpa using ho3, ?_, HS2, below_own (hb.alloc hb.size _) hg3 (by simp; have := hb.size; omega) (fun ad h => (hod.lt_ ad h).1)⟩, by simp [intOf]; omega⟩
          show _ = _
          rw [List.length_append, HL.out]; rfl
        · obtain rfl : j = 4 := by omega
          have hX0 : X = 0 := by
            have h1 := HS.out
            simp only [show (256 : Nat) ^ 4 = 4294967296 from rfl] at h1
            omega
          subst hX0
          have HF : Hid (dv (D ++ E) = vl (l.take (k + 1))) := by
            show _ = _
            have h1 := HS.out
            have h2 := HV.out
            rw [Nat.mul_zero, Nat.add_zero] at h1
            unfold dv at h1 h2 ⊢
            rw [Num.val_append, h1, HDL.out, h2, HX.out, pow_limb]
          go_wp2_with fail
          refine ⟨⟨k + 1, C, _, y, D ++ E, by omega, by go_num, rfl, by omega, hod, HF, hb⟩, by simp [intOf]; omega⟩
    · obtain rfl : k = n := by omega
      have hfin : dv D = vl l := by rw [HV.out, List.take_of_length_le (by omega)]
      have HF := Lib.hid hfin
      have hct := fun w0 h0 => cut_any C (4 * k) y D w0 h0 (by omega)
      clear hfin
      go_wp2_with fail
      refine (hct _ hod.ints).mono ?_; rintro e w2 ⟨m, hm, rfl, hd, rfl⟩
      rw [HF.out] at hd
      have HD := Lib.hid hd
      clear hd hct
      go_wp2_with fail
      go_ret
      exact ⟨C, m, y, rfl, hm, by rw [← HD.out]; exact hod.shrink hm, hb⟩

set_option maxRecDepth 100000 in
set_option maxHeartbeats 1600000 in
theorem limbs_any (A : Option Addr) (n c : Nat) (l : List Nat) (w : World) (hr : Dg w A n c l) (hn : n ≤ 4398046511104) :
    Calls Tryd.prog 49 #[.slice A n c] w fun e w' => ∃ A2 m c2, e = .returned (.slice A2 m c2) ∧ m ≤ n ∧ OwnL w' w.heap.size A2 m c2 (lmb (dv l)) ∧ Below w.heap.size w w' := by
  have hct := fun w0 h0 => cut_any A n c l w0 h0 (by omega)
  go_enter Tryd.func49, Tryd.ntmps49
  go_wp2_with fail
  refine (hct _ hr).mono ?_; rintro e w2 ⟨N, hN, rfl, hd, rfl⟩
  have hr2 : Dg w2 A N c (l.take N) := hr.take hN (Nat.le_trans hN hr.rd.cap)
  obtain ⟨d, hde⟩ : ∃ d, l.take N = d := ⟨_, rfl⟩
  rw [hde] at hd hr2
  have hdl := hr2.len
  have HDE : Hid (d = dg (dv l)) := hd
  clear hd hde hct
  obtain ⟨v, hv⟩ : ∃ v, dv l = v := ⟨_, rfl⟩
  rw [hv] at HDE
  have HVL := Lib.hid hv
  clear hv
  go_wp2_with fail
  go_loopw [3, 4] (fun ov iv wr => ∃ (m : Nat) (C : Option Addr) (y : Nat) (o : List Nat), 4 * m < N + 4 ∧ iv = .int .i64 ((4 * m : Nat) : Int) ∧ ov = .slice C m y ∧ OwnL wr w2.heap.size C m y o ∧ Hid (vl o = dv (d.take (4 * m))) ∧ Below w2.heap.size w2 wr) (fun _ iv _ => N + 4 - (intOf iv).toNat)
  case atStart => exact ⟨0, none, 0, [], by omega, rfl, rfl, OwnI.nil_ .., rfl, Below.refl _ _⟩
  case round =>
    obtain ⟨m, C, y, o, hm, rfl, rfl, hoo, HV, hb⟩ := hrel
    by_cases hlt : 4 * m < N
    · obtain ⟨i, hi⟩ : ∃ i, 4 * m = i := ⟨_, rfl⟩
      rw [hi] at hm HV hlt ⊢
      have HI := Lib.hid hi
      have hmN : m ≤ N := by omega
      clear hi
      have hlt' : (i : Int) < (N : Int) := by omega
      go_wp2_with fail
      go_loopw [5, 6] (fun xv kv wk => ∃ kk X : Nat, kk ≤ 4 ∧ kv = .int .i64 ((kk : Int) - 1) ∧ xv = .int .u32 X ∧ Hid (X < 256 ^ (4 - kk)) ∧ X < 4294967296 ∧ Hid (dv (d.take (i + kk)) + 256 ^ (i + kk) * X = dv (d.take (i + 4))) ∧ wk = wr) (fun _ kv _ => (intOf kv + 1).toNat)
      case atStart =>
        refine ⟨4, 0, by omega, rfl, rfl, ?_, by omega, ?_, rfl⟩
        · show _ < _; simp
        · show _ = _; simp
      case round =>
        obtain ⟨kk, X, hkk, rfl, rfl, HB, hX, HS, rfl⟩ := hrel
        cases kk with
        | zero =>
          have HF : Hid (vl (o ++ [X]) = dv (d.take (4 * (m + 1)))) := by
            show _ = _
            have h1 := HS.out
            have h2 := HV.out
            have h3 := hoo.len
            rw [Nat.add_zero] at h1
            unfold vl at h2 ⊢
            rw [Num.val_snoc, h2, h3, pow_limb, HI.out, h1]
            congr 1
            congr 1
            have := HI.out
            omega
          go_wp2_with (at_builtin; refine wpList_appI _ rfl _ _ _ rfl 43 4 Tryd.underlying22 info_u32 (by omega) (hoo.alloc _) rfl (Ints.one .u32 4294967296 43 X (by omega) hX rfl) rfl (by omega) (by simp; have := hb.size; omega) ?_; intro A3 c3 w3 ho3 hg3 ha3)
          have hi := HI.out
          refine ⟨⟨m + 1, A3, c3, _, by omega, by congr 1; omega, rfl, ho3, HF, below_own (hb.alloc hb.size _) hg3 (by simp; have := hb.size; omega) (fun ad h => (hoo.lt_ ad h).1)⟩, by simp [intOf]; omega⟩
        | succ kk =>
          have ek : ((kk + 1 : Nat) : Int) - 1 = (kk : Int) := by omega
          obtain ⟨g, hg⟩ : ∃ g, d[i + kk]?.getD 0 = g := ⟨_, rfl⟩
          have hgl := getD_lt (by omega) hr2.lt (i + kk) g hg
          have hX3 : X < 16777216 := by
            have h1 := HB.out
            have h2 : 256 ^ (4 - (kk + 1)) ≤ 256 ^ 3 := Nat.pow_le_pow_right (by decide) (by omega)
            have h3 : (256 : Nat) ^ 3 = 16777216 := rfl
            omega
          have HS2 : Hid (dv (d.take (i + kk)) + 256 ^ (i + kk) * (X * 256 + g) = dv (d.take (i + 4))) := by
            show _ = _
            have h1 := HS.out
            rw [← Nat.add_assoc, dv_take_getD d (i + kk) g hg, Nat.pow_succ] at h1
            rw [Nat.mul_add, Nat.mul_comm X 256, ← Nat.mul_assoc]
            omega
          have HB2 : Hid (X * 256 + g < 256 ^ (4 - kk)) := by
            show _ < _
            have h1 := HB.out
            have h2 : 256 ^ (4 - kk) = 256 ^ (4 - (kk + 1)) * 256 := by rw [← Nat.pow_succ]; congr 1; omega
            omega
          obtain ⟨p, hp⟩ : ∃ p, i + kk = p := ⟨_, rfl⟩
          have ep : (i : Int) + (kk : Int) = (p : Int) := by omega
          by_cases hpn : p < N
          · obtain ⟨b, off, x, rfl, _, hx, hxl, hc⟩ := (hr2.below hb).get hpn
            have hgx : x = g := by
              rw [hp, hx] at hg
              exact hg
            subst hgx
            have HP := Lib.hid hp
            have hpi : (p : Int) < (N : Int) := by omega
            clear hx hg hp
            go_wp2_with fail
            refine ⟨⟨kk, X * 256 + x, by omega, rfl, by go_num, HB2, by omega, HS2, by first | rfl | trivial⟩, by simp [intOf]⟩
          · have hg0 : g = 0 := by
              rw [hp, List.getElem?_eq_none (by omega)] at hg
              exact hg.symm
            subst hg0
            have HP := Lib.hid hp
            have hpi : ¬ (p : Int) < (N : Int) := by omega
            clear hg hp
            go_wp2_with fail
            refine ⟨⟨kk, X * 256, by omega, rfl, by go_num, HB2, by omega, HS2, by first | rfl | trivial⟩, by simp [intOf]⟩
    · have hfin : o = lmb v := by
        have h1 := HV.out
        rw [List.take_of_length_le (by omega)] at h1
        have h2 : dv d = v := by rw [HDE.out]; exact dv_dg v
        rw [h2] at h1
        refine Num.dig_of (by decide) o m v hoo.len hoo.lt h1 ?_
        rcases Nat.eq_zero_or_pos m with h0 | h0
        · exact .inl h0
        · refine .inr ?_
          have h3 : (Num.dig 256 v).length = (N - 1) + 1 := by
            show (dg v).length = _
            rw [← HDE.out, hdl]; omega
          have h4 := Num.dig_ge (by decide) h3
          rw [pow_limb]
          exact Nat.le_trans (Nat.pow_le_pow_right (by decide) (by omega)) h4
      have HF := Lib.hid hfin
      have hlt' : ¬ ((4 * m : Nat) : Int) < (N : Int) := by omega
      obtain ⟨i, hi⟩ : ∃ i, 4 * m = i := ⟨_, rfl⟩
      rw [hi] at hlt' ⊢
      clear hfin hi
      go_wp2_with fail
      go_ret
      exact ⟨C, m, y, rfl, by omega, by rw [HVL.out, ← HF.out]; exact hoo, hb⟩
end Go.Proofs.YticjhlbmdjijnaaDoor

/- math/bits: Sub32, Add32, Div32, by their contracts. No condition but the numbers' ranges. -/
namespace Go.Proofs.YticjhlbmdjijnaaDoor
open Go.RowKit

namespace Num
/-- The highest bit of 32. -/
theorem top_bit (n : Nat) (h : n < 4294967296) : n / 2147483648 = (n.testBit 31).toNat := by
  rw [Nat.testBit_eq_decide_div_mod_eq]
  have h2 : (2 : Nat) ^ 31 = 2147483648 := by decide
  rw [h2]
  have h1 : n / 2147483648 < 2 := by omega
  rcases Nat.lt_or_ge (n / 2147483648) 1 with h0 | h0
  · have : n / 2147483648 = 0 := by omega
    simp [this]
  · have : n / 2147483648 = 1 := by omega
    simp [this]
theorem not_bit (n : Nat) (h : n < 4294967296) : (4294967295 - n).testBit 31 = !n.testBit 31 := by
  have := Nat.testBit_two_pow_sub_succ (n := 32) (x := n) (by omega) 31
  rw [show (2 : Nat) ^ 32 - (n + 1) = 4294967295 - n by omega] at this
  rw [this]
  simp
theorem borrow32 (x y b d bo : Nat) (hx : x < 4294967296) (hy : y < 4294967296) (hb : b ≤ 1) (hd : d < 4294967296) (hbo : bo ≤ 1) (h : d + y + b = x + 4294967296 * bo) :
    (((4294967295 - x) &&& y) ||| ((4294967295 - (x ^^^ y)) &&& d)) / 2147483648 = bo := by
  have hxy : x ^^^ y < 4294967296 := Nat.xor_lt_two_pow (n := 32) (by omega) (by omega)
  have h1 : ((4294967295 - x) &&& y) < 4294967296 := Nat.lt_of_le_of_lt Nat.and_le_right hy
  have h2 : ((4294967295 - (x ^^^ y)) &&& d) < 4294967296 := Nat.lt_of_le_of_lt Nat.and_le_right hd
  rw [top_bit _ (Nat.or_lt_two_pow (n := 32) (by omega) (by omega)), Nat.testBit_or, Nat.testBit_and, Nat.testBit_and, not_bit _ hx, not_bit _ hxy, Nat.testBit_xor]
  have bx := top_bit x hx
  have by' := top_bit y hy
  have bd := top_bit d hd
  generalize x.testBit 31 = p at *
  generalize y.testBit 31 = q at *
  generalize d.testBit 31 = r at *
  cases p <;> cases q <;> cases r <;> simp only [Bool.toNat_true, Bool.toNat_false] at bx by' bd ⊢ <;> simp <;> omega
end Num

theorem ones_xor (y : Nat) (h : y < 4294967296) : bits .xor .u32 IntKind.u32.max (y : Int) = ((4294967295 - y : Nat) : Int) := by
  have e : IntKind.u32.max = ((4294967295 : Nat) : Int) := by decide
  rw [e, u32_xor_nat _ _ (by omega) h]
  have h1 : (BitVec.allOnes 32 ^^^ BitVec.ofNat 32 y).toNat = (~~~ (BitVec.ofNat 32 y)).toNat := by rw [BitVec.allOnes_xor]
  rw [BitVec.toNat_xor, BitVec.toNat_not, BitVec.toNat_allOnes, BitVec.toNat_ofNat, Nat.mod_eq_of_lt (by simpa using h)] at h1
  exact congrArg _ h1

set_option maxRecDepth 100000 in
theorem sub32_any (x y b d bo : Nat) (w : World) (hx : x < 4294967296) (hy : y < 4294967296) (hb : b ≤ 1) (hd : d < 4294967296) (hbo : bo ≤ 1) (h : d + y + b = x + 4294967296 * bo) :
    Calls Tryd.prog 48 #[.int .u32 x, .int .u32 y, .int .u32 b] w fun e w' => e = .returned (.tuple #[.int .u32 d, .int .u32 bo]) ∧ w' = w := by
  have HB := Lib.hid (Num.borrow32 x y b d bo hx hy hb hd hbo h)
  have hxy : x ^^^ y < 4294967296 := Nat.xor_lt_two_pow (n := 32) (by omega) (by omega)
  have n1 := ones_xor x hx
  have n2 := u32_xor_nat x y hx hy
  have n3 := ones_xor (x ^^^ y) hxy
  have n4 := u32_and_nat (4294967295 - x) y (by omega) hy
  have n5 := u32_and_nat (4294967295 - (x ^^^ y)) d (by omega) hd
  have n6 := u32_or_nat ((4294967295 - x) &&& y) ((4294967295 - (x ^^^ y)) &&& d) (Nat.lt_of_le_of_lt Nat.and_le_right hy) (Nat.lt_of_le_of_lt Nat.and_le_right hd)
  have hdd : ((x : Int) - y - b) % 4294967296 = (d : Int) := by omega
  go_enter Tryd.func48, Tryd.ntmps48
  go_wp2
  go_ret2
  have e : ((((4294967295 - x) &&& y) ||| ((4294967295 - (x ^^^ y)) &&& d) : Nat) : Int) / 2147483648 = (bo : Int) := by
    have := HB.out
    omega
  exact ⟨by rw [e]; rfl, rfl⟩

set_option maxRecDepth 100000 in
theorem add32_any (x y c s co : Nat) (w : World) (hx : x < 4294967296) (hy : y < 4294967296) (hc : c ≤ 1) (hs : s < 4294967296) (h : s + 4294967296 * co = x + y + c) :
    Calls Tryd.prog 74 #[.int .u32 x, .int .u32 y, .int .u32 c] w fun e w' => e = .returned (.tuple #[.int .u32 s, .int .u32 co]) ∧ w' = w := by
  go_enter Tryd.func74, Tryd.ntmps74
  go_wp2
  go_ret2
  have e1 : ((x : Int) + y + c) % 4294967296 = (s : Int) := by omega
  have e2 : ((x : Int) + y + c) / 4294967296 = (co : Int) := by omega
  exact ⟨by rw [e1, e2]; rfl, rfl⟩

set_option maxRecDepth 100000 in
theorem div32_any (hi lo y q r : Nat) (w : World) (hl : lo < 4294967296) (hy : y < 4294967296) (hh : hi < y) (hr : r < y) (h : hi * 4294967296 + lo = y * q + r) :
    Calls Tryd.prog 57 #[.int .u32 hi, .int .u32 lo, .int .u32 y] w fun e w' => e = .returned (.tuple #[.int .u32 q, .int .u32 r]) ∧ ∃ k, w' = w.drewN k := by
  have hq : q < 4294967296 := by
    rcases Nat.lt_or_ge q 4294967296 with h1 | h1
    · exact h1
    · have := Nat.mul_le_mul_left y h1
      omega
  have ho := u64_or_nat (hi * 4294967296) lo (by omega) (by omega)
  rw [nat_join 32 _ _ (by omega) (by omega), h, Int.natCast_mul] at ho
  obtain ⟨M, hM⟩ : ∃ M, y * q + r = M := ⟨_, rfl⟩
  rw [hM] at ho
  replace ho : bits .or .u64 ((hi : Int) * 4294967296) (lo : Int) = (M : Int) := ho
  have hMl : M < 18446744073709551616 := by omega
  have hq1 : (M : Int) / (y : Int) = (q : Int) := by
    rw [← hM, ← Int.natCast_ediv, Nat.mul_add_div (by omega), Nat.div_eq_of_lt hr, Nat.add_zero]
  have hr1 : (M : Int) % (y : Int) = (r : Int) := by
    rw [← hM, ← Int.natCast_emod, Nat.mul_add_mod, Nat.mod_eq_of_lt hr]
  have hq2 : (M : Int).tdiv (y : Int) = (q : Int) := by rw [Int.tdiv_eq_ediv_of_nonneg (by omega), hq1]
  have hr2 : (M : Int).tmod (y : Int) = (r : Int) := by rw [Int.tmod_eq_emod_of_nonneg (by omega), hr1]
  have hy0 : ((y : Int) == 0) = false := by simp; omega
  have hy1 : ((y : Int) != 0) = true := by simp; omega
  have hd : decide (y ≤ hi) = false := by simp; omega
  clear hM
  go_enter Tryd.func57, Tryd.ntmps57
  go_wp2_with (go_quiet (fail))
  go_ret2
  exact ⟨rfl, nq, rfl⟩
end Go.Proofs.YticjhlbmdjijnaaDoor

/- The contracts of nat.shift, nat.guess, nat.less, nat.back. No condition but the reach of a slice. -/
namespace Go.Proofs.YticjhlbmdjijnaaDoor
open Go.RowKit

set_option maxRecDepth 100000 in
set_option maxHeartbeats 800000 in
theorem shift_any (A : Option Addr) (n c : Nat) (l : List Nat) (w : World) (hr : Lim w A n c l) (hn : n ≤ 549755813888) (s : Nat) (hs : s < 32) :
    Calls Tryd.prog 59 #[.slice A n c, .int .i64 s] w fun e w' => ∃ A2 o, e = .returned (.slice A2 (n + 1) (n + 1)) ∧ OwnL w' w.heap.size A2 (n + 1) (n + 1) o ∧ vl o = vl l * 2 ^ s ∧ Below w.heap.size w w' := by
  have hlen := hr.len
  go_enter Tryd.func59, Tryd.ntmps59
  go_wp2_with (refine wpList_mkL rfl _ _ rfl (n + 1) rfl rfl (by omega) (by omega) (by omega) w.heap.size (Nat.le_refl _) ?_; intro w2 hown hg2)
  have hb2 := below_none (Below.refl w.heap.size w) hg2 (Nat.le_refl _)
  go_loopw [15] (fun i wr => ∃ k : Nat, k ≤ n ∧ i = .int .i64 k ∧ ∃ o : List Nat, OwnL wr w.heap.size (some ⟨w.heap.size, 0, none⟩) (n + 1) (n + 1) o ∧
      Hid (vl (o.take (k + 1)) = vl (l.take k) * 2 ^ s) ∧ Hid (∀ z, o[k]? = some z → z < 2 ^ s) ∧ Below w.heap.size w wr) (fun i _ => n - (intOf i).toNat)
  case atStart =>
    refine ⟨0, by omega, rfl, _, hown, ?_, ?_, hb2⟩
    · show _ = _
      simp [vl, Num.val]
    · show ∀ z, _ → _
      intro z hz
      simp at hz
      rw [← hz]
      exact Nat.two_pow_pos s
  case round =>
    obtain ⟨k, hk, rfl, o, ho, HV, HZ, hb⟩ := hrel
    by_cases hlt : k < n
    · obtain ⟨b, off, x, rfl, _, hx, hxl, hc⟩ := (hr.below hb).get hlt
      obtain ⟨g, z, he, _, _, hz, hzl, hco, hf⟩ := ho.get (k := k) (by omega)
      cases he
      obtain ⟨g, y, he, _, _, hy, hyl, hcy, hfy⟩ := ho.get (k := k + 1) (by omega)
      cases he
      have HX := Lib.hid hx
      have HZ0 := Lib.hid hz
      have HY := Lib.hid hy
      clear hx hz hy
      obtain ⟨v, hv⟩ : ∃ v, x * 2 ^ s = v := ⟨_, rfl⟩
      have hp : 2 ^ s ≤ 2147483648 := Nat.pow_le_pow_right (by omega) (show s ≤ 31 by omega)
      have hvl : v < 9223372036854775808 := by
        rw [← hv]
        have := Nat.mul_le_mul (Nat.le_of_lt_succ hxl) hp
        omega
      have hvi : (x : Int) * 2 ^ s = (v : Int) := by rw [← hv]; simp
      have hdv : 2 ^ s ∣ 4294967296 := ⟨2 ^ (32 - s), by rw [← Nat.pow_add, show s + (32 - s) = 32 by omega]⟩
      have hz2 := HZ.out z HZ0.out
      have hj := u32_or_nat z (v % 4294967296) (by omega) (Nat.mod_lt _ (by omega))
      have hor : z ||| v % 4294967296 < 4294967296 := Nat.or_lt_two_pow (n := 32) (by omega) (Nat.mod_lt _ (by omega))
      rw [Nat.or_comm, nat_join s (v % 4294967296) z (by rw [Nat.mod_mod_of_dvd _ hdv, ← hv]; exact Nat.mul_mod_left _ _) hz2] at hj hor
      have hcar : v / 4294967296 < 2 ^ s := by
        rw [Nat.div_lt_iff_lt_mul (by omega), ← hv, Nat.mul_comm (2 ^ s)]
        exact Nat.mul_lt_mul_of_pos_right hxl (Nat.two_pow_pos s)
      have HV2 : Hid (vl (((o.set k (v % 4294967296 + z)).set (k + 1) (v / 4294967296)).take (k + 1 + 1)) = vl (l.take (k + 1)) * 2 ^ s) := by
        show _ = _
        have h1 := HV.out
        rw [vl_take_succ HZ0.out] at h1
        rw [vl_take_set _ (by simp [ho.len]; omega), vl_take_set _ (by rw [ho.len]; omega), vl_take_succ HX.out, Nat.add_mul, ← h1, Nat.mul_assoc, hv, Nat.pow_succ]
        have h2 : 4294967296 ^ k * (v % 4294967296 + 4294967296 * (v / 4294967296)) = 4294967296 ^ k * v := by rw [Nat.mod_add_div]
        rw [Nat.mul_add, ← Nat.mul_assoc] at h2
        rw [Nat.mul_add]
        omega
      obtain ⟨hi, hhi⟩ : ∃ hi, v / 4294967296 = hi := ⟨_, rfl⟩
      obtain ⟨lo, hlo⟩ : ∃ lo, v % 4294967296 = lo := ⟨_, rfl⟩
      obtain ⟨m, hm⟩ : ∃ m, lo + z = m := ⟨_, rfl⟩
      have e2 : (v : Int) % 4294967296 = (lo : Int) := by omega
      have e3 : (v : Int) / 4294967296 = (hi : Int) := by omega
      rw [hlo, hm] at hj hor HV2
      rw [hhi] at hcar HV2
      have hcl : hi < 4294967296 := by omega
      have HC : Hid (hi < 2 ^ s) := hcar
      clear hv hdv hz2 hlo hm hhi hcar hp
      go_wp2_with fail
      refine ⟨⟨k + 1, by omega, by go_num, _, (ho.stored k m hor).stored (k + 1) hi hcl, HV2, ?_, (hb.setCell (Nat.le_refl _) _).setCell (Nat.le_refl _) _⟩, by simp [intOf]; omega⟩
      show ∀ z, _ → _
      intro z' hz'
      rw [List.getElem?_set_self (by simp [ho.len]; omega)] at hz'
      cases hz'
      exact HC.out
    · obtain rfl : k = n := by omega
      have hfin : vl o = vl l * 2 ^ s := by
        have h1 := HV.out
        rw [List.take_of_length_le (l := o) (by rw [ho.len]; omega), List.take_of_length_le (l := l) (by omega)] at h1
        exact h1
      have HF := Lib.hid hfin
      clear hfin
      go_wp2_with fail
      go_ret
      exact ⟨_, o, rfl, ho, HF.out, hb⟩

theorem mid_get (h m t : List Nat) (i : Nat) (hi : i < m.length) : (h ++ (m ++ t))[h.length + i]? = m[i]? := by
  rw [List.getElem?_append_right (by omega), Nat.add_sub_cancel_left, List.getElem?_append_left hi]
theorem mid_set (h m t : List Nat) (i y : Nat) (hi : i < m.length) : (h ++ (m ++ t)).set (h.length + i) y = h ++ (m.set i y ++ t) := by
  rw [List.set_append_right _ _ (by omega), Nat.add_sub_cancel_left, List.set_append_left _ _ hi]
theorem less_step (P s q V M B C b x y d b' lo C' : Nat) (hs : s + q * V = M + P * (C + b)) (hc : C + q * x = lo + B * C') (hd : d + lo + b = y + B * b') :
    (s + P * d) + q * (V + P * x) = (M + P * y) + P * B * (C' + b') := by
  have h1 : P * (C + q * x) = P * (lo + B * C') := by rw [hc]
  have h2 : P * (d + lo + b) = P * (y + B * b') := by rw [hd]
  simp only [Nat.mul_add, ← Nat.mul_assoc] at *
  have e : q * P * x = P * q * x := by rw [Nat.mul_comm q P]
  omega
theorem drop_set_lt {l : List Nat} {i : Nat} (y : Nat) : (l.set i y).drop (i + 1) = l.drop (i + 1) := List.drop_set_of_lt (by omega)

set_option maxRecDepth 100000 in
set_option maxHeartbeats 1600000 in
/-- q times v is taken from m, which lies in u. -/
theorem less_any (base : Nat) (A Av : Option Addr) (nu cu n cv : Nat) (h m t v : List Nat) (q : Nat) (w : World) (ho : OwnL w base A nu cu (h ++ (m ++ t))) (hv : Lim w Av n cv v) (hd : ∀ x y, A = some x → Av = some y → x.block ≠ y.block)
    (hm : m.length = n + 1) (hq : q < 4294967296) (hu : nu ≤ 1099511627776) :
    Calls Tryd.prog 61 #[.slice A nu cu, .slice Av n cv, .int .i64 (h.length : Nat), .int .u64 q] w fun e w' => ∃ m' b, e = .returned (.bool (decide (b = 1))) ∧ b ≤ 1 ∧ m'.length = n + 1 ∧
      OwnL w' base A nu cu (h ++ (m' ++ t)) ∧ vl m' + q * vl v = vl m + 4294967296 ^ (n + 1) * b ∧ w.grownBy w' (A.map (·.block)) := by
  have hvl := hv.len
  have hlu := ho.len
  simp only [List.length_append] at hlu
  obtain ⟨g, _, rfl, hbg, hgs, _⟩ := ho.get (k := h.length) (by omega)
  obtain ⟨j, hj⟩ : ∃ j, h.length = j := ⟨_, rfl⟩
  rw [hj] at hlu ⊢
  go_enter Tryd.func61, Tryd.ntmps61
  go_wp2_with fail
  go_loopw [9, 10, 15] (fun bw cy i wr => ∃ k b C : Nat, k ≤ n ∧ i = .int .i64 k ∧ bw = .int .u32 b ∧ b ≤ 1 ∧ cy = .int .u64 C ∧ C < 4294967296 ∧ ∃ mi : List Nat, mi.length = n + 1 ∧ OwnL wr base (some ⟨g, 0, none⟩) nu cu (h ++ (mi ++ t)) ∧
      Hid (mi.drop k = m.drop k) ∧ Hid (vl (mi.take k) + q * vl (v.take k) = vl (m.take k) + 4294967296 ^ k * (C + b)) ∧ w.grownBy wr (some g)) (fun _ _ i _ => n - (intOf i).toNat)
  case atStart =>
    refine ⟨0, 0, 0, by omega, rfl, rfl, by omega, rfl, by omega, m, hm, ho, rfl, ?_, World.grownBy.refl _ _⟩
    show _ = _
    simp [vl, Num.val]
  case round =>
    obtain ⟨k, b, C, hk, rfl, rfl, hbb, rfl, hC, mi, hml, ho, HD, HS, hg⟩ := hrel
    by_cases hlt : k < n
    · obtain ⟨bv, off, x, rfl, hbv, hx, hxl, hc⟩ := hv.get hlt
      have hne : bv ≠ g := fun e => hd ⟨g, 0, none⟩ ⟨bv, off, none⟩ rfl rfl e.symm
      have hc2 : wr.cell? ⟨bv, off + k, none⟩ = some (.int .u32 (x : Int)) := (hg.cell_far ⟨bv, off + k, none⟩ hbv (by simpa using hne)).trans hc
      obtain ⟨g', y, he, _, _, hy, hyl, hco, hf⟩ := ho.get (k := j + k) (by omega)
      cases he
      rw [← hj, mid_get h mi t k (by omega)] at hy
      have hym : m[k]? = some y := by
        have h1 := congrArg (fun l : List Nat => l[0]?) HD.out
        simp only [List.getElem?_drop, Nat.add_zero] at h1
        rw [← h1]; exact hy
      obtain ⟨P, hP⟩ : ∃ P, q * x = P := ⟨_, rfl⟩
      have hPi : (q : Int) * (x : Int) = (P : Int) := by rw [← hP]; simp
      have hPl : P ≤ 18446744065119617025 := by
        rw [← hP]
        exact Nat.le_trans (Nat.mul_le_mul (Nat.le_of_lt_succ hq) (Nat.le_of_lt_succ hxl)) (by decide)
      obtain ⟨hi, hhi⟩ : ∃ hi, (C + P) / 4294967296 = hi := ⟨_, rfl⟩
      obtain ⟨lo, hlo⟩ : ∃ lo, (C + P) % 4294967296 = lo := ⟨_, rfl⟩
      have e2 : ((C : Int) + P) % 4294967296 = (lo : Int) := by omega
      have e3 : ((C : Int) + P) / 4294967296 = (hi : Int) := by omega
      have hlol : lo < 4294967296 := by omega
      have hhil : hi < 4294967296 := by omega
      obtain ⟨d, bo, hdl, hbo, hdb⟩ : ∃ d bo, d < 4294967296 ∧ bo ≤ 1 ∧ d + lo + b = y + 4294967296 * bo := by
        by_cases h : y < lo + b
        · exact ⟨y + 4294967296 - lo - b, 1, by omega, by omega, by omega⟩
        · exact ⟨y - lo - b, 0, by omega, by omega, by omega⟩
      have hsub := sub32_any y lo b d bo wr hyl hlol hbb hdl hbo hdb
      have hcp : C + q * x = lo + 4294967296 * hi := by rw [hP, ← hlo, ← hhi]; exact (Nat.mod_add_div _ _).symm
      have hstep : vl ((mi.set k d).take (k + 1)) + q * vl (v.take (k + 1)) = vl (m.take (k + 1)) + 4294967296 ^ (k + 1) * (hi + bo) := by
        rw [vl_take_set _ (by omega), vl_take_succ hx, vl_take_succ hym, Nat.pow_succ]
        exact less_step _ _ _ _ _ _ _ _ _ _ _ _ _ _ HS.out hcp hdb
      have HT := Lib.hid hstep
      have ho2 := ho.stored (h.length + k) d hdl
      rw [mid_set h mi t k d (by omega), hj] at ho2
      have HD2 : Hid ((mi.set k d).drop (k + 1) = m.drop (k + 1)) := by
        show _ = _
        have h1 := congrArg (List.drop 1) HD.out
        rw [List.drop_drop, List.drop_drop] at h1
        rw [drop_set_lt]
        exact h1
      clear hstep hcp hdb hym hy hx hP hhi hlo
      go_wp2_with fail
      refine hsub.mono ?_; rintro e w' ⟨rfl, rfl⟩
      go_wp2_with fail
      exact ⟨⟨k + 1, bo, hi, by omega, by go_num, rfl, hbo, rfl, hhil, mi.set k d, by simpa using hml, ho2, HD2, HT, grown_set hg _ _⟩, by simp [intOf]; omega⟩
    · obtain rfl : k = n := by omega
      obtain ⟨g', y, he, _, _, hy, hyl, hco, hf⟩ := ho.get (k := j + k) (by omega)
      cases he
      rw [← hj, mid_get h mi t k (by omega)] at hy
      have hym : m[k]? = some y := by
        have h1 := congrArg (fun l : List Nat => l[0]?) HD.out
        simp only [List.getElem?_drop, Nat.add_zero] at h1
        rw [← h1]; exact hy
      obtain ⟨d, bo, hdl, hbo, hdb⟩ : ∃ d bo, d < 4294967296 ∧ bo ≤ 1 ∧ d + C + b = y + 4294967296 * bo := by
        by_cases h : y < C + b
        · exact ⟨y + 4294967296 - C - b, 1, by omega, by omega, by omega⟩
        · exact ⟨y - C - b, 0, by omega, by omega, by omega⟩
      have hsub := sub32_any y C b d bo wr hyl hC hbb hdl hbo hdb
      have hstep : vl (mi.set k d) + q * vl v = vl m + 4294967296 ^ (k + 1) * bo := by
        have h1 := vl_take_set (l := mi) (k := k) d (by omega)
        rw [List.take_of_length_le (by simp; omega)] at h1
        have h2 := vl_take_succ hym
        rw [List.take_of_length_le (by omega)] at h2
        have h3 := HS.out
        rw [List.take_of_length_le (l := v) (by omega)] at h3
        have h4 : 4294967296 ^ k * (d + C + b) = 4294967296 ^ k * (y + 4294967296 * bo) := by rw [hdb]
        rw [h1, h2, Nat.pow_succ]
        simp only [Nat.mul_add, ← Nat.mul_assoc] at *
        omega
      have HT := Lib.hid hstep
      have ho2 := ho.stored (h.length + k) d hdl
      rw [mid_set h mi t k d (by omega), hj] at ho2
      have hbz : ((bo : Int) != 0) = decide (bo = 1) := by
        obtain rfl | rfl : bo = 0 ∨ bo = 1 := by omega
        · rfl
        · rfl
      have HB := Lib.hid hbz
      clear hstep hdb hym hy hbz
      go_wp2_with fail
      refine hsub.mono ?_; rintro e w' ⟨rfl, rfl⟩
      go_wp2_with fail
      go_ret
      exact ⟨_, bo, ret_bool HB.out, hbo, by simpa using hml, ho2, HT.out, grown_set hg _ _⟩

set_option maxRecDepth 100000 in
set_option maxHeartbeats 1600000 in
/-- v is given back to m, which lies in u. -/
theorem back_any (base : Nat) (A Av : Option Addr) (nu cu n cv : Nat) (h m t v : List Nat) (w : World) (ho : OwnL w base A nu cu (h ++ (m ++ t))) (hv : Lim w Av n cv v) (hd : ∀ x y, A = some x → Av = some y → x.block ≠ y.block)
    (hm : m.length = n + 1) (hu : nu ≤ 1099511627776) :
    Calls Tryd.prog 62 #[.slice A nu cu, .slice Av n cv, .int .i64 (h.length : Nat)] w fun e w' => (∃ x, e = .returned x) ∧ ∃ m' b, b ≤ 1 ∧ m'.length = n + 1 ∧
      OwnL w' base A nu cu (h ++ (m' ++ t)) ∧ vl m' + 4294967296 ^ (n + 1) * b = vl m + vl v ∧ w.grownBy w' (A.map (·.block)) := by
  have hvl := hv.len
  have hlu := ho.len
  simp only [List.length_append] at hlu
  obtain ⟨g, _, rfl, hbg, hgs, _⟩ := ho.get (k := h.length) (by omega)
  obtain ⟨j, hj⟩ : ∃ j, h.length = j := ⟨_, rfl⟩
  rw [hj] at hlu ⊢
  go_enter Tryd.func62, Tryd.ntmps62
  go_wp2_with fail
  go_loopw [6, 11] (fun bw i wr => ∃ k b : Nat, k ≤ n ∧ i = .int .i64 k ∧ bw = .int .u32 b ∧ b ≤ 1 ∧ ∃ mi : List Nat, mi.length = n + 1 ∧ OwnL wr base (some ⟨g, 0, none⟩) nu cu (h ++ (mi ++ t)) ∧
      Hid (mi.drop k = m.drop k) ∧ Hid (vl (mi.take k) + 4294967296 ^ k * b = vl (m.take k) + vl (v.take k)) ∧ w.grownBy wr (some g)) (fun _ i _ => n - (intOf i).toNat)
  case atStart =>
    refine ⟨0, 0, by omega, rfl, rfl, by omega, m, hm, ho, rfl, ?_, World.grownBy.refl _ _⟩
    show _ = _
    simp [vl, Num.val]
  case round =>
    obtain ⟨k, b, hk, rfl, rfl, hbb, mi, hml, ho, HD, HS, hg⟩ := hrel
    by_cases hlt : k < n
    · obtain ⟨bv, off, x, rfl, hbv, hx, hxl, hc⟩ := hv.get hlt
      have hne : bv ≠ g := fun e => hd ⟨g, 0, none⟩ ⟨bv, off, none⟩ rfl rfl e.symm
      have hc2 : wr.cell? ⟨bv, off + k, none⟩ = some (.int .u32 (x : Int)) := (hg.cell_far ⟨bv, off + k, none⟩ hbv (by simpa using hne)).trans hc
      obtain ⟨g', y, he, _, _, hy, hyl, hco, hf⟩ := ho.get (k := j + k) (by omega)
      cases he
      rw [← hj, mid_get h mi t k (by omega)] at hy
      have hym : m[k]? = some y := by
        have h1 := congrArg (fun l : List Nat => l[0]?) HD.out
        simp only [List.getElem?_drop, Nat.add_zero] at h1
        rw [← h1]; exact hy
      obtain ⟨d, bo, hdl, hbo, hdb⟩ : ∃ d bo, d < 4294967296 ∧ bo ≤ 1 ∧ d + 4294967296 * bo = y + x + b := ⟨(y + x + b) % 4294967296, (y + x + b) / 4294967296, by omega, by omega, by omega⟩
      have hadd := add32_any y x b d bo wr hyl hxl hbb hdl hdb
      have hstep : vl ((mi.set k d).take (k + 1)) + 4294967296 ^ (k + 1) * bo = vl (m.take (k + 1)) + vl (v.take (k + 1)) := by
        rw [vl_take_set _ (by omega), vl_take_succ hx, vl_take_succ hym, Nat.pow_succ]
        have h1 := HS.out
        have h4 : 4294967296 ^ k * (d + 4294967296 * bo) = 4294967296 ^ k * (y + x + b) := by rw [hdb]
        simp only [Nat.mul_add, ← Nat.mul_assoc] at *
        omega
      have HT := Lib.hid hstep
      have ho2 := ho.stored (h.length + k) d hdl
      rw [mid_set h mi t k d (by omega), hj] at ho2
      have HD2 : Hid ((mi.set k d).drop (k + 1) = m.drop (k + 1)) := by
        show _ = _
        have h1 := congrArg (List.drop 1) HD.out
        rw [List.drop_drop, List.drop_drop] at h1
        rw [drop_set_lt]
        exact h1
      clear hstep hdb hym hy hx
      go_wp2_with fail
      refine hadd.mono ?_; rintro e w' ⟨rfl, rfl⟩
      go_wp2_with fail
      exact ⟨⟨k + 1, bo, by omega, by go_num, rfl, hbo, mi.set k d, by simpa using hml, ho2, HD2, HT, grown_set hg _ _⟩, by simp [intOf]; omega⟩
    · obtain rfl : k = n := by omega
      obtain ⟨g', y, he, _, _, hy, hyl, hco, hf⟩ := ho.get (k := j + k) (by omega)
      cases he
      rw [← hj, mid_get h mi t k (by omega)] at hy
      have hym : m[k]? = some y := by
        have h1 := congrArg (fun l : List Nat => l[0]?) HD.out
        simp only [List.getElem?_drop, Nat.add_zero] at h1
        rw [← h1]; exact hy
      obtain ⟨d, bo, hdl, hbo, hdb⟩ : ∃ d bo, d < 4294967296 ∧ bo ≤ 1 ∧ d + 4294967296 * bo = y + b := ⟨(y + b) % 4294967296, (y + b) / 4294967296, by omega, by omega, by omega⟩
      have hsum : ((y : Int) + b) % 4294967296 = (d : Int) := by omega
      have hstep : vl (mi.set k d) + 4294967296 ^ (k + 1) * bo = vl m + vl v := by
        have h1 := vl_take_set (l := mi) (k := k) d (by omega)
        rw [List.take_of_length_le (by simp; omega)] at h1
        have h2 := vl_take_succ hym
        rw [List.take_of_length_le (by omega)] at h2
        have h3 := HS.out
        rw [List.take_of_length_le (l := v) (by omega)] at h3
        have h4 : 4294967296 ^ k * (d + 4294967296 * bo) = 4294967296 ^ k * (y + b) := by rw [hdb]
        rw [h1, h2, Nat.pow_succ]
        simp only [Nat.mul_add, ← Nat.mul_assoc] at *
        omega
      have HT := Lib.hid hstep
      have ho2 := ho.stored (h.length + k) d hdl
      rw [mid_set h mi t k d (by omega), hj] at ho2
      clear hstep hdb hym hy
      go_wp2_with fail
      go_end0
      exact ⟨⟨_, rfl⟩, _, bo, hbo, by simpa using hml, ho2, HT.out, grown_set hg _ _⟩
end Go.Proofs.YticjhlbmdjijnaaDoor

/- Long division, limb by limb: plain mathematics. No condition. -/
namespace Go.Proofs.YticjhlbmdjijnaaDoor
namespace Num

/-- One limb of the quotient: W is the power beyond the dividend's limbs. -/
theorem limb_none {V M W qg m1 : Nat} (hV : 0 < V) (hq1 : M / V ≤ qg) (hm : m1 + qg * V = M + W * 0) : qg = M / V ∧ m1 = M % V := by
  have h1 : qg ≤ M / V := by rw [Nat.le_div_iff_mul_le hV]; omega
  have h2 : qg = M / V := by omega
  refine ⟨h2, ?_⟩
  have h3 := Nat.div_add_mod M V
  rw [h2, Nat.mul_comm] at hm
  omega
theorem limb_back {V M W qg m1 m2 e : Nat} (hV : 0 < V) (hq2 : qg ≤ M / V + 1) (hm : m1 + qg * V = M + W * 1) (hm1 : m1 < W) (he : m2 + W * e = m1 + V) (he1 : e ≤ 1) (hm2 : m2 < W) :
    1 ≤ qg ∧ qg - 1 = M / V ∧ m2 = M % V := by
  have h3 := Nat.div_add_mod M V
  have h4 : M < qg * V := by omega
  have h5 : M / V < qg := by rw [Nat.div_lt_iff_lt_mul hV]; exact h4
  have h7 := Nat.mod_lt M hV
  generalize M / V = T at *
  generalize M % V = R at *
  obtain rfl : qg = T + 1 := by omega
  rw [Nat.add_mul, Nat.one_mul, Nat.mul_comm T V] at hm
  have he2 : e = 1 := by
    rcases Nat.eq_zero_or_pos e with h | h
    · subst h; omega
    · omega
  subst he2
  exact ⟨by omega, by omega, by omega⟩
end Num
open Go.RowKit

/-- What holds between two limbs of a quotient: J are left; u is what is left of the dividend D, q the quotient's limbs. -/
structure Longs (D V nb J : Nat) (u q : List Nat) : Prop where
  eq : D = V * 4294967296 ^ J * vl (q.drop J) + vl (u.take (J + nb))
  lt : vl (u.take (J + nb)) < V * 4294967296 ^ J

theorem Longs.mid {D V nb j : Nat} {h m t q : List Nat} (H : Longs D V nb (j + 1) (h ++ (m ++ t)) q) (hh : h.length = j) (hm : m.length = nb + 1) : D = V * 4294967296 ^ (j + 1) * vl (q.drop (j + 1)) + (vl h + 4294967296 ^ j * vl m) ∧ vl m < 4294967296 * V := by
  have e : (h ++ (m ++ t)).take (j + 1 + nb) = h ++ m := by
    rw [← List.append_assoc, List.take_left' (by simp; omega)]
  have e2 : vl (h ++ m) = vl h + 4294967296 ^ j * vl m := by rw [← hh]; exact Num.val_append _ h m
  have h1 := H.eq
  have h2 := H.lt
  rw [e, e2] at h1 h2
  refine ⟨h1, ?_⟩
  have h3 : 4294967296 ^ j * vl m < 4294967296 ^ j * (4294967296 * V) := by
    rw [Nat.pow_succ, Nat.mul_comm V, Nat.mul_assoc] at h2
    omega
  exact Nat.lt_of_mul_lt_mul_left h3
theorem Longs.next {D V nb j : Nat} {h m m' t q : List Nat} (H : Longs D V nb (j + 1) (h ++ (m ++ t)) q) (hh : h.length = j) (hm : m.length = nb + 1) (hm' : m'.length = nb + 1) (hV : 0 < V) (hVl : V < 4294967296 ^ nb)
    (hhl : ∀ x ∈ h, x < 4294967296) (hq : j < q.length) (hr : vl m' = vl m % V) : Longs D V nb j (h ++ (m' ++ t)) (q.set j (vl m / V)) ∧ (h ++ (m' ++ t))[j + nb]? = some 0 := by
  obtain ⟨h1, _⟩ := H.mid hh hm
  have hlt := Nat.mod_lt (vl m) hV
  have hlast : m'[nb]? = some 0 := by
    obtain ⟨z, hz⟩ : ∃ z, m'[nb]? = some z := ⟨_, List.getElem?_eq_getElem (by omega)⟩
    have e1 := vl_take_succ hz
    rw [List.take_of_length_le (by omega)] at e1
    rcases Nat.eq_zero_or_pos z with h0 | h0
    · rw [hz, h0]
    · have := Nat.mul_le_mul_left (4294967296 ^ nb) h0
      omega
  have htk : vl (m'.take nb) = vl m' := by
    have e1 := vl_take_succ hlast
    rw [List.take_of_length_le (by omega)] at e1
    omega
  have e : (h ++ (m' ++ t)).take (j + nb) = h ++ m'.take nb := by
    rw [List.take_append, List.take_of_length_le (by omega), hh, Nat.add_sub_cancel_left, List.take_append_of_le_length (by omega)]
  have e2 : vl (h ++ m'.take nb) = vl h + 4294967296 ^ j * (vl m % V) := by rw [← hr, ← htk, ← hh]; exact Num.val_append _ h _
  have hhv : vl h < 4294967296 ^ j := by rw [← hh]; exact Num.val_lt _ h hhl
  have hqd : vl ((q.set j (vl m / V)).drop j) = vl m / V + 4294967296 * vl (q.drop (j + 1)) := by
    have := Num.val_drop_pred (l := q.set j (vl m / V)) (k := j) 4294967296 (List.getElem?_set_self hq)
    rw [drop_set_lt] at this
    exact this
  refine ⟨⟨?_, ?_⟩, by rw [← hh, mid_get h m' t nb (by omega)]; exact hlast⟩
  · rw [e, e2, hqd, h1]
    have h3 : 4294967296 ^ j * (V * (vl m / V) + vl m % V) = 4294967296 ^ j * vl m := by rw [Nat.div_add_mod]
    have a1 : 4294967296 ^ j * (V * (vl m / V)) = V * 4294967296 ^ j * (vl m / V) := by rw [← Nat.mul_assoc, Nat.mul_comm (4294967296 ^ j) V]
    have a2 : V * 4294967296 ^ j * (4294967296 * vl (q.drop (j + 1))) = V * 4294967296 ^ (j + 1) * vl (q.drop (j + 1)) := by
      rw [Nat.pow_succ]; simp only [Nat.mul_assoc]
    rw [Nat.mul_add, a1] at h3
    rw [Nat.mul_add, a2]
    omega
  · rw [e, e2]
    have h3 := Nat.mul_le_mul_left (4294967296 ^ j) (show vl m % V + 1 ≤ V by omega)
    rw [Nat.mul_add, Nat.mul_one] at h3
    rw [Nat.mul_comm V]
    omega
theorem Longs.fin {a b s nb : Nat} {u q : List Nat} (H : Longs (a * 2 ^ s) (b * 2 ^ s) nb 0 u q) : vl q = a / b ∧ vl (u.take nb) = (a % b) * 2 ^ s := by
  have h1 := H.eq
  have h2 := H.lt
  simp only [Nat.pow_zero, Nat.mul_one, List.drop_zero, Nat.zero_add] at h1 h2
  have hp := Nat.two_pow_pos s
  have hb : 0 < b := by
    rcases Nat.eq_zero_or_pos b with h | h
    · rw [h] at h2; simp at h2
    · exact h
  have h3 : a * 2 ^ s / (b * 2 ^ s) = vl q := by
    rw [h1, Nat.mul_add_div (by omega), Nat.div_eq_of_lt h2, Nat.add_zero]
  have h4 : a * 2 ^ s % (b * 2 ^ s) = vl (u.take nb) := by
    rw [h1, Nat.mul_add_mod, Nat.mod_eq_of_lt h2]
  rw [Nat.mul_div_mul_right _ _ hp] at h3
  rw [Nat.mul_mod_mul_right] at h4
  exact ⟨h3.symm, h4.symm⟩
/-- A limb of what is shifted back. -/
theorem down_limb (L : List Nat) (s i x y : Nat) (hs : s ≤ 32) (hL : ∀ z ∈ L, z < 4294967296) (hx : L[i]? = some x) (hy : L[i + 1]? = some y) : vl L / 2 ^ s / 4294967296 ^ i % 4294967296 = (y * 4294967296 + x) / 2 ^ s % 4294967296 := by
  have hi := (List.getElem?_eq_some_iff.1 hx).1
  have e1 : vl L / 4294967296 ^ i = vl (L.drop i) := by
    have h1 : vl L = vl (L.take i) + 4294967296 ^ i * vl (L.drop i) := Num.val_take_drop _ L i (by omega)
    have h2 : vl (L.take i) < 4294967296 ^ (L.take i).length := Num.val_lt 4294967296 (L.take i) (fun z hz => hL z (List.mem_of_mem_take hz))
    rw [List.length_take, Nat.min_eq_left (by omega)] at h2
    rw [h1, Nat.add_mul_div_left _ _ (Nat.pow_pos (by omega)), Nat.div_eq_of_lt h2, Nat.zero_add]
  rw [Nat.div_div_eq_div_mul, Nat.mul_comm, ← Nat.div_div_eq_div_mul, e1]
  have e2 : vl (L.drop i) = (y * 4294967296 + x) + 2 ^ s * (4294967296 * (2 ^ (32 - s) * vl (L.drop (i + 2)))) := by
    have h1 : vl (L.drop i) = x + 4294967296 * vl (L.drop (i + 1)) := Num.val_drop_pred _ hx
    have h2 : vl (L.drop (i + 1)) = y + 4294967296 * vl (L.drop (i + 2)) := Num.val_drop_pred _ hy
    have h3 : 2 ^ s * 2 ^ (32 - s) = 4294967296 := by rw [← Nat.pow_add, show s + (32 - s) = 32 by omega]
    have h4 : 2 ^ s * (4294967296 * (2 ^ (32 - s) * vl (L.drop (i + 2)))) = 4294967296 * (4294967296 * vl (L.drop (i + 2))) := by
      rw [Nat.mul_left_comm, ← Nat.mul_assoc (2 ^ s), h3]
    rw [h1, h2, h4]
    omega
  rw [e2, Nat.add_mul_div_left _ _ (Nat.two_pow_pos s), Nat.add_mul_mod_self_left]
end Go.Proofs.YticjhlbmdjijnaaDoor

/- A struct of two cells in a block of its own: its two stores. No condition. -/
namespace Go.Proofs.YticjhlbmdjijnaaDoor
open Go.RowKit

section
variable {w : World} {base : Nat} {kd : IntKind} {lim : Nat} {e t : TypeId} {A : Option Addr} {n c g : Nat} {l : List Nat}
theorem OwnI.st2 (h : OwnI w base kd lim e A n c l) (hg : ∀ ad, A = some ad → ad.block ≠ g) (u v : Value) : OwnI ((w.setCell ⟨g, 0, none⟩ u).setCell ⟨g, 1, none⟩ v) base kd lim e A n c l :=
  (h.setCell (p := ⟨g, 0, none⟩) hg u).setCell (p := ⟨g, 1, none⟩) hg v
theorem Ints.st2 (h : Ints w kd lim A n c l) (hg : ∀ ad, A = some ad → ad.block ≠ g) (u v : Value) : Ints ((w.setCell ⟨g, 0, none⟩ u).setCell ⟨g, 1, none⟩ v) kd lim A n c l :=
  (h.setCell (p := ⟨g, 0, none⟩) hg u).setCell (p := ⟨g, 1, none⟩) hg v
theorem below_st2 {B : Nat} {a : World} (h : Below B a w) (hg : B ≤ g) (u v : Value) : Below B a ((w.setCell ⟨g, 0, none⟩ u).setCell ⟨g, 1, none⟩ v) := (h.setCell (p := ⟨g, 0, none⟩) hg u).setCell (p := ⟨g, 1, none⟩) hg v
theorem Blk.st2 {a b : Value} (h : Blk w g t #[a, b]) (u v : Value) : Blk ((w.setCell ⟨g, 0, none⟩ u).setCell ⟨g, 1, none⟩ v) g t #[u, v] := (h.set_ 0 u).set_ 1 v
theorem Blk.far2 {g' : Nat} {cs : Array Value} (h : Blk w g' t cs) (hne : g' ≠ g) (u v : Value) : Blk ((w.setCell ⟨g, 0, none⟩ u).setCell ⟨g, 1, none⟩ v) g' t cs := (h.far (p := ⟨g, 0, none⟩) hne u).far (p := ⟨g, 1, none⟩) hne v
theorem Blk.c0 {a b : Value} (h : Blk w g t #[a, b]) : w.cell? ⟨g, 0, none⟩ = some a := h.cell 0
theorem Blk.c1 {a b : Value} (h : Blk w g t #[a, b]) : w.cell? ⟨g, 1, none⟩ = some b := h.cell 1
/-- A block just laid, its number as the walk spells it. -/
theorem Blk.new_at (w : World) (t : TypeId) (cs : Array Value) (hg : g = w.heap.size) : Blk (w.alloc (.cells cs t)) g t cs := by subst hg; exact Blk.new w t cs
/-- What a call has made lies beyond what was there ahead of it. -/
theorem OwnI.far {w' : World} (h : OwnI w' w.heap.size kd lim e A n c l) (hg : g < w.heap.size) : ∀ ad, A = some ad → ad.block ≠ g := fun ad he => by have := (h.lt_ ad he).1; omega
end
end Go.Proofs.YticjhlbmdjijnaaDoor

/- Several results, structs among them. No condition. -/
namespace Go.Proofs.YticjhlbmdjijnaaDoor
open Go.RowKit

section
variable {P : Program} {fn : Func} {p q u v : Tmp} {ty : TypeId}
theorem results_row_tmp (h : fn.results = #[.cell p ty, .tmp u]) (tmps : Array Value) (w : World) (g : Nat) (t : TypeId) (cs : Array Value) (fr : Nat × Nat) (d : TypeDesc)
    (hp : tmps.getD p undef = .pointer (some ⟨g, 0, none⟩)) (hg : w.heap[g]? = some (.cells cs t fr))
    (hu : P.underlying ty = some d) (hd : (match d with | .struct _ | .array _ _ => true | _ => false) = true) (hi : (P.info? ty).map (·.size) = some cs.size) :
    (results fn tmps).run P w = .ok (.tuple #[.agg cs, tmps.getD u undef]) w := by
  have hp' : tmps[p]?.getD undef = .pointer (some ⟨g, 0, none⟩) := by simpa using hp
  simp [results, h, hp', asAddr, run_loadVar_row w g t ty cs fr d hg hu hd hi]
theorem results_row_tmp2 (h : fn.results = #[.cell p ty, .tmp u, .tmp v]) (tmps : Array Value) (w : World) (g : Nat) (t : TypeId) (cs : Array Value) (fr : Nat × Nat) (d : TypeDesc)
    (hp : tmps.getD p undef = .pointer (some ⟨g, 0, none⟩)) (hg : w.heap[g]? = some (.cells cs t fr))
    (hu : P.underlying ty = some d) (hd : (match d with | .struct _ | .array _ _ => true | _ => false) = true) (hi : (P.info? ty).map (·.size) = some cs.size) :
    (results fn tmps).run P w = .ok (.tuple #[.agg cs, tmps.getD u undef, tmps.getD v undef]) w := by
  have hp' : tmps[p]?.getD undef = .pointer (some ⟨g, 0, none⟩) := by simpa using hp
  simp [results, h, hp', asAddr, run_loadVar_row w g t ty cs fr d hg hu hd hi]
theorem results_row2_tmp (h : fn.results = #[.cell p ty, .cell q ty, .tmp u]) (tmps : Array Value) (w : World) (g g' : Nat) (t t' : TypeId) (cs cs' : Array Value) (fr fr' : Nat × Nat) (d : TypeDesc)
    (hp : tmps.getD p undef = .pointer (some ⟨g, 0, none⟩)) (hg : w.heap[g]? = some (.cells cs t fr)) (hq : tmps.getD q undef = .pointer (some ⟨g', 0, none⟩)) (hg' : w.heap[g']? = some (.cells cs' t' fr'))
    (hu : P.underlying ty = some d) (hd : (match d with | .struct _ | .array _ _ => true | _ => false) = true) (hi : (P.info? ty).map (·.size) = some cs.size) (hi' : (P.info? ty).map (·.size) = some cs'.size) :
    (results fn tmps).run P w = .ok (.tuple #[.agg cs, .agg cs', tmps.getD u undef]) w := by
  have hp' : tmps[p]?.getD undef = .pointer (some ⟨g, 0, none⟩) := by simpa using hp
  have hq' : tmps[q]?.getD undef = .pointer (some ⟨g', 0, none⟩) := by simpa using hq
  simp [results, h, hp', hq', asAddr, run_loadVar_row w g t ty cs fr d hg hu hd hi, run_loadVar_row w g' t' ty cs' fr' d hg' hu hd hi']
end
end Go.Proofs.YticjhlbmdjijnaaDoor

/- Whole numbers as a sign and a magnitude: plain mathematics. No condition. -/
namespace Go.Proofs.YticjhlbmdjijnaaDoor

/-- The whole number of a sign and a magnitude. -/
def zv (ng : Bool) (v : Nat) : Int := if ng then -(v : Int) else (v : Int)
theorem zv_false (v : Nat) : zv false v = (v : Int) := rfl
theorem zv_true (v : Nat) : zv true v = -(v : Int) := rfl
theorem zv_abs (ng : Bool) (v : Nat) : (zv ng v).natAbs = v := by cases ng <;> simp [zv]
theorem zv_neg (ng : Bool) (v : Nat) : decide (zv ng v < 0) = (ng && decide (0 < v)) := by
  cases ng
  · simp [zv]
  · simp [zv]
theorem zv_of (z : Int) : zv (decide (z < 0)) z.natAbs = z := by
  by_cases h : z < 0
  · rw [decide_eq_true h, zv_true]; omega
  · rw [decide_eq_false h, zv_false]; omega
theorem zv_not (ng : Bool) (v : Nat) : zv (!ng) v = - zv ng v := by cases ng <;> simp [zv]
theorem zv_mul (a b : Bool) (x y : Nat) : zv (a != b) (x * y) = zv a x * zv b y := by
  cases a <;> cases b <;> simp [zv, Int.neg_mul, Int.mul_neg]
/-- How one whole number stands to another. -/
def zcmp (x y : Int) : Int := if x < y then -1 else if y < x then 1 else 0
theorem zcmp_lt {x y : Int} (h : x < y) : zcmp x y = -1 := by unfold zcmp; rw [if_pos h]
theorem zcmp_gt {x y : Int} (h : y < x) : zcmp x y = 1 := by unfold zcmp; rw [if_neg (by omega), if_pos h]
theorem zcmp_eq (x : Int) : zcmp x x = 0 := by unfold zcmp; rw [if_neg (by omega), if_neg (by omega)]
theorem zcmp_range (x y : Int) : zcmp x y = -1 ∨ zcmp x y = 0 ∨ zcmp x y = 1 := by
  unfold zcmp
  split
  · exact .inl rfl
  · split
    · exact .inr (.inr rfl)
    · exact .inr (.inl rfl)
theorem zcmp_pos (x y : Nat) : zcmp (x : Int) (y : Int) = Num.cmp x y := by
  unfold zcmp Num.cmp
  by_cases h : x < y
  · rw [if_pos (by omega), if_pos h]
  · by_cases h2 : y < x
    · rw [if_neg (by omega), if_pos (by omega), if_neg h, if_pos h2]
    · rw [if_neg (by omega), if_neg (by omega), if_neg h, if_neg h2]
theorem zcmp_neg (x y : Int) : zcmp (-x) (-y) = zcmp y x := by
  unfold zcmp
  by_cases h : y < x
  · rw [if_pos (by omega), if_pos h]
  · by_cases h2 : x < y
    · rw [if_neg (by omega), if_pos (by omega), if_neg h, if_pos h2]
    · rw [if_neg (by omega), if_neg (by omega), if_neg h, if_neg h2]
theorem zcmp_swap (x y : Int) : zcmp x y = - zcmp y x := by
  rcases Int.lt_trichotomy x y with h | h | h
  · rw [zcmp_lt h, zcmp_gt h]
  · rw [h, zcmp_eq]; rfl
  · rw [zcmp_gt h, zcmp_lt h]; rfl

/-- Quotient, rounded down, and rest. -/
def wdiv (a b : Int) : Int :=
  if a.natAbs % b.natAbs ≠ 0 ∧ decide (a < 0) ≠ decide (b < 0) then zv (decide (a < 0) != decide (b < 0)) (a.natAbs / b.natAbs) - 1
  else zv (decide (a < 0) != decide (b < 0)) (a.natAbs / b.natAbs)
def wmod (a b : Int) : Int := a - wdiv a b * b
theorem wdiv_add (a b : Int) : wdiv a b * b + wmod a b = a := by unfold wmod; omega
/-- The rest that is told, before it is turned. -/
theorem wrest (a b : Int) : a - zv (decide (a < 0) != decide (b < 0)) (a.natAbs / b.natAbs) * b = zv (decide (a < 0)) (a.natAbs % b.natAbs) := by
  have ha := zv_of a
  have hb := zv_of b
  have h := Nat.div_add_mod a.natAbs b.natAbs
  generalize decide (a < 0) = s at *
  generalize decide (b < 0) = t at *
  generalize a.natAbs = A at *
  generalize b.natAbs = B at *
  obtain ⟨q, hq⟩ : ∃ q, A / B = q := ⟨_, rfl⟩
  obtain ⟨r, hr⟩ : ∃ r, A % B = r := ⟨_, rfl⟩
  rw [hq, hr] at h
  rw [← ha, ← hb, hq, hr, ← h]
  have e : ((B * q + r : Nat) : Int) = (B : Int) * q + r := by simp
  cases s <;> cases t <;> simp only [zv, e, bne_self_eq_false, Bool.false_eq_true, if_false, if_true, Bool.true_bne, Bool.false_bne, Bool.not_false, Int.neg_mul, Int.mul_neg, Int.neg_neg] <;> rw [Int.mul_comm (q : Int)] <;> omega
theorem wmod_of (a b : Int) : wmod a b = if a.natAbs % b.natAbs ≠ 0 ∧ decide (a < 0) ≠ decide (b < 0) then zv (decide (a < 0)) (a.natAbs % b.natAbs) + b else zv (decide (a < 0)) (a.natAbs % b.natAbs) := by
  have h := wrest a b
  unfold wmod wdiv
  split
  · rw [Int.sub_mul, Int.one_mul]; omega
  · exact h
theorem wmod_sign (a b : Int) (hb : b ≠ 0) : (wmod a b).natAbs < b.natAbs ∧ (wmod a b = 0 ∨ decide (wmod a b < 0) = decide (b < 0)) := by
  have hB : 0 < b.natAbs := by omega
  have hlt := Nat.mod_lt a.natAbs hB
  rw [wmod_of]
  generalize a.natAbs % b.natAbs = r at *
  by_cases h1 : a < 0 <;> by_cases h2 : b < 0
  all_goals
    simp only [h1, h2, decide_true, decide_false, ne_eq, not_true_eq_false, and_false, if_false, Bool.true_eq_false, Bool.false_eq_true, not_false_eq_true, and_true, zv_true, zv_false]
    try split
    all_goals
      refine ⟨by omega, ?_⟩
      rcases Nat.eq_zero_or_pos r with h3 | h3
      · first
          | (left; omega)
          | (exfalso; omega)
      · first
          | (exfalso; omega)
          | (right; rw [decide_eq_true (by omega)])
          | (right; rw [decide_eq_false (by omega)])
theorem wdiv_zero_rest {a b : Int} (h : a.natAbs % b.natAbs = 0) : wdiv a b = zv (decide (a < 0) != decide (b < 0)) (a.natAbs / b.natAbs) ∧ wmod a b = 0 := by
  constructor
  · unfold wdiv
    rw [if_neg (by simp [h])]
  · rw [wmod_of, if_neg (by simp [h]), h]
    cases decide (a < 0) <;> rfl
end Go.Proofs.YticjhlbmdjijnaaDoor

/- The contracts of package whole: of, Of, Plain, not. No condition but the reach of a slice. -/
namespace Go.Proofs.YticjhlbmdjijnaaDoor
open Go.RowKit

set_option maxRecDepth 100000 in
set_option maxHeartbeats 400000 in
theorem of_any (ng : Bool) (A : Option Addr) (n c : Nat) (l : List Nat) (w : World) (hr : Lim w A n c l) (hn : n ≤ 1099511627776) :
    Calls Tryd.prog 23 #[.bool ng, .slice A n c] w fun e w' => ∃ A2 m, e = .returned (.agg #[.bool (decide (zv ng (vl l) < 0)), .slice A2 m m]) ∧ m ≤ n ∧ OwnL w' w.heap.size A2 m m (lmb (vl l)) ∧ Below w.heap.size w w' := by
  have t1 := fun w0 h0 => trim_any A n c l w0 h0 (by omega)
  rw [zv_neg]
  generalize vl l = v at *
  go_enter Tryd.func23, Tryd.ntmps23
  go_wp2_with fail
  refine (t1 _ (hr.alloc _)).mono ?_; rintro e w1 ⟨A1, m1, rfl, hm1, ho1, hb1⟩
  have hk1 := (Blk.new w 24 #[.bool false, .slice none 0 0]).below hb1 (by simp)
  have hlm := ho1.len
  have hb : Below w.heap.size w w1 := below_step ((Below.refl _ _).alloc (Nat.le_refl _) _) hb1 (by simp)
  have hd : decide (0 < v) = decide (0 < m1) := by
    rcases Nat.eq_zero_or_pos v with h | h
    · rw [h, lmb_zero] at hlm
      rw [h, ← hlm]; rfl
    · have : 0 < m1 := by
        rcases Nat.eq_zero_or_pos m1 with h0 | h0
        · rw [h0] at hlm
          have := (Num.dig_eq_nil (b := 4294967296) (by decide) v).1 (List.eq_nil_of_length_eq_zero hlm)
          omega
        · exact h0
      rw [decide_eq_true h, decide_eq_true this]
  have HD := Lib.hid hd
  clear hlm hd
  have hc0 := hk1.cell 0
  have hc1 := hk1.cell 1
  have hf0 := hk1.frozen 0
  have hf1 := hk1.frozen 1
  simp at hc0 hc1
  cases ng
  · go_wp2_with fail
    refine bodyPost_ret (results_cell_row rfl _ _ w.heap.size 24 #[.bool false, .slice A1 m1 m1] (0, 0) _ rfl ((hk1.set_ 0 _).set_ 1 _).is Tryd.underlying24 rfl (by kernel_rfl)) rfl ?_
    rw [HD.out]
    exact ⟨A1, m1, rfl, hm1, ((ho1.setCell (p := ⟨w.heap.size, 0, none⟩) (fun ad he => by have h1 := (ho1.lt_ ad he).1; simp at h1 ⊢; omega) _).setCell (p := ⟨w.heap.size, 1, none⟩) (fun ad he => by have h1 := (ho1.lt_ ad he).1; simp at h1 ⊢; omega) _).mono (by simp), (hb.setCell (Nat.le_refl _) _).setCell (Nat.le_refl _) _⟩
  · go_wp2_with fail
    refine bodyPost_ret (results_cell_row rfl _ _ w.heap.size 24 #[.bool (decide (0 < m1)), .slice A1 m1 m1] (0, 0) _ rfl ((hk1.set_ 0 _).set_ 1 _).is Tryd.underlying24 rfl (by kernel_rfl)) rfl ?_
    rw [HD.out]
    exact ⟨A1, m1, rfl, hm1, ((ho1.setCell (p := ⟨w.heap.size, 0, none⟩) (fun ad he => by have h1 := (ho1.lt_ ad he).1; simp at h1 ⊢; omega) _).setCell (p := ⟨w.heap.size, 1, none⟩) (fun ad he => by have h1 := (ho1.lt_ ad he).1; simp at h1 ⊢; omega) _).mono (by simp), (hb.setCell (Nat.le_refl _) _).setCell (Nat.le_refl _) _⟩

/-- Its arguments' number, plain. -/
theorem plain_any (ng : Bool) (A : Option Addr) (n c : Nat) (l : List Nat) (w : World) (hr : Lim w A n c l) (hn : n ≤ 1099511627776) :
    Calls Tryd.prog 20 #[.agg #[.bool ng, .slice A n c]] w fun e w' => ∃ A2 m, e = .returned (.agg #[.bool (decide (zv ng (vl l) < 0)), .slice A2 m m]) ∧ m ≤ n ∧ OwnL w' w.heap.size A2 m m (lmb (vl l)) ∧ Below w.heap.size w w' := by
  obtain ⟨bb, hbb⟩ : ∃ bb, decide (zv ng (vl l) < 0) = bb := ⟨_, rfl⟩
  have t1 := fun w0 h0 => of_any ng A n c l w0 h0 (by omega)
  rw [hbb] at t1
  have HB := Lib.hid hbb
  clear hbb
  go_enter Tryd.func20, Tryd.ntmps20
  go_wp2_with fail
  refine (t1 _ ((hr.alloc _).alloc _)).mono ?_; rintro e w1 ⟨A1, m1, rfl, hm1, ho1, hb1⟩
  have hk1 := (Blk.new_at (g := w.heap.size + 1) (w.alloc (.cells #[.bool ng, .slice A n c] 24)) 24 #[.bool false, .slice none 0 0] (by simp)).below hb1 (by simp)
  have hc0 := hk1.c0
  have hc1 := hk1.c1
  have hf0 := hk1.frozen 0
  have hf1 := hk1.frozen 1
  have hb : Below w.heap.size w w1 := below_step (((Below.refl _ _).alloc (Nat.le_refl _) _).alloc (by simp) _) hb1 (by simp; omega)
  go_wp2_with fail
  refine bodyPost_ret (results_cell_row rfl _ _ (w.heap.size + 1) 24 #[.bool bb, .slice A1 m1 m1] (0, 0) _ rfl (hk1.st2 _ _).is Tryd.underlying24 rfl (by kernel_rfl)) rfl ?_
  rw [HB.out]
  exact ⟨A1, m1, rfl, hm1, (ho1.st2 (ho1.far (by simp)) _ _).mono (by simp; omega), below_st2 hb (by simp) _ _⟩
theorem not_any (ng : Bool) (A : Option Addr) (n c : Nat) (l : List Nat) (w : World) (hr : Lim w A n c l) (hn : n ≤ 1099511627776) :
    Calls Tryd.prog 42 #[.agg #[.bool ng, .slice A n c]] w fun e w' => ∃ A2 m, e = .returned (.agg #[.bool (decide (- zv ng (vl l) < 0)), .slice A2 m m]) ∧ m ≤ n ∧ OwnL w' w.heap.size A2 m m (lmb (vl l)) ∧ Below w.heap.size w w' := by
  obtain ⟨bb, hbb⟩ : ∃ bb, decide (- zv ng (vl l) < 0) = bb := ⟨_, rfl⟩
  have t1 := fun w0 h0 => of_any (!ng) A n c l w0 h0 (by omega)
  rw [zv_not, hbb] at t1
  have HB := Lib.hid hbb
  clear hbb
  go_enter Tryd.func42, Tryd.ntmps42
  go_wp2_with fail
  refine (t1 _ ((hr.alloc _).alloc _)).mono ?_; rintro e w1 ⟨A1, m1, rfl, hm1, ho1, hb1⟩
  have hk1 := (Blk.new_at (g := w.heap.size + 1) (w.alloc (.cells #[.bool ng, .slice A n c] 24)) 24 #[.bool false, .slice none 0 0] (by simp)).below hb1 (by simp)
  have hc0 := hk1.c0
  have hc1 := hk1.c1
  have hf0 := hk1.frozen 0
  have hf1 := hk1.frozen 1
  have hb : Below w.heap.size w w1 := below_step (((Below.refl _ _).alloc (Nat.le_refl _) _).alloc (by simp) _) hb1 (by simp; omega)
  go_wp2_with fail
  refine bodyPost_ret (results_cell_row rfl _ _ (w.heap.size + 1) 24 #[.bool bb, .slice A1 m1 m1] (0, 0) _ rfl (hk1.st2 _ _).is Tryd.underlying24 rfl (by kernel_rfl)) rfl ?_
  rw [HB.out]
  exact ⟨A1, m1, rfl, hm1, (ho1.st2 (ho1.far (by simp)) _ _).mono (by simp; omega), below_st2 hb (by simp) _ _⟩
end Go.Proofs.YticjhlbmdjijnaaDoor

/- The contracts of slices.Reverse, slices.Compare at rows of limbs, and of nat.Cmp. No condition but the reach of a slice. -/
namespace Go.Proofs.YticjhlbmdjijnaaDoor
open Go.RowKit

/-- A row of which the first k and the last k elements have changed places. -/
structure RevTo (l cur : List Nat) (k : Nat) : Prop where
  len : cur.length = l.length
  at_ : ∀ t, t < l.length → cur[t]? = if t < k ∨ l.length - 1 - t < k then l[l.length - 1 - t]? else l[t]?
theorem RevTo.zero (l : List Nat) : RevTo l l 0 := ⟨rfl, fun t _ => by rw [if_neg (by omega)]⟩
theorem RevTo.step {l cur : List Nat} {k x y : Nat} (h : RevTo l cur k) (hk : k < l.length - 1 - k) (hx : cur[k]? = some x) (hy : cur[l.length - 1 - k]? = some y) :
    RevTo l ((cur.set k y).set (l.length - 1 - k) x) (k + 1) := by
  refine ⟨by simp [h.len], fun t ht => ?_⟩
  have ex := h.at_ k (by omega)
  rw [if_neg (by omega), hx] at ex
  have ey := h.at_ (l.length - 1 - k) (by omega)
  rw [if_neg (by omega), hy] at ey
  by_cases h1 : t = l.length - 1 - k
  · subst h1
    rw [List.getElem?_set_self (by simp [h.len]; omega), if_pos (by omega), show l.length - 1 - (l.length - 1 - k) = k by omega]
    exact ex
  · rw [List.getElem?_set_ne (fun e => h1 e.symm)]
    by_cases h2 : t = k
    · subst h2
      rw [List.getElem?_set_self (by rw [h.len]; omega), if_pos (by omega)]
      exact ey
    · rw [List.getElem?_set_ne (fun e => h2 e.symm), h.at_ t ht]
      by_cases h3 : t < k ∨ l.length - 1 - t < k
      · rw [if_pos h3, if_pos (by omega)]
      · rw [if_neg h3, if_neg (by omega)]
theorem RevTo.done {l cur : List Nat} {k : Nat} (h : RevTo l cur k) (hk : l.length - 1 - k ≤ k) : cur = l.reverse := by
  refine List.ext_getElem? fun t => ?_
  rcases Nat.lt_or_ge t l.length with ht | ht
  · rw [h.at_ t ht, List.getElem?_reverse ht]
    by_cases h3 : t < k ∨ l.length - 1 - t < k
    · rw [if_pos h3]
    · rw [if_neg h3, show l.length - 1 - t = t by omega]
  · rw [List.getElem?_eq_none (by rw [h.len]; exact ht), List.getElem?_eq_none (by simpa using ht)]

set_option maxRecDepth 100000 in
set_option maxHeartbeats 800000 in
theorem rev32_any (base : Nat) (A : Option Addr) (n c : Nat) (l : List Nat) (w : World) (ho : OwnL w base A n c l) (hn : n ≤ 1099511627776) :
    Calls Tryd.prog 54 #[.slice A n c] w fun e w' => (∃ v, e = .returned v) ∧ OwnL w' base A n c l.reverse ∧ w.grownBy w' (A.map (·.block)) := by
  have hlen := ho.len
  go_enter Tryd.func54, Tryd.ntmps54
  go_wp2
  go_loopw [2, 3] (fun i j wr => ∃ k : Nat, k ≤ n ∧ i = .int .i64 k ∧ j = .int .i64 ((n : Int) - 1 - k) ∧ ∃ cur : List Nat, RevTo l cur k ∧ OwnL wr base A n c cur ∧ w.grownBy wr (A.map (·.block))) (fun i _ _ => n - (intOf i).toNat)
  case atStart => exact ⟨0, by omega, rfl, by simp, l, RevTo.zero l, ho, World.grownBy.refl _ _⟩
  case round =>
    obtain ⟨k, hk, rfl, rfl, cur, hR, ho, hg⟩ := hrel
    by_cases hlt : k < n - 1 - k
    · obtain ⟨g, x, rfl, hgb, hgs, hx, hxl, hc, hf⟩ := ho.get (k := k) (by omega)
      obtain ⟨g', y, he, _, _, hy, hyl, hc', hf'⟩ := ho.get (k := n - 1 - k) (by omega)
      cases he
      have e1 : (n : Int) - 1 - k = ((n - 1 - k : Nat) : Int) := by omega
      obtain ⟨j, hj⟩ : ∃ j, n - 1 - k = j := ⟨_, rfl⟩
      have hR' := hR.step (x := x) (y := y) (by omega) hx (by rw [hlen]; exact hy)
      rw [hlen] at hR'
      rw [e1]
      rw [hj] at hc' hf' hR' hlt ⊢
      have HR := Lib.hid hR'
      have hjn : j < n := by omega
      have hj2 : (j : Int) - 1 = (n : Int) - 1 - ((k + 1 : Nat) : Int) := by omega
      have HJ := Lib.hid hj2
      clear hR' hx hy e1 hj hj2
      go_wp2_with fail
      go_region
      go_wp2_with fail
      exact ⟨⟨k + 1, by omega, by go_num, by rw [HJ.out], _, HR.out, ((ho.stored k y hyl).stored j x hxl).drew, grown_drew (grown_set (grown_set hg k _) j _)⟩, by simp [intOf]; omega⟩
    · have hl : cur = l.reverse := hR.done (by omega)
      subst hl
      clear hR
      go_wp2_with fail
      go_end0
      exact ⟨⟨_, rfl⟩, ho, hg⟩

set_option maxRecDepth 100000 in
theorem cmpc_any (x y : Nat) (w : World) :
    Calls Tryd.prog 71 #[.int .u32 x, .int .u32 y] w fun e w' => e = .returned (.int .i64 (Num.cmp x y)) ∧ w' = w := by
  rcases Nat.lt_trichotomy x y with h | h | h
  · rw [Num.cmp_lt h]
    have ht : decide ((x : Int) < y) = true := by simp; exact h
    go_enter Tryd.func71, Tryd.ntmps71
    go_wp2
    go_ret
    exact ⟨rfl, rfl⟩
  · subst h
    rw [Num.cmp_eq]
    go_enter Tryd.func71, Tryd.ntmps71
    go_wp2
    go_ret
    exact ⟨rfl, rfl⟩
  · rw [Num.cmp_gt h]
    go_enter Tryd.func71, Tryd.ntmps71
    go_wp2
    go_ret
    exact ⟨rfl, rfl⟩

/-- Two rows of one length, alike ahead of place k, that differ there: how they stand, read from their ends. -/
theorem cmp_rev (l l' : List Nat) (k x y : Nat) (hlen : l.length = l'.length) (hl : ∀ z ∈ l, z < 4294967296) (hl' : ∀ z ∈ l', z < 4294967296) (ht : l.take k = l'.take k) (hx : l[k]? = some x) (hy : l'[k]? = some y) (hne : x ≠ y) :
    Num.cmp x y = Num.cmp (vl l.reverse) (vl l'.reverse) := by
  have hk := (List.getElem?_eq_some_iff.1 hx).1
  have rx : l.reverse[l.length - 1 - k]? = some x := by
    rw [List.getElem?_reverse (by omega), show l.length - 1 - (l.length - 1 - k) = k by omega]; exact hx
  have ry : l'.reverse[l.length - 1 - k]? = some y := by
    rw [List.getElem?_reverse (by omega), show l'.length - 1 - (l.length - 1 - k) = k by omega]; exact hy
  have hd : l.reverse.drop (l.length - 1 - k + 1) = l'.reverse.drop (l.length - 1 - k + 1) := by
    rw [List.drop_reverse, List.drop_reverse, show l.length - (l.length - 1 - k + 1) = k by omega, show l'.length - (l.length - 1 - k + 1) = k by omega, ht]
  rcases Nat.lt_or_gt_of_ne hne with h | h
  · have := Num.val_lt_at l.reverse l'.reverse _ x y (by simpa using hlen) (fun z hz => hl z (by simpa using hz)) rx ry hd h
    rw [Num.cmp_lt h, Num.cmp_lt (show vl l.reverse < vl l'.reverse from this)]
  · have := Num.val_lt_at l'.reverse l.reverse _ y x (by simpa using hlen.symm) (fun z hz => hl' z (by simpa using hz)) ry rx hd.symm h
    rw [Num.cmp_gt h, Num.cmp_gt (show vl l'.reverse < vl l.reverse from this)]
theorem cmp_zero_iff (x y : Nat) : Num.cmp x y = 0 ↔ x = y := by
  unfold Num.cmp
  split
  · constructor
    · intro h; omega
    · intro h; omega
  · split
    · constructor
      · intro h; omega
      · intro h; omega
    · constructor
      · intro _; omega
      · intro _; rfl
theorem cmp_range (x y : Nat) : Num.cmp x y = -1 ∨ Num.cmp x y = 0 ∨ Num.cmp x y = 1 := by
  unfold Num.cmp
  split
  · exact .inl rfl
  · split
    · exact .inr (.inr rfl)
    · exact .inr (.inl rfl)

set_option maxRecDepth 100000 in
set_option maxHeartbeats 800000 in
theorem scmp_any (A A' : Option Addr) (n c c' : Nat) (l l' : List Nat) (w : World) (hr : Lim w A n c l) (hr' : Lim w A' n c' l') (hn : n ≤ 1099511627776) :
    Calls Tryd.prog 55 #[.slice A n c, .slice A' n c'] w fun e w' => e = .returned (.int .i64 (Num.cmp (vl l.reverse) (vl l'.reverse))) ∧ w' = w := by
  have hlen := hr.len
  have hlen' := hr'.len
  go_enter Tryd.func55, Tryd.ntmps55
  go_wp2
  go_loop [11] (fun i => ∃ k : Nat, k ≤ n ∧ i = .int .i64 k ∧ l.take k = l'.take k) (fun i => n - (intOf i).toNat)
  case atStart => exact ⟨0, by omega, rfl, rfl⟩
  case round =>
    obtain ⟨k, hk, rfl, ht⟩ := hrel
    by_cases hlt : k < n
    · obtain ⟨b, o, x, rfl, _, hx, hxl, hc⟩ := hr.get hlt
      obtain ⟨b', o', y, rfl, _, hy, hyl, hc'⟩ := hr'.get hlt
      have hcc := cmpc_any x y w
      by_cases hxy : x = y
      · rw [(cmp_zero_iff x y).2 hxy] at hcc
        have hs : l.take (k + 1) = l'.take (k + 1) := by rw [List.take_add_one, List.take_add_one, ht, hx, hy, hxy]
        have HS := Lib.hid hs
        clear hs ht hx hy hxy
        go_wp2_with fail
        refine hcc.mono ?_; rintro e w' ⟨rfl, rfl⟩
        go_wp2_with fail
        exact ⟨⟨k + 1, by omega, by go_num, HS.out⟩, by simp [intOf]; omega⟩
      · have hz : Num.cmp x y ≠ 0 := fun h => hxy ((cmp_zero_iff x y).1 h)
        have HF := Lib.hid (cmp_rev l l' k x y (by omega) hr.lt hr'.lt ht hx hy hxy)
        generalize Num.cmp x y = z at *
        have hz2 : (z != 0) = true := by simpa using hz
        clear ht hx hy
        go_wp2_with fail
        refine hcc.mono ?_; rintro e w' ⟨rfl, rfl⟩
        go_wp2_with fail
        go_ret
        exact ⟨ret_int HF.out, rfl⟩
    · obtain rfl : k = n := by omega
      have he : l = l' := by
        rw [List.take_of_length_le (by omega), List.take_of_length_le (by omega)] at ht
        exact ht
      have HE := Lib.hid he
      clear he ht
      go_wp2_with fail
      go_ret
      exact ⟨ret_int (by rw [HE.out, Num.cmp_eq]), rfl⟩

set_option maxRecDepth 100000 in
set_option maxHeartbeats 800000 in
theorem cmp_any (A A' : Option Addr) (n c n' c' : Nat) (l l' : List Nat) (w : World) (hr : Lim w A n c l) (hr' : Lim w A' n' c' l') (hn : n ≤ 1099511627776) (hn' : n' ≤ 1099511627776) :
    Calls Tryd.prog 38 #[.slice A n c, .slice A' n' c'] w fun e w' => e = .returned (.int .i64 (Num.cmp (vl l) (vl l'))) ∧ Below w.heap.size w w' := by
  go_enter Tryd.func38, Tryd.ntmps38
  go_wp2_with fail
  refine (trim_any A n c l w hr hn).mono ?_; rintro e w1 ⟨A1, m, rfl, hm, ho1, hb1⟩
  go_wp2_with fail
  refine (trim_any A' n' c' l' w1 (hr'.below hb1) hn').mono ?_; rintro e w2 ⟨A2, m', rfl, hm', ho2, hb2⟩
  have hb := below_step hb1 hb2 hb1.size
  have ho1' := ho1.below hb2
  have h1 := ho1.len
  have h2 := ho2.len
  by_cases heq : m = m'
  · subst heq
    have hd : Dis A1 A2 := ⟨fun x y hx hy => by have := (ho1.lt_ x hx).2; have := (ho2.lt_ y hy).1; omega⟩
    go_wp2_with fail
    refine (rev32_any _ A1 m m _ w2 ho1' (by omega)).mono ?_; rintro e w3 ⟨⟨v, rfl⟩, ho3, hg3⟩
    go_wp2_with fail
    refine (rev32_any _ A2 m m _ w3 (ho2.beside hg3 hd) (by omega)).mono ?_; rintro e w4 ⟨⟨v, rfl⟩, ho4, hg4⟩
    have hb4 : Below w.heap.size w w4 := below_own (below_own hb hg3 hb.size (fun ad h => (ho1.lt_ ad h).1)) hg4 (by have := hb.size; have := hg3.size; omega) (fun ad h => Nat.le_trans hb1.size (ho2.lt_ ad h).1)
    have hc := scmp_any A1 A2 m m m _ _ w4 (ho3.beside hg4 hd.symm).ints ho4.ints (by omega)
    rw [List.reverse_reverse, List.reverse_reverse, vl_lmb, vl_lmb] at hc
    go_wp2_with fail
    refine hc.mono ?_; rintro e w5 ⟨rfl, rfl⟩
    go_wp2_with fail
    go_ret
    exact ⟨rfl, hb4⟩
  · by_cases hlt : m < m'
    · have hv : vl l < vl l' := Num.lt_of_len (b := 4294967296) (by decide) (by show (lmb (vl l)).length < (lmb (vl l')).length; omega)
      have ht : ((m : Int) != (m' : Int)) = true := by simp; omega
      have HV := Lib.hid (Num.cmp_lt hv)
      clear hv
      go_wp2_with fail
      go_ret
      exact ⟨ret_int HV.out.symm, hb⟩
    · have hv : vl l' < vl l := Num.lt_of_len (b := 4294967296) (by decide) (by show (lmb (vl l')).length < (lmb (vl l)).length; omega)
      have ht : ((m : Int) != (m' : Int)) = true := by simp; omega
      have HV := Lib.hid (Num.cmp_gt hv)
      clear hv
      go_wp2_with fail
      go_ret
      exact ⟨ret_int HV.out.symm, hb⟩
end Go.Proofs.YticjhlbmdjijnaaDoor
