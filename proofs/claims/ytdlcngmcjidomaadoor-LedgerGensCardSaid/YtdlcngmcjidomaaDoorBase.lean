/- Words for memory, of whatever program: slices that read as lists, blocks known whole. No condition. -/
import Derived.Test.YtdlcngmcjidomaaDoorRows
import Derived.WalkKit
import Derived.WalkSpells
import Derived.WalkLawsBesides
import Derived.Deep.LoopGhost
import Derived.Lib.Hide
import Derived.Maps.AppendAt
import Derived.Deep.AppendLies
import Derived.Deep.Draws
import Derived.Deep.QuietTactic
import Derived.BigQuiet
import Derived.Deep.RegionHeld3
import Derived.Deep.RegionWith
import Derived.Deep.DeepFit
import Derived.Laws.OwnMore
import Derived.Lib.SlBytesConst
namespace Go.Proofs.YtdlcngmcjidomaaDoor
open Go.RowKit

theorem block_of_add (a : Addr) (n : Nat) : (a.add n).block = a.block := by unfold Addr.add; split <;> rfl
theorem add_of_add (a : Addr) (i j : Nat) : (a.add i).add j = a.add (i + j) := by
  unfold Addr.add
  by_cases hi : i = 0 <;> by_cases hj : j = 0 <;> simp [hi, hj, Nat.add_assoc]

/-- Block g is just the cells cs of element type t, none frozen. (A structure: nothing unfolds it by chance.) -/
structure Blk (w : World) (g : Nat) (t : TypeId) (cs : Array Value) : Prop where
  is : w.heap[g]? = some (.cells cs t (0, 0))

section
variable {w w' : World} {g : Nat} {t : TypeId} {cs : Array Value}
theorem Blk.lt (h : Blk w g t cs) : g < w.heap.size := by
  rcases Nat.lt_or_ge g w.heap.size with hlt | hge
  · exact hlt
  · have h := h.is; rw [Array.getElem?_eq_none hge] at h; cases h
theorem Blk.cell (h : Blk w g t cs) (i : Nat) : w.cell? ⟨g, i, none⟩ = cs[i]? := cell_of_row w g i cs t (0, 0) h.is
theorem Blk.frozen (h : Blk w g t cs) (i : Nat) : w.frozen? ⟨g, i, none⟩ = false := by
  have h := h.is
  simp [World.frozen?, h]
theorem Blk.new (w : World) (t : TypeId) (cs : Array Value) : Blk (w.alloc (.cells cs t)) w.heap.size t cs := ⟨heap_alloc_new w _⟩
theorem Blk.drew (h : Blk w g t cs) : Blk w.drew g t cs := ⟨h.is⟩
theorem Blk.drewN (h : Blk w g t cs) (n : Nat) : Blk (w.drewN n) g t cs := ⟨h.is⟩
theorem Blk.alloc (h : Blk w g t cs) (o : Obj) : Blk (w.alloc o) g t cs := ⟨(Below.heap_alloc w o g h.lt).trans h.is⟩
theorem Blk.set_ (h : Blk w g t cs) (i : Nat) (u : Value) : Blk (w.setCell ⟨g, i, none⟩ u) g t (cs.setIfInBounds i u) := by
  have h := h.is
  constructor
  simp [World.setCell, Array.getElem?_modify, h]
theorem Blk.far (h : Blk w g t cs) {p : Addr} (hp : g ≠ p.block) (u : Value) : Blk (w.setCell p u) g t cs := ⟨(Below.heap_setCell w p u g hp).trans h.is⟩
theorem Blk.below {B : Nat} (h : Blk w g t cs) (hb : Below B w w') (hg : g < B) : Blk w' g t cs := ⟨(hb.block g hg).trans h.is⟩
theorem Blk.grown {row : Option Nat} (h : Blk w g t cs) (hb : w.grownBy w' row) (hg : some g ≠ row) : Blk w' g t cs := ⟨(hb.block g h.lt hg).trans h.is⟩
end

/-- A whole array or struct into a block that is known. -/
theorem wpList_store_blk {P : Program} {ops : Array Oper} {rest : List Oper} {o : Oper} {a : Act} {w : World} {Q : Exit → Act → World → Prop} (hgd : o.guard = none) (ty : TypeId) (x y : Operand) (ho : o.op = .store ty x y)
    (g : Nat) (hx : a.eval x = .pointer (some ⟨g, 0, none⟩)) (t : TypeId) (cs cs' : Array Value) (hy : a.eval y = .agg cs') (hg : Blk w g t cs)
    (hi : (P.info? ty).map (·.size) = some cs'.size) (hsz : cs.size = cs'.size) (h1 : cs'.all (·.oneCell') = true)
    (h : ∀ w', Blk w' g t cs' → w.grownBy w' (some g) → wpList P ops Q rest (a.put o.dst undef) w') : wpList P ops Q (o :: rest) a w :=
  wpList_store_row hgd ty x y ho g cs' hx hy t cs hg.is hi hsz h1
    (h _ ⟨setRow_heap w g cs cs' t (0, 0) hg.is⟩ ⟨rfl, rfl, rfl, by simp, fun k _ hk => setRow_other w g k cs' (fun e => hk (by rw [e]))⟩)
theorem wpList_load_blk {P : Program} {ops : Array Oper} {rest : List Oper} {o : Oper} {a : Act} {w : World} {Q : Exit → Act → World → Prop} (hgd : o.guard = none) (ty : TypeId) (x : Operand) (ho : o.op = .load ty x)
    (g : Nat) (hx : a.eval x = .pointer (some ⟨g, 0, none⟩)) (t : TypeId) (cs : Array Value) (d : TypeDesc) (hg : Blk w g t cs)
    (hu : P.underlying ty = some d) (hd : (match d with | .struct _ | .array _ _ => true | _ => false) = true) (hi : (P.info? ty).map (·.size) = some cs.size)
    (h : wpList P ops Q rest (a.put o.dst (.agg cs)) w) : wpList P ops Q (o :: rest) a w :=
  wpList_load_row hgd ty x ho g hx t cs (0, 0) d hg.is hu hd hi h

/-! ### A slice that reads as a list of one-cell elements, nil let in -/
structure Rd (w : World) (A : Option Addr) (n c : Nat) (xs : List Value) : Prop where
  len : xs.length = n
  cap : n ≤ c
  at_ : 0 < n → ∃ b o, A = some ⟨b, o, none⟩ ∧ b < w.heap.size ∧ ∀ j u, xs[j]? = some u → w.cell? ⟨b, o + j, none⟩ = some u

theorem add_plain (b o k : Nat) : (⟨b, o, none⟩ : Addr).add k = ⟨b, o + k, none⟩ := Addr.add_lit ..

section
variable {w w' : World} {A : Option Addr} {n c : Nat} {xs : List Value}
theorem Rd.nil_ (w : World) (A : Option Addr) (c : Nat) : Rd w A 0 c [] := ⟨rfl, Nat.zero_le _, fun h => absurd h (by omega)⟩
theorem Rd.get {k : Nat} (h : Rd w A n c xs) (hk : k < n) : ∃ b o u, A = some ⟨b, o, none⟩ ∧ b < w.heap.size ∧ xs[k]? = some u ∧ w.cell? ⟨b, o + k, none⟩ = some u := by
  obtain ⟨b, o, e, hb, hc⟩ := h.at_ (by omega)
  have hl : k < xs.length := by have := h.len; omega
  exact ⟨b, o, xs[k], e, hb, List.getElem?_eq_getElem hl, hc k _ (List.getElem?_eq_getElem hl)⟩
theorem Rd.keep (h : Rd w A n c xs) (hs : w.heap.size ≤ w'.heap.size) (hk : ∀ p : Addr, p.block < w.heap.size → w'.cell? p = w.cell? p) : Rd w' A n c xs :=
  ⟨h.len, h.cap, fun hn => by
    obtain ⟨b, o, e, hb, hc⟩ := h.at_ hn
    exact ⟨b, o, e, by omega, fun j u hu => (hk _ hb).trans (hc j u hu)⟩⟩
theorem Rd.below (h : Rd w A n c xs) (hb : Below w.heap.size w w') : Rd w' A n c xs := h.keep hb.size fun _ hp => hb.cell hp
theorem Rd.drew (h : Rd w A n c xs) : Rd w.drew A n c xs := h.keep (Nat.le_refl _) fun _ _ => rfl
theorem Rd.drewN (h : Rd w A n c xs) (k : Nat) : Rd (w.drewN k) A n c xs := h.keep (Nat.le_refl _) fun _ _ => rfl
theorem Rd.alloc (h : Rd w A n c xs) (o : Obj) : Rd (w.alloc o) A n c xs := h.keep (by simp) fun p hp => World.cell?_alloc_lt w o p hp
/-- Whatever turns another block alone keeps it. -/
theorem Rd.grown (h : Rd w A n c xs) {row : Option Nat} (hg : w.grownBy w' row) (hr : ∀ ad, A = some ad → some ad.block ≠ row) : Rd w' A n c xs :=
  ⟨h.len, h.cap, fun hn => by
    obtain ⟨b, o, e, hb, hc⟩ := h.at_ hn
    exact ⟨b, o, e, Nat.lt_of_lt_of_le hb hg.size, fun j u hu => (World.cell?_of_block (a := ⟨b, o + j, none⟩) (hg.block b hb (hr _ e))).trans (hc j u hu)⟩⟩
theorem Rd.setCell (h : Rd w A n c xs) {p : Addr} (hr : ∀ ad, A = some ad → ad.block ≠ p.block) (u : Value) : Rd (w.setCell p u) A n c xs :=
  ⟨h.len, h.cap, fun hn => by
    obtain ⟨b, o, e, hb, hc⟩ := h.at_ hn
    exact ⟨b, o, e, by simpa [World.setCell] using hb, fun j v hv =>
      (World.cell?_setCell_other w p ⟨b, o + j, none⟩ u (fun e' => hr _ e (by rw [e']))).trans (hc j v hv)⟩⟩
theorem Rd.cut (h : Rd w A n c xs) {k : Nat} (hk : k ≤ n) : Rd w (if c = k then A else A.map (·.add k)) (n - k) (c - k) (xs.drop k) := by
  refine ⟨by rw [List.length_drop, h.len], by have := h.cap; omega, fun hn => ?_⟩
  obtain ⟨b, o, rfl, hb, hcell⟩ := h.at_ (by omega)
  rw [if_neg (by have := h.cap; omega)]
  refine ⟨b, o + k, by rw [Option.map_some, add_plain], hb, fun j u hu => ?_⟩
  rw [Nat.add_assoc]
  exact hcell _ u (by rw [← hu, List.getElem?_drop])
theorem Rd.take (h : Rd w A n c xs) {k c' : Nat} (hk : k ≤ n) (hc : k ≤ c') : Rd w A k c' (xs.take k) :=
  ⟨by rw [List.length_take, h.len]; omega, hc, fun hn => by
    obtain ⟨b, o, e, hb, hcell⟩ := h.at_ (by omega)
    exact ⟨b, o, e, hb, fun j u hu => hcell j u (by
      rw [List.getElem?_take] at hu
      split at hu
      · exact hu
      · cases hu)⟩⟩
end

/-! ### A slice that the call owns -/
structure Own (w : World) (base : Nat) (e : TypeId) (A : Option Addr) (n c : Nat) (xs : List Value) : Prop where
  row : w.ownsRow base e 1 (.slice A n c) n xs

section
variable {w w' : World} {base : Nat} {e : TypeId} {A : Option Addr} {n c : Nat} {xs : List Value}
theorem Own.nil_ (w : World) (base : Nat) (e : TypeId) : Own w base e none 0 0 [] := ⟨World.ownsRow_nil w base e 1⟩
theorem Own.len (h : Own w base e A n c xs) : xs.length = n := by simpa using h.row.1
theorem Own.form (h : Own w base e A n c xs) : (A = none ∧ n = 0 ∧ c = 0 ∧ xs = []) ∨ ∃ g cur, A = some ⟨g, 0, none⟩ ∧ base ≤ g ∧ Blk w g e cur ∧ n ≤ c ∧ c ≤ maxLen ∧ cur.size = c ∧ cur.toList.take n = xs := by
  have h1 := h.row.1
  rcases h.row.2 with ⟨hv, rfl⟩ | ⟨g, cap, cur, hv, hb, hg, hnc, hm, hs, ht⟩
  · simp only [Value.slice.injEq] at hv
    obtain ⟨rfl, _, rfl⟩ := hv
    exact .inl ⟨rfl, rfl, rfl, List.eq_nil_of_length_eq_zero (by simpa using h1)⟩
  · simp only [Value.slice.injEq] at hv
    obtain ⟨rfl, _, rfl⟩ := hv
    exact .inr ⟨g, cur, rfl, hb, ⟨hg⟩, hnc, hm, by simpa using hs, by simpa using ht⟩
theorem Own.of_blk {g : Nat} {cur : Array Value} (hb : base ≤ g) (h : Blk w g e cur) (hnc : n ≤ c) (hm : c ≤ maxLen) (hs : cur.size = c) (ht : cur.toList.take n = xs) : Own w base e (some ⟨g, 0, none⟩) n c xs :=
  ⟨⟨by rw [← ht]; simp; omega, .inr ⟨g, c, cur, rfl, hb, h.is, hnc, hm, by simpa using hs, by simpa using ht⟩⟩⟩
theorem Own.cap (h : Own w base e A n c xs) : n ≤ c := by
  rcases h.form with ⟨_, rfl, rfl, _⟩ | ⟨_, _, _, _, _, h, _⟩
  · exact Nat.le_refl _
  · exact h
theorem Own.lt (h : Own w base e A n c xs) : ∀ ad, A = some ad → base ≤ ad.block ∧ ad.block < w.heap.size := by
  intro ad he
  rcases h.form with ⟨rfl, _⟩ | ⟨g, cur, rfl, hb, hg, _⟩
  · cases he
  · cases he; exact ⟨hb, hg.lt⟩
theorem Own.rd (h : Own w base e A n c xs) : Rd w A n c xs := by
  refine ⟨h.len, h.cap, fun hn => ?_⟩
  rcases h.form with ⟨_, rfl, _⟩ | ⟨g, cur, rfl, hb, hg, hnc, hm, hs, ht⟩
  · omega
  · exact ⟨_, _, rfl, hg.lt, fun j u hu => by rw [← add_plain]; exact h.row.cells (g := g) rfl j u hu⟩
theorem Own.mono {b' : Nat} (h : Own w base e A n c xs) (hb : b' ≤ base) : Own w b' e A n c xs := by
  rcases h.form with ⟨rfl, rfl, rfl, rfl⟩ | ⟨g, cur, rfl, hg0, hg, hnc, hm, hs, ht⟩
  · exact Own.nil_ ..
  · exact Own.of_blk (by omega) hg hnc hm hs ht
theorem Own.kept {row : Option Nat} (h : Own w base e A n c xs) (hg : w.grownBy w' row) (hne : ∀ ad, A = some ad → some ad.block ≠ row) : Own w' base e A n c xs :=
  ⟨h.row.kept hg (by cases A with
    | none => exact .inl rfl
    | some ad => exact .inr (hne ad rfl))⟩
theorem Own.below (h : Own w base e A n c xs) (hb : Below w.heap.size w w') : Own w' base e A n c xs :=
  h.kept (row := none) ⟨hb.os, hb.tape, hb.output, hb.size, fun i hi _ => hb.block i hi⟩ (fun _ _ h => by cases h)
theorem Own.alloc (h : Own w base e A n c xs) (o : Obj) : Own (w.alloc o) base e A n c xs := ⟨h.row.alloc o⟩
theorem Own.drew (h : Own w base e A n c xs) : Own w.drew base e A n c xs := ⟨h.row⟩
theorem Own.drewN (h : Own w base e A n c xs) (k : Nat) : Own (w.drewN k) base e A n c xs := ⟨h.row⟩
theorem Own.setCell (h : Own w base e A n c xs) {p : Addr} (hne : ∀ ad, A = some ad → ad.block ≠ p.block) (u : Value) : Own (w.setCell p u) base e A n c xs :=
  h.kept (row := some p.block) ⟨rfl, rfl, rfl, by simp [World.setCell], fun k _ hk => heap_setCell_other w p k u (fun e => hk (by rw [e]))⟩ (fun ad he h => hne ad he (by injection h))
theorem Own.stored {g : Nat} (h : Own w base e (some ⟨g, 0, none⟩) n c xs) (j : Nat) (u : Value) : Own (w.setCell ⟨g, j, none⟩ u) base e (some ⟨g, 0, none⟩) n c (xs.set j u) := ⟨(h.row.stored j u).1⟩
/-- The cell of an element, and that it may be written. -/
theorem Own.get {k : Nat} (h : Own w base e A n c xs) (hk : k < n) : ∃ g u, A = some ⟨g, 0, none⟩ ∧ base ≤ g ∧ g < w.heap.size ∧ xs[k]? = some u ∧ w.cell? ⟨g, k, none⟩ = some u ∧ w.frozen? ⟨g, k, none⟩ = false := by
  rcases h.form with ⟨_, rfl, _⟩ | ⟨g, cur, rfl, hb, hg, hnc, hm, hs, ht⟩
  · omega
  · have hl : k < xs.length := by rw [h.len]; exact hk
    refine ⟨g, xs[k], rfl, hb, hg.lt, List.getElem?_eq_getElem hl, ?_, hg.frozen k⟩
    have := h.row.cells (g := g) rfl k xs[k] (List.getElem?_eq_getElem hl)
    simpa [Addr.add_lit] using this
end

section
variable {P : Program} (w : World)
theorem run_append_of_nil (base : Nat) (t ty e : TypeId) (i : TypeInfo) (size : Nat) (ht : P.underlying t = some (.slice e)) (hi : P.info? e = some i)
    (v : Value) (n : Nat) (xs : List Value) (hown : w.ownsRow base e size v n xs) (c : Nat) : (Builtin.append_ #[t, t] ty #[v, .slice none 0 c]).run P w = .ok v w := by
  rcases hown.2 with ⟨rfl, rfl⟩ | ⟨g, cap, cur, rfl, _, _, hnc, _⟩
  · simp [Builtin.append_, run_underlying ht, sizeOf, typeInfo, hi, Builtin.lenOf, Builtin.firstCells]
  · simp [Builtin.append_, run_underlying ht, sizeOf, typeInfo, hi, Builtin.lenOf, Builtin.firstCells, hnc, storeCells]

theorem run_app (base : Nat) (t ty e : TypeId) (z : Value) (bytes : Nat) (ht : P.underlying t = some (.slice e)) (hinfo : (P.info? e).map (fun i => (i.zero, i.size, i.bytes)) = some (some z, 1, bytes)) (hz1 : z.cells.size = 1)
    (A : Option Addr) (n c : Nat) (xs : List Value) (hown : Own w base e A n c xs)
    (A' : Option Addr) (m c' : Nat) (news : List Value) (hr : Rd w A' m c' news) (h1 : ∀ u ∈ news, u.oneCell' = true)
    (hbytes : (n + m) * bytes ≤ 140737488355328) (hby : 0 < bytes) (hbase : base ≤ w.heap.size) :
    ∃ A2 c2 w', (Builtin.append_ #[t, t] ty #[.slice A n c, .slice A' m c']).run P w = .ok (.slice A2 (n + m) c2) w' ∧ Own w' base e A2 (n + m) c2 (xs ++ news) ∧ w.grownBy w' (A.map (·.block)) ∧
      (A2 = A ∨ A2 = some ⟨w.heap.size, 0, none⟩) := by
  obtain ⟨i, hi, hz, hs1, hs2⟩ := info_parts hinfo
  have hob : (Value.slice A n c).ownBlock = A.map (·.block) := by cases A <;> rfl
  have h63 : n + m ≤ maxLen := by
    have : n + m ≤ (n + m) * bytes := Nat.le_mul_of_pos_right _ hby
    simp only [maxLen]
    omega
  cases A' with
  | none =>
    have hm : m = 0 := by
      rcases Nat.eq_zero_or_pos m with h0 | h0
      · exact h0
      · obtain ⟨_, _, h, _⟩ := hr.at_ h0
        cases h
    subst hm
    have hn : news = [] := List.eq_nil_of_length_eq_zero hr.len
    subst hn
    exact ⟨A, c, w, run_append_of_nil w base t ty e i 1 ht hi _ n xs hown.row c', by simpa using hown, World.grownBy.refl w _, .inl rfl⟩
  | some ad =>
    have hcells : ∀ j u, news[j]? = some u → w.cell? (ad.add j) = some u := by
      intro j u hu
      rcases Nat.eq_zero_or_pos m with h0 | h0
      · subst h0
        have hn : news = [] := List.eq_nil_of_length_eq_zero hr.len
        subst hn
        simp at hu
      · obtain ⟨b, o, h, _, hc⟩ := hr.at_ h0
        injection h with h
        subst h
        rw [add_plain]
        exact hc j u hu
    obtain ⟨v', w', hrun, h2, h3, h4, h5⟩ := run_append_own_at (P := P) w base t ty e i z 1 bytes ht hi hz hs1 hs2 hz1 (by omega) (.slice A n c) n xs hown.row ad m c' news (by simpa using hr.len) hcells h1 h63 hbytes hbase
    rw [hob] at h3 h5
    have hf : ∃ A2 c2, v' = .slice A2 (n + m) c2 ∧ (A2 = none ∨ ∃ g, A2 = some ⟨g, 0, none⟩) := by
      rcases h2.2 with ⟨rfl, h0⟩ | ⟨g, cap, cur, rfl, _⟩
      · exact ⟨none, 0, by rw [h0], .inl rfl⟩
      · exact ⟨_, _, rfl, .inr ⟨g, rfl⟩⟩
    obtain ⟨A2, c2, rfl, hA2⟩ := hf
    have hA : A = none ∨ ∃ g, A = some ⟨g, 0, none⟩ := by
      rcases hown.form with ⟨h, _⟩ | ⟨g, cur, h, _⟩
      · exact .inl h
      · exact .inr ⟨g, h⟩
    refine ⟨A2, c2, w', hrun, ⟨h2⟩, h3, ?_⟩
    have hob2 : (Value.slice A2 (n + m) c2).ownBlock = A2.map (·.block) := by cases A2 <;> rfl
    rw [hob2] at h5
    rcases hA2 with rfl | ⟨g, rfl⟩ <;> rcases hA with rfl | ⟨g', rfl⟩ <;> simp_all

/-- 'append(s, x...)', s the call's own, x nil, empty or not. -/
theorem wpList_app {ops : Array Oper} {rest : List Oper} {o : Oper} {a : Act} {Q : Exit → Act → World → Prop} (hgd : o.guard = none) (s x : Operand) (t : TypeId)
    (ho : o.op = .call { callee := .builtin .append, args := #[s, x], argTypes := #[t, t] })
    (e : TypeId) (z : Value) (bytes : Nat) (ht : P.underlying t = some (.slice e)) (hinfo : (P.info? e).map (fun i => (i.zero, i.size, i.bytes)) = some (some z, 1, bytes)) (hz1 : z.cells.size = 1) (hby : 0 < bytes)
    (base : Nat) (A : Option Addr) (n c : Nat) (xs : List Value) (hs : a.eval s = .slice A n c) (hown : Own w base e A n c xs)
    (A' : Option Addr) (m c' : Nat) (news : List Value) (hx : a.eval x = .slice A' m c') (hr : Rd w A' m c' news) (h1 : ∀ u ∈ news, u.oneCell' = true)
    (hbytes : (n + m) * bytes ≤ 140737488355328) (hbase : base ≤ w.heap.size)
    (h : ∀ A2 c2 w', Own w' base e A2 (n + m) c2 (xs ++ news) → w.grownBy w' (A.map (·.block)) → (A2 = A ∨ A2 = some ⟨w.heap.size, 0, none⟩) → wpList P ops Q rest (a.put o.dst (.slice A2 (n + m) c2)) w') :
    wpList P ops Q (o :: rest) a w := by
  refine wpList_plain hgd fun K hK => ?_
  obtain ⟨A2, c2, w', hrun, h2, h3, h4⟩ := run_app (P := P) w base t o.type e z bytes ht hinfo hz1 A n c xs hown A' m c' news hr h1 hbytes hby hbase
  unfold Oper.wp execOp
  simp only [ho, resolve, invoke, builtin, Sem.run_bind, Sem.run_pure, Result.andThen_ok, List.map_toArray, List.map_cons, List.map_nil, hs, hx, hrun]
  exact hK _ _ (h A2 c2 w' h2 h3 h4)

/-- 'make([]T, n)'. -/
theorem wpList_mk {ops : Array Oper} {rest : List Oper} {o : Oper} {a : Act} {Q : Exit → Act → World → Prop} (hgd : o.guard = none) (l c : Operand) (t : TypeId) (ho : o.op = Op.makeSlice t l c)
    (e : TypeId) (z : Value) (bytes : Nat) (ht : P.underlying t = some (.slice e)) (hinfo : (P.info? e).map (fun i => (i.zero, i.size, i.bytes)) = some (some z, 1, bytes)) (hz1 : z.cells = #[z])
    (kl kc : IntKind) (L C : Int) (n : Nat) (hl : a.eval l = .int kl L) (hc : a.eval c = .int kc C) (hL : L = (n : Int)) (hC : C = (n : Int)) (b2 : bytes * n ≤ 281474976710656) (b3 : n ≤ maxLen)
    (base : Nat) (hbase : base ≤ w.heap.size)
    (h : ∀ w', Own w' base e (some ⟨w.heap.size, 0, none⟩) n n (List.replicate n z) → w.grownBy w' none → wpList P ops Q rest (a.put o.dst (.slice (some ⟨w.heap.size, 0, none⟩) n n)) w') :
    wpList P ops Q (o :: rest) a w := by
  obtain ⟨i, hi, hz, hs1, hs2⟩ := info_parts hinfo
  refine wpList_make_full w hgd l c t ho base e i z 1 ht hi hz hs1 kl kc L C n hl hc hL hC (by rw [hs2]; exact b2) b3 hbase fun w' h2 h3 => h w' ⟨?_⟩ h3
  rw [hz1, Nat.mul_one, toList_madeCells_one] at h2
  exact h2
/-- 'make([]T, 0, n)'. -/
theorem wpList_mk0 {ops : Array Oper} {rest : List Oper} {o : Oper} {a : Act} {Q : Exit → Act → World → Prop} (hgd : o.guard = none) (l c : Operand) (t : TypeId) (ho : o.op = Op.makeSlice t l c)
    (e : TypeId) (z : Value) (bytes : Nat) (ht : P.underlying t = some (.slice e)) (hinfo : (P.info? e).map (fun i => (i.zero, i.size, i.bytes)) = some (some z, 1, bytes))
    (kl kc : IntKind) (C : Int) (n : Nat) (hl : a.eval l = .int kl 0) (hc : a.eval c = .int kc C) (hC : C = (n : Int)) (b2 : bytes * n ≤ 281474976710656) (b3 : n ≤ maxLen)
    (base : Nat) (hbase : base ≤ w.heap.size)
    (h : ∀ w', Own w' base e (some ⟨w.heap.size, 0, none⟩) 0 n [] → w.grownBy w' none → wpList P ops Q rest (a.put o.dst (.slice (some ⟨w.heap.size, 0, none⟩) 0 n)) w') :
    wpList P ops Q (o :: rest) a w := by
  obtain ⟨i, hi, hz, hs1, hs2⟩ := info_parts hinfo
  exact wpList_make_own w hgd l c t ho base e i z 1 ht hi hz hs1 kl kc C n hl hc hC (by rw [hs2]; exact b2) b3 hbase fun w' h2 h3 => h w' ⟨h2⟩ h3
end

/-- 'Below', out of a step that turns an own row alone. -/
theorem below_own {B : Nat} {a w w' : World} {A : Option Addr} (h : Below B a w) (hg : w.grownBy w' (A.map (·.block))) (hB : B ≤ w.heap.size) (hr : ∀ ad, A = some ad → B ≤ ad.block) : Below B a w' :=
  h.grown hg hB fun k hk => by
    cases A with
    | none => cases hk
    | some ad => cases hk; exact hr ad rfl
theorem below_none {B : Nat} {a w w' : World} (h : Below B a w) (hg : w.grownBy w' none) (hB : B ≤ w.heap.size) : Below B a w' := h.grown hg hB fun k hk => by cases hk
/-- 'Below' along a callee's own. -/
theorem below_step {B : Nat} {a w w' : World} (h : Below B a w) (hb : Below w.heap.size w w') (hB : B ≤ w.heap.size) : Below B a w' := h.trans (hb.mono hB)

/-! ### Slices of numbers -/
/-- A slice that reads as natural numbers, each a value of the kind. -/
structure Ints (w : World) (kd : IntKind) (lim : Nat) (A : Option Addr) (n c : Nat) (l : List Nat) : Prop where
  rd : Rd w A n c (l.map fun x : Nat => .int kd (x : Int))
  lt : ∀ x ∈ l, x < lim

section
variable {w w' : World} {kd : IntKind} {lim : Nat} {A : Option Addr} {n c : Nat} {l : List Nat}
theorem Ints.len (h : Ints w kd lim A n c l) : l.length = n := by simpa using h.rd.len
theorem Ints.nil_ (w : World) (kd : IntKind) (lim : Nat) (A : Option Addr) (c : Nat) : Ints w kd lim A 0 c [] := ⟨Rd.nil_ w A c, fun _ h => by cases h⟩
theorem Ints.get {k : Nat} (h : Ints w kd lim A n c l) (hk : k < n) : ∃ b o x, A = some ⟨b, o, none⟩ ∧ b < w.heap.size ∧ l[k]? = some x ∧ x < lim ∧ w.cell? ⟨b, o + k, none⟩ = some (.int kd (x : Int)) := by
  obtain ⟨b, o, u, e, hb, hu, hc⟩ := h.rd.get hk
  rw [List.getElem?_map] at hu
  obtain ⟨x, hx, rfl⟩ := Option.map_eq_some_iff.1 hu
  exact ⟨b, o, x, e, hb, hx, h.lt x (List.mem_of_getElem? hx), hc⟩
/-- A further element, the place being known. -/
theorem Ints.get' {b o : Nat} {k : Nat} (h : Ints w kd lim (some ⟨b, o, none⟩) n c l) (hk : k < n) : ∃ x, l[k]? = some x ∧ x < lim ∧ w.cell? ⟨b, o + k, none⟩ = some (.int kd (x : Int)) := by
  obtain ⟨_, _, x, e, _, hx, hl, hc⟩ := h.get hk
  cases e
  exact ⟨x, hx, hl, hc⟩
theorem Ints.below (h : Ints w kd lim A n c l) (hb : Below w.heap.size w w') : Ints w' kd lim A n c l := ⟨h.rd.below hb, h.lt⟩
theorem Ints.alloc (h : Ints w kd lim A n c l) (o : Obj) : Ints (w.alloc o) kd lim A n c l := ⟨h.rd.alloc o, h.lt⟩
theorem Ints.drew (h : Ints w kd lim A n c l) : Ints w.drew kd lim A n c l := ⟨h.rd.drew, h.lt⟩
theorem Ints.drewN (h : Ints w kd lim A n c l) (k : Nat) : Ints (w.drewN k) kd lim A n c l := ⟨h.rd.drewN k, h.lt⟩
theorem Ints.grown (h : Ints w kd lim A n c l) {row : Option Nat} (hg : w.grownBy w' row) (hr : ∀ ad, A = some ad → some ad.block ≠ row) : Ints w' kd lim A n c l := ⟨h.rd.grown hg hr, h.lt⟩
theorem Ints.setCell (h : Ints w kd lim A n c l) {p : Addr} (hr : ∀ ad, A = some ad → ad.block ≠ p.block) (u : Value) : Ints (w.setCell p u) kd lim A n c l := ⟨h.rd.setCell hr u, h.lt⟩
theorem Ints.cut (h : Ints w kd lim A n c l) {k : Nat} (hk : k ≤ n) : Ints w kd lim (if c = k then A else A.map (·.add k)) (n - k) (c - k) (l.drop k) :=
  ⟨by rw [List.map_drop]; exact h.rd.cut hk, fun x hx => h.lt x (List.mem_of_mem_drop hx)⟩
/-- 's[k:]', its address under one name: the equation goes into the walk's context as a rule. -/
theorem Ints.cutAt {b o : Nat} (h : Ints w kd lim (some ⟨b, o, none⟩) n c l) {k : Nat} (hk : k ≤ n) : ∃ A', (if c = k then some (⟨b, o, none⟩ : Addr) else some ⟨b, o + k, none⟩) = A' ∧ Ints w kd lim A' (n - k) (c - k) (l.drop k) :=
  ⟨_, rfl, by have := h.cut hk; simpa only [Option.map_some, add_plain] using this⟩
theorem Ints.take (h : Ints w kd lim A n c l) {k c' : Nat} (hk : k ≤ n) (hc : k ≤ c') : Ints w kd lim A k c' (l.take k) :=
  ⟨by rw [List.map_take]; exact h.rd.take hk hc, fun x hx => h.lt x (List.mem_of_mem_take hx)⟩
theorem ints_one (kd : IntKind) (l : List Nat) : ∀ u ∈ l.map (fun x : Nat => Value.int kd (x : Int)), u.oneCell' = true := by
  intro u hu
  obtain ⟨x, _, rfl⟩ := List.mem_map.1 hu
  rfl
end
/-- A row of numbers that the call owns. -/
structure OwnI (w : World) (base : Nat) (kd : IntKind) (lim : Nat) (e : TypeId) (A : Option Addr) (n c : Nat) (l : List Nat) : Prop where
  own : Own w base e A n c (l.map fun x : Nat => .int kd (x : Int))
  lt : ∀ x ∈ l, x < lim

section
variable {w w' : World} {base : Nat} {kd : IntKind} {lim : Nat} {e : TypeId} {A : Option Addr} {n c : Nat} {l : List Nat}
theorem OwnI.nil_ (w : World) (base : Nat) (kd : IntKind) (lim : Nat) (e : TypeId) : OwnI w base kd lim e none 0 0 [] := ⟨Own.nil_ w base e, fun _ h => by cases h⟩
theorem OwnI.len (h : OwnI w base kd lim e A n c l) : l.length = n := by simpa using h.own.len
theorem OwnI.cap (h : OwnI w base kd lim e A n c l) : n ≤ c := h.own.cap
theorem OwnI.ints (h : OwnI w base kd lim e A n c l) : Ints w kd lim A n c l := ⟨h.own.rd, h.lt⟩
theorem OwnI.mono {b' : Nat} (h : OwnI w base kd lim e A n c l) (hb : b' ≤ base) : OwnI w b' kd lim e A n c l := ⟨h.own.mono hb, h.lt⟩
theorem OwnI.kept {row : Option Nat} (h : OwnI w base kd lim e A n c l) (hg : w.grownBy w' row) (hne : ∀ ad, A = some ad → some ad.block ≠ row) : OwnI w' base kd lim e A n c l := ⟨h.own.kept hg hne, h.lt⟩
theorem OwnI.below (h : OwnI w base kd lim e A n c l) (hb : Below w.heap.size w w') : OwnI w' base kd lim e A n c l := ⟨h.own.below hb, h.lt⟩
theorem OwnI.alloc (h : OwnI w base kd lim e A n c l) (o : Obj) : OwnI (w.alloc o) base kd lim e A n c l := ⟨h.own.alloc o, h.lt⟩
theorem OwnI.drew (h : OwnI w base kd lim e A n c l) : OwnI w.drew base kd lim e A n c l := ⟨h.own.drew, h.lt⟩
theorem OwnI.drewN (h : OwnI w base kd lim e A n c l) (k : Nat) : OwnI (w.drewN k) base kd lim e A n c l := ⟨h.own.drewN k, h.lt⟩
theorem OwnI.setCell (h : OwnI w base kd lim e A n c l) {p : Addr} (hne : ∀ ad, A = some ad → ad.block ≠ p.block) (u : Value) : OwnI (w.setCell p u) base kd lim e A n c l := ⟨h.own.setCell hne u, h.lt⟩
theorem OwnI.get {k : Nat} (h : OwnI w base kd lim e A n c l) (hk : k < n) : ∃ g x, A = some ⟨g, 0, none⟩ ∧ base ≤ g ∧ g < w.heap.size ∧ l[k]? = some x ∧ x < lim ∧ w.cell? ⟨g, k, none⟩ = some (.int kd (x : Int)) ∧ w.frozen? ⟨g, k, none⟩ = false := by
  obtain ⟨g, u, e, hb, hs, hu, hc, hf⟩ := h.own.get hk
  rw [List.getElem?_map] at hu
  obtain ⟨x, hx, rfl⟩ := Option.map_eq_some_iff.1 hu
  exact ⟨g, x, e, hb, hs, hx, h.lt x (List.mem_of_getElem? hx), hc, hf⟩
theorem OwnI.stored {g : Nat} (h : OwnI w base kd lim e (some ⟨g, 0, none⟩) n c l) (j : Nat) (x : Nat) (hx : x < lim) : OwnI (w.setCell ⟨g, j, none⟩ (.int kd (x : Int))) base kd lim e (some ⟨g, 0, none⟩) n c (l.set j x) :=
  ⟨by rw [List.map_set]; exact h.own.stored j _, fun y hy => by
    rcases List.mem_or_eq_of_mem_set hy with hy | rfl
    · exact h.lt y hy
    · exact hx⟩
theorem OwnI.lt_ (h : OwnI w base kd lim e A n c l) : ∀ ad, A = some ad → base ≤ ad.block ∧ ad.block < w.heap.size := h.own.lt
end

/-- One element in a new block of its own, as 'append(s, x)' lays it. -/
theorem Ints.one {w : World} (kd : IntKind) (lim : Nat) (t : TypeId) (x : Nat) {E : Int} (hE : E = (x : Int)) (hx : x < lim) {g : Nat} (hg : g = w.heap.size) : Ints (w.alloc (.cells #[.int kd E] t)) kd lim (some ⟨g, 0, none⟩) 1 1 [x] := by
  subst hE; subst hg
  refine ⟨⟨rfl, Nat.le_refl _, fun _ => ⟨_, _, rfl, by simp, ?_⟩⟩, by simpa using hx⟩
  intro j u hu
  rw [← add_plain]
  exact cell_one_new w (.int kd (x : Int)) t j u (by simpa using hu)
section
variable {P : Program} (w : World)
/-- 'append(s, x...)' of numbers. -/
theorem wpList_appI {ops : Array Oper} {rest : List Oper} {o : Oper} {a : Act} {Q : Exit → Act → World → Prop} (hgd : o.guard = none) (s x : Operand) (t : TypeId)
    (ho : o.op = .call { callee := .builtin .append, args := #[s, x], argTypes := #[t, t] })
    {kd : IntKind} {lim : Nat} (e : TypeId) (bytes : Nat) (ht : P.underlying t = some (.slice e)) (hinfo : (P.info? e).map (fun i => (i.zero, i.size, i.bytes)) = some (some (.int kd 0), 1, bytes)) (hby : 0 < bytes)
    {base : Nat} {A : Option Addr} {n c : Nat} {l : List Nat} (hown : OwnI w base kd lim e A n c l) (hs : a.eval s = .slice A n c)
    {A' : Option Addr} {m c' : Nat} {l' : List Nat} (hr : Ints w kd lim A' m c' l') (hx : a.eval x = .slice A' m c')
    (hbytes : (n + m) * bytes ≤ 140737488355328) (hbase : base ≤ w.heap.size)
    (h : ∀ A2 c2 w', OwnI w' base kd lim e A2 (n + m) c2 (l ++ l') → w.grownBy w' (A.map (·.block)) → (A2 = A ∨ A2 = some ⟨w.heap.size, 0, none⟩) → wpList P ops Q rest (a.put o.dst (.slice A2 (n + m) c2)) w') :
    wpList P ops Q (o :: rest) a w :=
  wpList_app w hgd s x t ho e (.int kd 0) bytes ht hinfo rfl hby base A n c _ hs hown.own A' m c' _ hx hr.rd (ints_one kd l') hbytes hbase fun A2 c2 w' h2 h3 h4 =>
    h A2 c2 w' ⟨by rw [List.map_append]; exact h2, fun y hy => by
      rcases List.mem_append.1 hy with hy | hy
      · exact hown.lt y hy
      · exact hr.lt y hy⟩ h3 h4
theorem wpList_mkI {ops : Array Oper} {rest : List Oper} {o : Oper} {a : Act} {Q : Exit → Act → World → Prop} (hgd : o.guard = none) (l c : Operand) (t : TypeId) (ho : o.op = Op.makeSlice t l c)
    {kd : IntKind} {lim : Nat} (hlim : 0 < lim) (e : TypeId) (bytes : Nat) (ht : P.underlying t = some (.slice e)) (hinfo : (P.info? e).map (fun i => (i.zero, i.size, i.bytes)) = some (some (.int kd 0), 1, bytes))
    {kl kc : IntKind} {L C : Int} (n : Nat) (hl : a.eval l = .int kl L) (hc : a.eval c = .int kc C) (hL : L = (n : Int)) (hC : C = (n : Int)) (b2 : bytes * n ≤ 281474976710656) (b3 : n ≤ maxLen)
    (base : Nat) (hbase : base ≤ w.heap.size)
    (h : ∀ w', OwnI w' base kd lim e (some ⟨w.heap.size, 0, none⟩) n n (List.replicate n 0) → w.grownBy w' none → wpList P ops Q rest (a.put o.dst (.slice (some ⟨w.heap.size, 0, none⟩) n n)) w') :
    wpList P ops Q (o :: rest) a w :=
  wpList_mk w hgd l c t ho e (.int kd 0) bytes ht hinfo rfl kl kc L C n hl hc hL hC b2 b3 base hbase fun w' h2 h3 =>
    h w' ⟨by rw [List.map_replicate]; exact h2, fun x hx => by rw [List.eq_of_mem_replicate hx]; exact hlim⟩ h3
end

/-- '[]T{}'. -/
theorem Own.empty {w : World} {base : Nat} (e : TypeId) {g : Nat} (hg : g = w.heap.size) (hb : base ≤ w.heap.size) : Own (w.alloc (.cells #[] e)) base e (some ⟨g, 0, none⟩) 0 0 [] := by
  subst hg
  exact Own.of_blk hb (Blk.new w e #[]) (Nat.le_refl _) (Nat.zero_le _) rfl rfl
theorem OwnI.empty {w : World} {base : Nat} (kd : IntKind) (lim : Nat) (e : TypeId) {g : Nat} (hg : g = w.heap.size) (hb : base ≤ w.heap.size) : OwnI (w.alloc (.cells #[] e)) base kd lim e (some ⟨g, 0, none⟩) 0 0 [] :=
  ⟨Own.empty e hg hb, fun _ h => by cases h⟩

/-- '[]T{..}', its elements written out. -/
theorem OwnI.lit {w : World} {base : Nat} (kd : IntKind) (lim : Nat) (e : TypeId) {n : Nat} {cs : Array Value} (l : List Nat) {g : Nat} (hg : g = w.heap.size) (hn : l.length = n) (hcs : cs.toList = l.map fun x : Nat => Value.int kd (x : Int)) (hl : ∀ x ∈ l, x < lim)
    (hm : n ≤ 4096) (hb : base ≤ w.heap.size) : OwnI (w.alloc (.cells cs e)) base kd lim e (some ⟨g, 0, none⟩) n n l := by
  subst hg
  have hs : cs.size = n := by rw [← Array.length_toList, hcs, List.length_map, hn]
  exact ⟨Own.of_blk hb (Blk.new w e cs) (Nat.le_refl _) (by simp only [maxLen]; omega) hs (by rw [← hcs]; exact List.take_of_length_le (by simp [hs])), hl⟩

/-- A literal's row, marked or not, as it is read. -/
theorem Ints.lit {w : World} (kd : IntKind) (lim : Nat) (e : TypeId) {fr : Nat × Nat} {n : Nat} {cs : Array Value} (l : List Nat) {g : Nat} (hg : g = w.heap.size) (hn : l.length = n) (hcs : cs.toList = l.map fun x : Nat => Value.int kd (x : Int)) (hl : ∀ x ∈ l, x < lim) :
    Ints (w.alloc (.cells cs e fr)) kd lim (some ⟨g, 0, none⟩) n n l := by
  subst hg
  refine ⟨⟨by simp [hn], Nat.le_refl _, fun _ => ⟨_, _, rfl, by simp, fun j u hu => ?_⟩⟩, hl⟩
  rw [← hcs] at hu
  have hg : (w.alloc (.cells cs e fr)).heap[w.heap.size]? = some (.cells cs e fr) := heap_alloc_new w _
  simp only [World.cell?, hg, Nat.zero_add]
  simpa using hu

/-- '[]byte("..")' of a constant, the block's number as the walk spells it. -/
theorem conv_const {P : Program} (t e : TypeId) (ht : P.underlying t = some (.slice e)) (he : P.underlying e = some (.int .u8)) (w : World) (C : Array Value) (n c k : Nat) (hk : k = w.heap.size) :
    (convert t t (.slice (some ⟨k, 0, none⟩) n c)).run P (w.alloc (.cells C e)) = .ok (.slice (some ⟨k, 0, none⟩) n c) (w.alloc (.cells C e (C.size, C.size + 1))) := by
  subst hk
  exact Lib.run_convert_bytes_const w t e C n c ht he

section
variable {P : Program} (w : World)
/-- 'append(s, x...)' of numbers, in a region that draws its order. -/
theorem step_appI {ops : Array Oper} {o : Oper} {a : Act} {K : Act → World → Prop} {Q : Exit → Act → World → Prop} {E : Prop} (hgd : o.guard = none) (s x : Operand) (t : TypeId)
    (ho : o.op = .call { callee := .builtin .append, args := #[s, x], argTypes := #[t, t] })
    {kd : IntKind} {lim : Nat} (e : TypeId) (bytes : Nat) (ht : P.underlying t = some (.slice e)) (hinfo : (P.info? e).map (fun i => (i.zero, i.size, i.bytes)) = some (some (.int kd 0), 1, bytes)) (hby : 0 < bytes)
    {base : Nat} {A : Option Addr} {n c : Nat} {l : List Nat} (hown : OwnI w base kd lim e A n c l) (hs : a.eval s = .slice A n c)
    {A' : Option Addr} {m c' : Nat} {l' : List Nat} (hr : Ints w kd lim A' m c' l') (hx : a.eval x = .slice A' m c')
    (hbytes : (n + m) * bytes ≤ 140737488355328) (hbase : base ≤ w.heap.size)
    (h : ∀ A2 c2 w', OwnI w' base kd lim e A2 (n + m) c2 (l ++ l') → w.grownBy w' (A.map (·.block)) → (A2 = A ∨ A2 = some ⟨w.heap.size, 0, none⟩) → K (a.put o.dst (.slice A2 (n + m) c2)) w') :
    if Region.wanted o (yielded ops a.tmps) = true then Oper.wp P o a w K Q else E := by
  have hw : Region.wanted o (yielded ops a.tmps) = true := by simp [Region.wanted, hgd]
  rw [if_pos hw]
  obtain ⟨A2, c2, w', hrun, h2, h3, h4⟩ := run_app (P := P) w base t o.type e (.int kd 0) bytes ht hinfo rfl A n c _ hown.own A' m c' _ hr.rd (ints_one kd l') hbytes hby hbase
  unfold Oper.wp execOp
  simp only [ho, resolve, invoke, builtin, Sem.run_bind, Sem.run_pure, Result.andThen_ok, List.map_toArray, List.map_cons, List.map_nil, hs, hx, hrun]
  exact h A2 c2 w' ⟨by rw [List.map_append]; exact h2, fun y hy => by
      rcases List.mem_append.1 hy with hy | hy
      · exact hown.lt y hy
      · exact hr.lt y hy⟩ h3 h4
end

/-- Two slices lie in two blocks. -/
structure Dis (A B : Option Addr) : Prop where
  ne : ∀ x y, A = some x → B = some y → x.block ≠ y.block
theorem Dis.none_l (B : Option Addr) : Dis none B := ⟨fun _ _ h => by cases h⟩
theorem Dis.none_r (A : Option Addr) : Dis A none := ⟨fun _ _ _ h => by cases h⟩
theorem Dis.symm {A B : Option Addr} (h : Dis A B) : Dis B A := ⟨fun x y hx hy e => h.ne y x hy hx e.symm⟩
section
variable {w w' : World} {base : Nat} {kd : IntKind} {lim : Nat} {e : TypeId} {A B A2 : Option Addr} {n c : Nat} {l : List Nat}
/-- Another own row behind an append. -/
theorem OwnI.beside (h : OwnI w base kd lim e B n c l) (hg : w.grownBy w' (A.map (·.block))) (hd : Dis A B) : OwnI w' base kd lim e B n c l :=
  h.kept hg fun ad he h => by
    cases A with
    | none => cases h
    | some a => exact hd.ne a ad rfl he (by injection h with h; exact h.symm)
theorem Dis.beside (hb : ∀ ad, B = some ad → ad.block < w.heap.size) (hd : Dis A B) (ha : A2 = A ∨ A2 = some ⟨w.heap.size, 0, none⟩) : Dis A2 B := by
  rcases ha with rfl | rfl
  · exact hd
  · exact ⟨fun x y hx hy h => by cases hx; have := hb y hy; simp at h; omega⟩
end
end Go.Proofs.YtdlcngmcjidomaaDoor
