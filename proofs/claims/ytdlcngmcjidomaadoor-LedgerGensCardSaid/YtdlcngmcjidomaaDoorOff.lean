/- What a call may turn: some blocks that are named, and new ones; rows of elements of any size. No condition. -/
import Derived.Test.YtdlcngmcjidomaaDoorBase
import Derived.Laws.OwnMore
namespace Go.Proofs.YtdlcngmcjidomaaDoor
open Go.RowKit

/-- From w on, only the blocks T, and new ones, were turned; T2 are those of them that go on. -/
structure Moved (w w' : World) (T T2 : List Nat) : Prop where
  os : w'.os = w.os
  tape : w'.tape = w.tape
  output : w'.output = w.output
  size : w.heap.size ≤ w'.heap.size
  block : ∀ k, k < w.heap.size → k ∉ T → w'.heap[k]? = w.heap[k]?
  new : ∀ k, k ∈ T2 → k ∈ T ∨ w.heap.size ≤ k

section
variable {w w' w2 : World} {T T1 T2 : List Nat}
theorem Moved.refl (w : World) (T : List Nat) : Moved w w T T := ⟨rfl, rfl, rfl, Nat.le_refl _, fun _ _ _ => rfl, fun _ h => .inl h⟩
theorem Moved.trans (h : Moved w w' T T1) (h' : Moved w' w2 T1 T2) : Moved w w2 T T2 :=
  ⟨h'.os.trans h.os, h'.tape.trans h.tape, h'.output.trans h.output, Nat.le_trans h.size h'.size, fun k hk hT => by
    have h1 : k ∉ T1 := fun h1 => by
      rcases h.new k h1 with h2 | h2
      · exact hT h2
      · omega
    exact (h'.block k (Nat.lt_of_lt_of_le hk h.size) h1).trans (h.block k hk hT),
   fun k hk => by
    rcases h'.new k hk with h1 | h1
    · exact h.new k h1
    · exact .inr (Nat.le_trans h.size h1)⟩
theorem Moved.of_below (hb : Below w.heap.size w w') (T : List Nat) : Moved w w' T T := ⟨hb.os, hb.tape, hb.output, hb.size, fun k hk _ => hb.block k hk, fun _ h => .inl h⟩
theorem Moved.of_grown {row : Option Nat} (hg : w.grownBy w' row) (hr : ∀ k, row = some k → k ∈ T) : Moved w w' T T :=
  ⟨hg.os, hg.tape, hg.output, hg.size, fun k hk hT => hg.block k hk (fun e => hT (hr k e.symm)), fun _ h => .inl h⟩
theorem Moved.below {B : Nat} {a : World} (h : Moved w w' T T1) (hb : Below B a w) (hB : B ≤ w.heap.size) (hT : ∀ k ∈ T, B ≤ k) : Below B a w' :=
  ⟨h.os.trans hb.os, h.tape.trans hb.tape, h.output.trans hb.output, Nat.le_trans hb.size h.size, fun k hk => (h.block k (by omega) (fun hk' => by have := hT k hk'; omega)).trans (hb.block k hk)⟩
theorem Moved.below0 (h : Moved w w' [] T1) : Below w.heap.size w w' := h.below (Below.refl _ _) (Nat.le_refl _) (fun _ h => by cases h)
theorem Moved.drew (h : Moved w w' T T1) : Moved w w'.drew T T1 := ⟨h.os, h.tape, h.output, h.size, h.block, h.new⟩
theorem Moved.drewN (h : Moved w w' T T1) (n : Nat) : Moved w (w'.drewN n) T T1 := ⟨h.os, h.tape, h.output, h.size, h.block, h.new⟩
theorem Moved.alloc (h : Moved w w' T T1) (o : Obj) : Moved w (w'.alloc o) T T1 :=
  ⟨h.os, h.tape, h.output, by simp; have := h.size; omega, fun k hk hT => (Below.heap_alloc w' o k (Nat.lt_of_lt_of_le hk h.size)).trans (h.block k hk hT), h.new⟩
theorem Moved.set_ (h : Moved w w' T T1) {p : Addr} (hp : p.block ∈ T1) (u : Value) : Moved w (w'.setCell p u) T T1 :=
  h.trans ⟨rfl, rfl, rfl, by simp [World.setCell], fun k _ hk => heap_setCell_other w' p k u (fun e => hk (e ▸ hp)), fun _ h => .inl h⟩
theorem Moved.grown {row : Option Nat} (h : Moved w w' T T1) (hg : w'.grownBy w2 row) (hr : ∀ k, row = some k → k ∈ T1 ∨ w'.heap.size ≤ k) : Moved w w2 T T1 :=
  h.trans ⟨hg.os, hg.tape, hg.output, hg.size, fun k hk hT => hg.block k hk (fun e => by
    rcases hr k e.symm with h | h
    · exact hT h
    · omega), fun _ h => .inl h⟩
theorem Moved.below_ (h : Moved w w' T T1) (hb : Below w'.heap.size w' w2) : Moved w w2 T T1 := h.trans (Moved.of_below hb T1)
/-- The blocks that go on: named anew. -/
theorem Moved.to (h : Moved w w' T T1) (hT : ∀ k, k ∈ T2 → k ∈ T1 ∨ w'.heap.size ≤ k) : Moved w w' T T2 :=
  ⟨h.os, h.tape, h.output, h.size, h.block, fun k hk => by
    rcases hT k hk with h1 | h1
    · exact h.new k h1
    · exact .inr (Nat.le_trans h.size h1)⟩
theorem Moved.to' (h : Moved w w' T T1) (hT : ∀ k, k ∈ T2 → k ∈ T1 ∨ k ∈ T ∨ w.heap.size ≤ k) : Moved w w' T T2 :=
  ⟨h.os, h.tape, h.output, h.size, h.block, fun k hk => by
    rcases hT k hk with h1 | h1
    · exact h.new k h1
    · exact h1⟩
theorem Moved.apart (h : Moved w w' T T1) {k : Nat} (hk : k < w.heap.size) (hT : k ∉ T) : k ∉ T1 := fun h1 => by
  rcases h.new k h1 with h2 | h2
  · exact hT h2
  · omega
theorem Moved.cell (h : Moved w w' T T1) {p : Addr} (hp : p.block < w.heap.size) (hT : p.block ∉ T) : w'.cell? p = w.cell? p := World.cell?_of_block (h.block _ hp hT)

variable {A : Option Addr} {n c : Nat} {xs : List Value}
theorem Blk.moved {g : Nat} {t : TypeId} {cs : Array Value} (h : Blk w g t cs) (hm : Moved w w' T T1) (hg : g ∉ T) : Blk w' g t cs := ⟨(hm.block g h.lt hg).trans h.is⟩
theorem Rd.moved (h : Rd w A n c xs) (hm : Moved w w' T T1) (hA : ∀ ad, A = some ad → ad.block ∉ T) : Rd w' A n c xs :=
  ⟨h.len, h.cap, fun hn => by
    obtain ⟨b, o, e, hb, hc⟩ := h.at_ hn
    exact ⟨b, o, e, Nat.lt_of_lt_of_le hb hm.size, fun j u hu => (hm.cell (p := ⟨b, o + j, none⟩) hb (hA ⟨b, o, none⟩ e)).trans (hc j u hu)⟩⟩
theorem Ints.moved {kd : IntKind} {lim : Nat} {l : List Nat} (h : Ints w kd lim A n c l) (hm : Moved w w' T T1) (hA : ∀ ad, A = some ad → ad.block ∉ T) : Ints w' kd lim A n c l := ⟨h.rd.moved hm hA, h.lt⟩
theorem Own.moved {base : Nat} {e : TypeId} (h : Own w base e A n c xs) (hm : Moved w w' T T1) (hA : ∀ ad, A = some ad → ad.block ∉ T) : Own w' base e A n c xs := by
  rcases h.form with ⟨rfl, rfl, rfl, rfl⟩ | ⟨g, cur, rfl, hg0, hg, hnc, hm', hs, ht⟩
  · exact Own.nil_ ..
  · exact Own.of_blk hg0 (hg.moved hm (hA _ rfl)) hnc hm' hs ht
theorem OwnI.moved {base : Nat} {kd : IntKind} {lim : Nat} {e : TypeId} {l : List Nat} (h : OwnI w base kd lim e A n c l) (hm : Moved w w' T T1) (hA : ∀ ad, A = some ad → ad.block ∉ T) : OwnI w' base kd lim e A n c l := ⟨h.own.moved hm hA, h.lt⟩
end

/-! ### A row of the call's own, its elements of size sz; xs: the cells -/
structure OwnR (w : World) (base : Nat) (e : TypeId) (sz : Nat) (A : Option Addr) (n c : Nat) (xs : List Value) : Prop where
  row : w.ownsRow base e sz (.slice A n c) n xs

section
variable {w w' : World} {base : Nat} {e : TypeId} {sz : Nat} {A : Option Addr} {n c : Nat} {xs : List Value} {T T1 : List Nat}
theorem OwnR.nil_ (w : World) (base : Nat) (e : TypeId) (sz : Nat) : OwnR w base e sz none 0 0 [] := ⟨World.ownsRow_nil w base e sz⟩
theorem OwnR.len (h : OwnR w base e sz A n c xs) : xs.length = n * sz := h.row.1
theorem OwnR.form (h : OwnR w base e sz A n c xs) : (A = none ∧ n = 0 ∧ c = 0 ∧ xs = []) ∨ ∃ g cur, A = some ⟨g, 0, none⟩ ∧ base ≤ g ∧ Blk w g e cur ∧ n ≤ c ∧ c ≤ maxLen ∧ cur.size = c * sz ∧ cur.toList.take (n * sz) = xs := by
  have h1 := h.row.1
  rcases h.row.2 with ⟨hv, rfl⟩ | ⟨g, cap, cur, hv, hb, hg, hnc, hm, hs, ht⟩
  · simp only [Value.slice.injEq] at hv
    obtain ⟨rfl, _, rfl⟩ := hv
    exact .inl ⟨rfl, rfl, rfl, List.eq_nil_of_length_eq_zero (by simpa using h1)⟩
  · simp only [Value.slice.injEq] at hv
    obtain ⟨rfl, _, rfl⟩ := hv
    exact .inr ⟨g, cur, rfl, hb, ⟨hg⟩, hnc, hm, hs, ht⟩
theorem OwnR.of_blk {g : Nat} {cur : Array Value} (hb : base ≤ g) (h : Blk w g e cur) (hnc : n ≤ c) (hm : c ≤ maxLen) (hs : cur.size = c * sz) (ht : cur.toList.take (n * sz) = xs) : OwnR w base e sz (some ⟨g, 0, none⟩) n c xs :=
  ⟨⟨by
    rw [← ht, List.length_take, Array.length_toList, hs]
    exact Nat.min_eq_left (Nat.mul_le_mul_right _ hnc), .inr ⟨g, c, cur, rfl, hb, h.is, hnc, hm, hs, ht⟩⟩⟩
theorem OwnR.cap (h : OwnR w base e sz A n c xs) : n ≤ c := by
  rcases h.form with ⟨_, rfl, rfl, _⟩ | ⟨_, _, _, _, _, h, _⟩
  · exact Nat.le_refl _
  · exact h
theorem OwnR.lt (h : OwnR w base e sz A n c xs) : ∀ ad, A = some ad → base ≤ ad.block ∧ ad.block < w.heap.size := by
  intro ad he
  rcases h.form with ⟨rfl, _⟩ | ⟨g, cur, rfl, hb, hg, _⟩
  · cases he
  · cases he; exact ⟨hb, hg.lt⟩
theorem OwnR.mono {b' : Nat} (h : OwnR w base e sz A n c xs) (hb : b' ≤ base) : OwnR w b' e sz A n c xs := by
  rcases h.form with ⟨rfl, rfl, rfl, rfl⟩ | ⟨g, cur, rfl, hg0, hg, hnc, hm, hs, ht⟩
  · exact OwnR.nil_ ..
  · exact OwnR.of_blk (by omega) hg hnc hm hs ht
theorem OwnR.moved (h : OwnR w base e sz A n c xs) (hm : Moved w w' T T1) (hA : ∀ ad, A = some ad → ad.block ∉ T) : OwnR w' base e sz A n c xs := by
  rcases h.form with ⟨rfl, rfl, rfl, rfl⟩ | ⟨g, cur, rfl, hg0, hg, hnc, hm', hs, ht⟩
  · exact OwnR.nil_ ..
  · exact OwnR.of_blk hg0 (hg.moved hm (hA _ rfl)) hnc hm' hs ht
theorem OwnR.kept {row : Option Nat} (h : OwnR w base e sz A n c xs) (hg : w.grownBy w' row) (hne : ∀ ad, A = some ad → some ad.block ≠ row) : OwnR w' base e sz A n c xs :=
  ⟨h.row.kept hg (by cases A with
    | none => exact .inl rfl
    | some ad => exact .inr (hne ad rfl))⟩
theorem OwnR.below (h : OwnR w base e sz A n c xs) (hb : Below w.heap.size w w') : OwnR w' base e sz A n c xs :=
  h.kept (row := none) ⟨hb.os, hb.tape, hb.output, hb.size, fun i hi _ => hb.block i hi⟩ (fun _ _ h => by cases h)
theorem OwnR.alloc (h : OwnR w base e sz A n c xs) (o : Obj) : OwnR (w.alloc o) base e sz A n c xs := ⟨h.row.alloc o⟩
theorem OwnR.drew (h : OwnR w base e sz A n c xs) : OwnR w.drew base e sz A n c xs := ⟨h.row⟩
theorem OwnR.drewN (h : OwnR w base e sz A n c xs) (k : Nat) : OwnR (w.drewN k) base e sz A n c xs := ⟨h.row⟩
theorem OwnR.setCell (h : OwnR w base e sz A n c xs) {p : Addr} (hne : ∀ ad, A = some ad → ad.block ≠ p.block) (u : Value) : OwnR (w.setCell p u) base e sz A n c xs :=
  h.kept (row := some p.block) ⟨rfl, rfl, rfl, by simp [World.setCell], fun k _ hk => heap_setCell_other w p k u (fun e => hk (by rw [e]))⟩ (fun ad he h => hne ad he (by injection h))
theorem OwnR.stored {g : Nat} (h : OwnR w base e sz (some ⟨g, 0, none⟩) n c xs) (j : Nat) (u : Value) : OwnR (w.setCell ⟨g, j, none⟩ u) base e sz (some ⟨g, 0, none⟩) n c (xs.set j u) := ⟨(h.row.stored j u).1⟩
theorem OwnR.get {j : Nat} {u : Value} (h : OwnR w base e sz A n c xs) (hu : xs[j]? = some u) : ∃ g, A = some ⟨g, 0, none⟩ ∧ base ≤ g ∧ g < w.heap.size ∧ w.cell? ⟨g, j, none⟩ = some u ∧ w.frozen? ⟨g, j, none⟩ = false := by
  rcases h.form with ⟨_, _, _, rfl⟩ | ⟨g, cur, rfl, hb, hg, hnc, hm, hs, ht⟩
  · simp at hu
  · refine ⟨g, rfl, hb, hg.lt, ?_, hg.frozen j⟩
    have := h.row.cells (g := g) rfl j u hu
    simpa [Addr.add_lit] using this
theorem OwnR.get' {g : Nat} {j : Nat} {u : Value} (h : OwnR w base e sz (some ⟨g, 0, none⟩) n c xs) (hu : xs[j]? = some u) : w.cell? ⟨g, j, none⟩ = some u := by
  obtain ⟨g', e, _, _, hc, _⟩ := h.get hu
  cases e
  exact hc
theorem OwnR.empty {w : World} {base : Nat} (e : TypeId) (sz : Nat) {g : Nat} (hg : g = w.heap.size) (hb : base ≤ w.heap.size) : OwnR (w.alloc (.cells #[] e)) base e sz (some ⟨g, 0, none⟩) 0 0 [] := by
  subst hg
  exact OwnR.of_blk hb (Blk.new w e #[]) (Nat.le_refl _) (Nat.zero_le _) (by simp) (by simp)
theorem OwnR.lit {w : World} {base : Nat} (e : TypeId) (sz : Nat) {n : Nat} {cs : Array Value} {xs : List Value} {g : Nat} (hg : g = w.heap.size) (hcs : cs.toList = xs) (hs : xs.length = n * sz) (hm : n ≤ 4096) (hb : base ≤ w.heap.size) :
    OwnR (w.alloc (.cells cs e)) base e sz (some ⟨g, 0, none⟩) n n xs := by
  subst hg
  have hs' : cs.size = n * sz := by rw [← Array.length_toList, hcs, hs]
  exact OwnR.of_blk hb (Blk.new w e cs) (Nat.le_refl _) (by simp only [maxLen]; omega) hs' (by rw [← hcs]; exact List.take_of_length_le (by simp [hs']))
end

section
variable {P : Program} (w : World)
theorem run_appR (base : Nat) (t ty e : TypeId) (z : Value) (sz bytes : Nat) (ht : P.underlying t = some (.slice e)) (hinfo : (P.info? e).map (fun i => (i.zero, i.size, i.bytes)) = some (some z, sz, bytes)) (hz1 : z.cells.size = sz) (hsz : 0 < sz)
    (A : Option Addr) (n c : Nat) (xs : List Value) (hown : OwnR w base e sz A n c xs)
    (ad : Addr) (m c' : Nat) (news : List Value) (hl : news.length = m * sz) (hcells : ∀ j u, news[j]? = some u → w.cell? (ad.add j) = some u) (h1 : ∀ u ∈ news, u.oneCell' = true)
    (hbytes : (n + m) * bytes ≤ 140737488355328) (hby : 0 < bytes) (hbase : base ≤ w.heap.size) :
    ∃ A2 c2 w', (Builtin.append_ #[t, t] ty #[.slice A n c, .slice (some ad) m c']).run P w = .ok (.slice A2 (n + m) c2) w' ∧ OwnR w' base e sz A2 (n + m) c2 (xs ++ news) ∧ w.grownBy w' (A.map (·.block)) ∧
      (A2 = A ∨ A2 = some ⟨w.heap.size, 0, none⟩) := by
  obtain ⟨i, hi, hz, hs1, hs2⟩ := info_parts hinfo
  have hob : (Value.slice A n c).ownBlock = A.map (·.block) := by cases A <;> rfl
  have h63 : n + m ≤ maxLen := by
    have : n + m ≤ (n + m) * bytes := Nat.le_mul_of_pos_right _ hby
    simp only [maxLen]
    omega
  obtain ⟨v', w', hrun, h2, h3, h4, h5⟩ := run_append_own_at (P := P) w base t ty e i z sz bytes ht hi hz hs1 hs2 hz1 hsz (.slice A n c) n xs hown.row ad m c' news hl hcells h1 h63 hbytes hbase
  rw [hob] at h3 h5
  have hf : ∃ A2 c2, v' = .slice A2 (n + m) c2 ∧ (A2 = none ∨ ∃ g, A2 = some ⟨g, 0, none⟩) := by
    rcases h2.2 with ⟨rfl, h0⟩ | ⟨g, cap, cur, rfl, _⟩
    · exact ⟨none, 0, by rw [h0], .inl rfl⟩
    · exact ⟨_, _, rfl, .inr ⟨g, rfl⟩⟩
  obtain ⟨A2, c2, rfl, hA2⟩ := hf
  have hA : A = none ∨ ∃ g, A = some ⟨g, 0, none⟩ := by
    rcases hown.form with ⟨h, _⟩ | ⟨g, cur, h, _⟩
    · exact .inl h
    · exact .inr ⟨g, h⟩
  refine ⟨A2, c2, w', hrun, ⟨h2⟩, h3, ?_⟩
  have hob2 : (Value.slice A2 (n + m) c2).ownBlock = A2.map (·.block) := by cases A2 <;> rfl
  rw [hob2] at h5
  rcases hA2 with rfl | ⟨g, rfl⟩ <;> rcases hA with rfl | ⟨g', rfl⟩ <;> simp_all

/-- 'append(s, x...)', s the call's own, its elements of size sz, x not nil. -/
theorem wpList_appR {ops : Array Oper} {rest : List Oper} {o : Oper} {a : Act} {Q : Exit → Act → World → Prop} (hgd : o.guard = none) (s x : Operand) (t : TypeId)
    (ho : o.op = .call { callee := .builtin .append, args := #[s, x], argTypes := #[t, t] })
    (e : TypeId) (z : Value) (sz bytes : Nat) (ht : P.underlying t = some (.slice e)) (hinfo : (P.info? e).map (fun i => (i.zero, i.size, i.bytes)) = some (some z, sz, bytes)) (hz1 : z.cells.size = sz) (hsz : 0 < sz) (hby : 0 < bytes)
    {base : Nat} {A : Option Addr} {n c : Nat} {xs : List Value} (hs : a.eval s = .slice A n c) (hown : OwnR w base e sz A n c xs)
    {ad : Addr} {m c' : Nat} (news : List Value) (hx : a.eval x = .slice (some ad) m c') (hl : news.length = m * sz) (hcells : ∀ j u, news[j]? = some u → w.cell? (ad.add j) = some u) (h1 : ∀ u ∈ news, u.oneCell' = true)
    (hbytes : (n + m) * bytes ≤ 140737488355328) (hbase : base ≤ w.heap.size)
    (h : ∀ A2 c2 w', OwnR w' base e sz A2 (n + m) c2 (xs ++ news) → w.grownBy w' (A.map (·.block)) → (A2 = A ∨ A2 = some ⟨w.heap.size, 0, none⟩) → wpList P ops Q rest (a.put o.dst (.slice A2 (n + m) c2)) w') :
    wpList P ops Q (o :: rest) a w := by
  refine wpList_plain hgd fun K hK => ?_
  obtain ⟨A2, c2, w', hrun, h2, h3, h4⟩ := run_appR (P := P) w base t o.type e z sz bytes ht hinfo hz1 hsz A n c xs hown ad m c' news hl hcells h1 hbytes hby hbase
  unfold Oper.wp execOp
  simp only [ho, resolve, invoke, builtin, Sem.run_bind, Sem.run_pure, Result.andThen_ok, List.map_toArray, List.map_cons, List.map_nil, hs, hx, hrun]
  exact hK _ _ (h A2 c2 w' h2 h3 h4)
end
theorem cells_new (w : World) (cs : Array Value) (t : TypeId) {g : Nat} (hg : g = w.heap.size) : ∀ j u, cs.toList[j]? = some u → (w.alloc (.cells cs t)).cell? ((⟨g, 0, none⟩ : Addr).add j) = some u := by
  subst hg
  intro j u hu
  rw [add_plain, Nat.zero_add, (Blk.new w t cs).cell]
  simpa using hu
end Go.Proofs.YtdlcngmcjidomaaDoor
