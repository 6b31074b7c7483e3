/- The contract of cell.Split. No condition but the reach of a slice. -/
import Derived.Test.YtdlcngmcjidomaaDoorLCellI
import Derived.Test.YtdlcngmcjidomaaDoorRoundB
import Derived.Test.YtdlcngmcjidomaaDoorGDB
namespace Go.Proofs.YtdlcngmcjidomaaDoor
set_option linter.unusedSimpArgs false
set_option linter.unusedVariables false
open Go.RowKit Go.Shelf
attribute [local go_sem] Oper.semAt_some

/-- A cell whose bytes lie in a row of their own. -/
structure CEl.Own (w : World) (base : Nat) (e : CEl) : Prop where
  own : OwnI w base .u8 256 5 e.A e.n e.c e.x.data
  nil : e.A = none ↔ e.x.data = []
  gen : e.x.gen < 4294967296
  seq : e.x.seq < 4294967296
  part : -9223372036854775808 ≤ e.x.part ∧ e.x.part ≤ 9223372036854775807
  parts : -9223372036854775808 ≤ e.x.parts ∧ e.x.parts ≤ 9223372036854775807
  most : e.n ≤ 140737488355000
theorem CEl.Own.in_ {w : World} {base : Nat} {e : CEl} (h : e.Own w base) : e.In w := ⟨h.own.ints, h.gen, h.seq, h.part, h.parts, h.most⟩
theorem CEl.Own.kept {w w' : World} {base : Nat} {e : CEl} {row : Option Nat} (h : e.Own w base) (hg : w.grownBy w' row) (hne : ∀ ad, e.A = some ad → some ad.block ≠ row) : e.Own w' base := ⟨h.own.kept hg hne, h.nil, h.gen, h.seq, h.part, h.parts, h.most⟩
theorem CEl.Own.mono {w : World} {base b' : Nat} {e : CEl} (h : e.Own w base) (hb : b' ≤ base) : e.Own w b' := ⟨h.own.mono hb, h.nil, h.gen, h.seq, h.part, h.parts, h.most⟩
theorem CEl.Own.below {w w' : World} {base : Nat} {e : CEl} (h : e.Own w base) (hb : Below w.heap.size w w') : e.Own w' base := ⟨h.own.below hb, h.nil, h.gen, h.seq, h.part, h.parts, h.most⟩
theorem CEl.Own.el {w : World} {base : Nat} {e : CEl} (h : e.Own w base) : BEl.In w ⟨e.A, e.n, e.c, e.x.data⟩ := ⟨h.own.mono (Nat.zero_le _), h.nil⟩
theorem blk_at {w : World} {t : TypeId} {cs : Array Value} {g : Nat} (hg : g = w.heap.size) : Blk (w.alloc (.cells cs t)) g t cs := by subst hg; exact Blk.new _ _ _
theorem cells_ne {w : World} {k r : Nat} {t : TypeId} {cs : Array Value} (h : Blk w k t cs) {o : Obj} (ho : w.heap[r]? = some o) (hc : o.isCells = false) : k ≠ r := by
  rintro rfl
  rw [h.is] at ho
  cases ho
  cases hc
/-- What Split hands back, its bytes in rows of their own. -/
def SplitOwn (w : World) (gs sq : Nat) (l : List Nat) (e : Ending) (w' : World) : Prop :=
  ∃ A m c xs, e = .returned (.tuple #[.slice A m c, .int .i64 (Cl.splitCode l)]) ∧ OwnR w' w.heap.size 73 5 A m c (cflat xs) ∧ (∀ e ∈ xs, e.Own w' w.heap.size) ∧ xs.map (·.x) = Cl.split gs sq l ∧ Below w.heap.size w w'
/-- What lies there while parts are told. -/
structure SpI (w : World) (B gs sq q Bn : Nat) (l : List Nat) (pre : List Nat) (W : World) : Prop where
  ex : ∃ A c xs, OwnR W (Bn + 1) 73 5 A pre.length c (cflat xs) ∧ (∀ e ∈ xs, e.Own W (Bn + 1)) ∧ xs.map (·.x) = pre.map (Cl.cellAt gs sq l) ∧ Blk W (B + 3) 68 #[.slice A pre.length c]
  g0 : Blk W B 31 #[.int .u32 (gs : Int)]
  g1 : Blk W (B + 1) 31 #[.int .u32 (sq : Int)]
  g2 : Blk W (B + 2) 3 #[.int .i64 (q : Int)]
  bel : Below B w W
  bn : Bn < W.heap.size
theorem SpI.turn {w : World} {B gs sq q Bn : Nat} {l : List Nat} {pre : List Nat} {W W' : World} {row : Option Nat} (h : SpI w B gs sq q Bn l pre W) (hB : Bn = B + 4) (hg : W.grownBy W' row) (hr : ∀ r, row = some r → r = Bn ∨ (B ≤ r ∧ ∃ o : Obj, W.heap[r]? = some o ∧ o.isCells = false)) : SpI w B gs sq q Bn l pre W' := by
  obtain ⟨A, c, xs, h1, h2, h3, h4⟩ := h.ex
  have hne : ∀ {k : Nat} {t : TypeId} {cs : Array Value}, Blk W k t cs → k ≠ Bn → some k ≠ row := fun hb hk e => by
    rcases hr _ e.symm with e1 | ⟨_, o, ho, hc⟩
    · exact hk e1
    · exact cells_ne hb ho hc rfl
  have hdata : ∀ e ∈ xs, ∀ ad, e.A = some ad → some ad.block ≠ row := fun e he ad ha => by
    have h5 := (h2 e he).own
    have h6 := (h5.lt_ ad ha).1
    rcases h5.own.form with ⟨h7, _⟩ | ⟨g, cur, h7, _, hg7, _⟩
    · rw [ha] at h7; cases h7
    · rw [ha] at h7; cases h7
      exact hne hg7 (by show g ≠ Bn; have h6 : Bn + 1 ≤ g := h6; omega)
  have hrow : ∀ ad, A = some ad → some ad.block ≠ row := fun ad ha => by
    have h6 := (h1.lt ad ha).1
    rcases h1.form with ⟨h7, _⟩ | ⟨g, cur, h7, _, hg7, _⟩
    · rw [ha] at h7; cases h7
    · rw [ha] at h7; cases h7
      exact hne hg7 (by show g ≠ Bn; have h6 : Bn + 1 ≤ g := h6; omega)
  exact ⟨⟨A, c, xs, h1.kept hg hrow, fun e he => (h2 e he).kept hg (hdata e he), h3, h4.grown hg (hne h4 (by omega))⟩, h.g0.grown hg (hne h.g0 (by omega)), h.g1.grown hg (hne h.g1 (by omega)), h.g2.grown hg (hne h.g2 (by omega)),
    h.bel.grown hg (by have := h.g2.lt; omega) (fun k e => by rcases hr k e with e1 | ⟨e1, _⟩ <;> omega), Nat.lt_of_lt_of_le h.bn hg.size⟩

theorem SpI.drew {w : World} {B gs sq q Bn : Nat} {l : List Nat} {pre : List Nat} {W : World} (h : SpI w B gs sq q Bn l pre W) : SpI w B gs sq q Bn l pre W.drew := by
  obtain ⟨A, c, xs, h1, h2, h3, h4⟩ := h.ex
  exact ⟨⟨A, c, xs, h1.drew, fun e he => ⟨⟨⟨(h2 e he).own.own.row⟩, (h2 e he).own.lt⟩, (h2 e he).nil, (h2 e he).gen, (h2 e he).seq, (h2 e he).part, (h2 e he).parts, (h2 e he).most⟩, h3, ⟨h4.is⟩⟩, ⟨h.g0.is⟩, ⟨h.g1.is⟩, ⟨h.g2.is⟩, h.bel.drew, h.bn⟩
theorem part_in {w : World} {b o n c k : Nat} {l : List Nat} (hr : Ints w .u8 256 (some ⟨b, o, none⟩) n c l) (hk : 49 * k < n) (hn : n ≤ 392) : Ints w .u8 256 (some ⟨b, o + 49 * k, none⟩) (min 49 (n - 49 * k)) (min 49 (n - 49 * k)) ((l.drop (49 * k)).take 49) := by
  have h1 := hr.cut (k := 49 * k) (by omega)
  have hc := hr.rd.cap
  rw [if_neg (by omega), Option.map_some, add_plain] at h1
  have h2 := h1.take (k := min 49 (n - 49 * k)) (c' := min 49 (n - 49 * k)) (by omega) (by omega)
  have hl := hr.len
  have e : (l.drop (49 * k)).take (min 49 (n - 49 * k)) = (l.drop (49 * k)).take 49 := by
    rcases Nat.le_total 49 (n - 49 * k) with h | h
    · rw [Nat.min_eq_left h]
    · rw [Nat.min_eq_right h, List.take_of_length_le (by rw [List.length_drop]; omega), List.take_of_length_le (by rw [List.length_drop]; omega)]
  rw [← e]; exact h2
theorem sp_close {w W X : World} {B gs sq q Bn k n₀ : Nat} {l : List Nat} {R : Prop} (h : (∀ (j : Nat) (o : Obj), W.drew.heap[j]? = some o → o.isCells = false → X.heap[j]? = W.drew.heap[j]?) ∧ X.heap[Bn]? = W.drew.heap[Bn]? ∧ Below 0 W.drew X ∧ SpI w B gs sq q Bn l (List.range (k + 1)) X ∧ R) :
    KeepsFrom n₀ W X ∧ X.heap[Bn]? = W.heap[Bn]? ∧ Below 0 W X ∧ SpI w B gs sq q Bn l (List.range k ++ [k]) X := by
  obtain ⟨h1, h2, h3, h4, _⟩ := h
  exact ⟨⟨h3.size, fun j o _ ho hc => (h1 j o ho hc).trans ho⟩, h2, ⟨h3.os, h3.tape, h3.output, h3.size, fun k hk => absurd hk (Nat.not_lt_zero k)⟩, by rw [← List.range_succ]; exact h4⟩
theorem ownR_ne {w : World} {base sz n c r : Nat} {t : TypeId} {A : Option Addr} {vs : List Value} (h : OwnR w base t sz A n c vs) {o : Obj} (ho : w.heap[r]? = some o) (hc : o.isCells = false) : ∀ ad, A = some ad → some ad.block ≠ some r := by
  intro ad e h1
  rcases h.form with ⟨h7, _⟩ | ⟨g, cur, h7, _, hg7, _⟩
  · rw [e] at h7; cases h7
  · rw [e] at h7; cases h7
    injection h1 with h1
    exact cells_ne hg7 ho hc h1
theorem own_ne {w : World} {base n c r : Nat} {t : TypeId} {A : Option Addr} {vs : List Value} (h : Own w base t A n c vs) {o : Obj} (ho : w.heap[r]? = some o) (hc : o.isCells = false) : ∀ ad, A = some ad → some ad.block ≠ some r := by
  intro ad e h1
  rcases h.form with ⟨h7, _⟩ | ⟨g, cur, h7, _, hg7, _⟩
  · rw [e] at h7; cases h7
  · rw [e] at h7; cases h7
    injection h1 with h1
    exact cells_ne hg7 ho hc h1
theorem own_part {w : World} {base gs sq n k s c3 : Nat} {l : List Nat} {A3 : Option Addr} (hl : l.length = n) (h : OwnI w base .u8 256 5 A3 s c3 ((l.drop (49 * k)).take 49)) (hs : min 49 (n - 49 * k) = s) (hk : 49 * k < n) (hg : gs < 4294967296) (hq : sq < 4294967296) (hn : n ≤ 392) (h8 : k ≤ 8) : CEl.Own w base ⟨Cl.cellAt gs sq l k, A3, s, c3⟩ := by
  refine ⟨h, ?_, hg, hq, ?_, ?_, by show s ≤ _; omega⟩
  · have hlen : ((l.drop (49 * k)).take 49).length = s := by rw [List.length_take, List.length_drop, hl, hs]
    constructor
    · intro e
      rcases h.own.form with ⟨_, h2, _⟩ | ⟨g, cur, h2, _⟩
      · omega
      · have e : A3 = none := e
        rw [e] at h2; cases h2
    · intro e
      have e : (l.drop (49 * k)).take 49 = [] := e
      rw [e] at hlen
      have hlen : 0 = s := hlen
      omega
  · show -9223372036854775808 ≤ ((k : Nat) : Int) ∧ ((k : Nat) : Int) ≤ 9223372036854775807
    omega
  · show -9223372036854775808 ≤ ((Cl.need l.length : Nat) : Int) ∧ ((Cl.need l.length : Nat) : Int) ≤ 9223372036854775807
    have := Cl.need_le l.length
    omega
theorem sp_step {w W W2 W5 : World} {B gs sq q Bn k c c5 n' c' : Nat} {l : List Nat} {A A5 A' : Option Addr} {xs : List CEl} (h : SpI w B gs sq q Bn l (List.range k) W) (hB : Bn = B + 4) (hBn : Bn < W.heap.size)
    (h1 : OwnR W (Bn + 1) 73 5 A k c (cflat xs)) (h2 : ∀ e ∈ xs, e.Own W (Bn + 1)) (h3 : xs.map (·.x) = (List.range k).map (Cl.cellAt gs sq l)) (h4 : Blk W (B + 3) 68 #[.slice A k c])
    (hb : Below W.heap.size W W2) (he : CEl.Own W2 W.heap.size ⟨Cl.cellAt gs sq l k, A', n', c'⟩)
    (h5 : OwnR W5 (Bn + 1) 73 5 A5 (k + 1) c5 (cflat xs ++ CEl.vs ⟨Cl.cellAt gs sq l k, A', n', c'⟩)) (hg : (W2.alloc (.cells (CEl.vs ⟨Cl.cellAt gs sq l k, A', n', c'⟩).toArray 73)).grownBy W5 (A.map (·.block))) :
    (∀ (j : Nat) (o : Obj), W.heap[j]? = some o → o.isCells = false → (W5.setCell ⟨B + 3, 0, none⟩ (.slice A5 (k + 1) c5)).heap[j]? = W.heap[j]?) ∧ (W5.setCell ⟨B + 3, 0, none⟩ (.slice A5 (k + 1) c5)).heap[Bn]? = W.heap[Bn]? ∧ Below 0 W (W5.setCell ⟨B + 3, 0, none⟩ (.slice A5 (k + 1) c5)) ∧
      SpI w B gs sq q Bn l (List.range (k + 1)) (W5.setCell ⟨B + 3, 0, none⟩ (.slice A5 (k + 1) c5)) ∧ Blk W5 (B + 3) 68 #[.slice A k c] ∧ Blk W5 B 31 #[.int .u32 (gs : Int)] ∧ Blk W5 (B + 1) 31 #[.int .u32 (sq : Int)] ∧ Blk W5 (B + 2) 3 #[.int .i64 (q : Int)] := by
  have hs := hb.size
  have hbA := hb.alloc hs (.cells (CEl.vs ⟨Cl.cellAt gs sq l k, A', n', c'⟩).toArray 73)
  have hrowA : ∀ ad, A = some ad → Bn + 1 ≤ ad.block ∧ ad.block < W.heap.size ∧ ∃ cur, Blk W ad.block 73 cur := fun ad ha => by
    refine ⟨(h1.lt ad ha).1, (h1.lt ad ha).2, ?_⟩
    rcases h1.form with ⟨h7, _⟩ | ⟨g, cur, h7, _, hg7, _⟩
    · rw [ha] at h7; cases h7
    · rw [ha] at h7; cases h7; exact ⟨cur, hg7⟩
  have hne : ∀ j, (∀ ad, A = some ad → j ≠ ad.block) → some j ≠ A.map (·.block) := fun j hj e => by
    cases A with
    | none => cases e
    | some ad => exact hj ad rfl (by injection e)
  -- a block of W that is not the row's, nor the box's, is as it was
  have hkeep : ∀ j, j < W.heap.size → (∀ ad, A = some ad → j ≠ ad.block) → j ≠ B + 3 → (W5.setCell ⟨B + 3, 0, none⟩ (.slice A5 (k + 1) c5)).heap[j]? = W.heap[j]? := fun j hj hA h3 =>
    (heap_setCell_other W5 _ j _ h3).trans ((hg.block j (by simp; omega) (hne j hA)).trans (hbA.block j hj))
  have hblk : ∀ {j : Nat} {t : TypeId} {cs : Array Value}, Blk W j t cs → j ≤ Bn → j ≠ B + 3 → Blk (W5.setCell ⟨B + 3, 0, none⟩ (.slice A5 (k + 1) c5)) j t cs := fun hj hle h3 =>
    ⟨(hkeep _ hj.lt (fun ad ha => by have := (hrowA ad ha).1; omega) h3).trans hj.is⟩
  have h45 : Blk W5 (B + 3) 68 #[.slice A k c] := ⟨(hg.block (B + 3) (by simp; omega) (hne _ (fun ad ha => by have := (hrowA ad ha).1; omega))).trans ((hbA.block _ (by omega)).trans h4.is)⟩
  have hblk5 : ∀ {j : Nat} {t : TypeId} {cs : Array Value}, Blk W j t cs → j ≤ Bn → Blk W5 j t cs := fun hj hle =>
    ⟨(hg.block _ (by have := hj.lt; simp; omega) (hne _ (fun ad ha => by have := (hrowA ad ha).1; omega))).trans ((hbA.block _ hj.lt).trans hj.is)⟩
  have hdata : ∀ e ∈ xs, e.Own (W5.setCell ⟨B + 3, 0, none⟩ (.slice A5 (k + 1) c5)) (Bn + 1) := fun e he => by
    have h6 := h2 e he
    refine ⟨⟨?_, h6.own.lt⟩, h6.nil, h6.gen, h6.seq, h6.part, h6.parts, h6.most⟩
    rcases h6.own.own.form with ⟨h7, h8, h9, h10⟩ | ⟨g, cur, h7, hg0, hg7, q1, q2, q3, q4⟩
    · rw [h7, h8, h9, h10]; exact Own.nil_ ..
    · rw [h7]
      exact Own.of_blk hg0 ⟨(hkeep g hg7.lt (fun ad ha => by obtain ⟨_, _, cur2, h11⟩ := hrowA ad ha; exact hg7.type_ne h11 (by decide)) (by omega)).trans hg7.is⟩ q1 q2 q3 q4
  have hnew : CEl.Own (W5.setCell ⟨B + 3, 0, none⟩ (.slice A5 (k + 1) c5)) (Bn + 1) ⟨Cl.cellAt gs sq l k, A', n', c'⟩ := by
    refine ⟨⟨?_, he.own.lt⟩, he.nil, he.gen, he.seq, he.part, he.parts, he.most⟩
    rcases he.own.own.form with ⟨h7, h8, h9, h10⟩ | ⟨g, cur, h7, hg0, hg7, q1, q2, q3, q4⟩
    · rw [h7, h8, h9, h10]; exact Own.nil_ ..
    · rw [h7]
      have hg8 := hg7.lt
      refine Own.of_blk (by omega) ⟨(heap_setCell_other W5 _ g _ (by show g ≠ B + 3; omega)).trans ((hg.block g (by simp; omega) (hne g (fun ad ha => by have := (hrowA ad ha).2.1; omega))).trans ((Below.heap_alloc W2 _ g hg8).trans hg7.is))⟩ q1 q2 q3 q4
  have hz : Below 0 W (W5.setCell ⟨B + 3, 0, none⟩ (.slice A5 (k + 1) c5)) := ((hbA.mono (Nat.zero_le _)).grown hg (Nat.zero_le _) (fun _ _ => Nat.zero_le _)).setCell (Nat.zero_le _) _
  have hA5 : ∀ ad, A5 = some ad → ad.block ≠ B + 3 := fun ad ha => by have := (h5.lt ad ha).1; omega
  refine ⟨fun j o ho hc => hkeep j (Array.getElem?_eq_some_iff.1 ho).1 (fun ad ha e => ?_) (fun e => cells_ne h4 (by rw [← e]; exact ho) hc rfl), hkeep Bn hBn (fun ad ha => by have := (hrowA ad ha).1; omega) (by omega), ?_, ?_, h45, hblk5 h.g0 (by omega), hblk5 h.g1 (by omega), hblk5 h.g2 (by omega)⟩
  · obtain ⟨_, _, cur, h11⟩ := hrowA ad ha
    exact cells_ne h11 (by rw [← e]; exact ho) hc rfl
  · exact hz
  · refine ⟨⟨A5, c5, xs ++ [⟨Cl.cellAt gs sq l k, A', n', c'⟩], ?_, fun e he' => ?_, ?_, ?_⟩, hblk h.g0 (by omega) (by omega), hblk h.g1 (by omega) (by omega), hblk h.g2 (by omega) (by omega), ?_, Nat.lt_of_lt_of_le hBn hz.size⟩
    · rw [cflat_snoc, List.length_range]
      exact h5.setCell hA5 _
    · rcases List.mem_append.1 he' with he' | he'
      · exact hdata e he'
      · rw [List.mem_singleton] at he'; subst he'; exact hnew
    · rw [List.map_append, h3, List.range_succ, List.map_append]; rfl
    · rw [List.length_range]
      exact h45.set_ 0 _
    · have hb1 : Below B w W2 := h.bel.trans (hb.mono (by omega))
      exact ((hb1.alloc (by omega) _).grown hg (by simp; omega) (fun j e => by
        cases A with
        | none => cases e
        | some ad => have := (hrowA ad rfl).1; injection e with e; have e : ad.block = j := e; omega)).setCell (by show B ≤ B + 3; omega) _

set_option maxRecDepth 100000 in
theorem parts_any (A : Option Addr) (n c : Nat) (w : World) :
    Calls Tryd.prog 69 #[.slice A n c] w fun e w' => e = .returned (.func (.func 78) #[] #[.pointer (some ⟨w.heap.size, 0, none⟩)]) ∧ w' = w.alloc (.cells #[.slice A n c] 22) := by
  have hmf : ∀ (fn : Fn) (first cap : Array Value) (w : World), (Instr.makeFunc fn first cap).run Tryd.prog w = .ok (.func fn first cap) w := fun _ _ _ _ => rfl
  go_enter Tryd.func69, Tryd.ntmps69
  go_wp2_with fail
  go_ret
  exact ⟨rfl, rfl⟩
set_option maxRecDepth 100000 in
set_option maxHeartbeats 6400000 in
theorem csplit_any {A : Option Addr} {n c : Nat} {l : List Nat} {w : World} (gs sq : Nat) (hgs : gs < 4294967296) (hsq : sq < 4294967296) (hr : Ints w .u8 256 A n c l) (hn : (n : Int) ≤ 9223372036854775807) :
    Calls Tryd.prog 59 #[.int .u32 (gs : Int), .int .u32 (sq : Int), .slice A n c] w (SplitOwn w gs sq l) := by
  have hl := hr.len
  have hcode : Cl.splitCode l = if Cl.need l.length = 0 then 1 else 0 := rfl
  obtain ⟨q, hq⟩ : ∃ q, Cl.need l.length = q := ⟨_, rfl⟩
  have hneed : Cl.need ((n : Int).toNat) = q := by rw [Int.toNat_natCast, ← hl]; exact hq
  by_cases h0 : q = 0
  · subst h0
    have e1 : Cl.splitCode l = 1 := by rw [hcode, hq]; rfl
    have hb : Below w.heap.size w (((w.alloc (.cells #[.int .u32 (gs : Int)] 31)).alloc (.cells #[.int .u32 (sq : Int)] 31)).alloc (.cells #[.int .i64 0] 3)) := (((Below.refl _ w).alloc (Nat.le_refl _) _).alloc (by simp) _).alloc (by simp; omega) _
    have HP := Lib.hid (And.intro e1 (And.intro (split_nil (gs := gs) (sq := sq) hq) hb))
    have HN := Lib.hid hneed
    clear e1 hq hcode hneed hl hr hb
    go_enter Tryd.func59, Tryd.ntmps59
    go_wp2_with fail
    refine (cneed_any _ _ (by omega) hn).mono ?_; rintro e w1 ⟨rfl, rfl⟩
    rw [HN.out]
    go_wp2_with fail
    go_ret2
    exact ⟨none, 0, 0, [], by rw [HP.out.1]; rfl, OwnR.nil_ .., fun _ h => (by cases h), by rw [HP.out.2.1]; rfl, HP.out.2.2⟩
  have hc1 : ¬ (n < 1 ∨ 392 < n) := fun e => h0 (by rw [← hq, hl]; exact Cl.need_zero e)
  have hq2 := (Cl.need_pos (n := n) (by omega) (by omega))
  rw [hl] at hq
  rw [hq] at hq2
  obtain ⟨b, o, rfl, hb0, _⟩ := hr.rd.at_ (by omega)
  have e0 : Cl.splitCode l = 0 := by rw [hcode, hl, hq, if_neg h0]
  have hsp : (List.range q).map (Cl.cellAt gs sq l) = Cl.split gs sq l := by unfold Cl.split; rw [hl, hq]
  have HP := Lib.hid (And.intro e0 (And.intro hsp hr))
  have HN := Lib.hid hneed
  have hn392 : n ≤ 392 := by omega
  have hq8 : q ≤ 8 := by omega
  have hq49 : 49 * q < n + 49 := by omega
  have hq50 : n ≤ 49 * q := by omega
  have hcap := hr.rd.cap
  have hqi : ((q : Int) == 0) = false := by simp; omega
  clear e0 hsp hr hneed hcode hl hq hq2 hc1
  refine (callsIn_wide (n := 3)).1 ?_
  refine callsIn_of_wp_marks Tryd.func59 rfl trivial ?_ rfl
  simp only [Tryd.ntmps59, List.size_toArray, List.length_cons, List.length_nil, Nat.reduceAdd, Nat.reduceSub, Array.replicate_succ, Array.replicate_zero, List.push_toArray, List.append_toArray, List.nil_append, List.cons_append]
  refine wpIn_wide.2 ?_
  go_wp2_with (first
    | (go_at_call 64; refine (cneed_any _ _ (by omega) hn).mono ?_; rintro e w1 ⟨rfl, rfl⟩; rw [HN.out])
    | (go_at_call 69; refine (parts_any _ _ _ _).mono ?_; rintro e w3 ⟨rfl, rfl⟩))
  refine (wpIn_wide (n := 3)).1 ?_
  refine wpIn_range_box (F := Fence.wide) rfl (by omega) (gf := 78) (lb := #[.pointer (some ⟨w.heap.size + 1 + 1 + 1 + 1, 0, none⟩)]) rfl trivial (enters_of Tryd.func78 (by kernel_rfl) rfl) (encs := partEnc b o n) (fun _ => rfl) (w.heap.size + 1 + 1 + 1 + 1) 0 (List.range q) (by simp) (Nat.zero_le _) ?seq
    (SpI w w.heap.size gs sq q (w.heap.size + 1 + 1 + 1 + 1) l) ?hI ?hIB ?h0
    (fun k => { tmps := #[.int .u32 (gs : Int), .int .u32 (sq : Int), .slice (some ⟨b, o, none⟩) n c, .pointer (some ⟨w.heap.size, 0, none⟩), .pointer (some ⟨w.heap.size + 1, 0, none⟩), undef, .slice none 0 0, .int .i64 0, .pointer (some ⟨w.heap.size + 1 + 1, 0, none⟩), .pointer (some ⟨w.heap.size + 1 + 1 + 1, 0, none⟩), .int .i64 (k : Int), .slice (some ⟨b, o + 49 * k, none⟩) (min 49 (n - 49 * k)) (min 49 (n - 49 * k)), .slice (some ⟨b, o, none⟩) n c, .int .i64 (n : Int), .int .i64 (q : Int), .int .i64 (q : Int), .bool false, .slice (some ⟨b, o, none⟩) n c, .func (.func 78) #[] #[.pointer (some ⟨w.heap.size + 1 + 1 + 1 + 1, 0, none⟩)], .int .i64 (k : Int), .slice (some ⟨b, o + 49 * k, none⟩) (min 49 (n - 49 * k)) (min 49 (n - 49 * k)), undef, undef, undef, undef, undef, undef, undef, undef, undef, undef, undef], defers := [] }) ?assign ?body ?done
  case seq =>
    intro l' J W hJ h0 hBn hb hY
    exact parts1_in Fence.wide 2 trivial rfl (by omega) l' (w.heap.size + 1 + 1 + 1 + 1) b o n c q hq49 hq50 hcap hn392 J hJ hY W ⟨some ⟨b, o, none⟩, c, fun _ => ⟨by simp, by simp⟩, ⟨hBn.trans (blk_at (by simp)).is⟩⟩ h0
  case hI => exact fun pre W W' row h hg hr => h.turn rfl hg (fun r e => .inr ⟨by have h1 := (hr r e).1; simp at h1; omega, (hr r e).2⟩)
  case hIB => exact fun pre W W' h hg => h.turn rfl hg (fun r e => .inl (by cases e; rfl))
  case h0 =>
    refine ⟨⟨none, 0, [], OwnR.nil_ .., fun _ h => (by cases h), rfl, ?_⟩, ?_, ?_, ?_, ?_, ?_⟩
    · exact (blk_at (by simp)).alloc _
    · exact ((((Blk.new w 31 #[.int .u32 (gs : Int)]).alloc _).alloc _).alloc _).alloc _
    · exact (((blk_at (by simp)).alloc _).alloc _).alloc _
    · exact ((blk_at (by simp)).alloc _).alloc _
    · exact (((((Below.refl _ w).alloc (Nat.le_refl _) _).alloc (by simp) _).alloc (by simp; omega) _).alloc (by simp; omega) _).alloc (by simp; omega) _
    · simp
  case assign =>
    intro l' k W K hK
    unfold partEnc
    gi_wp2
    exact hK
  case body =>
    intro lp pre k W hS hpre
    obtain ⟨rfl, hkq⟩ := pre_range hpre

    have hS := hS.drew
    obtain ⟨A, c2, xs, h1, h2, h3, h4⟩ := hS.ex
    rw [List.length_range] at h1 h4
    have hd := part_in (HP.out.2.2.below (hS.bel)) (k := k) (by omega) (by omega)
    obtain ⟨s, hs⟩ : ∃ s, min 49 (n - 49 * k) = s := ⟨_, rfl⟩
    rw [hs] at hd ⊢
    have c0 : W.drew.cell? ⟨w.heap.size + 1 + 1 + 1, 0, none⟩ = some (.slice A k c2) := h4.cell 0
    have cg0 : W.drew.cell? ⟨w.heap.size, 0, none⟩ = some (.int .u32 (gs : Int)) := hS.g0.cell 0
    have cg1 : W.drew.cell? ⟨w.heap.size + 1, 0, none⟩ = some (.int .u32 (sq : Int)) := hS.g1.cell 0
    have cg2 : W.drew.cell? ⟨w.heap.size + 1 + 1, 0, none⟩ = some (.int .i64 (q : Int)) := hS.g2.cell 0
    have s0 := And.intro c0 (And.intro cg0 (And.intro cg1 cg2))
    gi_wp2
    refine wpIn_round_late [10] (fun w' => w'.cell? ⟨w.heap.size + 1 + 1 + 1, 0, none⟩ = some (.slice A k c2) ∧ w'.cell? ⟨w.heap.size, 0, none⟩ = some (.int .u32 (gs : Int)) ∧ w'.cell? ⟨w.heap.size + 1, 0, none⟩ = some (.int .u32 (sq : Int)) ∧ w'.cell? ⟨w.heap.size + 1 + 1, 0, none⟩ = some (.int .i64 (q : Int))) (by kernel_rfl) (by kernel_rfl) ?_
    refine wpAnyL_take (i := 0) (v := ?_) rfl (by kernel_rfl) (by kernel_rfl) (by kernel_rfl) (by kernel_rfl) (by kernel_rfl) (fun _ _ _ h => h) (Or.inl ⟨by kernel_rfl, ?_⟩) s0 ?_
    rotate_left
    · rintro w0 ⟨h1_, h2_, h3_, h4_⟩; go_simp; (try with_reducible rfl)
    try simp only [Act.put, List.getElem_toArray, List.getElem_cons_succ, List.getElem_cons_zero, List.setIfInBounds_toArray, List.set_cons_zero, List.set_cons_succ]
    refine wpAnyL_take (i := 1) (v := ?_) rfl (by kernel_rfl) (by kernel_rfl) (by kernel_rfl) (by kernel_rfl) (by kernel_rfl) (fun _ _ _ h => h) (Or.inl ⟨by kernel_rfl, ?_⟩) s0 ?_
    rotate_left
    · rintro w0 ⟨h1_, h2_, h3_, h4_⟩; go_simp; (try with_reducible rfl)
    try simp only [Act.put, List.getElem_toArray, List.getElem_cons_succ, List.getElem_cons_zero, List.setIfInBounds_toArray, List.set_cons_zero, List.set_cons_succ]
    refine wpAnyL_take (i := 2) (v := ?_) rfl (by kernel_rfl) (by kernel_rfl) (by kernel_rfl) (by kernel_rfl) (by kernel_rfl) (fun _ _ _ h => h) (Or.inl ⟨by kernel_rfl, ?_⟩) s0 ?_
    rotate_left
    · rintro w0 ⟨h1_, h2_, h3_, h4_⟩; go_simp; (try with_reducible rfl)
    try simp only [Act.put, List.getElem_toArray, List.getElem_cons_succ, List.getElem_cons_zero, List.setIfInBounds_toArray, List.set_cons_zero, List.set_cons_succ]
    refine wpAnyL_take (i := 3) (v := ?_) rfl (by kernel_rfl) (by kernel_rfl) (by kernel_rfl) (by kernel_rfl) (by kernel_rfl) (fun _ _ _ h => h) (Or.inl ⟨by kernel_rfl, ?_⟩) s0 ?_
    rotate_left
    · rintro w0 ⟨h1_, h2_, h3_, h4_⟩; go_simp; (try with_reducible rfl)
    try simp only [Act.put, List.getElem_toArray, List.getElem_cons_succ, List.getElem_cons_zero, List.setIfInBounds_toArray, List.set_cons_zero, List.set_cons_succ]
    refine wpAnyL_take (i := 4) (v := ?_) rfl (by kernel_rfl) (by kernel_rfl) (by kernel_rfl) (by kernel_rfl) (by kernel_rfl) (fun _ _ _ h => h) (Or.inl ⟨by kernel_rfl, ?_⟩) s0 ?_
    rotate_left
    · rintro w0 ⟨h1_, h2_, h3_, h4_⟩; go_simp; (try with_reducible rfl)
    try simp only [Act.put, List.getElem_toArray, List.getElem_cons_succ, List.getElem_cons_zero, List.setIfInBounds_toArray, List.set_cons_zero, List.set_cons_succ]
    refine wpAnyL_take (i := 5) (v := ?_) rfl (by kernel_rfl) (by kernel_rfl) (by kernel_rfl) (by kernel_rfl) (by kernel_rfl) (fun _ _ _ h => h) (Or.inl ⟨by kernel_rfl, ?_⟩) s0 ?_
    rotate_left
    · rintro w0 ⟨h1_, h2_, h3_, h4_⟩; go_simp; (try with_reducible rfl)
    try simp only [Act.put, List.getElem_toArray, List.getElem_cons_succ, List.getElem_cons_zero, List.setIfInBounds_toArray, List.set_cons_zero, List.set_cons_succ]
    refine wpAnyL_one (i := 6) (by kernel_rfl) rfl (fun K hK => ?_)
    go_simp
    refine (clone_any _ _ _ _ _ hd (by simp) (by omega)).mono ?_; rintro e w2 ⟨A3, c3, rfl, ho3, hb3⟩
    have hs3 := hb3.size
    have hel : CEl.vs ⟨Cl.cellAt gs sq l k, A3, s, c3⟩ = [.int .u32 (gs : Int), .int .u32 (sq : Int), .int .i64 (k : Int), .int .i64 (q : Int), .slice A3 s c3] := by
      have e2 : Cl.need l.length = q := by rw [HP.out.2.2.len, ← HN.out, Int.toNat_natCast]
      unfold CEl.vs Cl.cellAt
      dsimp only
      rw [e2]
    have hown3 : CEl.Own w2 W.drew.heap.size ⟨Cl.cellAt gs sq l k, A3, s, c3⟩ := own_part HP.out.2.2.len ho3 hs (by omega) hgs hsq hn392 (by omega)
    have s2 : ((fun w' => w'.cell? ⟨w.heap.size + 1 + 1 + 1, 0, none⟩ = some (.slice A k c2) ∧ w'.cell? ⟨w.heap.size, 0, none⟩ = some (.int .u32 (gs : Int)) ∧ w'.cell? ⟨w.heap.size + 1, 0, none⟩ = some (.int .u32 (sq : Int)) ∧ w'.cell? ⟨w.heap.size + 1 + 1, 0, none⟩ = some (.int .i64 (q : Int)))) w2 := ⟨(hb3.cell (p := ⟨w.heap.size + 1 + 1 + 1, 0, none⟩) h4.lt).trans c0, (hb3.cell (p := ⟨w.heap.size, 0, none⟩) hS.g0.lt).trans cg0, (hb3.cell (p := ⟨w.heap.size + 1, 0, none⟩) hS.g1.lt).trans cg1, (hb3.cell (p := ⟨w.heap.size + 1 + 1, 0, none⟩) hS.g2.lt).trans cg2⟩
    go_wp2_with fail
    refine hK.out _ _ (fun _ => s2) ?_
    clear hK K
    try simp only [Act.put, List.getElem_toArray, List.getElem_cons_succ, List.getElem_cons_zero, List.setIfInBounds_toArray, List.set_cons_zero, List.set_cons_succ]
    refine wpAnyL_take (i := 7) (v := ?_) rfl (by kernel_rfl) (by kernel_rfl) (by kernel_rfl) (by kernel_rfl) (by kernel_rfl) (fun _ _ _ h => h) (Or.inl ⟨by kernel_rfl, ?_⟩) s2 ?_
    rotate_left
    · rintro w0 ⟨h1_, h2_, h3_, h4_⟩; go_simp; (try with_reducible rfl)
    try simp only [Act.put, List.getElem_toArray, List.getElem_cons_succ, List.getElem_cons_zero, List.setIfInBounds_toArray, List.set_cons_zero, List.set_cons_succ]
    refine wpAnyL_one (i := 8) (by kernel_rfl) rfl (fun K hK => ?_)
    go_simp
    have hs4 : w2.heap.size < (w2.alloc (.cells #[.int .u32 (gs : Int), .int .u32 (sq : Int), .int .i64 (k : Int), .int .i64 (q : Int), .slice A3 s c3] 73)).heap.size := by simp
    have s4 : ((fun w' => w'.cell? ⟨w.heap.size + 1 + 1 + 1, 0, none⟩ = some (.slice A k c2) ∧ w'.cell? ⟨w.heap.size, 0, none⟩ = some (.int .u32 (gs : Int)) ∧ w'.cell? ⟨w.heap.size + 1, 0, none⟩ = some (.int .u32 (sq : Int)) ∧ w'.cell? ⟨w.heap.size + 1 + 1, 0, none⟩ = some (.int .i64 (q : Int)))) (w2.alloc (.cells #[.int .u32 (gs : Int), .int .u32 (sq : Int), .int .i64 (k : Int), .int .i64 (q : Int), .slice A3 s c3] 73)) := ⟨(World.cell?_alloc_lt w2 _ _ (Nat.lt_of_lt_of_le h4.lt hs3)).trans s2.1, (World.cell?_alloc_lt w2 _ _ (Nat.lt_of_lt_of_le hS.g0.lt hs3)).trans s2.2.1, (World.cell?_alloc_lt w2 _ _ (Nat.lt_of_lt_of_le hS.g1.lt hs3)).trans s2.2.2.1, (World.cell?_alloc_lt w2 _ _ (Nat.lt_of_lt_of_le hS.g2.lt hs3)).trans s2.2.2.2⟩
    refine hK.out _ _ (fun _ => s4) ?_
    clear hK K
    try simp only [Act.put, List.getElem_toArray, List.getElem_cons_succ, List.getElem_cons_zero, List.setIfInBounds_toArray, List.set_cons_zero, List.set_cons_succ]
    refine wpAnyL_one (i := 9) (by kernel_rfl) rfl (fun K hK => ?_)
    refine step_appR rfl (.tmp 21) (.tmp 29) 68 rfl 73 _ 5 48 Tryd.underlying68 clinfo rfl (by omega) (by omega) rfl ((h1.below hb3).alloc _) (ad := ⟨w2.heap.size, 0, none⟩) (m := 1) (c' := 1) [.int .u32 (gs : Int), .int .u32 (sq : Int), .int .i64 (k : Int), .int .i64 (q : Int), .slice A3 s c3] rfl rfl (cells_new w2 #[.int .u32 (gs : Int), .int .u32 (sq : Int), .int .i64 (k : Int), .int .i64 (q : Int), .slice A3 s c3] 73 (g := w2.heap.size) rfl) (by intro u hu; exact vs_one ⟨Cl.cellAt gs sq l k, A3, s, c3⟩ u (by rw [hel]; exact hu)) (by omega) (by have := hS.bn; omega) ?_
    intro A5 c5 w5 hown hg5 hA5
    rw [← hel] at hown
    rw [← hel] at hg5
    have sp := sp_step hS rfl hS.bn h1 h2 h3 h4 hb3 hown3 hown hg5
    have s5 : ((fun w' => w'.cell? ⟨w.heap.size + 1 + 1 + 1, 0, none⟩ = some (.slice A k c2) ∧ w'.cell? ⟨w.heap.size, 0, none⟩ = some (.int .u32 (gs : Int)) ∧ w'.cell? ⟨w.heap.size + 1, 0, none⟩ = some (.int .u32 (sq : Int)) ∧ w'.cell? ⟨w.heap.size + 1 + 1, 0, none⟩ = some (.int .i64 (q : Int)))) w5 := ⟨sp.2.2.2.2.1.cell 0, sp.2.2.2.2.2.1.cell 0, sp.2.2.2.2.2.2.1.cell 0, sp.2.2.2.2.2.2.2.cell 0⟩
    have c5b : w5.cell? ⟨w.heap.size + 1 + 1 + 1, 0, none⟩ = some (.slice A k c2) := s5.1
    have f5 := sp.2.2.2.2.1.frozen 0
    have f5b : w5.frozen? ⟨w.heap.size + 1 + 1 + 1, 0, none⟩ = false := f5
    have SP := Lib.hid sp
    clear sp hown hg5 hA5 h1 h2 h3 h4 ho3 hown3 hel
    refine hK.out _ _ (fun _ => s5) ?_
    clear hK K
    try simp only [Act.put, List.getElem_toArray, List.getElem_cons_succ, List.getElem_cons_zero, List.setIfInBounds_toArray, List.set_cons_zero, List.set_cons_succ]
    refine wpAnyL_one (i := 10) (by kernel_rfl) rfl (fun K hK => ?_)
    go_simp
    refine hK.out _ _ (fun h => absurd (by simp) h) ?_
    clear hK K
    try simp only [Act.put, List.getElem_toArray, List.getElem_cons_succ, List.getElem_cons_zero, List.setIfInBounds_toArray, List.set_cons_zero, List.set_cons_succ]
    refine wpAnyL_done (by kernel_rfl) ?_ _
    show Exit.inBlock 1 _ .normal _ _
    gi_wp2
    exact sp_close SP.out
  case done =>
    intro D W hD hS hK
    obtain ⟨A, c2, xs, h1, h2, h3, h4⟩ := hS.ex
    rw [List.length_range] at h1 h4
    have c0 : W.cell? ⟨w.heap.size + 1 + 1 + 1, 0, none⟩ = some (.slice A q c2) := h4.cell 0
    have hb := hS.bel
    have HD := Lib.hid (And.intro h1 (And.intro h2 (And.intro h3 hb)))
    clear h1 h2 h3 h4 hS hb
    gi_wp2
    go_wp2_with fail
    refine ⟨by simp, .inl ⟨_, _, rfl, run_takeDeferred hK, ?_⟩⟩
    have hg6 := grownBy_putObj' W D (.deferred none)
    refine ⟨_, results_tmp2 rfl _ _ _, A, q, c2, xs, by rw [HP.out.1]; rfl, ?_, fun e he => ?_, by rw [HD.out.2.2.1]; exact HP.out.2.1, HD.out.2.2.2.grown hg6 HD.out.2.2.2.size (fun k e => by cases e; simp at hD; omega)⟩
    · exact (HD.out.1.kept hg6 (ownR_ne HD.out.1 hK rfl)).mono (by omega)
    · exact ((HD.out.2.1 e he).kept hg6 (own_ne (HD.out.2.1 e he).own.own hK rfl)).mono (by omega)
end Go.Proofs.YtdlcngmcjidomaaDoor
