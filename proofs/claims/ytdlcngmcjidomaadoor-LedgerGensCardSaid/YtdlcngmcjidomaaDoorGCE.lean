/- Texts of several parts in one: CellE, CellF, CellG, CellH. Each says what it proves; no condition but those named there. -/
import Derived.Test.YtdlcngmcjidomaaDoorCellD
import Derived.Deep.CutBlock
import Derived.Test.YtdlcngmcjidomaaDoorRowsB
import Derived.Test.YtdlcngmcjidomaaDoorDisk
/- The contracts of heijunkaref06.May, word, Need, write and Encode. No condition but the reach of a slice. -/
namespace Go.Proofs.YtdlcngmcjidomaaDoor
set_option linter.unusedSimpArgs false
set_option linter.unusedVariables false
open Go.RowKit

theorem own_dis {w w' : World} {base : Nat} {kd : IntKind} {lim : Nat} {e : TypeId} {A : Option Addr} {n c : Nat} {l : List Nat} {A' : Option Addr} {n' c' : Nat} {l' : List Nat} (h : OwnI w base kd lim e A n c l) (h' : OwnI w' w.heap.size kd lim e A' n' c' l') : Dis A A' :=
  ⟨fun x y hx hy e => by have := (h.lt_ x hx).2; have := (h'.lt_ y hy).1; omega⟩
theorem own_apart {w : World} {kd : IntKind} {lim : Nat} {e : TypeId} {A : Option Addr} {n c : Nat} {l : List Nat} {g b : Nat} (h : OwnI w b kd lim e A n c l) (hg : g + 1 ≤ b) : some g ≠ A.map (·.block) := fun e => by
  cases A with
  | none => cases e
  | some ad => have := (h.lt_ ad rfl).1; injection e with e; have e : g = ad.block := e; omega
theorem need_loop {n k : Nat} (h1 : 1 ≤ n) (h2 : n ≤ 392) (hk : 1 ≤ k) (hk2 : 49 * (k - 1) < n) (h : n ≤ 49 * k) : k = Cl.need n := by
  rw [(Cl.need_pos h1 h2).1]; omega
set_option maxRecDepth 100000 in
set_option maxHeartbeats 800000 in
theorem rneed_any (n : Int) (w : World) (h1 : -9223372036854775808 ≤ n) (h2 : n ≤ 9223372036854775807) :
    Calls Tryd.prog 14 #[.int .i64 n] w fun e w' => e = .returned (.int .i64 (Cl.need n.toNat : Nat)) ∧ w = w' := by
  by_cases h3 : n < 1
  · have HZ := Lib.hid (Cl.need_zero (n := n.toNat) (by omega))
    go_enter Tryd.func14, Tryd.ntmps14
    go_wp2_with fail
    go_ret
    exact ⟨by rw [HZ.out]; rfl, rfl⟩
  by_cases h4 : 392 < n
  · have HZ := Lib.hid (Cl.need_zero (n := n.toNat) (by omega))
    go_enter Tryd.func14, Tryd.ntmps14
    go_wp2_with fail
    go_ret
    exact ⟨by rw [HZ.out]; rfl, rfl⟩
  · obtain ⟨m, rfl⟩ : ∃ m : Nat, n = (m : Int) := ⟨n.toNat, by omega⟩
    have k1 : 1 ≤ m := by omega
    have k2 : m ≤ 392 := by omega
    go_enter Tryd.func14, Tryd.ntmps14
    go_wp2_with fail
    go_loop [3] (fun v => ∃ k : Nat, 1 ≤ k ∧ 49 * (k - 1) < m ∧ v = .int .i64 k) (fun v => 400 - (intOf v).toNat)
    case atStart => exact ⟨1, by omega, by omega, rfl⟩
    case round =>
      obtain ⟨k, hk1, hk2, rfl⟩ := hrel
      by_cases hlt : 49 * k < m
      · have hl : 49 * (k : Int) < (m : Int) := by omega
        have hk0 : (k : Int) ≤ 8 := by omega
        have hk00 : (0 : Int) ≤ (k : Int) := by omega
        go_wp2_with fail
        go_round
        case rel => exact ⟨k + 1, by omega, by omega, by go_num⟩
        case measure => simp [intOf]; omega
      · have hl : ¬ 49 * (k : Int) < (m : Int) := by omega
        have hk0 : (k : Int) ≤ 9 := by omega
        have hk00 : (0 : Int) ≤ (k : Int) := by omega
        have HK := Lib.hid (need_loop k1 k2 hk1 hk2 (by omega))
        go_wp2_with fail
        go_ret
        exact ⟨ret_int (by rw [← HK.out]), rfl⟩
theorem encode_any (gs sq : Nat) (hgs : gs < 4294967296) (hsq : sq < 4294967296) (pt ps : Int) (hp : -9223372036854775808 ≤ ps ∧ ps ≤ 9223372036854775807) (A : Option Addr) (n c : Nat) (l : List Nat) (w : World) (hr : Ints w .u8 256 A n c l) :
    Calls Tryd.prog 37 #[.agg #[.int .u32 (gs : Int), .int .u32 (sq : Int), .int .i64 pt, .int .i64 ps, .slice A n c]] w fun e w' => ∃ A' m c', e = .returned (.tuple #[.slice A' m c', .int .i64 (Cl.encCode ⟨gs, sq, pt, ps, l⟩)]) ∧ OwnI w' w.heap.size .u8 256 5 A' m c' (Cl.encL ⟨gs, sq, pt, ps, l⟩) ∧ Below w.heap.size w w' := by
  have hmay : Cl.may ⟨gs, sq, pt, ps, l⟩ = mayN pt ps n := by rw [may_eq, hr.len]
  cases hm : mayN pt ps n with
  | false =>
    have e1 : Cl.encCode ⟨gs, sq, pt, ps, l⟩ = 1 := by unfold Cl.encCode; rw [hmay, hm]; rfl
    have e2 : Cl.encL ⟨gs, sq, pt, ps, l⟩ = [] := by unfold Cl.encL; rw [hmay, hm]; rfl
    rw [e1, e2]
    exact (encode_no gs sq pt ps A n c w hp hm).mono fun _ _ ⟨he, hb⟩ => ⟨none, 0, 0, he, OwnI.nil_ .., hb⟩
  | true =>
    have e1 : Cl.encCode ⟨gs, sq, pt, ps, l⟩ = 0 := by unfold Cl.encCode; rw [hmay, hm]; rfl
    have e2 : Cl.encL ⟨gs, sq, pt, ps, l⟩ = Cl.enc ⟨gs, sq, pt, ps, l⟩ := by unfold Cl.encL; rw [hmay, hm]; rfl
    rw [e1, e2]
    obtain ⟨h1, h2, h3, h4, _⟩ := mayN_iff.1 hm
    obtain ⟨p, rfl⟩ : ∃ p : Nat, pt = (p : Int) := ⟨pt.toNat, by omega⟩
    obtain ⟨q, rfl⟩ : ∃ q : Nat, ps = (q : Int) := ⟨ps.toNat, by omega⟩
    exact (encode_yes gs sq hgs hsq p q A n c l w hr hm).mono fun _ _ ⟨A', c', he, ho, hb⟩ => ⟨A', 64, c', he, ho, hb⟩
end Go.Proofs.YtdlcngmcjidomaaDoor

/- The contract of heijunkaref06.Decode. No condition but the reach of a slice. -/
namespace Go.Proofs.YtdlcngmcjidomaaDoor
set_option linter.unusedSimpArgs false
set_option linter.unusedVariables false
open Go.RowKit

theorem wrap32_in (n : Int) (h0 : 0 ≤ n) (h1 : n < 4294967296) : IntKind.u32.wrap n = n := by rw [IntKind.wrap_u32]; omega
theorem num_cons (x : Nat) (m : List Nat) : Crc.num (x :: m) = x + 256 * Crc.num m := rfl
theorem num_up {l : List Nat} {a k x : Nat} (hx : l[a]? = some x) : Crc.num ((l.drop a).take (k + 1)) = x + 256 * Crc.num ((l.drop (a + 1)).take k) := by
  obtain ⟨ha, e⟩ := List.getElem?_eq_some_iff.1 hx
  rw [List.drop_eq_getElem_cons ha, List.take_succ_cons, num_cons, e]
theorem num_take_lt' {l : List Nat} (hl : ∀ c ∈ l, c < 256) (a k : Nat) (hk : k ≤ 4) : Crc.num ((l.drop a).take k) < 2 ^ (8 * k) := num_take_lt (fun c hc => hl c (List.mem_of_mem_drop hc)) k hk

end Go.Proofs.YtdlcngmcjidomaaDoor

/- Cells in rows; heijunkaref06.Alike. No condition but the reach of a slice. -/
namespace Go.Proofs.YtdlcngmcjidomaaDoor
set_option linter.unusedSimpArgs false
set_option linter.unusedVariables false
open Go.RowKit

/-- A cell, its bytes in a slice. -/
structure CEl where
  (x : Cl) (A : Option Addr) (n c : Nat)
instance : Inhabited CEl := ⟨⟨Cl.zero, none, 0, 0⟩⟩
def CEl.vs (e : CEl) : List Value := [.int .u32 (e.x.gen : Int), .int .u32 (e.x.seq : Int), .int .i64 e.x.part, .int .i64 e.x.parts, .slice e.A e.n e.c]
structure CEl.In (w : World) (e : CEl) : Prop where
  ints : Ints w .u8 256 e.A e.n e.c e.x.data
  gen : e.x.gen < 4294967296
  seq : e.x.seq < 4294967296
  part : -9223372036854775808 ≤ e.x.part ∧ e.x.part ≤ 9223372036854775807
  parts : -9223372036854775808 ≤ e.x.parts ∧ e.x.parts ≤ 9223372036854775807
  most : e.n ≤ 140737488355000
def cflat (xs : List CEl) : List Value := xs.flatMap CEl.vs
theorem cflat_len (xs : List CEl) : (cflat xs).length = xs.length * 5 := by
  induction xs with
  | nil => rfl
  | cons y ys ih => unfold cflat at *; simp only [List.flatMap_cons, List.length_append, List.length_cons, ih, CEl.vs, List.length_nil]; omega
theorem cflat_get {xs : List CEl} {k : Nat} {e : CEl} (h : xs[k]? = some e) (i : Nat) (hi : i < 5) : (cflat xs)[k * 5 + i]? = e.vs[i]? := by
  induction xs generalizing k with
  | nil => simp at h
  | cons x xs ih =>
    cases k with
    | zero =>
      simp only [List.getElem?_cons_zero, Option.some.injEq] at h
      subst h
      unfold cflat
      rw [List.flatMap_cons, Nat.zero_mul, Nat.zero_add, List.getElem?_append_left (by simpa [CEl.vs] using hi)]
    | succ k =>
      have := ih (k := k) (by simpa using h)
      unfold cflat at *
      rw [List.flatMap_cons, List.getElem?_append_right (by simp [CEl.vs]; omega)]
      have e5 : (k + 1) * 5 + i - (CEl.vs x).length = k * 5 + i := by simp [CEl.vs]; omega
      rw [e5, this]
theorem cflat_append (xs ys : List CEl) : cflat (xs ++ ys) = cflat xs ++ cflat ys := by unfold cflat; rw [List.flatMap_append]
theorem cflat_one (e : CEl) (xs : List CEl) : ∀ u ∈ cflat xs, u.oneCell' = true := by
  intro u hu
  unfold cflat at hu
  obtain ⟨e, _, hu⟩ := List.mem_flatMap.1 hu
  simp only [CEl.vs, List.mem_cons, List.not_mem_nil, or_false] at hu
  rcases hu with rfl | rfl | rfl | rfl | rfl <;> rfl
/-- A slice that reads as cells. -/
structure CRd (w : World) (A : Option Addr) (n c : Nat) (xs : List CEl) : Prop where
  len : xs.length = n
  cap : n ≤ c
  at_ : 0 < n → ∃ b o, A = some ⟨b, o, none⟩ ∧ b < w.heap.size ∧ ∀ j u, (cflat xs)[j]? = some u → w.cell? ⟨b, o + j, none⟩ = some u
  ok : ∀ e ∈ xs, e.In w
section
variable {w w' : World} {A : Option Addr} {n c : Nat} {xs : List CEl}
theorem CEl.In.below {e : CEl} (h : e.In w) (hb : Below w.heap.size w w') : e.In w' := ⟨h.ints.below hb, h.gen, h.seq, h.part, h.parts, h.most⟩
theorem CEl.In.drewN {e : CEl} (h : e.In w) (q : Nat) : e.In (w.drewN q) := ⟨h.ints.drewN q, h.gen, h.seq, h.part, h.parts, h.most⟩
theorem CEl.In.len {e : CEl} (h : e.In w) : e.x.data.length = e.n := h.ints.len
theorem CEl.In.ok {e : CEl} (h : e.In w) : e.x.Ok := ⟨h.gen, h.seq, h.ints.lt⟩
theorem CRd.below (h : CRd w A n c xs) (hb : Below w.heap.size w w') : CRd w' A n c xs :=
  ⟨h.len, h.cap, fun hn => by
    obtain ⟨b, o, e, hbl, hc⟩ := h.at_ hn
    have := hb.size
    exact ⟨b, o, e, by omega, fun j u hu => (hb.cell (p := ⟨b, o + j, none⟩) hbl).trans (hc j u hu)⟩, fun x hx => (h.ok x hx).below hb⟩
theorem CRd.drewN (h : CRd w A n c xs) (q : Nat) : CRd (w.drewN q) A n c xs := ⟨h.len, h.cap, fun hn => h.at_ hn, fun x hx => (h.ok x hx).drewN q⟩
theorem CRd.nil_ (w : World) (A : Option Addr) (c : Nat) : CRd w A 0 c [] := ⟨rfl, Nat.zero_le _, fun h => absurd h (by omega), fun _ h => by cases h⟩
theorem CRd.get {k : Nat} (h : CRd w A n c xs) (hk : k < n) : ∃ b o e, A = some ⟨b, o, none⟩ ∧ b < w.heap.size ∧ xs[k]? = some e ∧ e.In w ∧ w.cell? ⟨b, o + k * 5, none⟩ = some (.int .u32 (e.x.gen : Int)) ∧ w.cell? ⟨b, o + k * 5 + 1, none⟩ = some (.int .u32 (e.x.seq : Int)) ∧
    w.cell? ⟨b, o + k * 5 + 2, none⟩ = some (.int .i64 e.x.part) ∧ w.cell? ⟨b, o + k * 5 + 3, none⟩ = some (.int .i64 e.x.parts) ∧ w.cell? ⟨b, o + k * 5 + 4, none⟩ = some (.slice e.A e.n e.c) := by
  obtain ⟨b, o, e, hb, hc⟩ := h.at_ (by omega)
  have hl : k < xs.length := by rw [h.len]; exact hk
  have hx : xs[k]? = some xs[k] := List.getElem?_eq_getElem hl
  exact ⟨b, o, xs[k], e, hb, hx, h.ok _ (List.getElem_mem hl), hc (k * 5) _ (by have := cflat_get hx 0 (by omega); rw [Nat.add_zero] at this; rw [this]; rfl), by rw [Nat.add_assoc]; exact hc (k * 5 + 1) _ (by rw [cflat_get hx 1 (by omega)]; rfl), by rw [Nat.add_assoc]; exact hc (k * 5 + 2) _ (by rw [cflat_get hx 2 (by omega)]; rfl),
    by rw [Nat.add_assoc]; exact hc (k * 5 + 3) _ (by rw [cflat_get hx 3 (by omega)]; rfl), by rw [Nat.add_assoc]; exact hc (k * 5 + 4) _ (by rw [cflat_get hx 4 (by omega)]; rfl)⟩
/-- What the call owns reads as cells. -/
theorem CRd.of_own {base : Nat} {e : TypeId} (h : OwnR w base e 5 A n c (cflat xs)) (hx : ∀ e ∈ xs, e.In w) : CRd w A n c xs :=
  ⟨by have := h.len; rw [cflat_len] at this; omega, h.cap, fun hn => by
    rcases h.form with ⟨_, rfl, _⟩ | ⟨g, cur, rfl, _, hg, _⟩
    · omega
    · refine ⟨g, 0, rfl, hg.lt, fun j u hu => ?_⟩
      rw [Nat.zero_add]
      exact h.get' hu, hx⟩
end
theorem u32_ne {a b : Nat} (h : a ≠ b) : ((a : Int) != (b : Int)) = true := by simp; omega
theorem u32_eq {a b : Nat} (h : a = b) : ((a : Int) != (b : Int)) = false := by simp [h]
theorem int_ne {a b : Int} (h : a ≠ b) : (a != b) = true := by simpa using h
theorem int_eq {a b : Int} (h : a = b) : (a != b) = false := by simp [h]
theorem cl_ext {a b : Cl} (h1 : a.gen = b.gen) (h2 : a.seq = b.seq) (h3 : a.part = b.part) (h4 : a.parts = b.parts) (h5 : a.data = b.data) : a = b := by
  obtain ⟨a1, a2, a3, a4, a5⟩ := a
  obtain ⟨b1, b2, b3, b4, b5⟩ := b
  dsimp only at h1 h2 h3 h4 h5
  subst h1; subst h2; subst h3; subst h4; subst h5; rfl

end Go.Proofs.YtdlcngmcjidomaaDoor

/- The contract of heijunkaref06.Split. No condition but the reach of a slice. -/
namespace Go.Proofs.YtdlcngmcjidomaaDoor
set_option linter.unusedSimpArgs false
set_option linter.unusedVariables false
open Go.RowKit

theorem clinfo : (Tryd.prog.info? 73).map (fun i => (i.zero, i.size, i.bytes)) = some (some (.agg #[.int .u32 0, .int .u32 0, .int .i64 0, .int .i64 0, .slice none 0 0]), 5, 48) := by kernel_rfl
theorem cflat_snoc (xs : List CEl) (e : CEl) : cflat (xs ++ [e]) = cflat xs ++ e.vs := by rw [cflat_append]; congr 1
theorem vs_one (e : CEl) : ∀ u ∈ e.vs, u.oneCell' = true := by
  intro u hu
  simp only [CEl.vs, List.mem_cons, List.not_mem_nil, or_false] at hu
  rcases hu with rfl | rfl | rfl | rfl | rfl <;> rfl
/-- A part of a record, where the record lies. -/
def cutAtEl (gs sq : Nat) (l : List Nat) (b o n c k : Nat) : CEl := ⟨Cl.cellAt gs sq l k, some ⟨b, o + 49 * k, none⟩, min 49 (n - 49 * k), c - 49 * k⟩
theorem cutAtEl_in {w : World} {gs sq b o n c k : Nat} {l : List Nat} (hr : Ints w .u8 256 (some ⟨b, o, none⟩) n c l) (hg : gs < 4294967296) (hs : sq < 4294967296) (hk : 49 * k < n) (hn : n ≤ 392) : (cutAtEl gs sq l b o n c k).In w := by
  have h1 := hr.cut (k := 49 * k) (by omega)
  have hc := hr.rd.cap
  rw [if_neg (by omega), Option.map_some, add_plain] at h1
  have h2 := h1.take (k := min 49 (n - 49 * k)) (c' := c - 49 * k) (by omega) (by omega)
  have hl := hr.len
  refine ⟨?_, hg, hs, ?_, ?_, ?_⟩
  · show Ints w .u8 256 _ _ _ ((l.drop (49 * k)).take 49)
    have e : (l.drop (49 * k)).take (min 49 (n - 49 * k)) = (l.drop (49 * k)).take 49 := by
      rcases Nat.le_total 49 (n - 49 * k) with h | h
      · rw [Nat.min_eq_left h]
      · rw [Nat.min_eq_right h, List.take_of_length_le (by rw [List.length_drop]; omega), List.take_of_length_le (by rw [List.length_drop]; omega)]
    rw [← e]; exact h2
  · show -9223372036854775808 ≤ ((k : Nat) : Int) ∧ ((k : Nat) : Int) ≤ 9223372036854775807
    omega
  · show -9223372036854775808 ≤ ((Cl.need l.length : Nat) : Int) ∧ ((Cl.need l.length : Nat) : Int) ≤ 9223372036854775807
    have := Cl.need_le l.length
    omega
  · show min 49 (n - 49 * k) ≤ 140737488355000
    omega
/-- What Split hands back. -/
def SplitPost (w : World) (gs sq : Nat) (l : List Nat) (e : Ending) (w' : World) : Prop :=
  ∃ A m c xs, e = .returned (.tuple #[.slice A m c, .int .i64 (Cl.splitCode l)]) ∧ OwnR w' w.heap.size 73 5 A m c (cflat xs) ∧ (∀ e ∈ xs, e.In w') ∧ xs.map (·.x) = Cl.split gs sq l ∧ Below w.heap.size w w'
theorem SplitPost.len {w w' : World} {A : Option Addr} {m c : Nat} {xs : List CEl} {gs sq : Nat} {l : List Nat} (h : OwnR w' w.heap.size 73 5 A m c (cflat xs)) (hx : xs.map (·.x) = Cl.split gs sq l) : m = Cl.need l.length ∧ m ≤ 8 := by
  have h1 := h.len
  rw [cflat_len] at h1
  have h2 := congrArg List.length hx
  rw [List.length_map, Cl.split_len] at h2
  have := Cl.need_le l.length
  omega
theorem split_nil {gs sq : Nat} {l : List Nat} (h : Cl.need l.length = 0) : Cl.split gs sq l = [] := by unfold Cl.split; rw [h]; rfl
theorem split_upto (gs sq : Nat) (l : List Nat) (b o n c : Nat) : ((List.range (Cl.need l.length)).map (cutAtEl gs sq l b o n c)).map (·.x) = Cl.split gs sq l := by
  rw [List.map_map]; rfl

end Go.Proofs.YtdlcngmcjidomaaDoor
