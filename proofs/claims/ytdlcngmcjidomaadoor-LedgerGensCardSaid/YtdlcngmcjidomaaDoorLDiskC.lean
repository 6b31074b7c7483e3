/- disk.next and disk.line: a channel of choices, in one goroutine. No condition but that there are fewer than 2^40 choices. -/
import Derived.Test.YtdlcngmcjidomaaDoorGDB
import Derived.Test.YtdlcngmcjidomaaDoorChan
import Derived.Conc.SmallLaws
import Derived.Conc.EventLaws
namespace Go.Proofs.YtdlcngmcjidomaaDoor
set_option linter.unusedSimpArgs false
set_option linter.unusedVariables false
open Go.RowKit Go.Conc

/-- A channel of whole numbers, waiting. -/
structure ChAt (w : World) (g : Nat) (shut : Bool) (cap : Nat) (xs : List Nat) : Prop where
  ex : ∃ s r tm, w.heap[g]? = some (.chan cap (xs.map fun (x : Nat) => Value.int .i64 (x : Int)).toArray shut s r tm)

section
variable {w w' w2 : World} {T T1 : List Nat} {g cap : Nat} {b : Bool} {xs : List Nat}
theorem ChAt.lt (h : ChAt w g b cap xs) : g < w.heap.size := by
  obtain ⟨_, _, _, h⟩ := h.ex
  exact (Array.getElem?_eq_some_iff.1 h).1
theorem ChAt.moved (h : ChAt w g b cap xs) (hm : Moved w w' T T1) (hT : g ∉ T) : ChAt w' g b cap xs := by
  have hl := h.lt
  obtain ⟨s, r, tm, h⟩ := h.ex
  exact ⟨s, r, tm, (hm.block g hl hT).trans h⟩
theorem ChAt.below (h : ChAt w g b cap xs) (hb : Below w.heap.size w w') : ChAt w' g b cap xs := by
  have hl := h.lt
  obtain ⟨s, r, tm, h⟩ := h.ex
  exact ⟨s, r, tm, (hb.block g hl).trans h⟩
theorem ChAt.drew (h : ChAt w g b cap xs) : ChAt w.drew g b cap xs := ⟨h.ex⟩
theorem chan_ne {k : Nat} {buf : Array Value} {cl : Bool} {s r : Nat} {tm : Bool} (h : g ≠ k) : (w.setChan g cap buf cl s r tm).heap[k]? = w.heap[k]? := by
  unfold World.setChan
  exact Array.getElem?_setIfInBounds_ne h
theorem moved_chan (hT : g ∈ T) (cap : Nat) (buf : Array Value) (cl : Bool) (s r : Nat) (tm : Bool) : Moved w (w.setChan g cap buf cl s r tm) T T :=
  ⟨rfl, rfl, rfl, Nat.le_of_eq (size_setChan ..).symm, fun k _ hk => chan_ne (fun e => hk (e ▸ hT)), fun _ h => .inl h⟩
end

set_option maxRecDepth 100000 in
theorem next_some {w : World} {g cap x : Nat} {xs : List Nat} (h : ChAt w g true cap (x :: xs)) :
    Calls Tryd.prog 43 #[.chan (some g)] w fun e w' => e = .returned (.int .i64 (x : Int)) ∧ ChAt w' g true cap xs ∧ Moved w w' [g] [g] := by
  have hl := h.lt
  obtain ⟨s, r, tm, h⟩ := h.ex
  refine calls_of_codeN Tryd.func43 rfl (fun _ h => by cases h.1) ?_
  simp only [Tryd.ntmps43, List.size_toArray, List.length_cons, List.length_nil, Nat.reduceAdd, Nat.reduceSub, Array.replicate_succ, Array.replicate_zero, List.push_toArray, List.append_toArray, List.nil_append, List.cons_append]
  refine CodeN.seq_k (fun K hK => ?_)
  go_wp2_with fail
  refine CodeN.seq ?_
  refine CodeN.seq_k (fun K hK => ?_)
  go_wp2_with fail
  refine CodeN.seq ?_
  refine CodeN.region ?_
  refine SemN.sel_buf (c := g) (cap := cap) (s := s) (r := r) (tm := tm) (closed := true) (z := .int .i64 0) rfl (by kernel_rfl) (by simp [go_sem, execOp, rcase, Act.eval]) h (by simp) ?_
  refine SemN.pure (.int .i64 0) rfl (by kernel_rfl) (by simp [go_sem, execOp, Act.eval]) ?_
  refine SemN.pure (.bool true) rfl (by kernel_rfl) (by simp [go_sem, execOp, Act.eval]) ?_
  refine SemN.nil ?_
  refine CodeN.of_k (fun K hK => ?_)
  go_wp2_with fail
  go_ret
  refine ⟨rfl, ⟨s, r + 1, tm, ?_⟩, moved_chan (by simp) ..⟩
  rw [heap_setChan _ _ _ _ _ _ _ _ hl, List.take_of_length_le (by simp)]

set_option maxRecDepth 100000 in
theorem next_none {w : World} {g cap : Nat} (h : ChAt w g true cap []) :
    Calls Tryd.prog 43 #[.chan (some g)] w fun e w' => e = .returned (.int .i64 0) ∧ w = w' := by
  have hl := h.lt
  obtain ⟨s, r, tm, h⟩ := h.ex
  refine calls_of_codeN Tryd.func43 rfl (fun _ h => by cases h.1) ?_
  simp only [Tryd.ntmps43, List.size_toArray, List.length_cons, List.length_nil, Nat.reduceAdd, Nat.reduceSub, Array.replicate_succ, Array.replicate_zero, List.push_toArray, List.append_toArray, List.nil_append, List.cons_append]
  refine CodeN.seq_k (fun K hK => ?_)
  go_wp2_with fail
  refine CodeN.seq ?_
  refine CodeN.seq_k (fun K hK => ?_)
  go_wp2_with fail
  refine CodeN.seq ?_
  refine CodeN.region ?_
  refine SemN.sel_shut (c := g) (cap := cap) (s := s) (r := r) (tm := tm) (z := .int .i64 0) rfl (by kernel_rfl) (by simp [go_sem, execOp, rcase, Act.eval]) h ?_
  refine SemN.pure (.int .i64 0) rfl (by kernel_rfl) (by simp [go_sem, execOp, Act.eval]) ?_
  refine SemN.pure (.bool true) rfl (by kernel_rfl) (by simp [go_sem, execOp, Act.eval]) ?_
  refine SemN.nil ?_
  refine CodeN.of_k (fun K hK => ?_)
  go_wp2_with fail
  refine CodeN.of_wp ?_
  go_wp2_with fail
  go_ret
  exact ⟨rfl, rfl⟩

/-- The next choice. -/
theorem next_any {w : World} {g cap : Nat} {xs : List Nat} (h : ChAt w g true cap xs) :
    Calls Tryd.prog 43 #[.chan (some g)] w fun e w' => e = .returned (.int .i64 (xs.headD 0 : Nat)) ∧ ChAt w' g true cap xs.tail ∧ Moved w w' [g] [g] := by
  cases xs with
  | nil => exact (next_none h).mono fun _ _ ⟨he, hw⟩ => by subst hw; exact ⟨he, h, Moved.refl _ _⟩
  | cons x xs => exact next_some h

theorem dinfo_int : (Tryd.prog.info? 3).map (·.bytes) = some 8 := by kernel_rfl
theorem chan_new (w : World) (cap : Nat) : ChAt (w.alloc (.chan cap #[] false 0 0 false)) w.heap.size false cap [] := ⟨0, 0, false, heap_alloc_new w _⟩
/-- The head of a round of line's loop. -/
structure LineI (w : World) (A : Option Addr) (n c : Nat) (l : List Nat) (m : Nat) (a : Act) (w' : World) : Prop where
  ex : ∃ (k : Nat) (u5 u12 u13 u14 u15 u16 u17 u18 u19 : Value), m + k = n ∧ a = ⟨#[.slice A n c, undef, .chan none, .chan (some w.heap.size), undef, u5, .slice A n c, .int .i64 n, .chan (some w.heap.size), .slice A n c, .int .i64 n, .int .i64 (k : Int), u12, u13, u14, u15, u16, u17, u18, u19, undef, undef], []⟩ ∧ ChAt w' w.heap.size false n ((l.take k).map (· % 3)) ∧ Below w.heap.size w w'

set_option maxRecDepth 100000 in
theorem line_any {w : World} {A : Option Addr} {n c : Nat} {l : List Nat} (hr : Ints w .u8 256 A n c l) (hn : n ≤ 1099511627776) :
    Calls Tryd.prog 42 #[.slice A n c] w fun e w' => ∃ g, e = .returned (.chan (some g)) ∧ w.heap.size ≤ g ∧ ChAt w' g true n (l.map (· % 3)) ∧ Below w.heap.size w w' := by
  obtain ⟨i0, hi, hz⟩ := Option.map_eq_some_iff.1 dinfo_int
  have hmk := run_makeChan (P := Tryd.prog) (w := w) Tryd.underlying84 hi .i64 n (by omega) (by rw [hz]; omega)
  have hb0 : Below w.heap.size w (w.alloc (.chan n #[] false 0 0 false)) := (Below.refl _ _).alloc (Nat.le_refl _) _
  have hc0 := chan_new w n
  have HB := Lib.hid (And.intro hb0 (And.intro hc0 hr))
  clear hb0 hc0 hr hi hz
  refine calls_of_codeN Tryd.func42 rfl (fun _ h => by obtain ⟨_, h, _⟩ := h; cases h) ?_
  simp only [Tryd.ntmps42, List.size_toArray, List.length_cons, List.length_nil, Nat.reduceAdd, Nat.reduceSub, Array.replicate_succ, Array.replicate_zero, List.push_toArray, List.append_toArray, List.nil_append, List.cons_append]
  refine CodeN.seq_k (fun K hK => ?_)
  go_wp2_with fail
  refine CodeN.seq_k (fun K hK => ?_)
  go_wp2_with fail
  clear hmk
  obtain ⟨hb0, hc0, hr⟩ := HB.out
  generalize hw1 : w.alloc (.chan n #[] false 0 0 false) = w1 at *
  clear hw1 HB
  refine CodeN.seq ?_
  refine CodeN.seq_k (fun K hK => ?_)
  go_wp2_with fail
  refine CodeN.block ?_
  refine CodeN.loop (LineI w A n c l) n ⟨0, undef, undef, undef, undef, undef, undef, undef, undef, undef, by omega, rfl, by simpa using hc0, hb0⟩ ?_
  rintro m a w2 ⟨k, u5, u12, u13, u14, u15, u16, u17, u18, u19, hmk, rfl, hc, hb⟩
  have hl := hr.len
  have hr := hr.below hb
  by_cases hk : k < n
  · have hlt : (k : Int) < (n : Int) := by omega
    obtain ⟨b, o, x, rfl, hx, hlx, hcell⟩ := hr.get hk
    refine CodeN.seq_k (fun K hK => ?_)
    go_wp2_with fail
    refine CodeN.seq_k (fun K hK => ?_)
    go_wp2_with fail
    refine CodeN.seq ?_
    refine CodeN.block ?_
    refine CodeN.seq_k (fun K hK => ?_)
    go_wp2_with fail
    refine CodeN.region ?_
    refine SemN.pure (.chan (some w.heap.size)) rfl (by kernel_rfl) (by simp [go_sem, execOp, Act.eval]) ?_
    refine SemN.pure (.int .u8 x) rfl (by kernel_rfl) (by simp [go_sem, execOp, Act.eval]) ?_
    refine SemN.pure (.int .i64 x) rfl (by kernel_rfl) (by simp [go_sem, execOp, Act.eval]; exact IntWalk.i64_in _ (by omega)) ?_
    refine SemN.pure (.int .i64 ((x % 3 : Nat) : Int)) rfl (by kernel_rfl) (by simp [go_sem, execOp, Act.eval]; exact Int.tmod_eq_emod_of_nonneg (by omega)) ?_
    have hc1 := hc.lt
    obtain ⟨s, r, tm, hc⟩ := hc.ex
    have hlm : ((List.take k l).map (· % 3)).length < n := by simp; omega
    refine SemN.send (c := w.heap.size) (cap := n) (s := s) (r := r) (tm := tm) (v := .int .i64 ((x % 3 : Nat) : Int)) (z := .tuple #[]) rfl (by kernel_rfl) (by simp [go_sem, execOp, Act.eval, scase]) hc (by simpa using hlm) ?_
    refine SemN.nil ?_
    refine CodeN.of_any (fun K hK => ?_)
    go_wp2_with fail
    refine ⟨m - 1, by omega, k + 1, _, _, _, _, _, _, _, _, _, by omega, rfl, ⟨s + 1, r, tm, ?_⟩, below_setChan hb (Nat.le_refl _) ..⟩
    rw [heap_setChan _ _ _ _ _ _ _ _ hc1, List.take_add_one, hlx]
    simp
  · refine CodeN.seq_k (fun K hK => ?_)
    go_wp2_with fail
    refine CodeN.seq_k (fun K hK => ?_)
    go_wp2_with fail
    have hc1 := hc.lt
    have hk' : k = n := by omega
    obtain ⟨s, r, tm, hc⟩ := hc.ex
    rw [hk', List.take_of_length_le (Nat.le_of_eq hl)] at hc
    clear hk' hk hmk
    have hcl := run_close_open (P := Tryd.prog) #[84] 0 hc
    have hfin : Below w.heap.size w { w2 with heap := w2.heap.setIfInBounds w.heap.size (.chan n ((l.map (· % 3)).map fun (x : Nat) => Value.int .i64 (x : Int)).toArray true s r tm) } := below_setChan hb (Nat.le_refl _) n _ true s r tm
    have hfin2 : ChAt { w2 with heap := w2.heap.setIfInBounds w.heap.size (.chan n ((l.map (· % 3)).map fun (x : Nat) => Value.int .i64 (x : Int)).toArray true s r tm) } w.heap.size true n (l.map (· % 3)) := ⟨s, r, tm, heap_setChan _ _ _ _ _ _ _ _ hc1⟩
    generalize { w2 with heap := w2.heap.setIfInBounds w.heap.size (.chan n ((l.map (· % 3)).map fun (x : Nat) => Value.int .i64 (x : Int)).toArray true s r tm) } = w3 at *
    have HF := Lib.hid (And.intro hfin hfin2)
    clear hfin hfin2 hc
    refine CodeN.seq_k (fun K hK => ?_)
    go_wp2_with fail
    refine CodeN.of_wp ?_
    go_wp2_with fail
    go_ret
    exact ⟨_, rfl, Nat.le_refl _, HF.out.2, HF.out.1⟩
end Go.Proofs.YtdlcngmcjidomaaDoor
