/- disk.Image. No condition. -/
import Derived.Test.YtkjmccicdjkccaaDiskF
namespace Go.Proofs.Ytkjmccicdjkccaa
set_option linter.unusedSimpArgs false
set_option linter.unusedVariables false
open Go.RowKit

theorem binfo : (Try.prog.info? 29).map (fun i => (i.zero, i.size, i.bytes)) = some (some (.slice none 0 0), 1, 24) := by kernel_rfl

set_option maxRecDepth 100000 in
theorem clone_nil (n c : Nat) (w : World) :
    Calls Try.prog 27 #[.slice none n c] w fun e w' => e = .returned (.slice none 0 0) ∧ w = w' := by
  have q22 : ∀ (w : World) (a : Option Addr) (n c n' c' : Nat), (binOp .eql 29 (.slice a n c) (.slice none n' c')).run Try.prog w = .ok (.bool a.isNone) w := fun w a n c n' c' => Lib.run_eql_slice_nil w _ _ a n c n' c' Try.underlying29
  go_enter Try.func27, Try.ntmps27
  go_wp2_with fail
  go_ret
  exact ⟨rfl, rfl⟩
/-- A copy of bytes. -/
theorem clone_el {w : World} {x : BEl} (h : x.In w) (hn : x.n ≤ 140737488355328) :
    Calls Try.prog 27 #[.slice x.A x.n x.c] w fun e w' => ∃ A n c, e = .returned (.slice A n c) ∧ BEl.In w' ⟨A, n, c, x.l⟩ ∧ Below w.heap.size w w' := by
  cases hA : x.A with
  | none => exact (clone_nil x.n x.c w).mono fun _ _ ⟨he, hw⟩ => by subst hw; exact ⟨none, 0, 0, he, by rw [h.nil.1 hA]; exact ⟨OwnI.nil_ .., by simp⟩, Below.refl _ _⟩
  | some ad =>
    have hr := h.ints
    rw [hA] at hr
    exact (clone_any (some ad) x.n x.c x.l w hr (by simp) hn).mono fun _ _ ⟨A', c', he, ho, hb⟩ => ⟨A', _, c', he, BEl.In.of_own ho (fun e => by have := h.nil.2 e; rw [hA] at this; cases this), hb⟩

section
variable {w w' : World} {T T1 : List Nat} {g : Nat} {s : DSt} {A A2 : Option Addr} {n c : Nat} {pA : Option Addr} {pn pc c2 : Nat} {xs : List BEl} {ys : List (Nat × BEl)}
/-- A slice of rows of bytes. -/
structure Img (w : World) (base : Nat) (A : Option Addr) (n c : Nat) (ls : List (List Nat)) : Prop where
  ex : ∃ xs : List BEl, OwnR w base 29 1 A n c (xs.map BEl.v) ∧ (∀ x ∈ xs, x.In w) ∧ ls = xs.map (·.l)
theorem Img.nil_ (w : World) (base : Nat) : Img w base none 0 0 [] := ⟨[], OwnR.nil_ .., fun _ h => (by cases h), rfl⟩
theorem Img.below {base : Nat} {ls : List (List Nat)} (h : Img w base A n c ls) (hb : Below w.heap.size w w') : Img w' base A n c ls := by
  obtain ⟨xs, h1, h2, h3⟩ := h.ex
  exact ⟨xs, h1.below hb, fun x hx => (h2 x hx).below hb, h3⟩
theorem Img.len {base : Nat} {ls : List (List Nat)} (h : Img w base A n c ls) : ls.length = n := by
  obtain ⟨xs, h1, h2, h3⟩ := h.ex
  have := h1.len
  rw [h3, List.length_map]
  simpa using this
theorem Img.moved {base : Nat} {ls : List (List Nat)} (h : Img w base A n c ls) (hn : NoU8 w T) (hm : Moved w w' T T1) (hA : ∀ ad, A = some ad → ad.block ∉ T) : Img w' base A n c ls := by
  obtain ⟨xs, h1, h2, h3⟩ := h.ex
  exact ⟨xs, h1.moved hm hA, fun x hx => (h2 x hx).stay hn hm, h3⟩
theorem Img.lt {base : Nat} {ls : List (List Nat)} (h : Img w base A n c ls) : ∀ ad, A = some ad → base ≤ ad.block ∧ ad.block < w.heap.size := by
  obtain ⟨xs, h1, _⟩ := h.ex
  exact h1.lt
theorem Img.get {base : Nat} {ls : List (List Nat)} {k : Nat} (h : Img w base A n c ls) (hk : k < n) : ∃ b x, A = some ⟨b, 0, none⟩ ∧ BEl.In w x ∧ ls[k]? = some x.l ∧ w.cell? ⟨b, k, none⟩ = some (.slice x.A x.n x.c) := by
  obtain ⟨xs, h1, h2, h3⟩ := h.ex
  have hl := h1.len
  rw [List.length_map, Nat.mul_one] at hl
  have hx : xs[k]? = some xs[k] := List.getElem?_eq_getElem (by omega)
  obtain ⟨b, e, _, _, hc, _⟩ := h1.get (j := k) (u := xs[k].v) (by rw [List.getElem?_map, hx]; rfl)
  exact ⟨b, xs[k], e, h2 _ (List.getElem_mem _), by rw [h3, List.getElem?_map, hx]; rfl, hc⟩
/-- A row more. -/
theorem Img.snoc {base : Nat} {x : BEl} (h2 : ∀ x ∈ xs, x.In w) (h1 : OwnR w base 29 1 A n c (xs.map BEl.v)) (hx : x.In w) (hp : OwnR w' base 29 1 A2 (n + 1) c2 (xs.map BEl.v ++ [x.v])) (hg : w.grownBy w' (A.map (·.block))) : Img w' base A2 (n + 1) c2 (xs.map (·.l) ++ [x.l]) := by
  have hm : Moved w w' (Ab A) (Ab A) := Moved.of_grown hg (fun k hk => by
    cases A with
    | none => cases hk
    | some ad => cases hk; simp [Ab])
  have hn : NoU8 w (Ab A) := h1.nou8 (by decide)
  refine ⟨xs ++ [x], by rw [List.map_append]; exact hp, fun y hy => ?_, by rw [List.map_append]; rfl⟩
  rcases List.mem_append.1 hy with hy | hy
  · exact (h2 y hy).stay hn hm
  · rw [List.mem_singleton] at hy
    subst hy
    exact hx.stay hn hm
end

set_option maxRecDepth 100000 in
set_option maxHeartbeats 1600000 in
theorem dimage_any {w : World} {T : List Nat} {g : Nat} {s : DSt} (D : DiskAt w T g s) :
    Calls Try.prog 19 #[.pointer (some ⟨g, 0, none⟩)] w fun e w' => ∃ A n c, e = .returned (.slice A n c) ∧ Img w' w.heap.size A n c s.sure ∧ Below w.heap.size w w' := by
  obtain ⟨A, n, c, pA, pn, pc, xs, ys, D⟩ := D.ex
  have c0 := D.c0
  have hn := D.n_eq
  have hm := D.wf.most
  have H := Lib.hid (And.intro D hn)
  have hn5 : n ≤ 512 := by omega
  clear D hn hm
  go_enter Try.func19, Try.ntmps19
  go_wp2_with fail
  go_loopw [3, 11] (fun v i wr => ∃ (k : Nat) (A2 : Option Addr) (c2 : Nat), k ≤ n ∧ i = .int .i64 k ∧ v = .slice A2 k c2 ∧ Img wr w.heap.size A2 k c2 (s.sure.take k) ∧ Below w.heap.size w wr) (fun _ i _ => n - (intOf i).toNat)
  case atStart => exact ⟨0, none, 0, Nat.zero_le _, rfl, rfl, Img.nil_ .., Below.refl _ _⟩
  case round =>
    obtain ⟨k, A2, c2, hk, rfl, rfl, hI, hb⟩ := hrel
    clear c0
    have D := H.out.1.below hb
    by_cases hkn : k < n
    · obtain ⟨x, b, _, hx, rfl, _, hc, _, hsx⟩ := D.sx hkn
      have hlt : (k : Int) < (n : Int) := by omega
      have hx64 : x.n ≤ 140737488355328 := by
        have h1 := hx.len
        rcases D.wf.getD k with e | e <;> rw [hsx] at e
        · rw [e] at h1; simp at h1; omega
        · omega
      have hts : s.sure.take (k + 1) = s.sure.take k ++ [x.l] := by
        have h1 := H.out.2
        rw [List.take_add_one, ← hsx, List.getD_eq_getElem?_getD, List.getElem?_eq_getElem (by omega)]
        rfl
      have HT := Lib.hid hts
      have hbs := hb.size
      clear D hsx hts
      go_wp2_with fail
      refine (clone_el hx hx64).mono ?_; rintro e w1 ⟨A3, n3, c3, rfl, hy, hb1⟩
      have hbs1 := hb1.size
      have hI1 := hI.below hb1
      have hB1 := Lib.hid (below_step hb hb1 hbs)
      clear hI hb hx hc hb1
      obtain ⟨xs2, h1, h2, h3⟩ := hI1.ex
      have H3 := Lib.hid h3
      clear h3 hI1
      have hcs := cells_new w1 #[.slice A3 n3 c3] 29 (g := w1.heap.size) rfl
      go_wp2_with (at_builtin; go_loud (refine wpList_appR _ rfl (.tmp 15) (.tmp 18) 43 rfl 29 _ 1 24 Try.underlying43 binfo rfl (by omega) (by omega) rfl (h1.alloc _) (ad := ⟨w1.heap.size, 0, none⟩) (m := 1) (c' := 1) [.slice A3 n3 c3] rfl rfl hcs (by intro u hu; simp only [List.mem_cons, List.not_mem_nil, or_false] at hu; rw [hu]; rfl) (by omega) (by simp; omega) ?_); intro A5 c5 w5 hown hg hA)
      have hI5 : Img w5 w.heap.size A5 (k + 1) c5 (s.sure.take (k + 1)) := by
        rw [HT.out, H3.out]
        exact Img.snoc (x := ⟨A3, n3, c3, x.l⟩) (fun x hx => (h2 x hx).alloc _) (h1.alloc _) (hy.alloc _) hown hg
      have hb5 : Below w.heap.size w w5 := below_own (hB1.out.alloc (by omega) _) hg (by simp; omega) (fun ad he => (h1.lt ad he).1)
      exact ⟨⟨k + 1, A5, c5, by omega, by go_num, rfl, hI5, hb5⟩, by simp [intOf]; omega⟩
    · obtain rfl : k = n := by omega
      have H1 := Lib.hid (List.take_of_length_le (Nat.le_of_eq H.out.2))
      clear D
      go_wp2_with fail
      go_ret
      exact ⟨A2, k, c2, rfl, by rw [← H1.out]; exact hI, hb⟩
end Go.Proofs.Ytkjmccicdjkccaa
