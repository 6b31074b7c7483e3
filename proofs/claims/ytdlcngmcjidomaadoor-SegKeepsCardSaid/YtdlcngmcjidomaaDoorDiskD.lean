/- disk.Read. No condition. -/
import Derived.Test.YtdlcngmcjidomaaDoorDiskB
namespace Go.Proofs.YtdlcngmcjidomaaDoor
set_option linter.unusedSimpArgs false
set_option linter.unusedVariables false
open Go.RowKit

section
variable {w w' : World} {T T1 : List Nat} {g : Nat} {s : DSt} {A : Option Addr} {n c : Nat} {pA : Option Addr} {pn pc : Nat} {xs : List BEl} {ys : List (Nat × BEl)}
theorem DiskIn.sx (h : DiskIn w T g s A n c pA pn pc xs ys) {i : Nat} (hi : i < n) : ∃ x b, xs[i]? = some x ∧ x.In w ∧ A = some ⟨b, 0, none⟩ ∧ b < w.heap.size ∧ w.cell? ⟨b, i, none⟩ = some (.slice x.A x.n x.c) ∧ w.frozen? ⟨b, i, none⟩ = false ∧ s.sure.getD i [] = x.l := by
  have hn := h.n_eq
  rw [h.es, List.length_map] at hn
  have hx : xs[i]? = some xs[i] := List.getElem?_eq_getElem (by omega)
  obtain ⟨b, e, _, hb, hc, hf⟩ := h.sure.get (j := i) (u := xs[i].v) (by rw [List.getElem?_map, hx]; rfl)
  exact ⟨xs[i], b, hx, h.xin _ (List.getElem_mem _), e, hb, hc, hf, by rw [h.es, List.getD_eq_getElem?_getD, List.getElem?_map, hx]; rfl⟩
theorem DiskIn.py (h : DiskIn w T g s A n c pA pn pc xs ys) {k : Nat} (hk : k < pn) : ∃ i y b, ys[k]? = some (i, y) ∧ y.In w ∧ pA = some ⟨b, 0, none⟩ ∧ b < w.heap.size ∧ w.cell? ⟨b, k * 2, none⟩ = some (.int .i64 (i : Int)) ∧ w.cell? ⟨b, k * 2 + 1, none⟩ = some (.slice y.A y.n y.c) ∧ s.pend[k]? = some (i, y.l) := by
  have hn := h.pn_eq
  rw [h.ep, List.length_map] at hn
  have hy : ys[k]? = some ys[k] := List.getElem?_eq_getElem (by omega)
  obtain ⟨h1, h2⟩ := flatW_get hy
  obtain ⟨b, e, _, hb, hc, _⟩ := h.pend.get h1
  obtain ⟨b', e', _, _, hc', _⟩ := h.pend.get h2
  rw [e] at e'
  cases e'
  exact ⟨ys[k].1, ys[k].2, b, hy, h.yin _ (List.getElem_mem _), e, hb, hc, hc', by rw [h.ep, List.getElem?_map, hy]; rfl⟩
theorem ret_vc {v : Value} {a b : Int} (h : a = b) : Ending.returned (.tuple #[v, .int .i64 a]) = .returned (.tuple #[v, .int .i64 b]) := by rw [h]
theorem BEl.In.alloc {x : BEl} (h : x.In w) (o : Obj) : x.In (w.alloc o) := ⟨h.own.alloc o, h.nil⟩
theorem BEl.In.drew {x : BEl} (h : x.In w) : x.In w.drew := ⟨h.own.drew, h.nil⟩
theorem BEl.In.of_own {base : Nat} {l : List Nat} (h : OwnI w base .u8 256 5 A n c l) (hne : l ≠ []) : BEl.In w ⟨A, n, c, l⟩ :=
  ⟨h.mono (Nat.zero_le _), ⟨(fun e => by
    dsimp only at e
    subst e
    rcases h.own.form with ⟨_, _, _, h4⟩ | ⟨_, _, h1, _⟩
    · exact List.map_eq_nil_iff.1 h4
    · cases h1), fun e => absurd e hne⟩⟩
theorem DiskIn.pn_le (h : DiskIn w T g s A n c pA pn pc xs ys) : (pn : Int) ≤ 9223372036854775807 := by
  rcases h.pend.form with ⟨_, rfl, _⟩ | ⟨_, _, _, _, _, h1, h2, _⟩
  · decide
  · unfold maxLen at h2; omega
theorem lastOf_64 (p : List (Nat × List Nat)) (i : Nat) (d : List Nat) (hp : ∀ x ∈ p, x.2.length = 64) (hd : d = [] ∨ d.length = 64) : DSt.lastOf p i d = [] ∨ (DSt.lastOf p i d).length = 64 := by
  revert d
  induction p with
  | nil => exact fun _ hd => hd
  | cons x p ih =>
    intro d hd
    rw [DSt.lastOf_cons]
    refine ih (fun y hy => hp y (List.mem_cons_of_mem _ hy)) _ ?_
    by_cases h : x.1 = i
    · rw [if_pos h]; exact .inr (hp x (by simp))
    · rw [if_neg h]; exact hd
theorem DSt.Wf.getD (h : s.Wf) (i : Nat) : s.sure.getD i [] = [] ∨ (s.sure.getD i []).length = 64 := by
  rw [List.getD_eq_getElem?_getD]
  cases hx : s.sure[i]? with
  | none => exact .inl rfl
  | some x => exact h.sure x (List.mem_of_getElem? hx)
theorem DSt.Wf.last (h : s.Wf) (k i : Nat) : DSt.lastOf (s.pend.take k) i (s.sure.getD i []) = [] ∨ (DSt.lastOf (s.pend.take k) i (s.sure.getD i [])).length = 64 :=
  lastOf_64 _ _ _ (fun x hx => (h.pend x (List.mem_of_mem_take hx)).2) (h.getD i)
theorem lastOf_take {p : List (Nat × List Nat)} {k i j : Nat} {d l : List Nat} (h : p[k]? = some (j, l)) : DSt.lastOf (p.take (k + 1)) i d = if j = i then l else DSt.lastOf (p.take k) i d := by
  rw [List.take_add_one, h, Option.toList_some, DSt.lastOf_snoc]
end

set_option maxRecDepth 100000 in
set_option maxHeartbeats 1600000 in
theorem dread_any {w : World} {T : List Nat} {g : Nat} {s : DSt} (D : DiskAt w T g s) (i : Int) :
    Calls Tryd.prog 56 #[.pointer (some ⟨g, 0, none⟩), .int .i64 i] w fun e w' => ∃ A n c, e = .returned (.tuple #[.slice A n c, .int .i64 (s.read i).2]) ∧ BEl.In w' ⟨A, n, c, (s.read i).1⟩ ∧ Below w.heap.size w w' := by
  have is := fun i => is_any D i
  have D0 := D
  obtain ⟨A, n, c, pA, pn, pc, xs, ys, D⟩ := D.ex
  have hn := D.n_eq
  have hpn := D.pn_eq
  have c2 := D.c2
  by_cases hd : s.down = true
  · rw [DSt.read_down hd]
    rw [hd] at c2
    clear D D0 hn hpn is hd
    go_enter Tryd.func56, Tryd.ntmps56
    go_wp2_with fail
    go_ret2
    exact ⟨none, 0, 0, rfl, ⟨OwnI.nil_ .., by simp⟩, Below.refl _ _⟩
  have hd : s.down = false := by simpa using hd
  rw [hd] at c2
  by_cases hi : s.has i = true
  · obtain ⟨j, rfl⟩ : ∃ j : Nat, i = (j : Int) := by
      have := of_decide_eq_true hi
      exact ⟨i.toNat, by omega⟩
    have hjn : j < n := by have := of_decide_eq_true hi; omega
    have is := is (j : Int)
    rw [hi] at is
    have R1 := fun hc => DSt.read_torn hd hi hc
    have R2 := fun hc => DSt.read_ok hd hi hc
    have hcur : s.cur j = DSt.lastOf (s.pend.take pn) j (s.sure.getD j []) := by rw [← hpn, List.take_length]; rfl
    rw [Int.toNat_natCast, hcur] at R1 R2
    obtain ⟨x, b, _, hxin, rfl, hb, hcx, _, hsx⟩ := D.sx hjn
    have HR1 := Lib.hid R1
    have HR2 := Lib.hid R2
    have HD := Lib.hid D
    have HX := Lib.hid hsx
    have HI := Lib.hid hxin
    have HB := Lib.hid D0
    have hpm := D.pn_le
    have c0 := D.c0
    have c1 := D.c1
    have hjn' : (j : Int) < (n : Int) := by omega
    clear D D0 hn hpn hd hi R1 R2 hcur hsx hxin hb
    go_enter Tryd.func56, Tryd.ntmps56
    go_wp2_with fail
    refine is.mono ?_; rintro e w1 ⟨rfl, rfl⟩
    clear is
    go_wp2_with fail
    go_loopw [6, 31] (fun t6 i wr => ∃ (k : Nat) (y : BEl), k ≤ pn ∧ i = .int .i64 k ∧ t6 = .slice y.A y.n y.c ∧ y.In wr ∧ y.l = DSt.lastOf (s.pend.take k) j (s.sure.getD j []) ∧ Below w.heap.size w wr) (fun _ i _ => pn - (intOf i).toNat)
    case atStart => exact ⟨0, x, Nat.zero_le _, rfl, rfl, HI.out, HX.out.symm, Below.refl _ _⟩
    case round =>
      obtain ⟨k, y, hk, rfl, rfl, hy, hyl, hb⟩ := hrel
      clear c0 c1 c2 hcx
      have D := HD.out.below hb
      by_cases hkp : k < pn
      · obtain ⟨i', y', b', hyk, hyin, rfl, hbl, hc0, hc1, hsp⟩ := D.py hkp
        have HL := Lib.hid (lastOf_take (i := j) (d := s.sure.getD j []) hsp)
        have HY := Lib.hid (And.intro hyl (And.intro hy hyin))
        clear D hsp hyk hyl
        have hlt : (k : Int) < (pn : Int) := by omega
        by_cases hij : i' = j
        · have he : ((i' : Int) == (j : Int)) = true := by simp [hij]
          have H1 := Lib.hid (HL.out.trans (if_pos hij))
          clear HL hij hy
          go_wp2_with fail
          go_roundw
          case rel => exact ⟨k + 1, y', by omega, by go_num, rfl, (HY.out.2.2.alloc _), H1.out.symm, hb.alloc (by have := hb.size; omega) _⟩
          case measure => simp [intOf]; omega
        · have he : ((i' : Int) == (j : Int)) = false := by simp; omega
          have H1 := Lib.hid (HL.out.trans (if_neg hij))
          clear HL hij hy
          go_wp2_with fail
          go_roundw
          case rel => exact ⟨k + 1, y, by omega, by go_num, rfl, (HY.out.2.1.alloc _), HY.out.1.trans H1.out.symm, hb.alloc (by have := hb.size; omega) _⟩
          case measure => simp [intOf]; omega
      · obtain rfl : k = pn := by omega
        have q22 : ∀ (w : World) (a : Option Addr) (n c n' c' : Nat), (binOp .eql 22 (.slice a n c) (.slice none n' c')).run Tryd.prog w = .ok (.bool a.isNone) w := fun w a n c n' c' => Lib.run_eql_slice_nil w _ _ a n c n' c' Tryd.underlying22
        have hb' := hb.size
        obtain ⟨yA, yn, yc, yl⟩ := y
        dsimp only at hyl ⊢
        cases yA with
        | none =>
          have hl0 := hy.nil.1 rfl
          dsimp only at hl0
          subst hl0
          have H1 := Lib.hid (HR1.out hyl.symm)
          clear D HR1 HR2 hyl hy
          go_wp2_with fail
          go_ret2
          exact ⟨none, 0, 0, ret_vc (by rw [H1.out]), by rw [H1.out]; exact ⟨OwnI.nil_ .., by simp⟩, hb⟩
        | some ad =>
          have hne : yl ≠ [] := fun e => by cases hy.nil.2 e
          have H1 := Lib.hid (HR2.out (by rw [← hyl]; exact hne))
          have hyn : yn ≤ 140737488355328 := by
            have h1 := hy.len
            dsimp only at h1
            rcases (HD.out.wf.last k j) with e | e
            · exact absurd (hyl.trans e) hne
            · rw [← hyl, h1] at e; omega
          have hcl := clone_any (some ad) yn yc yl wr hy.ints (by simp) hyn
          have HY := Lib.hid (And.intro hyl hne)
          clear D HR1 HR2 hyl hy hne
          go_wp2_with fail
          refine hcl.mono ?_; rintro e w2 ⟨A2, c2, rfl, ho, hb2⟩
          go_wp2_with fail
          go_ret2
          exact ⟨A2, yn, c2, ret_vc (by rw [H1.out]), by rw [H1.out, ← HY.out.1]; exact BEl.In.of_own ho HY.out.2, below_step hb hb2 hb'⟩
  · have hi : s.has i = false := by simpa using hi
    have is := is i
    rw [hi] at is
    rw [DSt.read_arg hd hi]
    clear D D0 hn hpn hd hi
    go_enter Tryd.func56, Tryd.ntmps56
    go_wp2_with fail
    refine is.mono ?_; rintro e w1 ⟨rfl, rfl⟩
    clear is
    go_wp2_with fail
    go_ret2
    exact ⟨none, 0, 0, rfl, ⟨OwnI.nil_ .., by simp⟩, Below.refl _ _⟩
end Go.Proofs.YtdlcngmcjidomaaDoor
