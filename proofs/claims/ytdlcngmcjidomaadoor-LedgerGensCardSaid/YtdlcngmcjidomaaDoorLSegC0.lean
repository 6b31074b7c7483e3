/- The contract of Seg.Scan. No condition. -/
import Derived.Test.YtdlcngmcjidomaaDoorGWE
import Derived.Test.YtdlcngmcjidomaaDoorRoundC
import Derived.Test.YtdlcngmcjidomaaDoorLCellK
import Derived.WalkMore
import Derived.Deep.CutBlock
namespace Go.Proofs.YtdlcngmcjidomaaDoor
set_option linter.unusedSimpArgs false
set_option linter.unusedVariables false
open Go.RowKit Go.Shelf
attribute [local go_sem] Oper.semAt_some

def CEl.bel (e : CEl) : BEl := ⟨e.A, e.n, e.c, e.x.data⟩
/-- A cell's numbers. -/
structure CEl.Num (e : CEl) : Prop where
  gen : e.x.gen < 4294967296
  seq : e.x.seq < 4294967296
  part : -9223372036854775808 ≤ e.x.part ∧ e.x.part ≤ 9223372036854775807
  parts : -9223372036854775808 ≤ e.x.parts ∧ e.x.parts ≤ 9223372036854775807
  most : e.n ≤ 140737488355000
theorem CEl.In.num {w : World} {e : CEl} (h : e.In w) : e.Num := ⟨h.gen, h.seq, h.part, h.parts, h.most⟩
def scSt (gen : Nat) (pre : List (Nat × CEl)) : Sc := Sc.run gen Sc.start 0 (pre.map fun x => x.2.x)
theorem scSt_snoc (gen : Nat) (pre : List (Nat × CEl)) (x : Nat × CEl) : scSt gen (pre ++ [x]) = Sc.step gen (scSt gen pre) pre.length x.2.x := by
  unfold scSt
  rw [List.map_append, List.map_singleton, Sc.run_snoc, List.length_map, Nat.zero_add]
/-- The blocks of a scan. -/
abbrev scBox (h B G Z : Nat) (over : Bool) (top last : Nat) (nv ov : Value) (bl : List WBk) : List WBk :=
  (Z, 28, #[.pointer (some ⟨h, 0, none⟩)]) :: (G + 1 + 1 + 1 + 1, 4, #[.bool over]) :: (G + 1 + 1 + 1, 65, #[.int .u64 (top : Int)]) :: (G + 1 + 1, 31, #[.int .u32 (last : Int)]) :: (G + 1, 68, #[nv]) :: (G, 32, #[ov]) :: (B, 28, #[.pointer (some ⟨h, 0, none⟩)]) :: bl
abbrev scRow (ys : List WRow) (A : Option Addr) (c : Nat) (xs : List BEl) (A2 : Option Addr) (c2 : Nat) (es : List CEl) : List WRow :=
  ⟨73, 5, A2, es.length, c2, cflat es⟩ :: ⟨22, 1, A, xs.length, c, xs.map BEl.v⟩ :: ys
/-- What rows tell of a scan. -/
structure ScD (xs : List BEl) (es : List CEl) (C : Sc) : Prop where
  now : es.map (·.x) = C.now
  out : xs.map (·.l) = C.out
  num : ∀ e ∈ es, e.Num
  last : C.last < 4294967296
  top : C.top < 4294967296
/-- What lies there while cells are told. -/
structure ScAt (w0 : World) (g h B G Z : Nat) (s : DSt) (t : SegSt) (bl : List WBk) (i : Nat) (ys : List WRow) (rd : List BEl) (xb : List WBk) (xr : List BEl) (pre : List (Nat × CEl)) (W : World) : Prop where
  ex : ∃ A c xs A2 c2 es, ScD xs es (scSt t.gen pre) ∧ WE w0 W g s (xb ++ scBox h B G Z (scSt t.gen pre).over (scSt t.gen pre).top (scSt t.gen pre).last (.slice A2 es.length c2) (.slice A xs.length c) (bl.set i (segB h g ⟨t.first, t.n, t.gen, (scSt t.gen pre).fin, 4294967295⟩))) (scRow ys A c xs A2 c2 es) (es.map CEl.bel ++ (xs ++ (xr ++ rd)))
  len : pre.length ≤ t.n
  le : (scSt t.gen pre).now.length ≤ pre.length ∧ (scSt t.gen pre).out.length ≤ pre.length ∧ (scSt t.gen pre).fin ≤ pre.length
  told : ∀ k x, pre[k]? = some x → x.2.x = Cl.dec (s.read ((t.first + k : Nat) : Int)).1
section
variable {w0 W W' : World} {g h B G Z : Nat} {s : DSt} {t : SegSt} {bl : List WBk} {i : Nat} {ys : List WRow} {rd : List BEl} {xb : List WBk} {xr : List BEl} {pre : List (Nat × CEl)}
theorem ScAt.to (S : ScAt w0 g h B G Z s t bl i ys rd xb xr pre W) (hw : ∀ bl' ys' rd', WE w0 W g s bl' ys' rd' → WE w0 W' g s bl' ys' rd') : ScAt w0 g h B G Z s t bl i ys rd xb xr pre W' := by
  obtain ⟨A, c, xs, A2, c2, es, hD, E⟩ := S.ex
  exact ⟨⟨A, c, xs, A2, c2, es, hD, hw _ _ _ E⟩, S.len, S.le, S.told⟩
theorem ScAt.below (S : ScAt w0 g h B G Z s t bl i ys rd xb xr pre W) (hb : Below W.heap.size W W') : ScAt w0 g h B G Z s t bl i ys rd xb xr pre W' := S.to fun _ _ _ E => E.below hb
theorem ScAt.own (S : ScAt w0 g h B G Z s t bl i ys rd xb xr pre W) {row : Option Nat} (hg : W.grownBy W' row) (hr : ∀ r, row = some r → w0.heap.size ≤ r ∧ ∃ o : Obj, W.heap[r]? = some o ∧ o.isCells = false) : ScAt w0 g h B G Z s t bl i ys rd xb xr pre W' := S.to fun _ _ _ E => E.own hg hr
theorem ScAt.src (S : ScAt w0 g h B G Z s t bl i ys rd [] xr pre W) (hi : i < bl.length) : Src W g h Z t.first t.n s := by
  obtain ⟨A, c, xs, A2, c2, es, hD, E⟩ := S.ex
  obtain ⟨T, D, _⟩ := E.at_
  exact ⟨⟨T, D⟩, ⟨_, _, _, E.b (i + 7) (List.getElem?_set_self hi)⟩, E.b 0 rfl⟩
theorem step_le (gen : Nat) (C : Sc) (k : Nat) (x : Cl) (h1 : C.now.length ≤ k) (h2 : C.out.length ≤ k) (h3 : C.fin ≤ k) : (Sc.step gen C k x).now.length ≤ k + 1 ∧ (Sc.step gen C k x).out.length ≤ k + 1 ∧ (Sc.step gen C k x).fin ≤ k + 1 := by
  unfold Sc.step
  split
  · exact ⟨by show C.now.length ≤ _; omega, by show C.out.length ≤ _; omega, by show C.fin ≤ _; omega⟩
  · split
    · split
      · refine ⟨Nat.zero_le _, ?_, Nat.le_refl _⟩
        show (C.out ++ _).length ≤ _
        rw [List.length_append]; simp; omega
      · refine ⟨?_, by show C.out.length ≤ _; omega, by show C.fin ≤ _; omega⟩
        show (C.now ++ _).length ≤ _
        rw [List.length_append]; simp; omega
    · refine ⟨?_, by show C.out.length ≤ _; omega, by show C.fin ≤ _; omega⟩
      show (C.now ++ _).length ≤ _
      rw [List.length_append]; simp; omega
/-- A round's end. -/
theorem ScAt.close {W0 : World} {Bk : Nat} {x : Nat × CEl} {xr0 : List BEl} {xb0 : List WBk} {a : Act} (S : ScAt w0 g h B G Z s t bl i ys rd xb0 xr0 pre W0) (hlt : pre.length < t.n) (hx : x.2.x = Cl.dec (s.read ((t.first + pre.length : Nat) : Int)).1) {A : Option Addr} {c : Nat} {xs : List BEl} {A2 : Option Addr} {c2 : Nat} {es : List CEl} {C : Sc} (hC : C = Sc.step t.gen (scSt t.gen pre) pre.length x.2.x) (hD : ScD xs es C)
    (E : WK W0 w0 W' g s (xb ++ scBox h B G Z C.over C.top C.last (.slice A2 es.length c2) (.slice A xs.length c) (bl.set i (segB h g ⟨t.first, t.n, t.gen, C.fin, 4294967295⟩))) (scRow ys A c xs A2 c2 es) (es.map CEl.bel ++ (xs ++ (xr ++ rd)))) :
    keepPost Bk W0 (fun _ W' => ScAt w0 g h B G Z s t bl i ys rd [] [] (pre ++ [x]) W') .normal a W' := by
  have e : scSt t.gen (pre ++ [x]) = C := by rw [scSt_snoc, hC]
  refine ⟨E.keeps Bk, ⟨A, c, xs, A2, c2, es, by rw [e]; exact hD, ?_⟩, by rw [List.length_append]; simp; omega, ?_, fun k y hy => ?_⟩
  · rw [e]
    refine E.e.pick (List.sublist_append_right _ _) (List.Sublist.refl _) fun y hy => ?_
    rcases List.mem_append.1 hy with hy | hy
    · exact List.mem_append_left _ hy
    · refine List.mem_append_right _ ?_
      rcases List.mem_append.1 hy with hy | hy
      · exact List.mem_append_left _ hy
      · exact List.mem_append_right _ (List.mem_append_right _ hy)
  · rw [scSt_snoc, List.length_append]
    exact step_le _ _ _ _ S.le.1 S.le.2.1 S.le.2.2
  · rcases Nat.lt_or_ge k pre.length with hk | hk
    · rw [List.getElem?_append_left hk] at hy
      exact S.told k y hy
    · have hk2 := (List.getElem?_eq_some_iff.1 hy).1
      rw [List.length_append] at hk2
      have hk3 : k = pre.length := by simp at hk2; omega
      subst hk3
      rw [List.getElem?_append_right (Nat.le_refl _), Nat.sub_self] at hy
      cases hy
      exact hx
end
theorem wpAnyL_sw {P : Program} {ops : Array Oper} {Q : Exit → Act → World → Prop} {md : Region.Mode} {S : World → Prop} {D : List Nat} : ∀ (fuel : Nat) (listed : Array Bool) (a : Act) (w : World), wpAnyL P md ops Q D S fuel listed a w → wpAnyL P md ops Q [] (fun _ => True) fuel listed a w
  | 0, _, _, _, h => h
  | fuel + 1, _, _, _, h => ⟨h.1, fun i hi => wpOp_mono (fun a' w' h' => ⟨fun _ => trivial, wpAnyL_sw fuel _ a' w' h'.2⟩) (h.2 i hi)⟩
theorem right_eq {gen last n : Nat} {es : List CEl} {now : List Cl} {x : Cl} {e0 : CEl} (hm : es.map (·.x) = now) (hn : es.length = n) (h0 : es[0]? = some e0) :
    Sc.right gen last now x = (decide (0 < x.parts) && (decide (x.gen = gen) && (decide (last < x.seq) && (decide (x.part = (n : Int) - 1) && (decide (x.seq = e0.x.seq) && decide (x.parts = e0.x.parts)))))) := by
  have hl : now.length = n := by rw [← hm, List.length_map, hn]
  have hh : now.headD Cl.zero = e0.x := by
    rw [← hm]
    cases es with
    | nil => cases h0
    | cons a l => cases h0; rfl
  unfold Sc.right
  rw [hl, hh]
theorem crd_of {w : World} {base n c : Nat} {A : Option Addr} {es : List CEl} (hr : OwnR w base 73 5 A n c (cflat es)) (hl : es.length = n) (h : ∀ e ∈ es, e.In w) : CRd w A n c es := by
  refine ⟨hl, hr.cap, fun hn => ?_, h⟩
  have hc := cflat_len es
  obtain ⟨u, hu⟩ : ∃ u, (cflat es)[0]? = some u := ⟨_, List.getElem?_eq_getElem (by omega)⟩
  obtain ⟨q, rfl, _, hq, _⟩ := hr.get hu
  refine ⟨q, 0, rfl, hq, fun j v hv => ?_⟩
  rw [Nat.zero_add]
  exact hr.get' hv
theorem CEl.Num.in_ {w : World} {e : CEl} (h : e.Num) (hi : Ints w .u8 256 e.A e.n e.c e.x.data) : e.In w := ⟨hi, h.gen, h.seq, h.part, h.parts, h.most⟩
end Go.Proofs.YtdlcngmcjidomaaDoor
