/- What a law of layer 6 keeps through its walk, as one fact; the contracts in the form that its walks use. No condition but the reach of a slice. -/
import Derived.Test.YtdlcngmcjidomaaDoorLCellK
import Derived.Test.YtdlcngmcjidomaaDoorRowsB
namespace Go.Proofs.YtdlcngmcjidomaaDoor
set_option linter.unusedSimpArgs false
set_option linter.unusedVariables false
open Go.RowKit

abbrev Bk := Nat × TypeId × Array Value
structure It where
  (A : Option Addr) (n c : Nat) (l : List Nat)
structure Rt where
  (A : Option Addr) (n c : Nat) (xs : List CEl)
/-- Blocks of its own or of an argument, rows of bytes, rows of cells. -/
structure CE (w0 w : World) (bl : List Bk) (is : List It) (rs : List Rt) : Prop where
  bel : Below w0.heap.size w0 w
  blk : ∀ (i : Nat) (g : Nat) (t : TypeId) (cs : Array Value), bl[i]? = some (g, t, cs) → Blk w g t cs
  ints : ∀ (i : Nat) (x : It), is[i]? = some x → Ints w .u8 256 x.A x.n x.c x.l
  rds : ∀ (i : Nat) (x : Rt), rs[i]? = some x → CRd w x.A x.n x.c x.xs
section
variable {w0 w w' : World} {bl : List Bk} {is : List It} {rs : List Rt}
theorem CE.nil_ (w : World) : CE w w [] [] [] := ⟨Below.refl _ _, fun i _ _ _ h => by simp at h, fun i x h => by simp at h, fun i x h => by simp at h⟩
theorem CE.size (E : CE w0 w bl is rs) : w0.heap.size ≤ w.heap.size := E.bel.size
theorem CE.b {g : Nat} {t : TypeId} {cs : Array Value} (E : CE w0 w bl is rs) (i : Nat) (h : bl[i]? = some (g, t, cs)) : Blk w g t cs := E.blk i g t cs h
theorem CE.cell {g : Nat} {t : TypeId} {cs : Array Value} {u : Value} (E : CE w0 w bl is rs) (i j : Nat) (h : bl[i]? = some (g, t, cs)) (hu : cs.toList[j]? = some u) : w.cell? ⟨g, j, none⟩ = some u := by
  rw [(E.blk i g t cs h).cell j]; simpa using hu
theorem CE.frozen {g : Nat} {t : TypeId} {cs : Array Value} (E : CE w0 w bl is rs) (i j : Nat) (h : bl[i]? = some (g, t, cs)) : w.frozen? ⟨g, j, none⟩ = false := (E.blk i g t cs h).frozen j
theorem CE.i {A : Option Addr} {n c : Nat} {l : List Nat} (E : CE w0 w bl is rs) (i : Nat) (h : is[i]? = some ⟨A, n, c, l⟩) : Ints w .u8 256 A n c l := E.ints i _ h
theorem CE.r {A : Option Addr} {n c : Nat} {xs : List CEl} (E : CE w0 w bl is rs) (i : Nat) (h : rs[i]? = some ⟨A, n, c, xs⟩) : CRd w A n c xs := E.rds i _ h
theorem CE.below (E : CE w0 w bl is rs) (hb : Below w.heap.size w w') : CE w0 w' bl is rs :=
  ⟨below_step E.bel hb E.size, fun i g t cs h => (E.blk i g t cs h).below hb (E.blk i g t cs h).lt, fun i x h => (E.ints i x h).below hb, fun i x h => (E.rds i x h).below hb⟩
theorem CE.alloc (E : CE w0 w bl is rs) (t : TypeId) (cs : Array Value) {g : Nat} (hg : g = w.heap.size) : CE w0 (w.alloc (.cells cs t)) ((g, t, cs) :: bl) is rs := by
  subst hg
  have E' := E.below ((Below.refl w.heap.size w).alloc (Nat.le_refl _) (.cells cs t))
  refine ⟨E'.bel, fun i g t' cs' h => ?_, E'.ints, E'.rds⟩
  cases i with
  | zero =>
    simp only [List.getElem?_cons_zero, Option.some.injEq, Prod.mk.injEq] at h
    obtain ⟨rfl, rfl, rfl⟩ := h
    exact Blk.new w t cs
  | succ i => exact E'.blk i g t' cs' (by simpa using h)
theorem CE.drew (E : CE w0 w bl is rs) : CE w0 w.drew bl is rs := E.below (Below.refl _ _).drew
theorem CE.addB (E : CE w0 w bl is rs) {g : Nat} {t : TypeId} {cs : Array Value} (h : Blk w g t cs) : CE w0 w ((g, t, cs) :: bl) is rs :=
  ⟨E.bel, fun i g' t' cs' hx => by
    cases i with
    | zero =>
      simp only [List.getElem?_cons_zero, Option.some.injEq, Prod.mk.injEq] at hx
      obtain ⟨rfl, rfl, rfl⟩ := hx
      exact h
    | succ i => exact E.blk i g' t' cs' (by simpa using hx), E.ints, E.rds⟩
theorem CE.addI (E : CE w0 w bl is rs) {A : Option Addr} {n c : Nat} {l : List Nat} (h : Ints w .u8 256 A n c l) : CE w0 w bl (⟨A, n, c, l⟩ :: is) rs :=
  ⟨E.bel, E.blk, fun i x hx => by
    cases i with
    | zero => simp only [List.getElem?_cons_zero, Option.some.injEq] at hx; subst hx; exact h
    | succ i => exact E.ints i x (by simpa using hx), E.rds⟩
theorem CE.addR (E : CE w0 w bl is rs) {A : Option Addr} {n c : Nat} {xs : List CEl} (h : CRd w A n c xs) : CE w0 w bl is (⟨A, n, c, xs⟩ :: rs) :=
  ⟨E.bel, E.blk, E.ints, fun i x hx => by
    cases i with
    | zero => simp only [List.getElem?_cons_zero, Option.some.injEq] at hx; subst hx; exact h
    | succ i => exact E.rds i x (by simpa using hx)⟩
end

section
variable {A B : Option Addr} {n c m d : Nat} {l k : List Nat} {w : World}
theorem may_c (gs sq : Nat) (pt ps : Int) (A : Option Addr) (n c : Nat) (w : World) (hp : -9223372036854775808 ≤ ps ∧ ps ≤ 9223372036854775807) {r : Bool} (hr : mayN pt ps n = r) :
    Calls Tryd.prog 58 #[.agg #[.int .u32 (gs : Int), .int .u32 (sq : Int), .int .i64 pt, .int .i64 ps, .slice A n c]] w fun e w' => e = .returned (.bool r) ∧ Below w.heap.size w w' := by
  subst hr; exact cmay_any gs sq pt ps A n c w hp
theorem enc_c {gs sq : Nat} {pt ps : Int} (hgs : gs < 4294967296) (hsq : sq < 4294967296) (hp : -9223372036854775808 ≤ ps ∧ ps ≤ 9223372036854775807) (hr : Ints w .u8 256 A n c l) {cd : Int} {L : List Nat} {m : Nat} (hc : Cl.encCode ⟨gs, sq, pt, ps, l⟩ = cd) (hL : Cl.encL ⟨gs, sq, pt, ps, l⟩ = L) (hm : L.length = m) :
    Calls Tryd.prog 37 #[.agg #[.int .u32 (gs : Int), .int .u32 (sq : Int), .int .i64 pt, .int .i64 ps, .slice A n c]] w fun e w' => ∃ A' c', e = .returned (.tuple #[.slice A' m c', .int .i64 cd]) ∧ Ints w' .u8 256 A' m c' L ∧ Below w.heap.size w w' :=
  (encode_any gs sq hgs hsq pt ps hp A n c l w hr).mono fun e w' ⟨A', m', c', he, ho, hb⟩ => by
    have h1 := ho.ints
    rw [hL] at h1
    have h2 := h1.len
    rw [hm] at h2
    subst h2
    exact ⟨A', c', by rw [he, hc], h1, hb⟩
/-- What a decoding hands back, its parts under names. -/
def DecC (w : World) (gs sq : Nat) (pt ps : Int) (dt : List Nat) (m : Nat) (cd : Int) (e : Ending) (w' : World) : Prop :=
  ∃ A' c', e = .returned (.tuple #[.agg #[.int .u32 (gs : Int), .int .u32 (sq : Int), .int .i64 pt, .int .i64 ps, .slice A' m c'], .int .i64 cd]) ∧ Ints w' .u8 256 A' m c' dt ∧ Below w.heap.size w w'
theorem DecPost.to {gs sq : Nat} {pt ps : Int} {dt : List Nat} {m : Nat} {cd : Int} {e : Ending} {w' : World} (h : DecPost w l e w') (hd : Cl.dec l = ⟨gs, sq, pt, ps, dt⟩) (hc : Cl.code l = cd) (hm : dt.length = m) : DecC w gs sq pt ps dt m cd e w' := by
  obtain ⟨A', m', c', he, hi0, hb⟩ := h
  have hi := hi0.ints
  rw [hd] at he hi
  have h2 := hi.len
  have h2 : dt.length = m' := h2
  rw [hm] at h2
  subst h2
  exact ⟨A', c', by rw [he, hc], hi, hb⟩
theorem dec_c {gs sq : Nat} {pt ps : Int} {dt : List Nat} {m : Nat} {cd : Int} (hr : Ints w .u8 256 A n c l) (hn : n ≤ 70368744177664) (hd : Cl.dec l = ⟨gs, sq, pt, ps, dt⟩) (hc : Cl.code l = cd) (hm : dt.length = m) :
    Calls Tryd.prog 57 #[.slice A n c] w (DecC w gs sq pt ps dt m cd) := (decode_any hr hn).mono fun e w' h => DecPost.to h hd hc hm
theorem CRd.len_of {xs : List CEl} {L : List Cl} (h : CRd w A n c xs) (hx : xs.map (·.x) = L) : L.length = n := by rw [← hx, List.length_map, h.len]
theorem split_c {gs sq : Nat} (hgs : gs < 4294967296) (hsq : sq < 4294967296) (hr : Ints w .u8 256 A n c l) (hn : (n : Int) ≤ 9223372036854775807) {q : Nat} {cd : Int} (hq : Cl.need l.length = q) (hc : Cl.splitCode l = cd) :
    Calls Tryd.prog 59 #[.int .u32 (gs : Int), .int .u32 (sq : Int), .slice A n c] w fun e w' => ∃ A' c' xs, e = .returned (.tuple #[.slice A' q c', .int .i64 cd]) ∧ CRd w' A' q c' xs ∧ xs.map (·.x) = Cl.split gs sq l ∧ Below w.heap.size w w' :=
  (csplit_any gs sq hgs hsq hr hn).mono fun e w' ⟨A', m', c', xs, he, ho, hx, hs, hb⟩ => by
    have h1 := CRd.of_own ho (fun e h => (hx e h).in_)
    have h2 := h1.len_of hs
    rw [Cl.split_len, hq] at h2
    subst h2
    exact ⟨A', c', xs, by rw [he, hc], h1, hs, hb⟩
theorem join_c {xs : List CEl} (hr : CRd w A n c xs) (hn : (n : Int) ≤ 9223372036854775807) {X : List Cl} {L : List Nat} {m : Nat} {cd : Int} (hx : xs.map (·.x) = X) (hL : Cl.join X = L) (hc : Cl.joinCode X = cd) (hm : L.length = m) :
    Calls Tryd.prog 35 #[.slice A n c] w fun e w' => ∃ A' c', e = .returned (.tuple #[.slice A' m c', .int .i64 cd]) ∧ Ints w' .u8 256 A' m c' L ∧ Below w.heap.size w w' :=
  (cjoin_any hr hn).mono fun e w' ⟨A', m', c', he, ho, hb⟩ => by
    rw [hx] at he ho
    have h1 := ho.ints
    rw [hL] at h1
    have h2 := h1.len
    rw [hm] at h2
    subst h2
    exact ⟨A', c', by rw [he, hc], h1, hb⟩
theorem need_c (n : Int) (w : World) (h1 : -9223372036854775808 ≤ n) (h2 : n ≤ 9223372036854775807) {q : Nat} (hq : Cl.need n.toNat = q) :
    Calls Tryd.prog 64 #[.int .i64 n] w fun e w' => e = .returned (.int .i64 (q : Int)) ∧ w = w' := by subst hq; exact cneed_any n w h1 h2
end
theorem encL_yes {x : Cl} (h : x.may = true) : x.encL = x.enc ∧ x.encCode = 0 := by unfold Cl.encL Cl.encCode; rw [h]; exact ⟨rfl, rfl⟩
theorem encL_no {x : Cl} (h : x.may = false) : x.encL = [] ∧ x.encCode = 1 := by unfold Cl.encL Cl.encCode; rw [h]; exact ⟨rfl, rfl⟩
theorem Cl.dec_nil : Cl.dec [] = ⟨0, 0, 0, 0, []⟩ ∧ Cl.code [] = 2 := by
  have h := isEnc_len (l := []) (by decide)
  unfold Cl.dec Cl.code
  rw [h]
  exact ⟨rfl, rfl⟩
/-- A row of one cell, as '[]api.Cell{x}' lays it. -/
theorem crd_one {w : World} {e : CEl} (h : e.In w) {g : Nat} (hg : g = w.heap.size) : CRd (w.alloc (.cells e.vs.toArray 73)) (some ⟨g, 0, none⟩) 1 1 [e] := by
  subst hg
  refine ⟨rfl, Nat.le_refl _, fun _ => ⟨_, 0, rfl, by simp, fun j u hu => ?_⟩, fun x hx => ?_⟩
  · rw [Nat.zero_add, (Blk.new w 73 e.vs.toArray).cell j]
    unfold cflat at hu
    simpa using hu
  · rw [List.mem_singleton] at hx
    subst hx
    exact h.below ((Below.refl _ _).alloc (Nat.le_refl _) _)
end Go.Proofs.YtdlcngmcjidomaaDoor
