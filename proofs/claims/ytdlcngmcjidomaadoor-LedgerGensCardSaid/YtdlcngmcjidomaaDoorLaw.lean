/- From a law's walk to its row, of whatever program: a law answers true and turns nothing that was there. No condition. -/
import Derived.Test.YtdlcngmcjidomaaDoorBase
import Derived.ProofKit
import Derived.SizedLaws
import Derived.OpenShut
namespace Go.Proofs.YtdlcngmcjidomaaDoor
open Go.ChangeShapes Go.WideShapes Go.ChangeAt Go.RowKit

section
variable {H : Type} {enc : TypeId × Value → H} {P : Program}
theorem trodAll_below (hl : laidOutB P = true) {W W' : World} (hb : Below W.heap.size W W') : ∀ (ts : List TypeId) (vs : List Value) (ds : List (DataW H)) (ps : List MemPlace),
    ts.all (fun t => P.readableRec t && decide (t < P.types.size)) = true → DataW.TrodAll enc P W 0 (fun _ => true) true ts vs ds ps → (∀ x ∈ ps, x.block < W.heap.size) →
    DataW.TrodAll enc P W' 0 (fun b => decide (b < W.heap.size)) true ts vs ds ps
  | [], vs, ds, ps, _, h, _ => by
    obtain ⟨rfl, rfl, rfl⟩ := trodAll_nil h
    exact trodAll_mk0
  | t :: ts, vs, ds, ps, hts, h, hlt => by
    obtain ⟨v, vs', d, ds', p, q, rfl, rfl, rfl, hd, hrest⟩ := trodAll_cons h
    simp only [List.all_cons, Bool.and_eq_true, decide_eq_true_eq] at hts
    exact trodAll_cons_mk (Below.trod hl hts.1.1 hts.1.2 hd hb (fun x hx => hlt x (by simp [hx]))) (trodAll_below hl hb ts vs' ds' q hts.2 hrest (fun x hx => hlt x (by simp [hx])))

theorem law_post {f : Func} {s : ChangeSpec} {W W' : World} {args : Array Value} {ds gs : List (DataW H)} {before : List MemPlace} {tb : TypeId} (hl : laidOutB P = true)
    (hts : f.params.toList.all (fun t => P.readableRec t && decide (t < P.types.size)) = true) (hv : s.vars = []) (hr : f.resultTypes = #[tb]) (htb : P.underlying tb = some .bool)
    (hW : DataW.Whole enc P f.params.toList s.vars false W args.toList ds gs before) (h1 : (s.fn H (ds ++ gs)).results = [.lit (.bool true)]) (h2 : (s.fn H (ds ++ gs)).args = ds) (h3 : (s.fn H (ds ++ gs)).vars = [])
    (hb : Below W.heap.size W W') : s.post enc P f false true false false W args (.bool true) W' := by
  have hlt : ∀ x ∈ before, x.block < W.heap.size := fun x hx => hW.lt x hx
  have hW' := hW
  obtain ⟨p, q, hA, hV, rfl, _, _⟩ := hW
  rw [hv] at hV
  obtain ⟨rfl, rfl⟩ := trodVars_none hV
  refine ⟨_, _, _, [], p, [], hW', ?_, ?_, ?_, hb.frame _, fun h => by cases h⟩
  · rw [h1, hr]
    exact trodAll_mk1 (shut_bool htb true)
  · rw [h2]
    exact trodAll_below hl hb _ _ _ _ hts hA (fun x hx => hlt x (by simp [hx]))
  · rw [h3, hv]
    exact rfl

/-- An argument that is a slice of unsigned numbers. -/
theorem arg_ints {W : World} {r : Reach} {b0 : Nat} {t e : TypeId} {kd : IntKind} {v : Value} {d : DataW H} {p : List MemPlace} (lim : Nat) (ht : P.underlying t = some (.slice e)) (he : P.underlying e = some (.int kd)) (hc : P.cellsOf e = 1)
    (hk : ∀ z : Int, (Lit.int kd z).wf = true → 0 ≤ z ∧ z < lim)
    (hv : Value.okWide P W r b0 t v) (h : DataW.Trod enc P W 0 (fun _ => true) true t v d p) (hlt : ∀ x ∈ p, x.block < W.heap.size) :
    ∃ A n c l, v = .slice A n c ∧ Ints W kd lim A n c l ∧ n ≤ maxLen := by
  obtain ⟨a0, len, cap, rfl⟩ := okWide_slice ht hv
  obtain ⟨fuel, hf⟩ := h
  rcases open_ints ht he hc hf with ⟨hcs, hx⟩ | ⟨a, len', cap', zs, hcs, _, hl, hm, hz, hx, hcell, hwz⟩
  · simp [Value.cells] at hcs
    obtain ⟨rfl, rfl, rfl⟩ := hcs
    exact ⟨none, 0, 0, [], rfl, Ints.nil_ .., Nat.zero_le _⟩
  · simp [Value.cells] at hcs
    obtain ⟨rfl, rfl, rfl⟩ := hcs
    simp only [Prod.mk.injEq] at hx
    obtain ⟨rfl, rfl⟩ := hx
    simp only [if_true] at hz
    have hnat : (zs.map Int.toNat).map (fun x : Nat => Value.int kd (x : Int)) = zs.map (Value.int kd) := by
      rw [List.map_map]
      refine List.map_congr_left fun z hz => ?_
      have := (hk z (hwz z hz)).1
      simp only [Function.comp]
      congr 1
      omega
    refine ⟨some a, len, cap, (zs.map Int.toNat).take len, rfl, ⟨⟨by simp; omega, hl, fun hn => ?_⟩, fun x hx => ?_⟩, by omega⟩
    · have h0 := hcell 0 (by omega)
      obtain ⟨b, off, spot⟩ := a
      have hspot : spot = none := by simpa [Addr.add] using World.cell?_spot h0
      subst hspot
      refine ⟨b, off, rfl, hlt (.cell b off) (MemPlace.mem_row.2 ⟨0, by omega, by simp⟩), fun j u hu => ?_⟩
      rw [List.map_take, hnat, ← List.map_take, List.getElem?_map] at hu
      obtain ⟨z, hz', rfl⟩ := Option.map_eq_some_iff.1 hu
      rw [List.getElem?_take] at hz'
      split at hz'
      · have hj := (List.getElem?_eq_some_iff.1 hz').1
        rw [← add_plain, hcell j hj, List.getD_eq_getElem?_getD, hz']
        rfl
      · cases hz'
    · obtain ⟨z, hz', rfl⟩ := List.mem_map.1 (List.mem_of_mem_take hx)
      have := hk z (hwz z hz')
      omega
theorem wf_u8 (z : Int) (h : (Lit.int .u8 z).wf = true) : 0 ≤ z ∧ z < (256 : Nat) := by
  have h1 : IntKind.u8.min = 0 := rfl
  have h2 : IntKind.u8.max = 255 := rfl
  simp only [Lit.wf, Bool.and_eq_true, decide_eq_true_eq] at h
  omega
theorem wf_u16 (z : Int) (h : (Lit.int .u16 z).wf = true) : 0 ≤ z ∧ z < (65536 : Nat) := by
  have h1 : IntKind.u16.min = 0 := rfl
  have h2 : IntKind.u16.max = 65535 := rfl
  simp only [Lit.wf, Bool.and_eq_true, decide_eq_true_eq] at h
  omega
theorem wf_u32 (z : Int) (h : (Lit.int .u32 z).wf = true) : 0 ≤ z ∧ z < (4294967296 : Nat) := by
  have h1 : IntKind.u32.min = 0 := rfl
  have h2 : IntKind.u32.max = 4294967295 := rfl
  simp only [Lit.wf, Bool.and_eq_true, decide_eq_true_eq] at h
  omega
/-- An argument that is an unsigned number. -/
theorem arg_nat {W : World} {r : Reach} {b0 : Nat} {t : TypeId} {kd : IntKind} {v : Value} {d : DataW H} {p : List MemPlace} {base : Nat} {spare : Nat → Bool} {held : Bool} (lim : Nat) (ht : P.underlying t = some (.int kd))
    (hk : ∀ z : Int, (Lit.int kd z).wf = true → 0 ≤ z ∧ z < lim) (hv : Value.okWide P W r b0 t v) (h : DataW.Trod enc P W base spare held t v d p) : ∃ x : Nat, v = .int kd (x : Int) ∧ x < lim := by
  obtain ⟨a, rfl, rfl, rfl, wa⟩ := open_int ht hv h
  have := hk a wa
  exact ⟨a.toNat, by congr 1; omega, by omega⟩
end
end Go.Proofs.YtdlcngmcjidomaaDoor
