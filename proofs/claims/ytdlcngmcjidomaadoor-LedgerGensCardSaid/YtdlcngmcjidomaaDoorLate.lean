/- A region that draws its order: loads may be taken ahead of all, of cells that only operations write which wait for them. No condition. -/
import Derived.OrdersHeld
import Derived.Deep.RegionHeld
import Derived.WalkKit
namespace Go.Proofs.YtdlcngmcjidomaaDoor
open Go

section
variable {P : Program} {ops : Array Oper} {Q : Exit → Act → World → Prop} {md : Region.Mode} {S : World → Prop} {D : List Nat}

/-- Number 'j' waits for number 'i', it may be by others. -/
def waits (md : Region.Mode) (ops : Array Oper) (i : Nat) : Nat → Nat → Bool
  | 0, _ => false
  | f + 1, j => ((ops[j]?).map (fun o => o.after.any fun e => Region.binds md e && (e.on == i || waits md ops i f e.on))).getD false

/-- Of what is listed all is listed that it waits for. -/
def shutUp (md : Region.Mode) (ops : Array Oper) (listed : Array Bool) : Bool :=
  (List.range ops.size).all fun j => !listed.getD j false || ((ops[j]?).map (fun o => o.after.all fun e => !Region.binds md e || listed.getD e.on false)).getD true

structure Shutt (md : Region.Mode) (ops : Array Oper) (listed : Array Bool) : Prop where
  out : ∀ j o, ops[j]? = some o → listed.getD j false = true → ∀ e ∈ o.after, Region.binds md e = true → listed.getD e.on false = true

theorem shutt_of {listed : Array Bool} (h : shutUp md ops listed = true) : Shutt md ops listed := by
  refine ⟨fun j o ho hj e he hb => ?_⟩
  unfold shutUp at h
  rw [List.all_eq_true] at h
  have hlt : j < ops.size := (Array.getElem?_eq_some_iff.1 ho).1
  have h1 := h j (List.mem_range.2 hlt)
  rw [ho, hj] at h1
  simp only [Bool.not_true, Option.map_some, Option.getD_some, Bool.false_or, Array.all_eq_true_iff_forall_mem, Bool.or_eq_true, Bool.not_eq_true'] at h1
  rcases h1 e he with h2 | h2
  · rw [hb] at h2; cases h2
  · exact h2

theorem Shutt.set {listed : Array Bool} {j : Nat} (h : Shutt md ops listed) (hj : j ∈ Region.ready md ops listed) : Shutt md ops (listed.setIfInBounds j true) := by
  obtain ⟨h0, o, ho, hall⟩ := mem_ready.1 hj
  refine ⟨fun k ok hok hk e he hb => ?_⟩
  by_cases hjk : j = k
  · subst hjk
    rw [ho] at hok
    cases hok
    exact getD_set_true (hall e he hb)
  · rw [getD_set_ne false hjk] at hk
    exact getD_set_true (h.out k ok hok hk e he hb)

theorem waits_listed {listed : Array Bool} (h : Shutt md ops listed) {i : Nat} : ∀ (f j : Nat), (∀ o, ops[j]? = some o → ∀ e ∈ o.after, Region.binds md e = true → listed.getD e.on false = true) → waits md ops i f j = true → listed.getD i false = true
  | 0, _, _, hw => by simp [waits] at hw
  | f + 1, j, hj, hw => by
    unfold waits at hw
    cases ho : ops[j]? with
    | none => rw [ho] at hw; simp at hw
    | some o =>
      rw [ho] at hw
      simp only [Option.map_some, Option.getD_some, Array.any_eq_true] at hw
      obtain ⟨n, hn, hw⟩ := hw
      simp only [Bool.and_eq_true, Bool.or_eq_true, beq_iff_eq] at hw
      obtain ⟨hb, hw⟩ := hw
      have he := hj o ho _ (Array.getElem_mem hn) hb
      rcases hw with hw | hw
      · rw [← hw]; exact he
      · exact waits_listed h f _ (fun o' ho' e he' hb' => h.out _ o' ho' he e he' hb') hw

theorem not_waiting {listed : Array Bool} (h : Shutt md ops listed) {i j f : Nat} (hi : i ∈ Region.ready md ops listed) (hj : j ∈ Region.ready md ops listed) : ¬ waits md ops i f j = true := by
  intro hw
  obtain ⟨_, o, ho, hall⟩ := mem_ready.1 hj
  have := waits_listed h f j (fun o' ho' e he hb => by rw [ho] at ho'; cases ho'; exact hall e he hb) hw
  have h0 := (mem_ready.1 hi).1
  rcases Nat.lt_or_ge i listed.size with h' | h'
  · simp [h'] at h0 this; rw [h0] at this; cases this
  · simp [Array.getElem?_eq_none h'] at this

/-- Whatever order is picked from here on, and 'S' holds behind every operation that is carried out, but for those of 'D'. -/
def wpAnyL (P : Program) (md : Region.Mode) (ops : Array Oper) (Q : Exit → Act → World → Prop) (D : List Nat) (S : World → Prop) : Nat → Array Bool → Act → World → Prop
  | 0, listed, a, w => Region.ready md ops listed = [] ∧ Q .normal a w
  | fuel + 1, listed, a, w =>
    (Region.ready md ops listed = [] → Q .normal a w) ∧
    ∀ i ∈ Region.ready md ops listed, wpOp P ops Q i (fun a' w' => (i ∉ D → S w') ∧ wpAnyL P md ops Q D S fuel (listed.setIfInBounds i true) a' w') a w

theorem wpAny_of_late : ∀ (fuel : Nat) (listed : Array Bool) (a : Act) (w : World), wpAnyL P md ops Q D S fuel listed a w → wpAny P md ops Q fuel listed a w
  | 0, _, _, _, h => h
  | fuel + 1, _, _, _, h => ⟨h.1, fun i hi => wpOp_mono (fun a' w' h' => wpAny_of_late fuel _ a' w' h'.2) (h.2 i hi)⟩

theorem wpAnyL_first {i : Nat} {oi : Oper} {v : Value} {f : Nat} (hi : ops[i]? = some oi) (hsel : ∀ (j : Nat) (o : Oper) cs b, ops[j]? = some o → o.op ≠ .select cs b)
    (hQ : ∀ c a w, Q (.panic c) (a.put oi.dst v) w → Q (.panic c) a w) (hD : ∀ j ∈ D, waits md ops i f j = true) :
    ∀ (fuel : Nat) (listed : Array Bool) (a : Act) (w : World),
      (∀ j oj, ops[j]? = some oj → j ≠ i → listed.getD j true = false → (∀ e ∈ oj.after, Region.binds md e = true → e.on ≠ i) → oi.apart ops oj = true) →
      Shutt md ops listed → i ∈ Region.ready md ops listed → YieldsIf P ops S oi v a → S w →
      wpAnyL P md ops Q D S fuel (listed.setIfInBounds i true) (a.put oi.dst v) w → wpAnyL P md ops Q D S (fuel + 1) listed a w := by
  intro fuel
  induction fuel with
  | zero =>
    intro listed a w _ hc hr hy hS H
    refine ⟨fun h => (by rw [h] at hr; cases hr), fun j hj => ?_⟩
    by_cases hji : j = i
    · subst hji; exact hy.wpOp hi hS ⟨fun _ => hS, H⟩
    · have := ready_mono hj hji
      rw [H.1] at this
      cases this
  | succ fuel ih =>
    intro listed a w hfree hc hr hy hS H
    refine ⟨fun h => (by rw [h] at hr; cases hr), fun j hj => ?_⟩
    by_cases hji : j = i
    · subst hji; exact hy.wpOp hi hS ⟨fun _ => hS, H⟩
    · have hjD : j ∉ D := fun hm => not_waiting hc hr hj (hD j hm)
      have h1 := H.2 j (ready_mono hj hji)
      obtain ⟨hjun, oj, hoj, hall⟩ := mem_ready.1 hj
      have hnot : ∀ e ∈ oj.after, Region.binds md e = true → e.on ≠ i := fun e he hb heq => by
        have h1 := hall e he hb
        have h0 := (mem_ready.1 hr).1
        rw [heq] at h1
        rcases Nat.lt_or_ge i listed.size with h' | h'
        · simp [h'] at h0 h1; rw [h0] at h1; cases h1
        · simp [Array.getElem?_eq_none h'] at h1
      have h2 := wpOp_putIf hoj (hfree j oj hoj hji hjun hnot) (fun cs b => hsel i oi cs b hi) (fun cs b => hsel j oj cs b hoj) hQ hy h1
      have hfree' : ∀ k ok, ops[k]? = some ok → k ≠ i → (listed.setIfInBounds j true).getD k true = false →
          (∀ e ∈ ok.after, Region.binds md e = true → e.on ≠ i) → oi.apart ops ok = true := fun k ok hk hki hun hno => by
        refine hfree k ok hk hki ?_ hno
        by_cases hjk : j = k
        · subst hjk; exact hjun
        · rw [getD_set_ne true hjk] at hun; exact hun
      refine wpOp_mono (fun a' w' h3 => ⟨h3.2.1, ih (listed.setIfInBounds j true) a' w' hfree' (hc.set hj) (ready_mono hr (Ne.symm hji)) h3.1 (h3.2.1 hjD) ?_⟩) h2
      rw [Array.setIfInBounds_comm _ _ hji]
      exact h3.2.2

/-- Take number 'i' first. -/
theorem wpAnyL_take {i : Nat} {oi : Oper} {v : Value} {fuel : Nat} {listed : Array Bool} {a : Act} {w : World} (hi : ops[i]? = some oi)
    (hs : Region.noSelect ops = true) (hf : Region.free md ops listed i = true) (hr : (Region.ready md ops listed).contains i = true) (hc : shutUp md ops listed = true) (hD : D.all (waits md ops i ops.size) = true)
    (hQ : ∀ c a w, Q (.panic c) (a.put oi.dst v) w → Q (.panic c) a w) (hy : YieldsIf P ops S oi v a) (hS : S w)
    (h : wpAnyL P md ops Q D S fuel (listed.setIfInBounds i true) (a.put oi.dst v) w) : wpAnyL P md ops Q D S (fuel + 1) listed a w :=
  wpAnyL_first hi (Region.noSelect_spec hs) hQ (fun j hj => List.all_eq_true.1 hD j hj) fuel listed a w (Region.free_spec hi hf) (shutt_of hc) (by simpa using hr) hy hS h

/-- The one that may come up. -/
theorem wpAnyL_one {i : Nat} {o : Oper} {fuel : Nat} {listed : Array Bool} {a : Act} {w : World} (hr : Region.ready md ops listed = [i]) (ho : ops[i]? = some o)
    (h : ∀ K' : Act → World → Prop, Shut (∀ a w, (i ∉ D → S w) → wpAnyL P md ops Q D S fuel (listed.setIfInBounds i true) a w → K' a w) → if Region.wanted o (yielded ops a.tmps) = true then Oper.wp P o a w K' Q else K' (a.put o.dst undef) w) :
    wpAnyL P md ops Q D S (fuel + 1) listed a w :=
  ⟨fun h0 => (by rw [hr] at h0; cases h0), fun j hj => by
    rw [hr] at hj
    simp only [List.mem_singleton] at hj
    subst hj
    exact wpOp_step ho (fun K' hK => h K' (fun a w hS hW => hK a w ⟨hS, hW⟩))⟩

/-- All have come up. -/
theorem wpAnyL_done {listed : Array Bool} {a : Act} {w : World} (hr : Region.ready md ops listed = []) (h : Q .normal a w) :
    ∀ fuel, wpAnyL P md ops Q D S fuel listed a w
  | 0 => ⟨hr, h⟩
  | _ + 1 => ⟨fun _ => h, by rw [hr]; simp⟩

/-- The beginning. -/
theorem wp_region_late {id : Nat} {a : Act} {w : World} (D : List Nat) (S : World → Prop) (hm : P.follows .mixedOrders = true)
    (h : wpAnyL P .any ops Q D S ops.size (Array.replicate ops.size false) a w.drew) : (Code.region id ops true).wp P Q a w :=
  wp_region_any hm (wpAny_of_late _ _ _ _ h)
end
end Go.Proofs.YtdlcngmcjidomaaDoor
