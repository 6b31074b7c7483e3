/- heijunkaref05's disk while a write is being added. No condition. -/
import Derived.Test.YtkjmccicdjkccaaRDiskE
namespace Go.Proofs.Ytkjmccicdjkccaa
set_option linter.unusedSimpArgs false
set_option linter.unusedVariables false
open Go.RowKit

/-- As RIn, the two rows of what is pending each of a length of its own. -/
structure RRaw (w : World) (T : List Nat) (g : Nat) (BA : Option Addr) (n bc : Nat) (GA : Option Addr) (gc : Nat) (AA : Option Addr) (ma ac : Nat) (NA : Option Addr) (mn nc : Nat) (dn : Bool) (st bg : Int) (xs : List BEl) (bs : List Bool) (ks : List Nat) (ys : List BEl) : Prop where
  blk : Blk w g 53 #[.slice BA n bc, .slice GA n gc, .slice AA ma ac, .slice NA mn nc, .bool dn, .int .i64 st, .int .i64 bg]
  b : OwnR w 0 29 1 BA n bc (xs.map BEl.v)
  bad : OwnR w 0 4 1 GA n gc (bs.map Value.bool)
  at_ : OwnR w 0 3 1 AA ma ac (ks.map intV)
  new : OwnR w 0 29 1 NA mn nc (ys.map BEl.v)
  apart : Dis BA NA
  xin : ∀ x ∈ xs, x.In w
  yin : ∀ y ∈ ys, y.In w
  hT : T = g :: (Ab BA ++ (Ab GA ++ (Ab AA ++ Ab NA)))
  no : NoU8 w T
section
variable {w w' : World} {T T1 : List Nat} {g : Nat} {s : DSt} {BA : Option Addr} {n bc : Nat} {GA : Option Addr} {gc : Nat} {AA : Option Addr} {m ma ac : Nat} {NA : Option Addr} {mn nc : Nat} {dn : Bool} {st bg : Int} {xs : List BEl} {bs : List Bool} {ks : List Nat} {ys : List BEl}
theorem RIn.raw (h : RIn w T g s BA n bc GA gc AA m ac NA nc st xs bs ks ys) : RRaw w T g BA n bc GA gc AA m ac NA m nc s.down st (s.begun : Int) xs bs ks ys := ⟨h.blk, h.b, h.bad, h.at_, h.new, h.apart, h.xin, h.yin, h.hT, h.no⟩
theorem RRaw.gT (h : RRaw w T g BA n bc GA gc AA ma ac NA mn nc dn st bg xs bs ks ys) : g ∈ T := by rw [h.hT]; simp
theorem RRaw.lt (h : RRaw w T g BA n bc GA gc AA ma ac NA mn nc dn st bg xs bs ks ys) : ∀ k ∈ T, k < w.heap.size := h.no.lt
theorem RRaw.below (h : RRaw w T g BA n bc GA gc AA ma ac NA mn nc dn st bg xs bs ks ys) (hb : Below w.heap.size w w') : RRaw w' T g BA n bc GA gc AA ma ac NA mn nc dn st bg xs bs ks ys :=
  ⟨h.blk.below hb h.blk.lt, h.b.below hb, h.bad.below hb, h.at_.below hb, h.new.below hb, h.apart, fun x hx => (h.xin x hx).below hb, fun y hy => (h.yin y hy).below hb, h.hT, h.no.moved (Moved.of_below hb []) (fun _ _ h => by cases h)⟩
theorem row_ne {A : Option Addr} {k c : Nat} {e t : TypeId} {vs : List Value} {cs : Array Value} (h : OwnR w 0 e 1 A k c vs) (hb : Blk w g t cs) (ht : e ≠ t) : some g ≠ A.map (·.block) := by
  intro e1
  cases hA : A with
  | none => rw [hA] at e1; cases e1
  | some ad => rw [hA] at e1; cases e1; exact h.type_ne hb ht ad hA rfl
/-- Where one more is pending. -/
theorem RRaw.pushAt (h : RRaw w T g BA n bc GA gc AA ma ac NA mn nc dn st bg xs bs ks ys) {i : Nat} {A2 : Option Addr} {c2 : Nat}
    (hp : OwnR w' 0 3 1 A2 (ma + 1) c2 (ks.map intV ++ [intV i])) (hg : w.grownBy w' (AA.map (·.block))) (hA : A2 = AA ∨ A2 = some ⟨w.heap.size, 0, none⟩) :
    w'.frozen? ⟨g, 2, none⟩ = false ∧ w'.cell? ⟨g, 2, none⟩ = some (.slice AA ma ac) ∧ ∃ T', RRaw (w'.setCell ⟨g, 2, none⟩ (.slice A2 (ma + 1) c2)) T' g BA n bc GA gc A2 (ma + 1) c2 NA mn nc dn st bg xs bs (ks ++ [i]) ys ∧ Moved w (w'.setCell ⟨g, 2, none⟩ (.slice A2 (ma + 1) c2)) T T' := by
  have hAT : ∀ k, AA.map (·.block) = some k → k ∈ T := fun k hk => by
    rw [h.hT]
    cases hA' : AA with
    | none => rw [hA'] at hk; cases hk
    | some ad => rw [hA'] at hk; cases hk; simp [Ab]
  have hm : Moved w w' T T := (Moved.refl w T).grown hg (fun k hk => .inl (hAT k hk))
  have hgp := row_ne h.at_ h.blk (by decide)
  have hb := h.blk.grown hg hgp
  have h1 := h.b.kept hg (h.b.dis h.at_ (by decide))
  have h2 := h.bad.kept hg (h.bad.dis h.at_ (by decide))
  have h3 := h.new.kept hg (h.new.dis h.at_ (by decide))
  have hn := NoU8.cons hb (by decide) ((h1.nou8 (by decide)).app ((h2.nou8 (by decide)).app ((hp.nou8 (by decide)).app (h3.nou8 (by decide)))))
  have hm2 : Moved w w' T (g :: (Ab BA ++ (Ab GA ++ (Ab A2 ++ Ab NA)))) := hm.to' fun k hk => by
    rcases hA with rfl | rfl
    · exact .inr (.inl (by rw [h.hT]; exact hk))
    · simp only [List.mem_cons, List.mem_append] at hk
      rcases hk with hk | hk | hk | hk | hk
      · exact .inr (.inl (by rw [h.hT, hk]; simp))
      · exact .inr (.inl (by rw [h.hT]; simp [hk]))
      · exact .inr (.inl (by rw [h.hT]; simp [hk]))
      · simp only [Ab, Option.map_some, Option.toList_some, List.mem_singleton] at hk
        exact .inr (.inr (by omega))
      · exact .inr (.inl (by rw [h.hT]; simp [hk]))
  have hgT : g ∈ g :: (Ab BA ++ (Ab GA ++ (Ab A2 ++ Ab NA))) := by simp
  have hst := moved_set (w := w') (p := ⟨g, 2, none⟩) hgT (.slice A2 (ma + 1) c2)
  refine ⟨hb.frozen 2, hb.cell 2, g :: (Ab BA ++ (Ab GA ++ (Ab A2 ++ Ab NA))), ⟨hb.set_ 2 _, h1.setCell (h1.type_ne hb (by decide)) _, h2.setCell (h2.type_ne hb (by decide)) _, ?_, h3.setCell (h3.type_ne hb (by decide)) _, h.apart, fun x hx => ((h.xin x hx).stay h.no hm2).stay hn hst, fun y hy => ((h.yin y hy).stay h.no hm2).stay hn hst, rfl, hn.set_ g 2 _⟩, hm2.set_ (p := ⟨g, 2, none⟩) hgT _⟩
  rw [List.map_append]
  exact hp.setCell (hp.type_ne hb (by decide)) _
theorem RRaw.pushNew (h : RRaw w T g BA n bc GA gc AA ma ac NA mn nc dn st bg xs bs ks ys) {y : BEl} (hy : y.In w) {A2 : Option Addr} {c2 : Nat}
    (hp : OwnR w' 0 29 1 A2 (mn + 1) c2 (ys.map BEl.v ++ [y.v])) (hg : w.grownBy w' (NA.map (·.block))) (hA : A2 = NA ∨ A2 = some ⟨w.heap.size, 0, none⟩) :
    w'.frozen? ⟨g, 3, none⟩ = false ∧ w'.cell? ⟨g, 3, none⟩ = some (.slice NA mn nc) ∧ ∃ T', RRaw (w'.setCell ⟨g, 3, none⟩ (.slice A2 (mn + 1) c2)) T' g BA n bc GA gc AA ma ac A2 (mn + 1) c2 dn st bg xs bs ks (ys ++ [y]) ∧ Moved w (w'.setCell ⟨g, 3, none⟩ (.slice A2 (mn + 1) c2)) T T' := by
  have hAT : ∀ k, NA.map (·.block) = some k → k ∈ T := fun k hk => by
    rw [h.hT]
    cases hA' : NA with
    | none => rw [hA'] at hk; cases hk
    | some ad => rw [hA'] at hk; cases hk; simp [Ab]
  have hm : Moved w w' T T := (Moved.refl w T).grown hg (fun k hk => .inl (hAT k hk))
  have hgp := row_ne h.new h.blk (by decide)
  have hb := h.blk.grown hg hgp
  have h1 := h.b.kept hg (fun ad e e2 => by
    cases hN : NA with
    | none => rw [hN] at e2; cases e2
    | some ad2 =>
      rw [hN] at e2
      injection e2 with e2
      exact h.apart.ne ad ad2 e hN e2)
  have h2 := h.bad.kept hg (h.bad.dis h.new (by decide))
  have h3 := h.at_.kept hg (h.at_.dis h.new (by decide))
  have hn := NoU8.cons hb (by decide) ((h1.nou8 (by decide)).app ((h2.nou8 (by decide)).app ((h3.nou8 (by decide)).app (hp.nou8 (by decide)))))
  have hm2 : Moved w w' T (g :: (Ab BA ++ (Ab GA ++ (Ab AA ++ Ab A2)))) := hm.to' fun k hk => by
    rcases hA with rfl | rfl
    · exact .inr (.inl (by rw [h.hT]; exact hk))
    · simp only [List.mem_cons, List.mem_append] at hk
      rcases hk with hk | hk | hk | hk | hk
      · exact .inr (.inl (by rw [h.hT, hk]; simp))
      · exact .inr (.inl (by rw [h.hT]; simp [hk]))
      · exact .inr (.inl (by rw [h.hT]; simp [hk]))
      · exact .inr (.inl (by rw [h.hT]; simp [hk]))
      · simp only [Ab, Option.map_some, Option.toList_some, List.mem_singleton] at hk
        exact .inr (.inr (by omega))
  have hgT : g ∈ g :: (Ab BA ++ (Ab GA ++ (Ab AA ++ Ab A2))) := by simp
  have hst := moved_set (w := w') (p := ⟨g, 3, none⟩) hgT (.slice A2 (mn + 1) c2)
  refine ⟨hb.frozen 3, hb.cell 3, g :: (Ab BA ++ (Ab GA ++ (Ab AA ++ Ab A2))), ⟨hb.set_ 3 _, h1.setCell (h1.type_ne hb (by decide)) _, h2.setCell (h2.type_ne hb (by decide)) _, h3.setCell (h3.type_ne hb (by decide)) _, ?_, ?_, fun x hx => ((h.xin x hx).stay h.no hm2).stay hn hst, fun z hz => ?_, rfl, hn.set_ g 3 _⟩, hm2.set_ (p := ⟨g, 3, none⟩) hgT _⟩
  · rw [List.map_append]
    exact hp.setCell (hp.type_ne hb (by decide)) _
  · rcases hA with rfl | rfl
    · exact h.apart
    · exact ⟨fun x z hx hz e => by cases hz; have := (h.b.lt x hx).2; simp at e; omega⟩
  · rcases List.mem_append.1 hz with hz | hz
    · exact ((h.yin z hz).stay h.no hm2).stay hn hst
    · rw [List.mem_singleton] at hz
      subst hz
      exact (hy.stay h.no hm2).stay hn hst
end
end Go.Proofs.Ytkjmccicdjkccaa
