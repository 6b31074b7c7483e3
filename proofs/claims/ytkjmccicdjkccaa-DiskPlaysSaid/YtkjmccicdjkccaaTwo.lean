/- A law's two disks, the program's and the document's: what a walk keeps of them, one fact. No condition but those of the disks' own functions. -/
import Derived.Test.YtkjmccicdjkccaaRDiskI
import Derived.Test.YtkjmccicdjkccaaAlike
namespace Go.Proofs.Ytkjmccicdjkccaa
set_option linter.unusedSimpArgs false
set_option linter.unusedVariables false
open Go.RowKit

abbrev TBk := Nat × TypeId × Array Value
/-- The program's disk at g, the document's at h; blocks that lie beside both. -/
structure TE (w0 w : World) (g h : Nat) (s t : DSt) (bl : List TBk) : Prop where
  ex : ∃ T R, DiskAt w T g s ∧ RefAt w R h t ∧ (∀ k ∈ T, k ∉ R) ∧ (∀ k ∈ T, w0.heap.size ≤ k) ∧ (∀ k ∈ R, w0.heap.size ≤ k) ∧ Below w0.heap.size w0 w ∧ ∀ b ∈ bl, Blk w b.1 b.2.1 b.2.2 ∧ b.1 ∉ T ∧ b.1 ∉ R

section
variable {w0 w w' : World} {T T' R R' : List Nat} {g h : Nat} {s s' t t' : DSt} {bl : List TBk}
theorem TE.bel (E : TE w0 w g h s t bl) : Below w0.heap.size w0 w := by
  obtain ⟨_, _, _, _, _, _, _, h, _⟩ := E.ex
  exact h
theorem TE.size (E : TE w0 w g h s t bl) : w0.heap.size ≤ w.heap.size := E.bel.size
theorem TE.de (E : TE w0 w g h s t bl) : DE w0 w g s [] [] := by
  obtain ⟨T, R, D, Q, hd, hT, hR, hb, _⟩ := E.ex
  exact ⟨T, D, hT, hb, (fun _ h => by cases h), (fun _ h => by cases h)⟩
theorem TE.wf (E : TE w0 w g h s t bl) : s.Wf := E.de.wf
theorem TE.below (E : TE w0 w g h s t bl) (hb : Below w.heap.size w w') : TE w0 w' g h s t bl := by
  obtain ⟨T, R, D, Q, hd, hT, hR, hb0, hB⟩ := E.ex
  exact ⟨T, R, D.below hb, Q.below hb, hd, hT, hR, below_step hb0 hb hb0.size, fun b h => ⟨(hB b h).1.below hb (hB b h).1.lt, (hB b h).2⟩⟩
theorem TE.drewN (E : TE w0 w g h s t bl) (n : Nat) : TE w0 (w.drewN n) g h s t bl := E.below (((Moved.refl w []).drewN n).below0)
theorem TE.drew (E : TE w0 w g h s t bl) : TE w0 w.drew g h s t bl := E.below ((Below.refl _ _).drew)
theorem TE.alloc (E : TE w0 w g h s t bl) (o : Obj) : TE w0 (w.alloc o) g h s t bl := E.below ((Below.refl _ _).alloc (Nat.le_refl _) o)
theorem TE.forget (E : TE w0 w g h s t bl) : TE w0 w g h s t [] := by
  obtain ⟨T, R, D, Q, hd, hT, hR, hb0, hB⟩ := E.ex
  exact ⟨T, R, D, Q, hd, hT, hR, hb0, (fun _ h => by cases h)⟩
theorem TE.add (E : TE w0 w g h s t bl) (ty : TypeId) (cs : Array Value) : TE w0 (w.alloc (.cells cs ty)) g h s t ((w.heap.size, ty, cs) :: bl) := by
  obtain ⟨T, R, D, Q, hd, hT, hR, hb0, hB⟩ := E.ex
  have hb : Below w.heap.size w (w.alloc (.cells cs ty)) := (Below.refl _ _).alloc (Nat.le_refl _) _
  refine ⟨T, R, D.below hb, Q.below hb, hd, hT, hR, below_step hb0 hb hb0.size, fun b h => ?_⟩
  rcases List.mem_cons.1 h with rfl | h
  · exact ⟨Blk.new .., fun hk => by have := D.lt _ hk; dsimp only at this; omega, fun hk => by have := Q.lt _ hk; dsimp only at this; omega⟩
  · exact ⟨(hB b h).1.below hb (hB b h).1.lt, (hB b h).2⟩
theorem TE.cell (E : TE w0 w g h s t bl) (i j : Nat) {b : TBk} {u : Value} (hb : bl[i]? = some b) (hu : b.2.2[j]? = some u) : w.cell? ⟨b.1, j, none⟩ = some u := by
  obtain ⟨T, R, D, Q, hd, hT, hR, hb0, hB⟩ := E.ex
  exact ((hB b (List.mem_of_getElem? hb)).1.cell j).trans hu
theorem TE.goD (D : DiskAt w T g s) (Q : RefAt w R h t) (hd : ∀ k ∈ T, k ∉ R) (hT : ∀ k ∈ T, w0.heap.size ≤ k) (hR : ∀ k ∈ R, w0.heap.size ≤ k) (hb : Below w0.heap.size w0 w) (hB : ∀ b ∈ bl, Blk w b.1 b.2.1 b.2.2 ∧ b.1 ∉ T ∧ b.1 ∉ R)
    (D' : DiskAt w' T' g s') (hm : Moved w w' T T') : TE w0 w' g h s' t bl :=
  ⟨T', R, D', Q.other D.no hm (fun k hk hT => hd k hT hk), fun k hk hk2 => (hm.new k hk).elim (fun h => hd k h hk2) (fun h => by have := Q.lt k hk2; omega),
    fun k hk => (hm.new k hk).elim (hT k) (fun h => by have := hb.size; omega), hR, hm.below hb hb.size hT, fun b h => ⟨(hB b h).1.moved hm (hB b h).2.1, hm.apart (hB b h).1.lt (hB b h).2.1, (hB b h).2.2⟩⟩
theorem TE.goR (D : DiskAt w T g s) (Q : RefAt w R h t) (hd : ∀ k ∈ T, k ∉ R) (hT : ∀ k ∈ T, w0.heap.size ≤ k) (hR : ∀ k ∈ R, w0.heap.size ≤ k) (hb : Below w0.heap.size w0 w) (hB : ∀ b ∈ bl, Blk w b.1 b.2.1 b.2.2 ∧ b.1 ∉ T ∧ b.1 ∉ R)
    (Q' : RefAt w' R' h t') (hm : Moved w w' R R') : TE w0 w' g h s t' bl :=
  ⟨T, R', D.other Q.no hm hd, Q', fun k hk hk2 => (hm.new k hk2).elim (hd k hk) (fun h => by have := D.lt k hk; omega),
    hT, fun k hk => (hm.new k hk).elim (hR k) (fun h => by have := hb.size; omega), hm.below hb hb.size hR, fun b h => ⟨(hB b h).1.moved hm (hB b h).2.2, (hB b h).2.1, hm.apart (hB b h).1.lt (hB b h).2.2⟩⟩

theorem TE.off (E : TE w0 w g h s t bl) : w.cell? ⟨h, 4, none⟩ = some (.bool t.down) := by
  obtain ⟨T, R, D, Q, _⟩ := E.ex
  obtain ⟨BA, n, bc, GA, gc, AA, m, ac, NA, nc, st, xs, bs, ks, ys, hh⟩ := Q.ex
  exact hh.c4
theorem read_len_ (h : s.Wf) (i : Int) : (s.read i).1.length ≤ 64 := by
  have hc : ∀ k, (s.cur k).length ≤ 64 := fun k => by
    unfold DSt.cur
    have h1 : ∀ (p : List (Nat × List Nat)) (d : List Nat), (∀ x ∈ p, x.2.length = 64) → d.length ≤ 64 → (DSt.lastOf p k d).length ≤ 64 := by
      intro p
      induction p with
      | nil => intro d _ hd; exact hd
      | cons x xs ih =>
        intro d hx hd
        rw [DSt.lastOf_cons]
        refine ih _ (fun y hy => hx y (List.mem_cons_of_mem _ hy)) ?_
        split
        · rw [hx x (List.mem_cons_self ..)]; exact Nat.le_refl _
        · exact hd
    refine h1 _ _ (fun x hx => (h.pend x hx).2) ?_
    rw [List.getD_eq_getElem?_getD]
    cases hk : s.sure[k]? with
    | none => exact Nat.zero_le _
    | some l => rcases h.sure l (List.mem_of_getElem? hk) with e | e <;> simp [e]
  unfold DSt.read
  split
  · exact Nat.zero_le _
  · split
    · split
      · exact Nat.zero_le _
      · exact hc _
    · exact Nat.zero_le _
theorem dread_te (E : TE w0 w g h s t bl) (i : Int) :
    Calls Try.prog 14 #[.pointer (some ⟨g, 0, none⟩), .int .i64 i] w fun e w' => ∃ A n c, e = .returned (.tuple #[.slice A n c, .int .i64 (s.read i).2]) ∧ Ints w' .u8 256 A n c (s.read i).1 ∧ TE w0 w' g h s t bl := by
  obtain ⟨T, R, D, Q, hd, hT, hR, hb0, hB0⟩ := E.ex
  exact (dread_any D i).mono fun _ _ ⟨A, n, c, he, hx, hb⟩ => ⟨A, n, c, he, hx.ints, E.below hb⟩
theorem rread_te (E : TE w0 w g h s t bl) (i : Int) (hp : t.pend.length < 1099511627776) :
    Calls Try.prog 30 #[.pointer (some ⟨h, 0, none⟩), .int .i64 i] w fun e w' => ∃ A n c, e = .returned (.tuple #[.slice A n c, .int .i64 (t.read i).2]) ∧ Ints w' .u8 256 A n c (t.read i).1 ∧ w = w' := by
  obtain ⟨T, R, D, Q, hd, hT, hR, hb0, hB0⟩ := E.ex
  exact rread_any Q i hp
theorem make_te (E : DE w0 w g s [] []) (n : Nat) (hn1 : 1 ≤ n) (hn2 : n ≤ 512) :
    Calls Try.prog 21 #[.int .i64 (n : Int)] w fun e w' => ∃ h, e = .returned (.pointer (some ⟨h, 0, none⟩)) ∧ TE w0 w' g h s (DSt.new n) [] := by
  obtain ⟨T, D, hT, hb0, _, _⟩ := E.ex
  exact (rmake_any n hn1 hn2 w).mono fun _ _ ⟨h, R, he, Q, hR, hb⟩ => ⟨h, he, T, R, D.below hb, Q, fun k hk hk2 => by have := D.lt k hk; have := hR k hk2; omega, hT, fun k hk => by have := hR k hk; have := hb0.size; omega, below_step hb0 hb hb0.size, (fun _ h => by cases h)⟩
theorem dwrite_te (E : TE w0 w g h s t bl) (i : Int) {base : Nat} {bA : Option Addr} {bn bc : Nat} {l : List Nat} (hB : OwnI w base .u8 256 5 bA bn bc l) (hbn : (bn : Int) ≤ 9223372036854775807) (hb : s.begun < 1152921504606846976) (hp : s.pend.length < 1099511627776) :
    Calls Try.prog 11 #[.pointer (some ⟨g, 0, none⟩), .int .i64 i, .slice bA bn bc] w fun e w' => e = .returned (.int .i64 (s.write i l).2) ∧ TE w0 w' g h (s.write i l).1 t bl ∧ OwnI w' base .u8 256 5 bA bn bc l := by
  obtain ⟨T, R, D, Q, hd, hT, hR, hb0, hB0⟩ := E.ex
  exact (dwrite_any D i hB.ints (D.no.off hB) hbn hb hp).mono fun _ _ ⟨he, T', D', hm⟩ => ⟨he, TE.goD D Q hd hT hR hb0 hB0 D' hm, hB.moved hm (D.no.off hB)⟩
theorem rwrite_te (E : TE w0 w g h s t bl) (i : Int) {base : Nat} {bA : Option Addr} {bn bc : Nat} {l : List Nat} (hB : OwnI w base .u8 256 5 bA bn bc l) (hbn : (bn : Int) ≤ 9223372036854775807) (hb : t.begun < 1152921504606846976) (hp : t.pend.length < 1099511627776) :
    Calls Try.prog 31 #[.pointer (some ⟨h, 0, none⟩), .int .i64 i, .slice bA bn bc] w fun e w' => e = .returned (.int .i64 (t.write i l).2) ∧ TE w0 w' g h s (t.write i l).1 bl := by
  obtain ⟨T, R, D, Q, hd, hT, hR, hb0, hB0⟩ := E.ex
  exact (rwrite_disk Q i hB.ints (Q.no.off hB) hbn hb hp).mono fun _ _ ⟨he, T', D', hm⟩ => ⟨he, TE.goR D Q hd hT hR hb0 hB0 D' hm⟩
theorem dflush_te (E : TE w0 w g h s t bl) (hb : s.begun < 1152921504606846976) :
    Calls Try.prog 13 #[.pointer (some ⟨g, 0, none⟩)] w fun e w' => e = .returned (.int .i64 s.flush.2) ∧ TE w0 w' g h s.flush.1 t bl := by
  obtain ⟨T, R, D, Q, hd, hT, hR, hb0, hB0⟩ := E.ex
  exact (dflush_any D hb).mono fun _ _ ⟨he, T', D', hm⟩ => ⟨he, TE.goD D Q hd hT hR hb0 hB0 D' hm⟩
theorem rflush_te (E : TE w0 w g h s t bl) (hb : t.begun < 1152921504606846976) (hp : t.pend.length < 1099511627776) :
    Calls Try.prog 32 #[.pointer (some ⟨h, 0, none⟩)] w fun e w' => e = .returned (.int .i64 t.flush.2) ∧ TE w0 w' g h s t.flush.1 bl := by
  obtain ⟨T, R, D, Q, hd, hT, hR, hb0, hB0⟩ := E.ex
  exact (rflush_any Q hb hp).mono fun _ _ ⟨he, T', D', hm⟩ => ⟨he, TE.goR D Q hd hT hR hb0 hB0 D' hm⟩
theorem dplan_te (E : TE w0 w g h s t bl) (k : Int) (hk : k < 9223372036854775808) :
    Calls Try.prog 17 #[.pointer (some ⟨g, 0, none⟩), .int .i64 k] w fun e w' => (∃ v, e = .returned v) ∧ TE w0 w' g h (s.plan k) t bl := by
  obtain ⟨T, R, D, Q, hd, hT, hR, hb0, hB0⟩ := E.ex
  exact (plan_any D k hk).mono fun _ _ ⟨he, D', hm⟩ => ⟨he, TE.goD D Q hd hT hR hb0 hB0 D' hm⟩
theorem rplan_te (E : TE w0 w g h s t bl) (k : Int) (hk : k < 9223372036854775808) (hk0 : -9223372036854775808 ≤ k) :
    Calls Try.prog 33 #[.pointer (some ⟨h, 0, none⟩), .int .i64 k] w fun e w' => (∃ v, e = .returned v) ∧ TE w0 w' g h s (t.plan k) bl := by
  obtain ⟨T, R, D, Q, hd, hT, hR, hb0, hB0⟩ := E.ex
  exact (rplan_any Q k hk hk0).mono fun _ _ ⟨he, D', hm⟩ => ⟨he, TE.goR D Q hd hT hR hb0 hB0 D' hm⟩
theorem dup_te (E : TE w0 w g h s t bl) {bA : Option Addr} {bn bc : Nat} {l : List Nat} (hB : Ints w0 .u8 256 bA bn bc l) (hbn : bn ≤ 1099511627776) :
    Calls Try.prog 16 #[.pointer (some ⟨g, 0, none⟩), .slice bA bn bc] w fun e w' => (∃ v, e = .returned v) ∧ TE w0 w' g h (s.up l) t bl := by
  obtain ⟨T, R, D, Q, hd, hT, hR, hb0, hB0⟩ := E.ex
  exact (dup_any D (hB.below hb0) hbn).mono fun _ _ ⟨he, T', D', hm⟩ => ⟨he, TE.goD D Q hd hT hR hb0 hB0 D' hm⟩
theorem rup_te (E : TE w0 w g h s t bl) {bA : Option Addr} {bn bc : Nat} {l : List Nat} (hB : Ints w0 .u8 256 bA bn bc l) (hbn : bn ≤ 1099511627776) (hp : t.pend.length < 1099511627776) :
    Calls Try.prog 34 #[.pointer (some ⟨h, 0, none⟩), .slice bA bn bc] w fun e w' => (∃ v, e = .returned v) ∧ TE w0 w' g h s (t.up l) bl := by
  obtain ⟨T, R, D, Q, hd, hT, hR, hb0, hB0⟩ := E.ex
  refine (rup_any Q (hB.below hb0) (fun hn ad e hk => ?_) hbn hp).mono fun _ _ ⟨he, T', D', hm⟩ => ⟨he, TE.goR D Q hd hT hR hb0 hB0 D' hm⟩
  obtain ⟨b, o, e2, hb, _⟩ := hB.rd.at_ hn
  rw [e2] at e
  cases e
  have := hR _ hk
  dsimp only at this
  omega
theorem dimage_te (E : TE w0 w g h s t bl) :
    Calls Try.prog 19 #[.pointer (some ⟨g, 0, none⟩)] w fun e w' => ∃ A n c, e = .returned (.slice A n c) ∧ Img w' w.heap.size A n c s.sure ∧ TE w0 w' g h s t bl := by
  obtain ⟨T, R, D, Q, hd, hT, hR, hb0, hB0⟩ := E.ex
  exact (dimage_any D).mono fun _ _ ⟨A, n, c, he, hI, hb⟩ => ⟨A, n, c, he, hI, E.below hb⟩
theorem rimage_te (E : TE w0 w g h s t bl) {base : Nat} {A : Option Addr} {n c : Nat} {ls : List (List Nat)} (hI : Img w base A n c ls) :
    Calls Try.prog 24 #[.pointer (some ⟨h, 0, none⟩)] w fun e w' => ∃ A' n' c', e = .returned (.slice A' n' c') ∧ Img w' w.heap.size A' n' c' t.sure ∧ Img w' base A n c ls ∧ TE w0 w' g h s t bl := by
  obtain ⟨T, R, D, Q, hd, hT, hR, hb0, hB0⟩ := E.ex
  exact (rimage_any Q).mono fun _ _ ⟨A', n', c', he, hI', hb⟩ => ⟨A', n', c', he, hI', hI.below hb, E.below hb⟩
end
end Go.Proofs.Ytkjmccicdjkccaa
