/- A law's disk: what a walk keeps of it, one fact . No condition but those of the disk's own functions. -/
import Derived.Test.YtdlcngmcjidomaaDoorLDiskI
import Derived.Test.YtdlcngmcjidomaaDoorRowsB
namespace Go.Proofs.YtdlcngmcjidomaaDoor
set_option linter.unusedSimpArgs false
set_option linter.unusedVariables false
open Go.RowKit

structure ImgT where
  (A : Option Addr) (n c : Nat) (ls : List (List Nat))
/-- A disk that a call made, at block g; rows of bytes, and slices of them, that lie beside it. -/
structure DE (w0 w : World) (g : Nat) (s : DSt) (rs : List BEl) (ims : List ImgT) : Prop where
  ex : ∃ T, DiskAt w T g s ∧ (∀ k ∈ T, w0.heap.size ≤ k) ∧ Below w0.heap.size w0 w ∧ (∀ x ∈ rs, x.In w) ∧ ∀ i ∈ ims, Img w w0.heap.size i.A i.n i.c i.ls ∧ ∀ ad, i.A = some ad → ad.block ∉ T

section
variable {w0 w w' : World} {T T' : List Nat} {g : Nat} {s s' : DSt} {rs : List BEl} {ims : List ImgT}
theorem DE.bel (E : DE w0 w g s rs ims) : Below w0.heap.size w0 w := by
  obtain ⟨_, _, _, h, _⟩ := E.ex
  exact h
theorem DE.size (E : DE w0 w g s rs ims) : w0.heap.size ≤ w.heap.size := E.bel.size
theorem DE.go (D : DiskAt w T g s) (hT : ∀ k ∈ T, w0.heap.size ≤ k) (hb : Below w0.heap.size w0 w) (hr : ∀ x ∈ rs, x.In w) (hi : ∀ i ∈ ims, Img w w0.heap.size i.A i.n i.c i.ls ∧ ∀ ad, i.A = some ad → ad.block ∉ T)
    (D' : DiskAt w' T' g s') (hm : Moved w w' T T') : DE w0 w' g s' rs ims :=
  ⟨T', D', fun k hk => (hm.new k hk).elim (hT k) (fun h => by have := hb.size; omega), hm.below hb hb.size hT, fun x hx => (hr x hx).stay D.no hm, fun i h =>
    ⟨(hi i h).1.moved D.no hm (hi i h).2, fun ad he => hm.apart ((hi i h).1.lt ad he).2 ((hi i h).2 ad he)⟩⟩
theorem DE.below (E : DE w0 w g s rs ims) (hb : Below w.heap.size w w') : DE w0 w' g s rs ims := by
  obtain ⟨T, D, hT, hb0, hr, hi⟩ := E.ex
  exact DE.go D hT hb0 hr hi (D.below hb) (Moved.of_below hb T)
theorem DE.drew (E : DE w0 w g s rs ims) : DE w0 w.drew g s rs ims := E.below ((Below.refl _ _).drew)
theorem DE.drewN (E : DE w0 w g s rs ims) (n : Nat) : DE w0 (w.drewN n) g s rs ims := E.below (((Moved.refl w []).drewN n).below0)
theorem DE.alloc (E : DE w0 w g s rs ims) (o : Obj) : DE w0 (w.alloc o) g s rs ims := E.below ((Below.refl _ _).alloc (Nat.le_refl _) o)
theorem DE.add (E : DE w0 w g s rs ims) {x : BEl} (hx : x.In w) : DE w0 w g s (x :: rs) ims := by
  obtain ⟨T, D, hT, hb0, hr, hi⟩ := E.ex
  exact ⟨T, D, hT, hb0, fun y hy => by
    rcases List.mem_cons.1 hy with rfl | hy
    · exact hx
    · exact hr y hy, hi⟩
theorem DE.forget (E : DE w0 w g s rs ims) : DE w0 w g s [] [] := by
  obtain ⟨T, D, hT, hb0, _, _⟩ := E.ex
  exact ⟨T, D, hT, hb0, (fun _ h => by cases h), (fun _ h => by cases h)⟩
theorem DE.row (E : DE w0 w g s rs ims) (i : Nat) {x : BEl} (h : rs[i]? = some x) : x.In w := by
  obtain ⟨T, D, hT, hb0, hr, _⟩ := E.ex
  exact hr x (List.mem_of_getElem? h)
theorem DE.img (E : DE w0 w g s rs ims) (i : Nat) {x : ImgT} (h : ims[i]? = some x) : Img w w0.heap.size x.A x.n x.c x.ls := by
  obtain ⟨T, D, hT, hb0, _, hi⟩ := E.ex
  exact (hi x (List.mem_of_getElem? h)).1
theorem DE.wf (E : DE w0 w g s rs ims) : s.Wf := by
  obtain ⟨T, D, _⟩ := E.ex
  exact D.wf

theorem dnew_de (n : Nat) (hn1 : 1 ≤ n) (hn2 : n ≤ 512) (w : World) (hb : Below w0.heap.size w0 w) :
    Calls Tryd.prog 11 #[.int .i64 (n : Int)] w fun e w' => ∃ g, e = .returned (.tuple #[.pointer (some ⟨g, 0, none⟩), .int .i64 0]) ∧ DE w0 w' g (DSt.new n) [] [] :=
  (dnew_any n hn1 hn2 w).mono fun _ _ ⟨g, T, he, hd, hT, hb1⟩ => ⟨g, he, T, hd, fun k hk => by have := hT k hk; have := hb.size; omega, below_step hb hb1 hb.size, (fun _ h => by cases h), (fun _ h => by cases h)⟩
theorem dread_de (E : DE w0 w g s rs ims) (i : Int) :
    Calls Tryd.prog 56 #[.pointer (some ⟨g, 0, none⟩), .int .i64 i] w fun e w' => ∃ A n c, e = .returned (.tuple #[.slice A n c, .int .i64 (s.read i).2]) ∧ DE w0 w' g s (⟨A, n, c, (s.read i).1⟩ :: rs) ims := by
  obtain ⟨T, D, hT, hb0, hr, hi⟩ := E.ex
  exact (dread_any D i).mono fun _ _ ⟨A, n, c, he, hx, hb⟩ => ⟨A, n, c, he, (E.below hb).add hx⟩
theorem dwrite_de (E : DE w0 w g s rs ims) (i : Int) {base : Nat} {bA : Option Addr} {bn bc : Nat} {l : List Nat} (hB : OwnI w base .u8 256 5 bA bn bc l) (hbn : (bn : Int) ≤ 9223372036854775807) (hb : s.begun < 1152921504606846976) (hp : s.pend.length < 1099511627776) :
    Calls Tryd.prog 18 #[.pointer (some ⟨g, 0, none⟩), .int .i64 i, .slice bA bn bc] w fun e w' => e = .returned (.int .i64 (s.write i l).2) ∧ DE w0 w' g (s.write i l).1 rs ims := by
  obtain ⟨T, D, hT, hb0, hr, hi⟩ := E.ex
  exact (dwrite_any D i hB.ints (D.no.off hB) hbn hb hp).mono fun _ _ ⟨he, T', D', hm⟩ => ⟨he, DE.go D hT hb0 hr hi D' hm⟩
theorem dflush_de (E : DE w0 w g s rs ims) (hb : s.begun < 1152921504606846976) :
    Calls Tryd.prog 38 #[.pointer (some ⟨g, 0, none⟩)] w fun e w' => e = .returned (.int .i64 s.flush.2) ∧ DE w0 w' g s.flush.1 rs ims := by
  obtain ⟨T, D, hT, hb0, hr, hi⟩ := E.ex
  exact (dflush_any D hb).mono fun _ _ ⟨he, T', D', hm⟩ => ⟨he, DE.go D hT hb0 hr hi D' hm⟩
theorem dplan_de (E : DE w0 w g s rs ims) (k : Int) (hk : k < 9223372036854775808) :
    Calls Tryd.prog 21 #[.pointer (some ⟨g, 0, none⟩), .int .i64 k] w fun e w' => (∃ v, e = .returned v) ∧ DE w0 w' g (s.plan k) rs ims := by
  obtain ⟨T, D, hT, hb0, hr, hi⟩ := E.ex
  exact (plan_any D k hk).mono fun _ _ ⟨he, D', hm⟩ => ⟨he, DE.go D hT hb0 hr hi D' hm⟩
theorem dup_de (E : DE w0 w g s rs ims) {bA : Option Addr} {bn bc : Nat} {l : List Nat} (hB : Ints w .u8 256 bA bn bc l) (hbn : bn ≤ 1099511627776) :
    Calls Tryd.prog 19 #[.pointer (some ⟨g, 0, none⟩), .slice bA bn bc] w fun e w' => (∃ v, e = .returned v) ∧ DE w0 w' g (s.up l) rs ims := by
  obtain ⟨T, D, hT, hb0, hr, hi⟩ := E.ex
  exact (dup_any D hB hbn).mono fun _ _ ⟨he, T', D', hm⟩ => ⟨he, DE.go D hT hb0 hr hi D' hm⟩
theorem ddown_de (E : DE w0 w g s rs ims) :
    Calls Tryd.prog 33 #[.pointer (some ⟨g, 0, none⟩)] w fun e w' => e = .returned (.bool s.down) ∧ w = w' := by
  obtain ⟨T, D, _⟩ := E.ex
  exact down_any D
theorem dsectors_de (E : DE w0 w g s rs ims) :
    Calls Tryd.prog 31 #[.pointer (some ⟨g, 0, none⟩)] w fun e w' => e = .returned (.int .i64 (s.sure.length : Nat)) ∧ w = w' := by
  obtain ⟨T, D, _⟩ := E.ex
  exact sectors_any D
end
end Go.Proofs.YtdlcngmcjidomaaDoor
