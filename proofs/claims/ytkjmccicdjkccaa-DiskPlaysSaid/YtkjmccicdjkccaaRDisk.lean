/- heijunkaref05's disk in memory: what its blocks hold. No condition. -/
import Derived.Test.YtkjmccicdjkccaaDiskJ
namespace Go.Proofs.Ytkjmccicdjkccaa
set_option linter.unusedSimpArgs false
set_option linter.unusedVariables false
open Go.RowKit

/-- What is there of each sector, by what is kept and what is torn. -/
def tornBy (bs : List Bool) (xs : List BEl) : List (List Nat) := List.zipWith (fun b x => if b then [] else x.l) bs xs
def pendBy (ks : List Nat) (ys : List BEl) : List (Nat × List Nat) := List.zipWith (fun k y => (k, y.l)) ks ys
def intV (k : Nat) : Value := .int .i64 (k : Int)

structure RIn (w : World) (T : List Nat) (g : Nat) (s : DSt) (BA : Option Addr) (n bc : Nat) (GA : Option Addr) (gc : Nat) (AA : Option Addr) (m ac : Nat) (NA : Option Addr) (nc : Nat) (st : Int) (xs : List BEl) (bs : List Bool) (ks : List Nat) (ys : List BEl) : Prop where
  blk : Blk w g 53 #[.slice BA n bc, .slice GA n gc, .slice AA m ac, .slice NA m nc, .bool s.down, .int .i64 st, .int .i64 (s.begun : Int)]
  b : OwnR w 0 29 1 BA n bc (xs.map BEl.v)
  bad : OwnR w 0 4 1 GA n gc (bs.map Value.bool)
  at_ : OwnR w 0 3 1 AA m ac (ks.map intV)
  new : OwnR w 0 29 1 NA m nc (ys.map BEl.v)
  apart : Dis BA NA
  xin : ∀ x ∈ xs, x.In w
  yin : ∀ y ∈ ys, y.In w
  full : ∀ x ∈ xs, x.l.length = 64
  es : s.sure = tornBy bs xs
  ep : s.pend = pendBy ks ys
  est : s.stop = max st 0
  st0 : -9223372036854775808 ≤ st
  hT : T = g :: (Ab BA ++ (Ab GA ++ (Ab AA ++ Ab NA)))
  no : NoU8 w T
  wf : s.Wf

/-- The disk s, as heijunkaref05 keeps it, at block g; T: the blocks that it writes. -/
structure RefAt (w : World) (T : List Nat) (g : Nat) (s : DSt) : Prop where
  ex : ∃ BA n bc GA gc AA m ac NA nc st xs bs ks ys, RIn w T g s BA n bc GA gc AA m ac NA nc st xs bs ks ys

section
variable {w w' : World} {T T1 : List Nat} {g : Nat} {s s' : DSt} {BA : Option Addr} {n bc : Nat} {GA : Option Addr} {gc : Nat} {AA : Option Addr} {m ac : Nat} {NA : Option Addr} {nc : Nat} {st : Int} {xs : List BEl} {bs : List Bool} {ks : List Nat} {ys : List BEl}
theorem RIn.mk_ (h : RIn w T g s BA n bc GA gc AA m ac NA nc st xs bs ks ys) : RefAt w T g s := ⟨⟨_, _, _, _, _, _, _, _, _, _, _, _, _, _, _, h⟩⟩
theorem RIn.xl (h : RIn w T g s BA n bc GA gc AA m ac NA nc st xs bs ks ys) : xs.length = n := by have := h.b.len; rw [List.length_map] at this; omega
theorem RIn.bl (h : RIn w T g s BA n bc GA gc AA m ac NA nc st xs bs ks ys) : bs.length = n := by have := h.bad.len; rw [List.length_map] at this; omega
theorem RIn.kl (h : RIn w T g s BA n bc GA gc AA m ac NA nc st xs bs ks ys) : ks.length = m := by have := h.at_.len; rw [List.length_map] at this; omega
theorem RIn.yl (h : RIn w T g s BA n bc GA gc AA m ac NA nc st xs bs ks ys) : ys.length = m := by have := h.new.len; rw [List.length_map] at this; omega
theorem RIn.n_eq (h : RIn w T g s BA n bc GA gc AA m ac NA nc st xs bs ks ys) : s.sure.length = n := by
  rw [h.es, tornBy, List.length_zipWith, h.bl, h.xl]; omega
theorem RIn.m_eq (h : RIn w T g s BA n bc GA gc AA m ac NA nc st xs bs ks ys) : s.pend.length = m := by
  rw [h.ep, pendBy, List.length_zipWith, h.kl, h.yl]; omega
theorem RIn.c0 (h : RIn w T g s BA n bc GA gc AA m ac NA nc st xs bs ks ys) : w.cell? ⟨g, 0, none⟩ = some (.slice BA n bc) := h.blk.cell 0
theorem RIn.c1 (h : RIn w T g s BA n bc GA gc AA m ac NA nc st xs bs ks ys) : w.cell? ⟨g, 1, none⟩ = some (.slice GA n gc) := h.blk.cell 1
theorem RIn.c2 (h : RIn w T g s BA n bc GA gc AA m ac NA nc st xs bs ks ys) : w.cell? ⟨g, 2, none⟩ = some (.slice AA m ac) := h.blk.cell 2
theorem RIn.c3 (h : RIn w T g s BA n bc GA gc AA m ac NA nc st xs bs ks ys) : w.cell? ⟨g, 3, none⟩ = some (.slice NA m nc) := h.blk.cell 3
theorem RIn.c4 (h : RIn w T g s BA n bc GA gc AA m ac NA nc st xs bs ks ys) : w.cell? ⟨g, 4, none⟩ = some (.bool s.down) := h.blk.cell 4
theorem RIn.c5 (h : RIn w T g s BA n bc GA gc AA m ac NA nc st xs bs ks ys) : w.cell? ⟨g, 5, none⟩ = some (.int .i64 st) := h.blk.cell 5
theorem RIn.c6 (h : RIn w T g s BA n bc GA gc AA m ac NA nc st xs bs ks ys) : w.cell? ⟨g, 6, none⟩ = some (.int .i64 (s.begun : Int)) := h.blk.cell 6
theorem RIn.gT (h : RIn w T g s BA n bc GA gc AA m ac NA nc st xs bs ks ys) : g ∈ T := by rw [h.hT]; simp
theorem RIn.BT (h : RIn w T g s BA n bc GA gc AA m ac NA nc st xs bs ks ys) {ad : Addr} (e : BA = some ad) : ad.block ∈ T := by rw [h.hT, e]; simp [Ab]
theorem RIn.GT (h : RIn w T g s BA n bc GA gc AA m ac NA nc st xs bs ks ys) {ad : Addr} (e : GA = some ad) : ad.block ∈ T := by rw [h.hT, e]; simp [Ab]
theorem RIn.AT (h : RIn w T g s BA n bc GA gc AA m ac NA nc st xs bs ks ys) {ad : Addr} (e : AA = some ad) : ad.block ∈ T := by rw [h.hT, e]; simp [Ab]
theorem RIn.NT (h : RIn w T g s BA n bc GA gc AA m ac NA nc st xs bs ks ys) {ad : Addr} (e : NA = some ad) : ad.block ∈ T := by rw [h.hT, e]; simp [Ab]
/-- Whatever turns none of its blocks leaves it. -/
theorem RIn.moved {T0 T2 : List Nat} (h : RIn w T g s BA n bc GA gc AA m ac NA nc st xs bs ks ys) (hm : Moved w w' T0 T2) (hd : ∀ k ∈ T, k ∉ T0) (hx : ∀ x ∈ xs, x.In w') (hy : ∀ y ∈ ys, y.In w') : RIn w' T g s BA n bc GA gc AA m ac NA nc st xs bs ks ys :=
  ⟨h.blk.moved hm (hd g h.gT), h.b.moved hm (fun ad e => hd _ (h.BT e)), h.bad.moved hm (fun ad e => hd _ (h.GT e)), h.at_.moved hm (fun ad e => hd _ (h.AT e)), h.new.moved hm (fun ad e => hd _ (h.NT e)), h.apart, hx, hy, h.full, h.es, h.ep, h.est, h.st0, h.hT, h.no.moved hm hd, h.wf⟩
theorem RIn.below (h : RIn w T g s BA n bc GA gc AA m ac NA nc st xs bs ks ys) (hb : Below w.heap.size w w') : RIn w' T g s BA n bc GA gc AA m ac NA nc st xs bs ks ys :=
  h.moved (Moved.of_below hb []) (fun _ _ h => by cases h) (fun x hx => (h.xin x hx).below hb) (fun y hy => (h.yin y hy).below hb)
theorem RIn.drew (h : RIn w T g s BA n bc GA gc AA m ac NA nc st xs bs ks ys) : RIn w.drew T g s BA n bc GA gc AA m ac NA nc st xs bs ks ys := h.below ((Below.refl _ _).drew)
theorem RIn.alloc (h : RIn w T g s BA n bc GA gc AA m ac NA nc st xs bs ks ys) (o : Obj) : RIn (w.alloc o) T g s BA n bc GA gc AA m ac NA nc st xs bs ks ys := h.below ((Below.refl _ _).alloc (Nat.le_refl _) o)
theorem RefAt.below (h : RefAt w T g s) (hb : Below w.heap.size w w') : RefAt w' T g s := by
  obtain ⟨_, _, _, _, _, _, _, _, _, _, _, _, _, _, _, h⟩ := h.ex
  exact (h.below hb).mk_
theorem RefAt.drew (h : RefAt w T g s) : RefAt w.drew T g s := h.below ((Below.refl _ _).drew)
theorem RefAt.no (h : RefAt w T g s) : NoU8 w T := by
  obtain ⟨_, _, _, _, _, _, _, _, _, _, _, _, _, _, _, h⟩ := h.ex
  exact h.no
theorem RefAt.wf (h : RefAt w T g s) : s.Wf := by
  obtain ⟨_, _, _, _, _, _, _, _, _, _, _, _, _, _, _, h⟩ := h.ex
  exact h.wf
theorem RefAt.lt (h : RefAt w T g s) : ∀ k ∈ T, k < w.heap.size := h.no.lt
/-- Another disk's turn (bytes stay by themselves). -/
theorem RefAt.other {T0 T2 : List Nat} (h : RefAt w T g s) (h0 : NoU8 w T0) (hm : Moved w w' T0 T2) (hd : ∀ k ∈ T, k ∉ T0) : RefAt w' T g s := by
  obtain ⟨_, _, _, _, _, _, _, _, _, _, _, _, _, _, _, h⟩ := h.ex
  exact (h.moved hm hd (fun x hx => (h.xin x hx).stay h0 hm) (fun y hy => (h.yin y hy).stay h0 hm)).mk_
theorem RIn.b_ne (h : RIn w T g s BA n bc GA gc AA m ac NA nc st xs bs ks ys) : ∀ ad, BA = some ad → ad.block ≠ g := h.b.type_ne h.blk (by decide)
theorem RIn.bad_ne (h : RIn w T g s BA n bc GA gc AA m ac NA nc st xs bs ks ys) : ∀ ad, GA = some ad → ad.block ≠ g := h.bad.type_ne h.blk (by decide)
theorem RIn.at_ne (h : RIn w T g s BA n bc GA gc AA m ac NA nc st xs bs ks ys) : ∀ ad, AA = some ad → ad.block ≠ g := h.at_.type_ne h.blk (by decide)
theorem RIn.new_ne (h : RIn w T g s BA n bc GA gc AA m ac NA nc st xs bs ks ys) : ∀ ad, NA = some ad → ad.block ≠ g := h.new.type_ne h.blk (by decide)
/-- A cell of the struct is written that is no slice. -/
theorem RIn.put (h : RIn w T g s BA n bc GA gc AA m ac NA nc st xs bs ks ys) (s' : DSt) (st' : Int) (j : Nat) (u : Value)
    (hcs : (#[Value.slice BA n bc, .slice GA n gc, .slice AA m ac, .slice NA m nc, .bool s.down, .int .i64 st, .int .i64 (s.begun : Int)] : Array Value).setIfInBounds j u = #[.slice BA n bc, .slice GA n gc, .slice AA m ac, .slice NA m nc, .bool s'.down, .int .i64 st', .int .i64 (s'.begun : Int)])
    (hs : s'.sure = s.sure) (hp : s'.pend = s.pend) (hst : s'.stop = max st' 0) (h0 : -9223372036854775808 ≤ st') (h1 : st' < 9223372036854775808) : RIn (w.setCell ⟨g, j, none⟩ u) T g s' BA n bc GA gc AA m ac NA nc st' xs bs ks ys :=
  have hm : Moved w (w.setCell ⟨g, j, none⟩ u) T T := moved_set (p := ⟨g, j, none⟩) h.gT u
  ⟨by rw [← hcs]; exact h.blk.set_ j u, h.b.setCell h.b_ne u, h.bad.setCell h.bad_ne u, h.at_.setCell h.at_ne u, h.new.setCell h.new_ne u, h.apart, fun x hx => (h.xin x hx).stay h.no hm, fun y hy => (h.yin y hy).stay h.no hm, h.full,
    by rw [hs]; exact h.es, by rw [hp]; exact h.ep, hst, h0, h.hT, h.no.set_ g j u, ⟨by rw [hs]; exact h.wf.sure, by rw [hs, hp]; exact h.wf.pend, by rw [hs]; exact h.wf.most, by rw [hst]; omega, by rw [hst]; omega⟩⟩
end
end Go.Proofs.Ytkjmccicdjkccaa
