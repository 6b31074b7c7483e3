/- Texts of several parts in one: LedB, LedC, LedD, LedE, LedF, LedG, LedH, LedI, LedJ. Each says what it proves; no condition but those named there. -/
import Derived.Test.YtdlcngmcjidomaaDoorLLedA
import Derived.Recover
import Derived.Test.YtdlcngmcjidomaaDoorGSM
import Derived.Deep.DeepCutAuto
/- The ledger's must and caught: what leaves by a panic is handed back as a code. No condition. -/
namespace Go.Proofs.YtdlcngmcjidomaaDoor
set_option linter.unusedSimpArgs false
set_option linter.unusedVariables false
open Go.RowKit Go.Shelf

/-- What must raises. -/
def goneP (cd : Int) : List PanicEntry := [{ v := .iface 105 (.agg #[.int .i64 cd]), recovered := false }]

theorem must_ok (w : World) : Calls Tryd.prog 47 #[.int .i64 0] w fun e w' => (∃ v, e = .returned v) ∧ w = w' := by
  go_enter Tryd.func47, Tryd.ntmps47
  go_wp2_with fail
  go_end0
  exact ⟨⟨_, rfl⟩, rfl⟩
theorem must_gone (cd : Int) (h : cd ≠ 0) (w : World) : Calls Tryd.prog 47 #[.int .i64 cd] w fun e w' => e = .panicked (goneP cd) ∧ w = w' := by
  have q : (cd != 0) = true := by simpa using h
  go_enter Tryd.func47, Tryd.ntmps47
  go_wp2_with fail
  exact ⟨rfl, rfl, rfl⟩
theorem catch_idle (p : Addr) (w : World) :
    CallsD Tryd.prog 62 #[.pointer (some p)] .returning w fun e u' w' => (∃ v, e = .returned v) ∧ u' = .returning ∧ w' = w := by
  refine callsD_of_wpS Tryd.func62 rfl fun c₀ cs hu => ?_
  apply wpS_seq
  apply wpS_region
  simp [wpOpsS, go_sem, recoverD, hu, Tryd.ntmps62, Exit.thenS]
  refine wpS_of_wp ?_
  go_wp2_with fail
  cases c₀
  simp_all [bodyPostS, results, Tryd.results62]
set_option maxRecDepth 100000 in
theorem run_assert_same {P : Program} (t xT : TypeId) {fs : Array Field} (v : Value) (w : World) (h : P.underlying t = some (.struct fs)) : (Instr.typeAssert (.iface t v) xT t true).run P w = .ok (.tuple #[v, .bool true]) w := by
  unfold Instr.typeAssert
  rw [Sem.run_bind, run_underlying h, Result.andThen_ok]
  simp [Sem.run_pure]
theorem assert_gone (W : World) (v : Value) : (Instr.typeAssert (.iface 105 v) 20 105 true).run Tryd.prog W = .ok (.tuple #[v, .bool true]) W := run_assert_same _ _ v W Tryd.underlying105
set_option maxRecDepth 100000 in
set_option maxHeartbeats 1600000 in
theorem catch_gone (g : Nat) (cd : Int) (w : World) (hc : Blk w g 25 #[.int .i64 0]) :
    CallsD Tryd.prog 62 #[.pointer (some ⟨g, 0, none⟩)] (.panicking (goneP cd)) w fun e u' w' =>
      (∃ v, e = .returned v) ∧ u' = .panicking [{ v := .iface 105 (.agg #[.int .i64 cd]), recovered := true }] ∧ ∃ w2, Below w.heap.size w w2 ∧ w' = w2.setCell ⟨g, 0, none⟩ (.int .i64 cd) := by
  have f1 := (hc.alloc (.cells #[.int .i64 cd] 105)).frozen 0
  have c1 := (hc.alloc (.cells #[.int .i64 cd] 105)).cell 0
  refine callsD_of_wpS Tryd.func62 rfl fun c₀ cs hu => ?_
  apply wpS_seq
  apply wpS_region
  simp [wpOpsS, go_sem, recoverD, hu, goneP, Tryd.ntmps62, Exit.thenS]
  refine wpS_of_wp ?_
  have ha := assert_gone
  go_wp2_with fail
  refine ⟨rfl, _, rfl, .tuple #[], ?_, ⟨_, rfl⟩, rfl, _, (Below.refl _ _).alloc (Nat.le_refl _) _, rfl⟩
  simp [results, Tryd.results62]
section
variable {w0 w : World} {g : Nat} {s : DSt} {bl : List WBk} {ys : List WRow} {rd : List BEl}
/-- caught: what is done comes back, or leaves with a code. -/
theorem caught_we (E : WE w0 w g s bl ys rd) (F : FuncId) (caps : Array Value) (hF : ∀ w : World, (callFunc F caps).run Tryd.prog w = .ok (.enter F caps) w) (X : Int → World → DSt → List WBk → List WRow → List BEl → Prop)
    (hb : ∀ r w1, WE w0 w1 g s ((r, 25, #[.int .i64 0]) :: bl) ys rd → Calls Tryd.prog F caps w1 fun e w2 => ∃ cd s2 bl2 ys2 rd2, (cd = 0 ∧ (∃ v, e = .returned v) ∨ cd ≠ 0 ∧ e = .panicked (goneP cd)) ∧ WE w0 w2 g s2 ((r, 25, #[.int .i64 0]) :: bl2) ys2 rd2 ∧ ∀ w3, WE w0 w3 g s2 bl2 ys2 rd2 → X cd w3 s2 bl2 ys2 rd2) :
    Calls Tryd.prog 44 #[.func (.func F) #[] caps] w fun e w' => ∃ cd s2 bl2 ys2 rd2, e = .returned (.int .i64 cd) ∧ WE w0 w' g s2 bl2 ys2 rd2 ∧ X cd w' s2 bl2 ys2 rd2 := by
  have hmf : ∀ (fn : Fn) (first cap : Array Value) (w : World), (Instr.makeFunc fn first cap).run Tryd.prog w = .ok (.func fn first cap) w := fun _ _ _ _ => rfl
  have E1 := E.add 25 #[.int .i64 0] (by decide)
  have HB := Lib.hid (hb _ _ E1)
  clear hb
  go_enter_defers Tryd.func44, Tryd.ntmps44
  go_wp2_with fail
  refine HB.out.mono ?_; rintro e w2 ⟨cd, s2, bl2, ys2, rd2, hc, E2, hX⟩
  have hr0 := E2.b 0 rfl
  have f0 : w2.frozen? ⟨w.heap.size, 0, none⟩ = false := E2.frozen 0 0 rfl
  have c0 : w2.cell? ⟨w.heap.size, 0, none⟩ = some (.int .i64 0) := E2.cell 0 0 rfl rfl
  rcases hc with ⟨rfl, v, rfl⟩ | ⟨hcd, rfl⟩
  · have E3 := E2.set 0 0 rfl (.int .i64 0)
    have HE := Lib.hid E3
    have cz : (w2.setCell ⟨w.heap.size, 0, none⟩ (.int .i64 0)).cell? ⟨w.heap.size, 0, none⟩ = some (.int .i64 0) := E3.cell 0 0 rfl rfl
    have HX := Lib.hid (And.intro hX cz)
    clear E E1 E2 HB E3 cz hX
    go_wp2_with fail
    refine leaves_cons (f := 62) (args := #[.pointer (some ⟨w.heap.size, 0, none⟩)]) (by simp) (by simp [go_sem]) ?_
    refine (catch_idle ⟨w.heap.size, 0, none⟩ _).mono ?_
    rintro e u' w3 ⟨⟨v2, rfl⟩, rfl, rfl⟩
    have cz := HX.out.2
    have E4 := HE.out.pick (bl' := bl2) (.cons _ (.refl _)) (.refl _) (fun _ h => h)
    simp only [Leaves, settle]
    refine ⟨.int .i64 0, by simp [results, Tryd.results44, go_sem, cz], 0, s2, bl2, ys2, rd2, rfl, E4, HX.out.1 _ E4⟩
  · refine leaves_cons (f := 62) (args := #[.pointer (some ⟨w.heap.size, 0, none⟩)]) (by simp) (by simp [go_sem]) ?_
    refine (catch_gone w.heap.size cd _ hr0).mono ?_
    rintro e u' w3 ⟨⟨v2, rfl⟩, rfl, w4, hb4, rfl⟩
    have E3 := (E2.below hb4).set 0 0 rfl (.int .i64 cd)
    have cz : (w4.setCell ⟨w.heap.size, 0, none⟩ (.int .i64 cd)).cell? ⟨w.heap.size, 0, none⟩ = some (.int .i64 cd) := E3.cell 0 0 rfl rfl
    have E4 := E3.pick (bl' := bl2) (.cons _ (.refl _)) (.refl _) (fun _ h => h)
    simp only [Leaves, settle, List.dropWhile_nil]
    refine ⟨.int .i64 cd, by simp [results, Tryd.results44, go_sem, cz], cd, s2, bl2, ys2, rd2, rfl, E4, hX _ E4⟩
end
end Go.Proofs.YtdlcngmcjidomaaDoor

/- The ledger's block, its segment, need, and what it tells. No condition but the reach. -/
namespace Go.Proofs.YtdlcngmcjidomaaDoor
set_option linter.unusedSimpArgs false
set_option linter.unusedVariables false
open Go.RowKit Go.Shelf

def ledV (g hs gen half : Nat) (lost : Bool) (A : Option Addr) (n c : Nat) : Array Value := #[.pointer (some ⟨g, 0, none⟩), .int .u32 (gen : Int), .pointer (some ⟨hs, 0, none⟩), .slice A n c, .int .i64 (half : Int), .bool lost]
abbrev ledB (hl g hs gen half : Nat) (lost : Bool) (A : Option Addr) (n c : Nat) : WBk := (hl, 88, ledV g hs gen half lost A n c)
section
variable {w0 w w' : World} {g hl : Nat} {s : DSt} {bl : List WBk} {ys : List WRow} {rd : List BEl}
set_option maxRecDepth 100000 in
set_option maxHeartbeats 3200000 in
theorem segment_we (E : WE w0 w g s bl ys rd) (i : Nat) {V : Array Value} (hi : bl[i]? = some (hl, 88, V)) (half gen : Nat) (h0 : V[0]? = some (.pointer (some ⟨g, 0, none⟩))) (h4 : V[4]? = some (.int .i64 (half : Int))) (hg : gen < 4294967296) (hn : 1 ≤ half) (hf : 2 + gen % 2 * half + half ≤ s.sure.length) (hl5 : s.sure.length ≤ 512) :
    Calls Tryd.prog 48 #[.pointer (some ⟨hl, 0, none⟩), .int .u32 (gen : Int)] w fun e w' => ∃ h, e = .returned (.pointer (some ⟨h, 0, none⟩)) ∧ WE w0 w' g s (segB h g ⟨2 + gen % 2 * half, half, gen, 0, 4294967295⟩ :: bl) ys rd := by
  obtain ⟨r, hr⟩ : ∃ r, gen % 2 = r := ⟨_, rfl⟩
  have hri : (gen : Int) % 2 = (r : Int) := by omega
  have hr1 : r ≤ 1 := by omega
  rw [hr] at hf ⊢
  obtain ⟨q, hq⟩ : ∃ q, r * half = q := ⟨_, rfl⟩
  rw [hq] at hf ⊢
  have hqi : (r : Int) * (half : Int) = (q : Int) := by rw [← hq]; simp
  have hqb : q ≤ 512 := by omega
  obtain ⟨f, hfq⟩ : ∃ f, 2 + q = f := ⟨_, rfl⟩
  rw [hfq] at hf ⊢
  have hp : (2 : Int) + (q : Int) = (f : Int) := by omega
  have hw1 : IntKind.i64.wrap ((r : Int) * (half : Int)) = (q : Int) := (IntWalk.i64_in _ ⟨by rw [hqi]; omega, by rw [hqi]; omega⟩).trans hqi
  have hw2 : IntKind.i64.wrap ((2 : Int) + (q : Int)) = (f : Int) := (IntWalk.i64_in _ ⟨by omega, by omega⟩).trans hp
  have hwr : IntKind.i64.wrap (r : Int) = (r : Int) := IntWalk.i64_in _ ⟨by omega, by omega⟩
  have htm : (gen : Int).tmod 2 = (r : Int) := by rw [Int.tmod_eq_emod_of_nonneg (by omega)]; exact hri
  have HW := Lib.hid (And.intro htm (And.intro hwr (And.intro hw1 hw2)))
  clear hq hr hqi hp hw1 hw2 hfq hwr htm hri
  go_enter Tryd.func48, Tryd.ntmps48
  go_wp2_with fail
  have E := E.drew
  generalize hwd : World.drew _ = wd at *
  have s0 : (fun w' : World => w'.cell? ⟨hl, 0, none⟩ = some (.pointer (some ⟨g, 0, none⟩)) ∧ w'.cell? ⟨hl, 4, none⟩ = some (.int .i64 (half : Int))) wd := ⟨E.cell i 0 hi h0, E.cell i 4 hi h4⟩
  refine wp_region_late [] (fun w' : World => w'.cell? ⟨hl, 0, none⟩ = some (.pointer (some ⟨g, 0, none⟩)) ∧ w'.cell? ⟨hl, 4, none⟩ = some (.int .i64 (half : Int))) (by kernel_rfl) ?_
  rw [hwd]
  clear hwd
  refine wpAnyL_take (i := 0) (v := ?_) rfl (by kernel_rfl) (by kernel_rfl) (by kernel_rfl) (by kernel_rfl) (by kernel_rfl) (fun _ _ _ h => h) (Or.inl ⟨by kernel_rfl, ?_⟩) s0 ?_
  rotate_left
  · rintro w0 ⟨h1_, h2_⟩; go_simp; (try with_reducible rfl)
  try simp only [Act.put, List.getElem_toArray, List.getElem_cons_succ, List.getElem_cons_zero, List.setIfInBounds_toArray, List.set_cons_zero, List.set_cons_succ]
  refine wpAnyL_take (i := 1) (v := ?_) rfl (by kernel_rfl) (by kernel_rfl) (by kernel_rfl) (by kernel_rfl) (by kernel_rfl) (fun _ _ _ h => h) (Or.inl ⟨by kernel_rfl, ?_⟩) s0 ?_
  rotate_left
  · rintro w0 ⟨h1_, h2_⟩; go_simp; (try with_reducible rfl)
  try simp only [Act.put, List.getElem_toArray, List.getElem_cons_succ, List.getElem_cons_zero, List.setIfInBounds_toArray, List.set_cons_zero, List.set_cons_succ]
  refine wpAnyL_take (i := 2) (v := ?_) rfl (by kernel_rfl) (by kernel_rfl) (by kernel_rfl) (by kernel_rfl) (by kernel_rfl) (fun _ _ _ h => h) (Or.inl ⟨by kernel_rfl, ?_⟩) s0 ?_
  rotate_left
  · rintro w0 ⟨h1_, h2_⟩; go_simp; (try with_reducible rfl)
  try simp only [Act.put, List.getElem_toArray, List.getElem_cons_succ, List.getElem_cons_zero, List.setIfInBounds_toArray, List.set_cons_zero, List.set_cons_succ]
  refine wpAnyL_take (i := 3) (v := ?_) rfl (by kernel_rfl) (by kernel_rfl) (by kernel_rfl) (by kernel_rfl) (by kernel_rfl) (fun _ _ _ h => h) (Or.inl ⟨by kernel_rfl, ?_⟩) s0 ?_
  rotate_left
  · rintro w0 ⟨h1_, h2_⟩; go_simp; (try with_reducible rfl)
  try simp only [Act.put, List.getElem_toArray, List.getElem_cons_succ, List.getElem_cons_zero, List.setIfInBounds_toArray, List.set_cons_zero, List.set_cons_succ]
  refine wpAnyL_take (i := 4) (v := ?_) rfl (by kernel_rfl) (by kernel_rfl) (by kernel_rfl) (by kernel_rfl) (by kernel_rfl) (fun _ _ _ h => h) (Or.inl ⟨by kernel_rfl, ?_⟩) s0 ?_
  rotate_left
  · rintro w0 ⟨h1_, h2_⟩; go_simp; (try with_reducible rfl)
  try simp only [Act.put, List.getElem_toArray, List.getElem_cons_succ, List.getElem_cons_zero, List.setIfInBounds_toArray, List.set_cons_zero, List.set_cons_succ]
  refine wpAnyL_take (i := 5) (v := ?_) rfl (by kernel_rfl) (by kernel_rfl) (by kernel_rfl) (by kernel_rfl) (by kernel_rfl) (fun _ _ _ h => h) (Or.inl ⟨by kernel_rfl, ?_⟩) s0 ?_
  rotate_left
  · rintro w0 ⟨h1_, h2_⟩; go_simp; (try with_reducible rfl)
  try simp only [Act.put, List.getElem_toArray, List.getElem_cons_succ, List.getElem_cons_zero, List.setIfInBounds_toArray, List.set_cons_zero, List.set_cons_succ]
  refine wpAnyL_take (i := 6) (v := ?_) rfl (by kernel_rfl) (by kernel_rfl) (by kernel_rfl) (by kernel_rfl) (by kernel_rfl) (fun _ _ _ h => h) (Or.inl ⟨by kernel_rfl, ?_⟩) s0 ?_
  rotate_left
  · rintro w0 ⟨h1_, h2_⟩; go_simp; (try with_reducible rfl)
  try simp only [Act.put, List.getElem_toArray, List.getElem_cons_succ, List.getElem_cons_zero, List.setIfInBounds_toArray, List.set_cons_zero, List.set_cons_succ]
  refine wpAnyL_take (i := 7) (v := ?_) rfl (by kernel_rfl) (by kernel_rfl) (by kernel_rfl) (by kernel_rfl) (by kernel_rfl) (fun _ _ _ h => h) (Or.inl ⟨by kernel_rfl, ?_⟩) s0 ?_
  rotate_left
  · rintro w0 ⟨h1_, h2_⟩; go_simp; (try with_reducible rfl)
  try simp only [Act.put, List.getElem_toArray, List.getElem_cons_succ, List.getElem_cons_zero, List.setIfInBounds_toArray, List.set_cons_zero, List.set_cons_succ]
  refine wpAnyL_take (i := 8) (v := ?_) rfl (by kernel_rfl) (by kernel_rfl) (by kernel_rfl) (by kernel_rfl) (by kernel_rfl) (fun _ _ _ h => h) (Or.inl ⟨by kernel_rfl, ?_⟩) s0 ?_
  rotate_left
  · rintro w0 ⟨h1_, h2_⟩; go_simp; (try with_reducible rfl)
  try simp only [Act.put, List.getElem_toArray, List.getElem_cons_succ, List.getElem_cons_zero, List.setIfInBounds_toArray, List.set_cons_zero, List.set_cons_succ]
  refine wpAnyL_take (i := 9) (v := ?_) rfl (by kernel_rfl) (by kernel_rfl) (by kernel_rfl) (by kernel_rfl) (by kernel_rfl) (fun _ _ _ h => h) (Or.inl ⟨by kernel_rfl, ?_⟩) s0 ?_
  rotate_left
  · rintro w0 ⟨h1_, h2_⟩; go_simp; (try with_reducible rfl)
  try simp only [Act.put, List.getElem_toArray, List.getElem_cons_succ, List.getElem_cons_zero, List.setIfInBounds_toArray, List.set_cons_zero, List.set_cons_succ]
  refine wpAnyL_take (i := 10) (v := ?_) rfl (by kernel_rfl) (by kernel_rfl) (by kernel_rfl) (by kernel_rfl) (by kernel_rfl) (fun _ _ _ h => h) (Or.inl ⟨by kernel_rfl, ?_⟩) s0 ?_
  rotate_left
  · rintro w0 ⟨h1_, h2_⟩; go_simp; (try with_reducible rfl)
  try simp only [Act.put, List.getElem_toArray, List.getElem_cons_succ, List.getElem_cons_zero, List.setIfInBounds_toArray, List.set_cons_zero, List.set_cons_succ]
  refine wpAnyL_take (i := 11) (v := ?_) rfl (by kernel_rfl) (by kernel_rfl) (by kernel_rfl) (by kernel_rfl) (by kernel_rfl) (fun _ _ _ h => h) (Or.inl ⟨by kernel_rfl, ?_⟩) s0 ?_
  rotate_left
  · rintro w0 ⟨h1_, h2_⟩; go_simp; (try with_reducible rfl)
  try simp only [Act.put, List.getElem_toArray, List.getElem_cons_succ, List.getElem_cons_zero, List.setIfInBounds_toArray, List.set_cons_zero, List.set_cons_succ]
  refine wpAnyL_take (i := 12) (v := ?_) rfl (by kernel_rfl) (by kernel_rfl) (by kernel_rfl) (by kernel_rfl) (by kernel_rfl) (fun _ _ _ h => h) (Or.inl ⟨by kernel_rfl, ?_⟩) s0 ?_
  rotate_left
  · rintro w0 ⟨h1_, h2_⟩; go_simp; (try with_reducible rfl)
  try simp only [Act.put, List.getElem_toArray, List.getElem_cons_succ, List.getElem_cons_zero, List.setIfInBounds_toArray, List.set_cons_zero, List.set_cons_succ]
  refine wpAnyL_take (i := 13) (v := ?_) rfl (by kernel_rfl) (by kernel_rfl) (by kernel_rfl) (by kernel_rfl) (by kernel_rfl) (fun _ _ _ h => h) (Or.inl ⟨by kernel_rfl, ?_⟩) s0 ?_
  rotate_left
  · rintro w0 ⟨h1_, h2_⟩; go_simp; (try with_reducible rfl)
  try simp only [Act.put, List.getElem_toArray, List.getElem_cons_succ, List.getElem_cons_zero, List.setIfInBounds_toArray, List.set_cons_zero, List.set_cons_succ]
  refine wpAnyL_take (i := 14) (v := ?_) rfl (by kernel_rfl) (by kernel_rfl) (by kernel_rfl) (by kernel_rfl) (by kernel_rfl) (fun _ _ _ h => h) (Or.inl ⟨by kernel_rfl, ?_⟩) s0 ?_
  rotate_left
  · rintro w0 ⟨h1_, h2_⟩; go_simp; (try with_reducible rfl)
  try simp only [Act.put, List.getElem_toArray, List.getElem_cons_succ, List.getElem_cons_zero, List.setIfInBounds_toArray, List.set_cons_zero, List.set_cons_succ]
  refine wpAnyL_take (i := 15) (v := ?_) rfl (by kernel_rfl) (by kernel_rfl) (by kernel_rfl) (by kernel_rfl) (by kernel_rfl) (fun _ _ _ h => h) (Or.inl ⟨by kernel_rfl, ?_⟩) s0 ?_
  rotate_left
  · rintro w0 ⟨h1_, h2_⟩; go_simp; (try with_reducible rfl)
  try simp only [Act.put, List.getElem_toArray, List.getElem_cons_succ, List.getElem_cons_zero, List.setIfInBounds_toArray, List.set_cons_zero, List.set_cons_succ]
  refine wpAnyL_take (i := 16) (v := ?_) rfl (by kernel_rfl) (by kernel_rfl) (by kernel_rfl) (by kernel_rfl) (by kernel_rfl) (fun _ _ _ h => h) (Or.inl ⟨by kernel_rfl, ?_⟩) s0 ?_
  rotate_left
  · rintro w0 ⟨h1_, h2_⟩; go_simp; (try with_reducible rfl)
  try simp only [Act.put, List.getElem_toArray, List.getElem_cons_succ, List.getElem_cons_zero, List.setIfInBounds_toArray, List.set_cons_zero, List.set_cons_succ]
  refine wpAnyL_take (i := 17) (v := ?_) rfl (by kernel_rfl) (by kernel_rfl) (by kernel_rfl) (by kernel_rfl) (by kernel_rfl) (fun _ _ _ h => h) (Or.inl ⟨by kernel_rfl, ?_⟩) s0 ?_
  rotate_left
  · rintro w0 ⟨h1_, h2_⟩; go_simp; (try with_reducible rfl)
  try simp only [Act.put, List.getElem_toArray, List.getElem_cons_succ, List.getElem_cons_zero, List.setIfInBounds_toArray, List.set_cons_zero, List.set_cons_succ]
  refine wpAnyL_one (i := 18) (by kernel_rfl) rfl (fun K hK => ?_)
  go_simp
  rw [HW.out.1, HW.out.2.1, HW.out.2.2.1, HW.out.2.2.2]
  refine (segnew_we E f half gen hn (by omega) hg).mono ?_; rintro e w2 ⟨h, rfl, _, E2, _⟩
  have s1 : (fun w' : World => w'.cell? ⟨hl, 0, none⟩ = some (.pointer (some ⟨g, 0, none⟩)) ∧ w'.cell? ⟨hl, 4, none⟩ = some (.int .i64 (half : Int))) w2 := ⟨E2.cell (i + 1) 0 hi h0, E2.cell (i + 1) 4 hi h4⟩
  go_wp2_with fail
  refine hK.out _ _ (fun _ => s1) ?_
  clear hK K
  try simp only [Act.put, List.getElem_toArray, List.getElem_cons_succ, List.getElem_cons_zero, List.setIfInBounds_toArray, List.set_cons_zero, List.set_cons_succ]
  refine wpAnyL_take (i := 19) (v := ?_) rfl (by kernel_rfl) (by kernel_rfl) (by kernel_rfl) (by kernel_rfl) (by kernel_rfl) (fun _ _ _ h => h) (Or.inl ⟨by kernel_rfl, ?_⟩) s1 ?_
  rotate_left
  · rintro w0 ⟨h1_, h2_⟩; go_simp; (try with_reducible rfl)
  try simp only [Act.put, List.getElem_toArray, List.getElem_cons_succ, List.getElem_cons_zero, List.setIfInBounds_toArray, List.set_cons_zero, List.set_cons_succ]
  refine wpAnyL_take (i := 20) (v := ?_) rfl (by kernel_rfl) (by kernel_rfl) (by kernel_rfl) (by kernel_rfl) (by kernel_rfl) (fun _ _ _ h => h) (Or.inl ⟨by kernel_rfl, ?_⟩) s1 ?_
  rotate_left
  · rintro w0 ⟨h1_, h2_⟩; go_simp; (try with_reducible rfl)
  try simp only [Act.put, List.getElem_toArray, List.getElem_cons_succ, List.getElem_cons_zero, List.setIfInBounds_toArray, List.set_cons_zero, List.set_cons_succ]
  refine wpAnyL_take (i := 21) (v := ?_) rfl (by kernel_rfl) (by kernel_rfl) (by kernel_rfl) (by kernel_rfl) (by kernel_rfl) (fun _ _ _ h => h) (Or.inl ⟨by kernel_rfl, ?_⟩) s1 ?_
  rotate_left
  · rintro w0 ⟨h1_, h2_⟩; go_simp; (try with_reducible rfl)
  try simp only [Act.put, List.getElem_toArray, List.getElem_cons_succ, List.getElem_cons_zero, List.setIfInBounds_toArray, List.set_cons_zero, List.set_cons_succ]
  refine wpAnyL_one (i := 22) (by kernel_rfl) rfl (fun K hK => ?_)
  go_simp
  refine hK.out _ _ (fun _ => s1) ?_
  clear hK K
  try simp only [Act.put, List.getElem_toArray, List.getElem_cons_succ, List.getElem_cons_zero, List.setIfInBounds_toArray, List.set_cons_zero, List.set_cons_succ]
  refine wpAnyL_one (i := 23) (by kernel_rfl) rfl (fun K hK => ?_)
  go_simp
  refine hK.out _ _ (fun _ => s1) ?_
  clear hK K
  try simp only [Act.put, List.getElem_toArray, List.getElem_cons_succ, List.getElem_cons_zero, List.setIfInBounds_toArray, List.set_cons_zero, List.set_cons_succ]
  refine wpAnyL_done (by kernel_rfl) ?_ _
  clear s0 s1
  go_wp2_with fail
  refine (must_ok _).mono ?_; rintro e w3 ⟨⟨v3, rfl⟩, rfl⟩
  go_wp2_with fail
  go_ret
  exact ⟨h, rfl, E2⟩
theorem led_total_snoc (rs : List (List Nat)) (r : List Nat) : SegSt.total (rs ++ [r]) = SegSt.total rs + Cl.need r.length := by
  unfold SegSt.total
  rw [List.map_append, List.sum_append]
  simp
/-- What need hands back. -/
def needR (rs : List (List Nat)) : Value := .tuple #[.int .i64 ((if SegSt.good rs then SegSt.total rs else 0 : Nat) : Int), .bool (SegSt.good rs)]
theorem needR_yes {rs : List (List Nat)} (h : SegSt.good rs = true) : needR rs = .tuple #[.int .i64 (SegSt.total rs : Nat), .bool true] := by unfold needR; rw [h]; rfl
theorem needR_no {rs : List (List Nat)} (h : SegSt.good rs = false) : needR rs = .tuple #[.int .i64 0, .bool false] := by unfold needR; rw [h]; rfl
set_option maxRecDepth 100000 in
set_option maxHeartbeats 3200000 in
theorem need_any {A : Option Addr} {n c : Nat} {xs : List BEl} (R : BArg w A n c xs) (hn : n ≤ 1000) (hxs : ∀ x ∈ xs, x.n ≤ 140737488355328) :
    Calls Tryd.prog 49 #[.slice A n c] w fun e w' => e = .returned (needR (xs.map (·.l))) ∧ w = w' := by
  have hlen := R.len
  go_enter Tryd.func49, Tryd.ntmps49
  go_wp2_with fail
  go_loopw [4, 10] (fun nv iv wr => ∃ j m : Nat, j ≤ n ∧ iv = .int .i64 (j : Int) ∧ nv = .int .i64 (m : Int) ∧ wr = w ∧ m = SegSt.total ((xs.map (·.l)).take j) ∧ SegSt.good ((xs.map (·.l)).take j) = true ∧ m ≤ 8 * j) (fun _ iv _ => n - (intOf iv).toNat)
  case atStart => exact ⟨0, 0, Nat.zero_le _, rfl, rfl, rfl, rfl, rfl, Nat.le_refl _⟩
  case round =>
    obtain ⟨j, m, hj, rfl, rfl, rfl, hm, hgd, hm8⟩ := hrel
    by_cases hlt : j < n
    · obtain ⟨b, o, x, rfl, hx, hc, hi⟩ := R.get hlt
      have hlt1 : (j : Int) < (n : Int) := by omega
      have hj0 : (0 : Int) ≤ (j : Int) := by omega
      have hxn := hxs x (List.mem_of_getElem? hx)
      have hxl := hi.len
      have hr : (xs.map (·.l))[j]? = some x.l := by rw [List.getElem?_map, hx]; rfl
      obtain ⟨k, hk⟩ : ∃ k, Cl.need x.n = k := ⟨_, rfl⟩
      have hk8 : k ≤ 8 := by rw [← hk]; exact Cl.need_le _
      have HK := Lib.hid (And.intro hk (And.intro hm (And.intro hgd (And.intro hxl hr))))
      clear hm hgd hxl hr hx hi
      go_wp2_with fail
      refine (cneed_any (x.n : Int) _ (by omega) (by omega)).mono ?_; rintro e w2 ⟨rfl, rfl⟩
      rw [Int.toNat_natCast, HK.out.1]
      by_cases hk0 : k = 0
      · have q0 : ((k : Int) == 0) = true := by simp [hk0]
        have hbad : SegSt.good (xs.map (·.l)) = false := by
          cases hg : SegSt.good (xs.map (·.l)) with
          | false => rfl
          | true => exact absurd (by rw [HK.out.2.2.2.1, HK.out.1, hk0]) (SegSt.good_iff.1 hg x.l (List.mem_of_getElem? HK.out.2.2.2.2))
        have HB := Lib.hid hbad
        clear hbad hk hk0 hc
        go_wp2_with fail
        go_ret2
        exact ⟨by rw [needR_no HB.out]; rfl, rfl⟩
      · have q0 : ((k : Int) == 0) = false := by simp [hk0]
        obtain ⟨m2, hm2⟩ : ∃ m2, m + k = m2 := ⟨_, rfl⟩
        have hmi : (m : Int) + (k : Int) = (m2 : Int) := by omega
        have hm3 : m2 ≤ 8 * (j + 1) := by omega
        have hm4 : m2 ≤ 9000 := by omega
        have htot : m2 = SegSt.total ((xs.map (·.l)).take (j + 1)) := by
          rw [List.take_add_one, HK.out.2.2.2.2]
          show m2 = SegSt.total (_ ++ [x.l])
          rw [led_total_snoc, ← HK.out.2.1, HK.out.2.2.2.1, HK.out.1, hm2]
        have hgd2 : SegSt.good ((xs.map (·.l)).take (j + 1)) = true := good_take HK.out.2.2.1 HK.out.2.2.2.2 (by rw [HK.out.2.2.2.1, HK.out.1]; exact hk0)
        have HN := Lib.hid (And.intro htot hgd2)
        clear hm2 hk hk0 hc htot hgd2
        go_wp2_with fail
        go_roundw
        case rel => exact ⟨j + 1, m2, by omega, by go_num, rfl, trivial, HN.out.1, HN.out.2, hm3⟩
        case measure => simp [intOf]; omega
    · obtain rfl : j = n := by omega
      have hlt1 : ¬ (j : Int) < (j : Int) := by omega
      have htk : (xs.map (·.l)).take j = xs.map (·.l) := List.take_of_length_le (by rw [List.length_map]; omega)
      rw [htk] at hm hgd
      have HN := Lib.hid (And.intro hm hgd)
      clear hm hgd htk
      go_wp2_with fail
      go_ret2
      refine ⟨?_, rfl⟩
      rw [needR_yes HN.out.2, ← HN.out.1]
      rfl
set_option maxRecDepth 100000 in
theorem lgen_any {V : Array Value} {gn : Nat} (L : Blk w hl 88 V) (h1 : V[1]? = some (.int .u32 (gn : Int))) :
    Calls Tryd.prog 29 #[.pointer (some ⟨hl, 0, none⟩)] w fun e w' => e = .returned (.int .u32 (gn : Int)) ∧ w = w' := by
  have c1 : w.cell? ⟨hl, 1, none⟩ = some (.int .u32 (gn : Int)) := (L.cell 1).trans h1
  clear L
  go_enter Tryd.func29, Tryd.ntmps29
  go_wp2_with fail
  go_ret
  exact ⟨rfl, rfl⟩
set_option maxRecDepth 100000 in
theorem lfree_lost {V : Array Value} (L : Blk w hl 88 V) (h5 : V[5]? = some (.bool true)) :
    Calls Tryd.prog 28 #[.pointer (some ⟨hl, 0, none⟩)] w fun e w' => e = .returned (.int .i64 0) ∧ w = w' := by
  have c5 : w.cell? ⟨hl, 5, none⟩ = some (.bool true) := (L.cell 5).trans h5
  clear L
  go_enter Tryd.func28, Tryd.ntmps28
  go_wp2_with fail
  go_ret
  exact ⟨rfl, rfl⟩
set_option maxRecDepth 100000 in
theorem lused_lost {V : Array Value} (L : Blk w hl 88 V) (h5 : V[5]? = some (.bool true)) :
    Calls Tryd.prog 26 #[.pointer (some ⟨hl, 0, none⟩)] w fun e w' => e = .returned (.int .i64 0) ∧ w = w' := by
  have c5 : w.cell? ⟨hl, 5, none⟩ = some (.bool true) := (L.cell 5).trans h5
  clear L
  go_enter Tryd.func26, Tryd.ntmps26
  go_wp2_with fail
  go_ret
  exact ⟨rfl, rfl⟩
set_option maxRecDepth 100000 in
theorem lfree_any {hs half : Nat} {t : SegSt} {A : Option Addr} {n c : Nat} {gn : Nat} (L : Blk w hl 88 (ledV g hs gn half false A n c)) (B : Blk w hs 67 (segV g t)) (hf : t.fin ≤ t.n) (hn : t.n ≤ 512) :
    Calls Tryd.prog 28 #[.pointer (some ⟨hl, 0, none⟩)] w fun e w' => e = .returned (.int .i64 ((t.n - t.fin : Nat) : Int)) ∧ Below w.heap.size w w' := by
  have c5 : w.cell? ⟨hl, 5, none⟩ = some (.bool false) := L.cell 5
  have c2 : w.cell? ⟨hl, 2, none⟩ = some (.pointer (some ⟨hs, 0, none⟩)) := L.cell 2
  have HB := Lib.hid B
  clear L B
  go_enter Tryd.func28, Tryd.ntmps28
  go_wp2_with fail
  refine (free_any HB.out hf hn).mono ?_; rintro e w2 ⟨rfl, q, rfl⟩
  go_wp2_with fail
  go_ret
  exact ⟨rfl, ((Moved.refl w []).drewN q).below0⟩
set_option maxRecDepth 100000 in
set_option maxHeartbeats 3200000 in
theorem lused_any {hs half : Nat} {t : SegSt} {A : Option Addr} {n c : Nat} {gn : Nat} (L : Blk w hl 88 (ledV g hs gn half false A n c)) (B : Blk w hs 67 (segV g t)) (hf : t.fin ≤ t.n) (hn : t.n ≤ 512) (hh : half = t.n) :
    Calls Tryd.prog 26 #[.pointer (some ⟨hl, 0, none⟩)] w fun e w' => e = .returned (.int .i64 (t.fin : Int)) ∧ Below w.heap.size w w' := by
  subst hh
  have c5 : w.cell? ⟨hl, 5, none⟩ = some (.bool false) := L.cell 5
  have c2 : w.cell? ⟨hl, 2, none⟩ = some (.pointer (some ⟨hs, 0, none⟩)) := L.cell 2
  have c4 : w.cell? ⟨hl, 4, none⟩ = some (.int .i64 (t.n : Int)) := L.cell 4
  have HB := Lib.hid B
  have HW := Lib.hid (show IntKind.i64.wrap ((t.n : Int) - ((t.n - t.fin : Nat) : Int)) = (t.fin : Int) from (IntWalk.i64_in _ ⟨by omega, by omega⟩).trans (by omega))
  clear L B
  go_enter Tryd.func26, Tryd.ntmps26
  go_wp2_with fail
  have HB2 := HB.out.drew
  generalize hwd : World.drew _ = wd at *
  have s0 : (fun w' : World => w'.cell? ⟨hl, 2, none⟩ = some (.pointer (some ⟨hs, 0, none⟩)) ∧ w'.cell? ⟨hl, 4, none⟩ = some (.int .i64 (t.n : Int))) wd := ⟨by rw [← hwd]; exact c2, by rw [← hwd]; exact c4⟩
  refine wp_region_late [] (fun w' : World => w'.cell? ⟨hl, 2, none⟩ = some (.pointer (some ⟨hs, 0, none⟩)) ∧ w'.cell? ⟨hl, 4, none⟩ = some (.int .i64 (t.n : Int))) (by kernel_rfl) ?_
  rw [hwd]
  refine wpAnyL_take (i := 0) (v := ?_) rfl (by kernel_rfl) (by kernel_rfl) (by kernel_rfl) (by kernel_rfl) (by kernel_rfl) (fun _ _ _ h => h) (Or.inl ⟨by kernel_rfl, ?_⟩) s0 ?_
  rotate_left
  · rintro w0 ⟨h1_, h2_⟩; go_simp; (try with_reducible rfl)
  try simp only [Act.put, List.getElem_toArray, List.getElem_cons_succ, List.getElem_cons_zero, List.setIfInBounds_toArray, List.set_cons_zero, List.set_cons_succ]
  refine wpAnyL_take (i := 1) (v := ?_) rfl (by kernel_rfl) (by kernel_rfl) (by kernel_rfl) (by kernel_rfl) (by kernel_rfl) (fun _ _ _ h => h) (Or.inl ⟨by kernel_rfl, ?_⟩) s0 ?_
  rotate_left
  · rintro w0 ⟨h1_, h2_⟩; go_simp; (try with_reducible rfl)
  try simp only [Act.put, List.getElem_toArray, List.getElem_cons_succ, List.getElem_cons_zero, List.setIfInBounds_toArray, List.set_cons_zero, List.set_cons_succ]
  refine wpAnyL_take (i := 2) (v := ?_) rfl (by kernel_rfl) (by kernel_rfl) (by kernel_rfl) (by kernel_rfl) (by kernel_rfl) (fun _ _ _ h => h) (Or.inl ⟨by kernel_rfl, ?_⟩) s0 ?_
  rotate_left
  · rintro w0 ⟨h1_, h2_⟩; go_simp; (try with_reducible rfl)
  try simp only [Act.put, List.getElem_toArray, List.getElem_cons_succ, List.getElem_cons_zero, List.setIfInBounds_toArray, List.set_cons_zero, List.set_cons_succ]
  refine wpAnyL_take (i := 3) (v := ?_) rfl (by kernel_rfl) (by kernel_rfl) (by kernel_rfl) (by kernel_rfl) (by kernel_rfl) (fun _ _ _ h => h) (Or.inl ⟨by kernel_rfl, ?_⟩) s0 ?_
  rotate_left
  · rintro w0 ⟨h1_, h2_⟩; go_simp; (try with_reducible rfl)
  try simp only [Act.put, List.getElem_toArray, List.getElem_cons_succ, List.getElem_cons_zero, List.setIfInBounds_toArray, List.set_cons_zero, List.set_cons_succ]
  refine wpAnyL_take (i := 4) (v := ?_) rfl (by kernel_rfl) (by kernel_rfl) (by kernel_rfl) (by kernel_rfl) (by kernel_rfl) (fun _ _ _ h => h) (Or.inl ⟨by kernel_rfl, ?_⟩) s0 ?_
  rotate_left
  · rintro w0 ⟨h1_, h2_⟩; go_simp; (try with_reducible rfl)
  try simp only [Act.put, List.getElem_toArray, List.getElem_cons_succ, List.getElem_cons_zero, List.setIfInBounds_toArray, List.set_cons_zero, List.set_cons_succ]
  refine wpAnyL_take (i := 5) (v := ?_) rfl (by kernel_rfl) (by kernel_rfl) (by kernel_rfl) (by kernel_rfl) (by kernel_rfl) (fun _ _ _ h => h) (Or.inl ⟨by kernel_rfl, ?_⟩) s0 ?_
  rotate_left
  · rintro w0 ⟨h1_, h2_⟩; go_simp; (try with_reducible rfl)
  try simp only [Act.put, List.getElem_toArray, List.getElem_cons_succ, List.getElem_cons_zero, List.setIfInBounds_toArray, List.set_cons_zero, List.set_cons_succ]
  refine wpAnyL_take (i := 6) (v := ?_) rfl (by kernel_rfl) (by kernel_rfl) (by kernel_rfl) (by kernel_rfl) (by kernel_rfl) (fun _ _ _ h => h) (Or.inl ⟨by kernel_rfl, ?_⟩) s0 ?_
  rotate_left
  · rintro w0 ⟨h1_, h2_⟩; go_simp; (try with_reducible rfl)
  try simp only [Act.put, List.getElem_toArray, List.getElem_cons_succ, List.getElem_cons_zero, List.setIfInBounds_toArray, List.set_cons_zero, List.set_cons_succ]
  refine wpAnyL_take (i := 7) (v := ?_) rfl (by kernel_rfl) (by kernel_rfl) (by kernel_rfl) (by kernel_rfl) (by kernel_rfl) (fun _ _ _ h => h) (Or.inl ⟨by kernel_rfl, ?_⟩) s0 ?_
  rotate_left
  · rintro w0 ⟨h1_, h2_⟩; go_simp; (try with_reducible rfl)
  try simp only [Act.put, List.getElem_toArray, List.getElem_cons_succ, List.getElem_cons_zero, List.setIfInBounds_toArray, List.set_cons_zero, List.set_cons_succ]
  refine wpAnyL_one (i := 8) (by kernel_rfl) rfl (fun K hK => ?_)
  go_simp
  refine (free_any HB2 (by omega) (by omega)).mono ?_; rintro e w2 ⟨rfl, q, rfl⟩
  have s1 : (fun w' : World => w'.cell? ⟨hl, 2, none⟩ = some (.pointer (some ⟨hs, 0, none⟩)) ∧ w'.cell? ⟨hl, 4, none⟩ = some (.int .i64 (t.n : Int))) (wd.drewN q) := ⟨s0.1, s0.2⟩
  go_wp2_with fail
  refine hK.out _ _ (fun _ => s1) ?_
  clear hK K
  try simp only [Act.put, List.getElem_toArray, List.getElem_cons_succ, List.getElem_cons_zero, List.setIfInBounds_toArray, List.set_cons_zero, List.set_cons_succ]
  have hwi := HW.out
  refine wpAnyL_take (i := 9) (v := ?_) rfl (by kernel_rfl) (by kernel_rfl) (by kernel_rfl) (by kernel_rfl) (by kernel_rfl) (fun _ _ _ h => h) (Or.inl ⟨by kernel_rfl, ?_⟩) s1 ?_
  rotate_left
  · rintro w0 ⟨h1_, h2_⟩; go_simp; (try with_reducible rfl)
  try simp only [Act.put, List.getElem_toArray, List.getElem_cons_succ, List.getElem_cons_zero, List.setIfInBounds_toArray, List.set_cons_zero, List.set_cons_succ]
  refine wpAnyL_one (i := 10) (by kernel_rfl) rfl (fun K hK => ?_)
  go_simp
  refine hK.out _ _ (fun _ => s1) ?_
  clear hK K
  try simp only [Act.put, List.getElem_toArray, List.getElem_cons_succ, List.getElem_cons_zero, List.setIfInBounds_toArray, List.set_cons_zero, List.set_cons_succ]
  refine wpAnyL_done (by kernel_rfl) ?_ _
  clear s0 s1
  go_wp2_with fail
  go_ret
  exact ⟨rfl, by rw [← hwd]; exact below_step ((Below.refl _ _).drew) (((Moved.refl w.drew []).drewN q).below0) (Nat.le_refl _)⟩

set_option maxRecDepth 100000 in
/-- A copy of bytes that can be read. -/
theorem clone_b {A : Option Addr} {n c : Nat} {l : List Nat} (h : Ints w .u8 256 A n c l) (hn : n ≤ 140737488355328) :
    Calls Tryd.prog 41 #[.slice A n c] w fun e w' => ∃ x : BEl, e = .returned (.slice x.A x.n x.c) ∧ x.n = n ∧ x.l = l ∧ (∀ base, FarB w' base x) ∧ Below w.heap.size w w' := by
  cases hA : A with
  | none =>
    have h0 : n = 0 := by
      rcases Nat.eq_zero_or_pos n with h0 | h0
      · exact h0
      · obtain ⟨b, o, e, _⟩ := h.rd.at_ h0
        rw [hA] at e; cases e
    subst h0
    have hl : l = [] := List.eq_nil_of_length_eq_zero h.len
    subst hl
    exact (clone_nil 0 c w).mono fun _ _ ⟨he, hw⟩ => by subst hw; exact ⟨⟨none, 0, 0, []⟩, he, rfl, rfl, fun _ => ⟨Ints.nil_ .., fun h => absurd h (Nat.lt_irrefl 0)⟩, Below.refl _ _⟩
  | some ad =>
    rw [hA] at h
    exact (clone_any (some ad) n c l w h (by simp) hn).mono fun _ _ ⟨A', c', he, ho, hb⟩ => ⟨⟨A', n, c', l⟩, he, rfl, rfl, fun _ => FarB.of_own ho, hb⟩
set_option maxRecDepth 100000 in
set_option maxHeartbeats 3200000 in
theorem lrecords_we {V : Array Value} {A : Option Addr} {n c : Nat} {xs : List BEl} (E : WE w0 w g s bl ys rd) (i : Nat) (hi : bl[i]? = some (hl, 88, V)) (h3 : V[3]? = some (.slice A n c)) (k : Nat) (hk : ys[k]? = some ⟨22, 1, A, n, c, xs.map BEl.v⟩) (hx : ∀ x ∈ xs, x ∈ rd ∧ x.n ≤ 140737488355328) (hn : n ≤ 1000) :
    Calls Tryd.prog 25 #[.pointer (some ⟨hl, 0, none⟩)] w fun e w' => ∃ A2 c2 xs2, e = .returned (.slice A2 n c2) ∧ WE w0 w' g s bl (⟨22, 1, A2, n, c2, xs2.map BEl.v⟩ :: ys) (xs2 ++ rd) ∧ xs2.map (·.l) = xs.map (·.l) ∧ xs2.map (·.n) = xs.map (·.n) := by
  have c3 : w.cell? ⟨hl, 3, none⟩ = some (.slice A n c) := E.cell i 3 hi h3
  have hxl : xs.length = n := by have h := (E.row k hk).len; rw [List.length_map] at h; simpa using h
  have E0 := E.nil (ty := 22) 1 (by decide)
  go_enter Tryd.func25, Tryd.ntmps25
  go_wp2_with fail
  go_loopw [3, 11] (fun ov iv wr => ∃ (j : Nat) (A2 : Option Addr) (c2 : Nat) (zs : List BEl), j ≤ n ∧ iv = .int .i64 (j : Int) ∧ ov = .slice A2 j c2 ∧ zs.length = j ∧ WE w0 wr g s bl (⟨22, 1, A2, j, c2, zs.map BEl.v⟩ :: ys) (zs ++ rd) ∧ zs.map (·.l) = (xs.map (·.l)).take j ∧ zs.map (·.n) = (xs.map (·.n)).take j) (fun _ iv _ => n - (intOf iv).toNat)
  case atStart => exact ⟨0, none, 0, [], Nat.zero_le _, rfl, rfl, rfl, E0, rfl, rfl⟩
  case round =>
    obtain ⟨j, A2, c2, zs, hj, rfl, rfl, hzl, E, hz1, hz2⟩ := hrel
    clear c3 E0
    have HZ := Lib.hid (And.intro hz1 (And.intro hz2 hzl))
    clear hz1 hz2 hzl
    by_cases hlt : j < n
    · obtain ⟨x, hxj⟩ : ∃ x, xs[j]? = some x := ⟨_, List.getElem?_eq_getElem (by omega)⟩
      have hxm := hx x (List.mem_of_getElem? hxj)
      have hrow := E.row (k + 1) hk
      dsimp only at hrow
      obtain ⟨ge, hge, _, _, hce, _⟩ := hrow.get (show (xs.map BEl.v)[j]? = some x.v by rw [List.getElem?_map, hxj]; rfl)
      subst hge
      replace hce : wr.cell? ⟨ge, j, none⟩ = some (.slice x.A x.n x.c) := hce
      have hlt1 : (j : Int) < (n : Int) := by omega
      have hj0 : (0 : Int) ≤ (j : Int) := by omega
      have hint := E.rdm (List.mem_append_right zs hxm.1)
      have HE := Lib.hid (And.intro E (And.intro hint (And.intro hxm.2 hxj)))
      clear E hrow hint hxm hxj
      go_wp2_with fail
      refine (clone_b HE.out.2.1 HE.out.2.2.1).mono ?_; rintro e w2 ⟨y, rfl, hyn, hyl, hyf, hb2⟩
      have E2 := (HE.out.1.below hb2).see (hyf _)
      have HY := Lib.hid (And.intro hyn hyl)
      clear hyf hb2 hyn hyl hce
      have hrow := (E2.row 0 rfl).alloc (.cells #[.slice y.A y.n y.c] 22)
      dsimp only at hrow
      have hcs := cells_new w2 #[.slice y.A y.n y.c] 22 (g := w2.heap.size) rfl
      have hbs2 : w0.heap.size ≤ (w2.alloc (.cells #[.slice y.A y.n y.c] 22)).heap.size := by rw [World.size_alloc]; have := E2.size; omega
      have HE2 := Lib.hid (E2.alloc (.cells #[.slice y.A y.n y.c] 22))
      clear E2
      go_upto_region 6 with (at_builtin; refine wpList_appR _ rfl (.tmp 15) (.tmp 18) 32 rfl 22 (.slice none 0 0) 1 24 Tryd.underlying32 binfo rfl (by omega) (by omega) rfl hrow (ad := ⟨w2.heap.size, 0, none⟩) (m := 1) (c' := 1) [.slice y.A y.n y.c] rfl rfl hcs (by intro u hu; rw [List.mem_singleton] at hu; subst hu; rfl) (by omega) hbs2 ?_; intro A10 c10 w10 hown hg10 hA10)
      have E3 := HE2.out.app 0 rfl hown hg10 hA10
      clear hrow hcs hown hg10 hA10 hbs2 HE2
      have E4 : WE w0 w10 g s bl (⟨22, 1, A10, j + 1, c10, (zs ++ [y]).map BEl.v⟩ :: ys) ((zs ++ [y]) ++ rd) := by
        refine (E3.pick (ys' := ⟨22, 1, A10, j + 1, c10, (zs ++ [y]).map BEl.v⟩ :: ys) (.refl _) ?_ (fun z hz => ?_))
        · rw [List.map_append, show [y].map BEl.v = [.slice y.A y.n y.c] from rfl]
          exact .refl _
        · simp only [List.mem_append, List.mem_cons, List.not_mem_nil, or_false] at hz ⊢
          rcases hz with (h | h) | h
          · exact .inr (.inl h)
          · exact .inl h
          · exact .inr (.inr h)
      have h5 : (zs ++ [y]).map (·.l) = (xs.map (·.l)).take (j + 1) ∧ (zs ++ [y]).map (·.n) = (xs.map (·.n)).take (j + 1) ∧ (zs ++ [y]).length = j + 1 := by
        refine ⟨?_, ?_, by rw [List.length_append, HZ.out.2.2]; rfl⟩
        · rw [List.map_append, HZ.out.1, List.take_add_one, List.getElem?_map, HE.out.2.2.2]; show _ ++ [y.l] = _ ++ [x.l]; rw [HY.out.2]
        · rw [List.map_append, HZ.out.2.1, List.take_add_one, List.getElem?_map, HE.out.2.2.2]; show _ ++ [y.n] = _ ++ [x.n]; rw [HY.out.1]
      have HF := Lib.hid (And.intro E4 h5)
      clear E3 E4 h5 HE HY
      go_wp2_with fail
      go_roundw
      case rel => exact ⟨j + 1, A10, c10, zs ++ [y], by omega, by go_num, rfl, HF.out.2.2.2, HF.out.1, HF.out.2.1, HF.out.2.2.1⟩
      case measure => simp [intOf]; omega
    · obtain rfl : j = n := by omega
      have hlt1 : ¬ (j : Int) < (j : Int) := by omega
      have HE := Lib.hid E
      clear E
      go_wp2_with fail
      go_ret
      exact ⟨A2, c2, rfl, zs, HE.out, by rw [HZ.out.1]; exact List.take_of_length_le (by rw [List.length_map]; omega), by rw [HZ.out.2.1]; exact List.take_of_length_le (by rw [List.length_map]; omega)⟩
end
end Go.Proofs.YtdlcngmcjidomaaDoor

/- ledger.Open, of a disk that is there. No condition but the reach. -/
namespace Go.Proofs.YtdlcngmcjidomaaDoor
set_option linter.unusedSimpArgs false
set_option linter.unusedVariables false
open Go.RowKit Go.Shelf

theorem lk1_ {a : SegSt × List (List Nat) × Int} {b : List (List Nat) × Int} (h : a.2 = b) : a = (a.1, b.1, b.2) := Prod.ext rfl h

set_option maxRecDepth 100000 in
set_option maxHeartbeats 6400000 in
theorem open1_we {w0 w : World} {g r lv hl bd half gen : Nat} {s : DSt} {bl : List WBk} {ys : List WRow} {rd : List BEl} {t : SegSt} {all : List (List Nat)} {B : Nat} (E : WE w0 w g s ([(r, 25, #[.int .i64 0]), (lv, 50, #[.pointer (some ⟨hl, 0, none⟩)]), (hl, 88, #[.pointer (some ⟨g, 0, none⟩), .int .u32 0, .pointer none, .slice none 0 0, .int .i64 (half : Int), .bool false]), (bd, 24, #[.pointer (some ⟨g, 0, none⟩)])] ++ bl) ys rd) (L : Led.LUp s half gen t all B) (h200 : all.length ≤ 200) :
    Calls Tryd.prog 45 #[.pointer (some ⟨bd, 0, none⟩), .pointer (some ⟨lv, 0, none⟩)] w fun e w' => (∃ v, e = .returned v) ∧ ∃ hs t2 A c xs, Led.LUp s half gen t2 all B ∧ xs.map (·.l) = all ∧
      WE w0 w' g s ((r, 25, #[.int .i64 0]) :: ledB hl g hs gen half false A xs.length c :: segB hs g t2 :: (lv, 50, #[.pointer (some ⟨hl, 0, none⟩)]) :: bl) (⟨22, 1, A, xs.length, c, xs.map BEl.v⟩ :: ys) (xs ++ rd) := by
  have hload := L.load
  have h512 := E.wf.most
  have hok := L.ok
  have hh1 := L.half1
  have hin := Led.half_in half gen
  have hln := L.len
  obtain ⟨hag, hup⟩ := L.again E.bytes 0 4294967295
  have ok1 : SegSt.Ok s ⟨2 + gen % 2 * half, half, gen, 0, 4294967295⟩ := ⟨hh1, by show 2 + gen % 2 * half + half ≤ _; omega, Nat.zero_le _, by show 4294967295 ≤ 4294967295; omega, hok.2.2.2⟩
  have hfits : 2 + gen % 2 * half + half ≤ s.sure.length := by omega
  have HL := Lib.hid (And.intro hload (And.intro hok.2.2.2 (And.intro hfits (And.intro ok1 (And.intro hag (And.intro hup h200))))))
  have cbd : w.cell? ⟨bd, 0, none⟩ = some (.pointer (some ⟨g, 0, none⟩)) := E.cell 3 0 rfl rfl
  clear L hload hok hin hln hag hup ok1 hfits h200
  go_enter Tryd.func45, Tryd.ntmps45
  go_wp2_with fail
  refine (load_we E).mono ?_; rintro e w1 ⟨rfl, E2⟩
  rw [HL.out.1]
  clear E cbd
  go_wp2_with fail
  refine (must_ok _).mono ?_; rintro e w2 ⟨⟨v2, rfl⟩, rfl⟩
  go_wp2_with fail
  have E3 := E2.drew
  generalize hwd : World.drew _ = wd at *
  have s0 : (fun w' : World => w'.cell? ⟨lv, 0, none⟩ = some (.pointer (some ⟨hl, 0, none⟩))) wd := E3.cell 1 0 rfl rfl
  refine wp_region_late [] (fun w' : World => w'.cell? ⟨lv, 0, none⟩ = some (.pointer (some ⟨hl, 0, none⟩))) (by kernel_rfl) ?_
  rw [hwd]
  clear hwd E2
  refine wpAnyL_take (i := 0) (v := ?_) rfl (by kernel_rfl) (by kernel_rfl) (by kernel_rfl) (by kernel_rfl) (by kernel_rfl) (fun _ _ _ h => h) (Or.inl ⟨by kernel_rfl, ?_⟩) s0 ?_
  rotate_left
  · rintro w0 h1_; go_simp; (try with_reducible rfl)
  try simp only [Act.put, List.getElem_toArray, List.getElem_cons_succ, List.getElem_cons_zero, List.setIfInBounds_toArray, List.set_cons_zero, List.set_cons_succ]
  refine wpAnyL_take (i := 1) (v := ?_) rfl (by kernel_rfl) (by kernel_rfl) (by kernel_rfl) (by kernel_rfl) (by kernel_rfl) (fun _ _ _ h => h) (Or.inl ⟨by kernel_rfl, ?_⟩) s0 ?_
  rotate_left
  · rintro w0 h1_; go_simp; (try with_reducible rfl)
  try simp only [Act.put, List.getElem_toArray, List.getElem_cons_succ, List.getElem_cons_zero, List.setIfInBounds_toArray, List.set_cons_zero, List.set_cons_succ]
  refine wpAnyL_take (i := 2) (v := ?_) rfl (by kernel_rfl) (by kernel_rfl) (by kernel_rfl) (by kernel_rfl) (by kernel_rfl) (fun _ _ _ h => h) (Or.inl ⟨by kernel_rfl, ?_⟩) s0 ?_
  rotate_left
  · rintro w0 h1_; go_simp; (try with_reducible rfl)
  try simp only [Act.put, List.getElem_toArray, List.getElem_cons_succ, List.getElem_cons_zero, List.setIfInBounds_toArray, List.set_cons_zero, List.set_cons_succ]
  refine wpAnyL_take (i := 3) (v := ?_) rfl (by kernel_rfl) (by kernel_rfl) (by kernel_rfl) (by kernel_rfl) (by kernel_rfl) (fun _ _ _ h => h) (Or.inl ⟨by kernel_rfl, ?_⟩) s0 ?_
  rotate_left
  · rintro w0 h1_; go_simp; (try with_reducible rfl)
  try simp only [Act.put, List.getElem_toArray, List.getElem_cons_succ, List.getElem_cons_zero, List.setIfInBounds_toArray, List.set_cons_zero, List.set_cons_succ]
  refine wpAnyL_take (i := 4) (v := ?_) rfl (by kernel_rfl) (by kernel_rfl) (by kernel_rfl) (by kernel_rfl) (by kernel_rfl) (fun _ _ _ h => h) (Or.inl ⟨by kernel_rfl, ?_⟩) s0 ?_
  rotate_left
  · rintro w0 h1_; go_simp; (try with_reducible rfl)
  try simp only [Act.put, List.getElem_toArray, List.getElem_cons_succ, List.getElem_cons_zero, List.setIfInBounds_toArray, List.set_cons_zero, List.set_cons_succ]
  refine wpAnyL_one (i := 5) (by kernel_rfl) rfl (fun K hK => ?_)
  go_simp
  refine (segment_we E3 2 rfl half gen rfl rfl HL.out.2.1 hh1 HL.out.2.2.1 h512).mono ?_; rintro e w3 ⟨hs, rfl, E4⟩
  have s1 : (fun w' : World => w'.cell? ⟨lv, 0, none⟩ = some (.pointer (some ⟨hl, 0, none⟩))) w3 := E4.cell 2 0 rfl rfl
  go_wp2_with fail
  refine hK.out _ _ (fun _ => s1) ?_
  clear hK K
  try simp only [Act.put, List.getElem_toArray, List.getElem_cons_succ, List.getElem_cons_zero, List.setIfInBounds_toArray, List.set_cons_zero, List.set_cons_succ]
  refine wpAnyL_take (i := 6) (v := ?_) rfl (by kernel_rfl) (by kernel_rfl) (by kernel_rfl) (by kernel_rfl) (by kernel_rfl) (fun _ _ _ h => h) (Or.inl ⟨by kernel_rfl, ?_⟩) s1 ?_
  rotate_left
  · rintro w0 h1_; go_simp; (try with_reducible rfl)
  try simp only [Act.put, List.getElem_toArray, List.getElem_cons_succ, List.getElem_cons_zero, List.setIfInBounds_toArray, List.set_cons_zero, List.set_cons_succ]
  refine wpAnyL_take (i := 7) (v := ?_) rfl (by kernel_rfl) (by kernel_rfl) (by kernel_rfl) (by kernel_rfl) (by kernel_rfl) (fun _ _ _ h => h) (Or.inl ⟨by kernel_rfl, ?_⟩) s1 ?_
  rotate_left
  · rintro w0 h1_; go_simp; (try with_reducible rfl)
  try simp only [Act.put, List.getElem_toArray, List.getElem_cons_succ, List.getElem_cons_zero, List.setIfInBounds_toArray, List.set_cons_zero, List.set_cons_succ]
  have fz1 : w3.frozen? ⟨hl, 1, none⟩ = false := E4.frozen 3 1 rfl
  have cz1 : w3.cell? ⟨hl, 1, none⟩ = some (.int .u32 0) := E4.cell 3 1 rfl rfl
  have E5 := (E4.set 3 1 rfl (.int .u32 (gen : Int)))
  have HE5 := Lib.hid E5
  clear E3 E4 E5
  refine wpAnyL_one (i := 8) (by kernel_rfl) rfl (fun K hK => ?_)
  go_simp
  have s2 : (fun w' : World => w'.cell? ⟨lv, 0, none⟩ = some (.pointer (some ⟨hl, 0, none⟩))) _ := HE5.out.cell 2 0 rfl rfl
  refine hK.out _ _ (fun _ => s2) ?_
  clear hK K
  try simp only [Act.put, List.getElem_toArray, List.getElem_cons_succ, List.getElem_cons_zero, List.setIfInBounds_toArray, List.set_cons_zero, List.set_cons_succ]
  clear fz1 cz1
  have E5 := HE5.out
  generalize World.setCell _ _ _ = w4 at *
  clear HE5
  refine wpAnyL_take (i := 9) (v := ?_) rfl (by kernel_rfl) (by kernel_rfl) (by kernel_rfl) (by kernel_rfl) (by kernel_rfl) (fun _ _ _ h => h) (Or.inl ⟨by kernel_rfl, ?_⟩) s2 ?_
  rotate_left
  · rintro w0 h1_; go_simp; (try with_reducible rfl)
  try simp only [Act.put, List.getElem_toArray, List.getElem_cons_succ, List.getElem_cons_zero, List.setIfInBounds_toArray, List.set_cons_zero, List.set_cons_succ]
  refine wpAnyL_take (i := 10) (v := ?_) rfl (by kernel_rfl) (by kernel_rfl) (by kernel_rfl) (by kernel_rfl) (by kernel_rfl) (fun _ _ _ h => h) (Or.inl ⟨by kernel_rfl, ?_⟩) s2 ?_
  rotate_left
  · rintro w0 h1_; go_simp; (try with_reducible rfl)
  try simp only [Act.put, List.getElem_toArray, List.getElem_cons_succ, List.getElem_cons_zero, List.setIfInBounds_toArray, List.set_cons_zero, List.set_cons_succ]
  have fz2 : w4.frozen? ⟨hl, 2, none⟩ = false := E5.frozen 3 2 rfl
  have cz2 : w4.cell? ⟨hl, 2, none⟩ = some (.pointer none) := E5.cell 3 2 rfl rfl
  have E6 := (E5.set 3 2 rfl (.pointer (some ⟨hs, 0, none⟩)))
  have HE6 := Lib.hid E6
  clear E5 E6
  refine wpAnyL_one (i := 11) (by kernel_rfl) rfl (fun K hK => ?_)
  go_simp
  have s3 : (fun w' : World => w'.cell? ⟨lv, 0, none⟩ = some (.pointer (some ⟨hl, 0, none⟩))) _ := HE6.out.cell 2 0 rfl rfl
  refine hK.out _ _ (fun _ => s3) ?_
  clear hK K
  try simp only [Act.put, List.getElem_toArray, List.getElem_cons_succ, List.getElem_cons_zero, List.setIfInBounds_toArray, List.set_cons_zero, List.set_cons_succ]
  refine wpAnyL_done (by kernel_rfl) ?_ _
  clear s0 s1 s2 s3 fz2 cz2
  have E7 := HE6.out.setEq (bl' := segB hs g ⟨2 + gen % 2 * half, half, gen, 0, 4294967295⟩ :: (r, 25, #[.int .i64 0]) :: (lv, 50, #[.pointer (some ⟨hl, 0, none⟩)]) :: (hl, 88, #[.pointer (some ⟨g, 0, none⟩), .int .u32 (gen : Int), .pointer (some ⟨hs, 0, none⟩), .slice none 0 0, .int .i64 (half : Int), .bool false]) :: (bd, 24, #[.pointer (some ⟨g, 0, none⟩)]) :: bl) rfl
  generalize World.setCell _ _ _ = w5 at *
  clear HE6
  have clv : w5.cell? ⟨lv, 0, none⟩ = some (.pointer (some ⟨hl, 0, none⟩)) := E7.cell 2 0 rfl rfl
  have ch2 : w5.cell? ⟨hl, 2, none⟩ = some (.pointer (some ⟨hs, 0, none⟩)) := E7.cell 3 2 rfl rfl
  have hsc := scan_we E7 0 rfl HL.out.2.2.2.1
  unfold ScanPost at hsc
  rw [lk1_ HL.out.2.2.2.2.1] at hsc
  have hup := HL.out.2.2.2.2.2.1
  have h200 := HL.out.2.2.2.2.2.2
  clear HL
  generalize (SegSt.scan s ⟨2 + gen % 2 * half, half, gen, 0, 4294967295⟩).1 = t2 at *
  dsimp only at hsc
  have HS := Lib.hid (And.intro hsc hup)
  clear hsc hup E7
  go_wp2_with fail
  refine HS.out.1.mono ?_; rintro e w6 ⟨A, c, xs, rfl, E8, hx⟩
  have E8 := E8.setEq (bl' := segB hs g t2 :: (r, 25, #[.int .i64 0]) :: (lv, 50, #[.pointer (some ⟨hl, 0, none⟩)]) :: (hl, 88, #[.pointer (some ⟨g, 0, none⟩), .int .u32 (gen : Int), .pointer (some ⟨hs, 0, none⟩), .slice none 0 0, .int .i64 (half : Int), .bool false]) :: (bd, 24, #[.pointer (some ⟨g, 0, none⟩)]) :: bl) rfl
  have hxl : xs.length ≤ 200 := by rw [← hx, List.length_map] at h200; exact h200
  have hcap : xs.length ≤ c := (E8.row 0 rfl).cap
  have HX := Lib.hid hx
  clear clv ch2 hx h200
  go_wp2_with fail
  refine (must_ok _).mono ?_; rintro e w7 ⟨⟨v7, rfl⟩, rfl⟩
  obtain ⟨n, hn⟩ : ∃ n, xs.length = n := ⟨_, rfl⟩
  rw [hn] at hxl hcap ⊢
  have h200 : ¬ (200 : Int) < (n : Int) := by omega
  have hci : (n : Int) ≤ (c : Int) := by omega
  have hn0 : (0 : Int) ≤ (n : Int) := by omega
  have HN := Lib.hid (And.intro hn (And.intro h200 (And.intro hci hn0)))
  clear hn hxl hcap h200 hci hn0
  go_wp2_with fail
  have E9 := E8.drew
  generalize hwd : World.drew _ = wd at *
  have s0 : (fun w' : World => w'.cell? ⟨lv, 0, none⟩ = some (.pointer (some ⟨hl, 0, none⟩))) wd := E9.cell 2 0 rfl rfl
  refine wp_region_late [] (fun w' : World => w'.cell? ⟨lv, 0, none⟩ = some (.pointer (some ⟨hl, 0, none⟩))) (by kernel_rfl) ?_
  rw [hwd]
  clear hwd E8
  refine wpAnyL_take (i := 0) (v := ?_) rfl (by kernel_rfl) (by kernel_rfl) (by kernel_rfl) (by kernel_rfl) (by kernel_rfl) (fun _ _ _ h => h) (Or.inl ⟨by kernel_rfl, ?_⟩) s0 ?_
  rotate_left
  · rintro w0 h1_; go_simp; (try with_reducible rfl)
  try simp only [Act.put, List.getElem_toArray, List.getElem_cons_succ, List.getElem_cons_zero, List.setIfInBounds_toArray, List.set_cons_zero, List.set_cons_succ]
  refine wpAnyL_take (i := 1) (v := ?_) rfl (by kernel_rfl) (by kernel_rfl) (by kernel_rfl) (by kernel_rfl) (by kernel_rfl) (fun _ _ _ h => h) (Or.inl ⟨by kernel_rfl, ?_⟩) s0 ?_
  rotate_left
  · rintro w0 h1_; go_simp; (try with_reducible rfl)
  try simp only [Act.put, List.getElem_toArray, List.getElem_cons_succ, List.getElem_cons_zero, List.setIfInBounds_toArray, List.set_cons_zero, List.set_cons_succ]
  refine wpAnyL_take (i := 2) (v := ?_) rfl (by kernel_rfl) (by kernel_rfl) (by kernel_rfl) (by kernel_rfl) (by kernel_rfl) (fun _ _ _ h => h) (Or.inl ⟨by kernel_rfl, ?_⟩) s0 ?_
  rotate_left
  · rintro w0 h1_; go_simp; (try with_reducible rfl)
  try simp only [Act.put, List.getElem_toArray, List.getElem_cons_succ, List.getElem_cons_zero, List.setIfInBounds_toArray, List.set_cons_zero, List.set_cons_succ]
  refine wpAnyL_take (i := 3) (v := ?_) rfl (by kernel_rfl) (by kernel_rfl) (by kernel_rfl) (by kernel_rfl) (by kernel_rfl) (fun _ _ _ h => h) (Or.inl ⟨by kernel_rfl, ?_⟩) s0 ?_
  rotate_left
  · rintro w0 h1_; go_simp; (try with_reducible rfl)
  try simp only [Act.put, List.getElem_toArray, List.getElem_cons_succ, List.getElem_cons_zero, List.setIfInBounds_toArray, List.set_cons_zero, List.set_cons_succ]
  have h200 : ¬ (200 : Int) < (n : Int) := by have := HN.out.2.1; omega
  have hci := HN.out.2.2.1
  have hn0 := HN.out.2.2.2
  refine wpAnyL_take (i := 4) (v := ?_) rfl (by kernel_rfl) (by kernel_rfl) (by kernel_rfl) (by kernel_rfl) (by kernel_rfl) (fun _ _ _ h => h) (Or.inl ⟨by kernel_rfl, ?_⟩) s0 ?_
  rotate_left
  · rintro w0 h1_; go_simp; (try with_reducible rfl)
  try simp only [Act.put, List.getElem_toArray, List.getElem_cons_succ, List.getElem_cons_zero, List.setIfInBounds_toArray, List.set_cons_zero, List.set_cons_succ]
  refine wpAnyL_take (i := 5) (v := ?_) rfl (by kernel_rfl) (by kernel_rfl) (by kernel_rfl) (by kernel_rfl) (by kernel_rfl) (fun _ _ _ h => h) (Or.inl ⟨by kernel_rfl, ?_⟩) s0 ?_
  rotate_left
  · rintro w0 h1_; go_simp; (try with_reducible rfl)
  try simp only [Act.put, List.getElem_toArray, List.getElem_cons_succ, List.getElem_cons_zero, List.setIfInBounds_toArray, List.set_cons_zero, List.set_cons_succ]
  clear h200 hci hn0
  refine wpAnyL_take (i := 6) (v := ?_) rfl (by kernel_rfl) (by kernel_rfl) (by kernel_rfl) (by kernel_rfl) (by kernel_rfl) (fun _ _ _ h => h) (Or.inl ⟨by kernel_rfl, ?_⟩) s0 ?_
  rotate_left
  · rintro w0 h1_; go_simp; (try with_reducible rfl)
  try simp only [Act.put, List.getElem_toArray, List.getElem_cons_succ, List.getElem_cons_zero, List.setIfInBounds_toArray, List.set_cons_zero, List.set_cons_succ]
  refine wpAnyL_take (i := 7) (v := ?_) rfl (by kernel_rfl) (by kernel_rfl) (by kernel_rfl) (by kernel_rfl) (by kernel_rfl) (fun _ _ _ h => h) (Or.inl ⟨by kernel_rfl, ?_⟩) s0 ?_
  rotate_left
  · rintro w0 h1_; go_simp; (try with_reducible rfl)
  try simp only [Act.put, List.getElem_toArray, List.getElem_cons_succ, List.getElem_cons_zero, List.setIfInBounds_toArray, List.set_cons_zero, List.set_cons_succ]
  have fz3 : wd.frozen? ⟨hl, 3, none⟩ = false := E9.frozen 3 3 rfl
  have cz3 : wd.cell? ⟨hl, 3, none⟩ = some (.slice none 0 0) := E9.cell 3 3 rfl rfl
  have E10 := (E9.set 3 3 rfl (.slice A n c))
  have HE10 := Lib.hid E10
  clear E9 E10
  refine wpAnyL_one (i := 8) (by kernel_rfl) rfl (fun K hK => ?_)
  go_simp
  have s1 : (fun w' : World => w'.cell? ⟨lv, 0, none⟩ = some (.pointer (some ⟨hl, 0, none⟩))) _ := HE10.out.cell 2 0 rfl rfl
  refine hK.out _ _ (fun _ => s1) ?_
  clear hK K
  try simp only [Act.put, List.getElem_toArray, List.getElem_cons_succ, List.getElem_cons_zero, List.setIfInBounds_toArray, List.set_cons_zero, List.set_cons_succ]
  refine wpAnyL_done (by kernel_rfl) ?_ _
  clear s0 s1 fz3 cz3
  have hn := HN.out.1
  have E11 := HE10.out.setEq (bl' := segB hs g t2 :: (r, 25, #[.int .i64 0]) :: (lv, 50, #[.pointer (some ⟨hl, 0, none⟩)]) :: ledB hl g hs gen half false A xs.length c :: (bd, 24, #[.pointer (some ⟨g, 0, none⟩)]) :: bl) (by rw [hn]; rfl)
  have E12 := (E11.pick (bl' := segB hs g t2 :: (r, 25, #[.int .i64 0]) :: (lv, 50, #[.pointer (some ⟨hl, 0, none⟩)]) :: ledB hl g hs gen half false A xs.length c :: bl) (.cons_cons _ (.cons_cons _ (.cons_cons _ (.cons_cons _ (.cons _ (.refl _)))))) (.refl _) (fun _ h => h)).perm (bl' := (r, 25, #[.int .i64 0]) :: ledB hl g hs gen half false A xs.length c :: segB hs g t2 :: (lv, 50, #[.pointer (some ⟨hl, 0, none⟩)]) :: bl) (List.Perm.trans (List.Perm.cons _ (List.Perm.swap _ _ _)) (List.Perm.trans (List.Perm.swap _ _ _) (List.Perm.cons _ (List.Perm.cons _ (List.Perm.swap _ _ _))))) (.refl _)
  clear E11 HE10
  go_end0
  exact ⟨⟨_, rfl⟩, hs, t2, A, c, xs, HS.out.2, HX.out, E12⟩
/-- A ledger, the power being there. -/
structure LE (w0 w : World) (g hl : Nat) (s : DSt) (half gen : Nat) (all : List (List Nat)) (B : Nat) (bl : List WBk) (ys : List WRow) (rd : List BEl) : Prop where
  ex : ∃ hs t A c xs, WE w0 w g s (ledB hl g hs gen half false A xs.length c :: segB hs g t :: bl) (⟨22, 1, A, xs.length, c, xs.map BEl.v⟩ :: ys) (xs ++ rd) ∧ Led.LUp s half gen t all B ∧ xs.map (·.l) = all
set_option maxRecDepth 100000 in
set_option maxHeartbeats 6400000 in
theorem open_we {w0 w : World} {g half gen : Nat} {s : DSt} {bl : List WBk} {ys : List WRow} {rd : List BEl} {t : SegSt} {all : List (List Nat)} {B : Nat} (E : WE w0 w g s bl ys rd) (L : Led.LUp s half gen t all B) (hh : half = (s.sure.length - 2) / 2) (h18 : 18 ≤ s.sure.length) (h200 : all.length ≤ 200) :
    Calls Tryd.prog 23 #[.pointer (some ⟨g, 0, none⟩)] w fun e w' => ∃ hl, e = .returned (.tuple #[.pointer (some ⟨hl, 0, none⟩), .int .i64 0]) ∧ LE w0 w' g hl s half gen all B bl ys rd := by
  have h512 := E.wf.most
  obtain ⟨K, hK⟩ : ∃ K, s.sure.length = K := ⟨_, rfl⟩
  rw [hK] at hh h18 h512
  obtain ⟨k2, hk2⟩ : ∃ k2, K - 2 = k2 := ⟨_, rfl⟩
  have ha1 : IntKind.i64.wrap ((K : Int) - 2) = (k2 : Int) := (IntWalk.i64_in _ ⟨by omega, by omega⟩).trans (by omega)
  have ha2 : IntKind.i64.wrap ((k2 : Int) / 2) = (half : Int) := (IntWalk.i64_in _ ⟨by omega, by omega⟩).trans (by omega)
  have q18 : ¬ (K : Int) < 18 := by omega
  have q18d : decide ((K : Int) < 18) = false := decide_eq_false q18
  have HA := Lib.hid (And.intro ha1 ha2)
  have HL := Lib.hid (And.intro L (And.intro h200 hK))
  clear ha1 ha2 L h200 hk2 hh h18 hK
  have E1 := E.add 24 #[.pointer (some ⟨g, 0, none⟩)] (by decide)
  have cbd : (w.alloc (.cells #[.pointer (some ⟨g, 0, none⟩)] 24)).cell? ⟨w.heap.size, 0, none⟩ = some (.pointer (some ⟨g, 0, none⟩)) := E1.cell 0 0 rfl rfl
  clear E
  go_enter Tryd.func23, Tryd.ntmps23
  go_wp2_with fail
  refine (dsectors_we E1).mono ?_; rintro e w1 ⟨rfl, rfl⟩
  rw [HL.out.2.2]
  go_upto_region 3 with (fail)
  clear q18 q18d
  obtain ⟨bd, hbd⟩ : ∃ b, w.heap.size = b := ⟨_, rfl⟩
  rw [hbd] at E1 cbd ⊢
  clear hbd
  generalize w.alloc _ = w1 at *
  go_cut [4] (fun v4 wx => ∃ hl lv, v4 = .pointer (some ⟨lv, 0, none⟩) ∧ WE w0 wx g s ((lv, 50, #[.pointer (some ⟨hl, 0, none⟩)]) :: (hl, 88, #[.pointer (some ⟨g, 0, none⟩), .int .u32 0, .pointer none, .slice none 0 0, .int .i64 (half : Int), .bool false]) :: (bd, 24, #[.pointer (some ⟨g, 0, none⟩)]) :: bl) ys rd)
  case first =>
    have E2 := E1.drew
    generalize hwd : World.drew _ = wd at *
    have s0 : (fun w' : World => w'.cell? ⟨bd, 0, none⟩ = some (.pointer (some ⟨g, 0, none⟩))) wd := E2.cell 0 0 rfl rfl
    refine wp_region_late [] (fun w' : World => w'.cell? ⟨bd, 0, none⟩ = some (.pointer (some ⟨g, 0, none⟩))) (by kernel_rfl) ?_
    rw [hwd]
    clear hwd cbd
    refine wpAnyL_take (i := 0) (v := ?_) rfl (by kernel_rfl) (by kernel_rfl) (by kernel_rfl) (by kernel_rfl) (by kernel_rfl) (fun _ _ _ h => h) (Or.inl ⟨by kernel_rfl, ?_⟩) s0 ?_
    rotate_left
    · rintro w0 h1_; go_simp; (try with_reducible rfl)
    try simp only [Act.put, List.getElem_toArray, List.getElem_cons_succ, List.getElem_cons_zero, List.setIfInBounds_toArray, List.set_cons_zero, List.set_cons_succ]
    refine wpAnyL_take (i := 1) (v := ?_) rfl (by kernel_rfl) (by kernel_rfl) (by kernel_rfl) (by kernel_rfl) (by kernel_rfl) (fun _ _ _ h => h) (Or.inl ⟨by kernel_rfl, ?_⟩) s0 ?_
    rotate_left
    · rintro w0 h1_; go_simp; (try with_reducible rfl)
    try simp only [Act.put, List.getElem_toArray, List.getElem_cons_succ, List.getElem_cons_zero, List.setIfInBounds_toArray, List.set_cons_zero, List.set_cons_succ]
    refine wpAnyL_all (rs := [2, 7]) (by kernel_rfl) (by simp) (StepsL.cons (i := 2) rfl (fun K hK => ?_) (StepsL.cons (i := 7) rfl (fun K hK => ?_) StepsL.nil))
    · go_simp
      refine (dsectors_we E2).mono ?_; rintro e w2 ⟨rfl, rfl⟩
      rw [HL.out.2.2]
      go_wp2_with fail
      refine hK.out _ _ (fun _ => s0) ?_
      clear hK K
      try simp only [Act.put, List.getElem_toArray, List.getElem_cons_succ, List.getElem_cons_zero, List.setIfInBounds_toArray, List.set_cons_zero, List.set_cons_succ]
      refine wpAnyL_take (i := 3) (v := ?_) rfl (by kernel_rfl) (by kernel_rfl) (by kernel_rfl) (by kernel_rfl) (by kernel_rfl) (fun _ _ _ h => h) (Or.inl ⟨by kernel_rfl, ?_⟩) s0 ?_
      rotate_left
      · rintro w0 h1_; go_simp; (try with_reducible rfl)
      try simp only [Act.put, List.getElem_toArray, List.getElem_cons_succ, List.getElem_cons_zero, List.setIfInBounds_toArray, List.set_cons_zero, List.set_cons_succ]
      rw [HA.out.1]
      refine wpAnyL_take (i := 4) (v := ?_) rfl (by kernel_rfl) (by kernel_rfl) (by kernel_rfl) (by kernel_rfl) (by kernel_rfl) (fun _ _ _ h => h) (Or.inl ⟨by kernel_rfl, ?_⟩) s0 ?_
      rotate_left
      · rintro w0 h1_; go_simp; (try with_reducible rfl)
      try simp only [Act.put, List.getElem_toArray, List.getElem_cons_succ, List.getElem_cons_zero, List.setIfInBounds_toArray, List.set_cons_zero, List.set_cons_succ]
      rw [HA.out.2]
      refine wpAnyL_take (i := 5) (v := ?_) rfl (by kernel_rfl) (by kernel_rfl) (by kernel_rfl) (by kernel_rfl) (by kernel_rfl) (fun _ _ _ h => h) (Or.inl ⟨by kernel_rfl, ?_⟩) s0 ?_
      rotate_left
      · rintro w0 h1_; go_simp; (try with_reducible rfl)
      try simp only [Act.put, List.getElem_toArray, List.getElem_cons_succ, List.getElem_cons_zero, List.setIfInBounds_toArray, List.set_cons_zero, List.set_cons_succ]
      refine wpAnyL_all (rs := [6, 7]) (by kernel_rfl) (by simp) (StepsL.cons (i := 6) rfl (fun K hK => ?_) (StepsL.cons (i := 7) rfl (fun K hK => ?_) StepsL.nil))
      · go_simp
        have E6 := E2.add 88 #[.pointer (some ⟨g, 0, none⟩), .int .u32 0, .pointer none, .slice none 0 0, .int .i64 (half : Int), .bool false] (by decide)
        obtain ⟨hl, hhl⟩ : ∃ l, wd.heap.size = l := ⟨_, rfl⟩
        rw [hhl] at E6 ⊢
        clear hhl
        generalize World.alloc _ _ = wd6 at *
        have s6 : (fun w' : World => w'.cell? ⟨bd, 0, none⟩ = some (.pointer (some ⟨g, 0, none⟩))) _ := E6.cell 1 0 rfl rfl
        refine hK.out _ _ (fun _ => s6) ?_
        clear hK K
        try simp only [Act.put, List.getElem_toArray, List.getElem_cons_succ, List.getElem_cons_zero, List.setIfInBounds_toArray, List.set_cons_zero, List.set_cons_succ]
        refine wpAnyL_one (i := 7) (by kernel_rfl) rfl (fun K hK => ?_)
        go_simp
        have E7 := E6.add 50 #[.pointer none] (by decide)
        obtain ⟨lv, hlv⟩ : ∃ l, wd6.heap.size = l := ⟨_, rfl⟩
        rw [hlv] at E7 ⊢
        clear hlv
        generalize World.alloc _ _ = wd7 at *
        have s7 : (fun w' : World => w'.cell? ⟨bd, 0, none⟩ = some (.pointer (some ⟨g, 0, none⟩))) _ := E7.cell 2 0 rfl rfl
        refine hK.out _ _ (fun _ => s7) ?_
        clear hK K
        try simp only [Act.put, List.getElem_toArray, List.getElem_cons_succ, List.getElem_cons_zero, List.setIfInBounds_toArray, List.set_cons_zero, List.set_cons_succ]
        have fz : wd7.frozen? ⟨lv, 0, none⟩ = false := E7.frozen 0 0 rfl
        have cz : wd7.cell? ⟨lv, 0, none⟩ = some (.pointer none) := E7.cell 0 0 rfl rfl
        have E9 := E7.set 0 0 rfl (.pointer (some ⟨hl, 0, none⟩))
        have HE9 := Lib.hid E9
        clear E1 E2 E6 E7 E9
        refine wpAnyL_one (i := 8) (by kernel_rfl) rfl (fun K hK => ?_)
        go_simp
        have s9 : (fun w' : World => w'.cell? ⟨bd, 0, none⟩ = some (.pointer (some ⟨g, 0, none⟩))) _ := HE9.out.cell 2 0 rfl rfl
        refine hK.out _ _ (fun _ => s9) ?_
        clear hK K
        try simp only [Act.put, List.getElem_toArray, List.getElem_cons_succ, List.getElem_cons_zero, List.setIfInBounds_toArray, List.set_cons_zero, List.set_cons_succ]
        refine wpAnyL_done (by kernel_rfl) ?_ _
        clear s9 fz cz
        go_wp2_with fail
        go_meet
        exact ⟨hl, lv, rfl, HE9.out⟩
      · go_simp
        have E6 := E2.add 50 #[.pointer none] (by decide)
        obtain ⟨lv, hlv⟩ : ∃ l, wd.heap.size = l := ⟨_, rfl⟩
        rw [hlv] at E6 ⊢
        clear hlv
        generalize World.alloc _ _ = wd6 at *
        have s6 : (fun w' : World => w'.cell? ⟨bd, 0, none⟩ = some (.pointer (some ⟨g, 0, none⟩))) _ := E6.cell 1 0 rfl rfl
        refine hK.out _ _ (fun _ => s6) ?_
        clear hK K
        try simp only [Act.put, List.getElem_toArray, List.getElem_cons_succ, List.getElem_cons_zero, List.setIfInBounds_toArray, List.set_cons_zero, List.set_cons_succ]
        refine wpAnyL_one (i := 6) (by kernel_rfl) rfl (fun K hK => ?_)
        go_simp
        have E7 := E6.add 88 #[.pointer (some ⟨g, 0, none⟩), .int .u32 0, .pointer none, .slice none 0 0, .int .i64 (half : Int), .bool false] (by decide)
        obtain ⟨hl, hhl⟩ : ∃ l, wd6.heap.size = l := ⟨_, rfl⟩
        rw [hhl] at E7 ⊢
        clear hhl
        generalize World.alloc _ _ = wd7 at *
        have s7 : (fun w' : World => w'.cell? ⟨bd, 0, none⟩ = some (.pointer (some ⟨g, 0, none⟩))) _ := E7.cell 2 0 rfl rfl
        refine hK.out _ _ (fun _ => s7) ?_
        clear hK K
        try simp only [Act.put, List.getElem_toArray, List.getElem_cons_succ, List.getElem_cons_zero, List.setIfInBounds_toArray, List.set_cons_zero, List.set_cons_succ]
        have fz : wd7.frozen? ⟨lv, 0, none⟩ = false := E7.frozen 1 0 rfl
        have cz : wd7.cell? ⟨lv, 0, none⟩ = some (.pointer none) := E7.cell 1 0 rfl rfl
        have E9 := E7.set 1 0 rfl (.pointer (some ⟨hl, 0, none⟩))
        have HE9 := Lib.hid E9
        clear E1 E2 E6 E7 E9
        refine wpAnyL_one (i := 8) (by kernel_rfl) rfl (fun K hK => ?_)
        go_simp
        have s9 : (fun w' : World => w'.cell? ⟨bd, 0, none⟩ = some (.pointer (some ⟨g, 0, none⟩))) _ := HE9.out.cell 2 0 rfl rfl
        refine hK.out _ _ (fun _ => s9) ?_
        clear hK K
        try simp only [Act.put, List.getElem_toArray, List.getElem_cons_succ, List.getElem_cons_zero, List.setIfInBounds_toArray, List.set_cons_zero, List.set_cons_succ]
        refine wpAnyL_done (by kernel_rfl) ?_ _
        clear s9 fz cz
        go_wp2_with fail
        go_meet
        exact ⟨hl, lv, rfl, (HE9.out.setEq (bl' := (hl, 88, #[.pointer (some ⟨g, 0, none⟩), .int .u32 0, .pointer none, .slice none 0 0, .int .i64 (half : Int), .bool false]) :: (lv, 50, #[.pointer (some ⟨hl, 0, none⟩)]) :: (bd, 24, #[.pointer (some ⟨g, 0, none⟩)]) :: bl) rfl).perm (List.Perm.swap _ _ _) (.refl _)⟩
    · go_simp
      have E6 := E2.add 50 #[.pointer none] (by decide)
      obtain ⟨lv, hlv⟩ : ∃ l, wd.heap.size = l := ⟨_, rfl⟩
      rw [hlv] at E6 ⊢
      clear hlv
      generalize World.alloc _ _ = wd6 at *
      have s6 : (fun w' : World => w'.cell? ⟨bd, 0, none⟩ = some (.pointer (some ⟨g, 0, none⟩))) _ := E6.cell 1 0 rfl rfl
      refine hK.out _ _ (fun _ => s6) ?_
      clear hK K
      try simp only [Act.put, List.getElem_toArray, List.getElem_cons_succ, List.getElem_cons_zero, List.setIfInBounds_toArray, List.set_cons_zero, List.set_cons_succ]
      refine wpAnyL_one (i := 2) (by kernel_rfl) rfl (fun K hK => ?_)
      go_simp
      refine (dsectors_we E6).mono ?_; rintro e w2 ⟨rfl, rfl⟩
      rw [HL.out.2.2]
      go_wp2_with fail
      refine hK.out _ _ (fun _ => s6) ?_
      clear hK K
      try simp only [Act.put, List.getElem_toArray, List.getElem_cons_succ, List.getElem_cons_zero, List.setIfInBounds_toArray, List.set_cons_zero, List.set_cons_succ]
      refine wpAnyL_take (i := 3) (v := ?_) rfl (by kernel_rfl) (by kernel_rfl) (by kernel_rfl) (by kernel_rfl) (by kernel_rfl) (fun _ _ _ h => h) (Or.inl ⟨by kernel_rfl, ?_⟩) s6 ?_
      rotate_left
      · rintro w0 h1_; go_simp; (try with_reducible rfl)
      try simp only [Act.put, List.getElem_toArray, List.getElem_cons_succ, List.getElem_cons_zero, List.setIfInBounds_toArray, List.set_cons_zero, List.set_cons_succ]
      rw [HA.out.1]
      refine wpAnyL_take (i := 4) (v := ?_) rfl (by kernel_rfl) (by kernel_rfl) (by kernel_rfl) (by kernel_rfl) (by kernel_rfl) (fun _ _ _ h => h) (Or.inl ⟨by kernel_rfl, ?_⟩) s6 ?_
      rotate_left
      · rintro w0 h1_; go_simp; (try with_reducible rfl)
      try simp only [Act.put, List.getElem_toArray, List.getElem_cons_succ, List.getElem_cons_zero, List.setIfInBounds_toArray, List.set_cons_zero, List.set_cons_succ]
      rw [HA.out.2]
      refine wpAnyL_take (i := 5) (v := ?_) rfl (by kernel_rfl) (by kernel_rfl) (by kernel_rfl) (by kernel_rfl) (by kernel_rfl) (fun _ _ _ h => h) (Or.inl ⟨by kernel_rfl, ?_⟩) s6 ?_
      rotate_left
      · rintro w0 h1_; go_simp; (try with_reducible rfl)
      try simp only [Act.put, List.getElem_toArray, List.getElem_cons_succ, List.getElem_cons_zero, List.setIfInBounds_toArray, List.set_cons_zero, List.set_cons_succ]
      refine wpAnyL_one (i := 6) (by kernel_rfl) rfl (fun K hK => ?_)
      go_simp
      have E7 := E6.add 88 #[.pointer (some ⟨g, 0, none⟩), .int .u32 0, .pointer none, .slice none 0 0, .int .i64 (half : Int), .bool false] (by decide)
      obtain ⟨hl, hhl⟩ : ∃ l, wd6.heap.size = l := ⟨_, rfl⟩
      rw [hhl] at E7 ⊢
      clear hhl
      generalize World.alloc _ _ = wd7 at *
      have s7 : (fun w' : World => w'.cell? ⟨bd, 0, none⟩ = some (.pointer (some ⟨g, 0, none⟩))) _ := E7.cell 2 0 rfl rfl
      refine hK.out _ _ (fun _ => s7) ?_
      clear hK K
      try simp only [Act.put, List.getElem_toArray, List.getElem_cons_succ, List.getElem_cons_zero, List.setIfInBounds_toArray, List.set_cons_zero, List.set_cons_succ]
      have fz : wd7.frozen? ⟨lv, 0, none⟩ = false := E7.frozen 1 0 rfl
      have cz : wd7.cell? ⟨lv, 0, none⟩ = some (.pointer none) := E7.cell 1 0 rfl rfl
      have E9 := E7.set 1 0 rfl (.pointer (some ⟨hl, 0, none⟩))
      have HE9 := Lib.hid E9
      clear E1 E2 E6 E7 E9
      refine wpAnyL_one (i := 8) (by kernel_rfl) rfl (fun K hK => ?_)
      go_simp
      have s9 : (fun w' : World => w'.cell? ⟨bd, 0, none⟩ = some (.pointer (some ⟨g, 0, none⟩))) _ := HE9.out.cell 2 0 rfl rfl
      refine hK.out _ _ (fun _ => s9) ?_
      clear hK K
      try simp only [Act.put, List.getElem_toArray, List.getElem_cons_succ, List.getElem_cons_zero, List.setIfInBounds_toArray, List.set_cons_zero, List.set_cons_succ]
      refine wpAnyL_done (by kernel_rfl) ?_ _
      clear s9 fz cz
      go_wp2_with fail
      go_meet
      exact ⟨hl, lv, rfl, (HE9.out.setEq (bl' := (hl, 88, #[.pointer (some ⟨g, 0, none⟩), .int .u32 0, .pointer none, .slice none 0 0, .int .i64 (half : Int), .bool false]) :: (lv, 50, #[.pointer (some ⟨hl, 0, none⟩)]) :: (bd, 24, #[.pointer (some ⟨g, 0, none⟩)]) :: bl) rfl).perm (List.Perm.swap _ _ _) (.refl _)⟩
  case rest =>
    obtain ⟨hl, lv, rfl, E2⟩ := hcut
    have HC := Lib.hid (caught_we E2 45 #[.pointer (some ⟨bd, 0, none⟩), .pointer (some ⟨lv, 0, none⟩)] (fun _ => by kernel_rfl)
      (fun cd w3 s2 bl2 ys2 rd2 => cd = 0 ∧ s2 = s ∧ ∃ hs t2 A c xs, Led.LUp s half gen t2 all B ∧ xs.map (·.l) = all ∧ bl2 = (ledB hl g hs gen half false A xs.length c :: segB hs g t2 :: (lv, 50, #[.pointer (some ⟨hl, 0, none⟩)]) :: bl) ∧ ys2 = (⟨22, 1, A, xs.length, c, xs.map BEl.v⟩ :: ys) ∧ rd2 = xs ++ rd)
      (fun r w5 E5 => (open1_we (bl := bl) E5 HL.out.1 HL.out.2.1).mono (fun e w6 ⟨hv, hs, t2, A, c, xs, h1, h2, E6⟩ => ⟨0, s, _, _, _, .inl ⟨rfl, hv⟩, E6, fun w3 _ => ⟨rfl, rfl, hs, t2, A, c, xs, h1, h2, rfl, rfl, rfl⟩⟩)))
    clear E1 E2 cbd
    go_wp2_with fail
    refine HC.out.mono ?_; rintro e w7 ⟨cd, s2, bl2, ys2, rd2, rfl, E7, rfl, rfl, hs, t2, A, c, xs, h1, h2, rfl, rfl, rfl⟩
    have clv : w7.cell? ⟨lv, 0, none⟩ = some (.pointer (some ⟨hl, 0, none⟩)) := E7.cell 2 0 rfl rfl
    have HF := Lib.hid (And.intro (E7.pick (bl' := ledB hl g hs gen half false A xs.length c :: segB hs g t2 :: bl) (.cons_cons _ (.cons_cons _ (.cons _ (.refl _)))) (.refl _) (fun _ h => h)) (And.intro h1 h2))
    clear E7 h1 h2 HC
    go_wp2_with fail
    go_ret2
    exact ⟨hl, rfl, ⟨hs, t2, A, c, xs, HF.out.1, HF.out.2.1, HF.out.2.2⟩⟩
end Go.Proofs.YtdlcngmcjidomaaDoor

/- ledger.Append$1, done. No condition but the reach. -/
namespace Go.Proofs.YtdlcngmcjidomaaDoor
set_option linter.unusedSimpArgs false
set_option linter.unusedVariables false
open Go.RowKit Go.Shelf

set_option maxRecDepth 100000 in
set_option maxHeartbeats 6400000 in
theorem append1_down {w0 w : World} {g r b2 b3 hl hs half gen : Nat} {s s2 : DSt} {bl : List WBk} {ys : List WRow} {rd : List BEl} {t t2 : SegSt} {A RA : Option Addr} {n c rn rc : Nat} {xs : List BEl} {l : List Nat} {cd : Int} (E : WE w0 w g s ((r, 25, #[.int .i64 0]) :: (b3, 22, #[.slice RA rn rc]) :: (b2, 50, #[.pointer (some ⟨hl, 0, none⟩)]) :: ledB hl g hs gen half false A n c :: segB hs g t :: bl) (⟨22, 1, A, n, c, xs.map BEl.v⟩ :: ys) (xs ++ rd)) (ok : t.Ok s) (hr : (⟨RA, rn, rc, l⟩ : BEl) ∈ rd) (hrn : rn ≤ 140737488355328) (hadd : SegSt.add s t [l] = (s2, t2, cd)) (hbg : s.begun ≤ 576460752303423488) (hpl : s.pend.length ≤ 549755813888) (hcd : cd ≠ 0) :
    Calls Tryd.prog 51 #[.pointer (some ⟨b2, 0, none⟩), .pointer (some ⟨b3, 0, none⟩)] w fun e w' => e = .panicked (goneP cd) ∧ WE w0 w' g s2 ((r, 25, #[.int .i64 0]) :: (b3, 22, #[.slice RA rn rc]) :: (b2, 50, #[.pointer (some ⟨hl, 0, none⟩)]) :: ledB hl g hs gen half false A n c :: segB hs g t2 :: bl) (⟨22, 1, A, n, c, xs.map BEl.v⟩ :: ys) (xs ++ rd) := by
  go_enter Tryd.func51, Tryd.ntmps51
  go_wp2_with fail
  have E2 := E.drew
  generalize hwd : World.drew _ = wd at *
  have s0 : (fun w' : World => w'.cell? ⟨b2, 0, none⟩ = some (.pointer (some ⟨hl, 0, none⟩)) ∧ w'.cell? ⟨b3, 0, none⟩ = some (.slice RA rn rc) ∧ w'.cell? ⟨hl, 2, none⟩ = some (.pointer (some ⟨hs, 0, none⟩))) wd := ⟨E2.cell 2 0 rfl rfl, E2.cell 1 0 rfl rfl, E2.cell 3 2 rfl rfl⟩
  refine wp_region_late [] (fun w' : World => w'.cell? ⟨b2, 0, none⟩ = some (.pointer (some ⟨hl, 0, none⟩)) ∧ w'.cell? ⟨b3, 0, none⟩ = some (.slice RA rn rc) ∧ w'.cell? ⟨hl, 2, none⟩ = some (.pointer (some ⟨hs, 0, none⟩))) (by kernel_rfl) ?_
  rw [hwd]
  clear hwd E
  refine wpAnyL_take (i := 0) (v := ?_) rfl (by kernel_rfl) (by kernel_rfl) (by kernel_rfl) (by kernel_rfl) (by kernel_rfl) (fun _ _ _ h => h) (Or.inl ⟨by kernel_rfl, ?_⟩) s0 ?_
  rotate_left
  · rintro w0 ⟨h1_, h2_, h3_⟩; go_simp; (try with_reducible rfl)
  try simp only [Act.put, List.getElem_toArray, List.getElem_cons_succ, List.getElem_cons_zero, List.setIfInBounds_toArray, List.set_cons_zero, List.set_cons_succ]
  refine wpAnyL_take (i := 1) (v := ?_) rfl (by kernel_rfl) (by kernel_rfl) (by kernel_rfl) (by kernel_rfl) (by kernel_rfl) (fun _ _ _ h => h) (Or.inl ⟨by kernel_rfl, ?_⟩) s0 ?_
  rotate_left
  · rintro w0 ⟨h1_, h2_, h3_⟩; go_simp; (try with_reducible rfl)
  try simp only [Act.put, List.getElem_toArray, List.getElem_cons_succ, List.getElem_cons_zero, List.setIfInBounds_toArray, List.set_cons_zero, List.set_cons_succ]
  refine wpAnyL_take (i := 2) (v := ?_) rfl (by kernel_rfl) (by kernel_rfl) (by kernel_rfl) (by kernel_rfl) (by kernel_rfl) (fun _ _ _ h => h) (Or.inl ⟨by kernel_rfl, ?_⟩) s0 ?_
  rotate_left
  · rintro w0 ⟨h1_, h2_, h3_⟩; go_simp; (try with_reducible rfl)
  try simp only [Act.put, List.getElem_toArray, List.getElem_cons_succ, List.getElem_cons_zero, List.setIfInBounds_toArray, List.set_cons_zero, List.set_cons_succ]
  refine wpAnyL_take (i := 3) (v := ?_) rfl (by kernel_rfl) (by kernel_rfl) (by kernel_rfl) (by kernel_rfl) (by kernel_rfl) (fun _ _ _ h => h) (Or.inl ⟨by kernel_rfl, ?_⟩) s0 ?_
  rotate_left
  · rintro w0 ⟨h1_, h2_, h3_⟩; go_simp; (try with_reducible rfl)
  try simp only [Act.put, List.getElem_toArray, List.getElem_cons_succ, List.getElem_cons_zero, List.setIfInBounds_toArray, List.set_cons_zero, List.set_cons_succ]
  refine wpAnyL_take (i := 4) (v := ?_) rfl (by kernel_rfl) (by kernel_rfl) (by kernel_rfl) (by kernel_rfl) (by kernel_rfl) (fun _ _ _ h => h) (Or.inl ⟨by kernel_rfl, ?_⟩) s0 ?_
  rotate_left
  · rintro w0 ⟨h1_, h2_, h3_⟩; go_simp; (try with_reducible rfl)
  try simp only [Act.put, List.getElem_toArray, List.getElem_cons_succ, List.getElem_cons_zero, List.setIfInBounds_toArray, List.set_cons_zero, List.set_cons_succ]
  refine wpAnyL_one (i := 5) (by kernel_rfl) rfl (fun K hK => ?_)
  go_simp
  have hi3 := E2.rdm (List.mem_append_right xs hr)
  have hR3 : BArg (wd.alloc (.cells #[.slice RA rn rc] 22)) (some ⟨wd.heap.size, 0, none⟩) 1 1 [⟨RA, rn, rc, l⟩] := barg_blk (xs := [⟨RA, rn, rc, l⟩]) (Blk.new _ _ _) rfl (fun x hx => by rw [List.mem_singleton] at hx; subst hx; exact hi3.alloc _)
  have E3 := E2.alloc (.cells #[.slice RA rn rc] 22)
  have s1 : (fun w' : World => w'.cell? ⟨b2, 0, none⟩ = some (.pointer (some ⟨hl, 0, none⟩)) ∧ w'.cell? ⟨b3, 0, none⟩ = some (.slice RA rn rc) ∧ w'.cell? ⟨hl, 2, none⟩ = some (.pointer (some ⟨hs, 0, none⟩))) _ := ⟨E3.cell 2 0 rfl rfl, E3.cell 1 0 rfl rfl, E3.cell 3 2 rfl rfl⟩
  have hA := add_we E3 4 rfl ok hR3 (by omega) (fun x hx => by rw [List.mem_singleton] at hx; subst hx; exact hrn) hbg hpl
  simp only [List.map_cons, List.map_nil] at hA
  rw [hadd] at hA
  have HA := Lib.hid hA
  clear hA hi3 hR3 E2 E3
  refine hK.out _ _ (fun _ => s1) ?_
  clear hK K
  try simp only [Act.put, List.getElem_toArray, List.getElem_cons_succ, List.getElem_cons_zero, List.setIfInBounds_toArray, List.set_cons_zero, List.set_cons_succ]
  refine wpAnyL_one (i := 6) (by kernel_rfl) rfl (fun K hK => ?_)
  go_simp
  refine HA.out.mono ?_; rintro e w4 ⟨rfl, E4⟩
  have E4 := E4.setEq (bl' := (r, 25, #[.int .i64 0]) :: (b3, 22, #[.slice RA rn rc]) :: (b2, 50, #[.pointer (some ⟨hl, 0, none⟩)]) :: ledB hl g hs gen half false A n c :: segB hs g t2 :: bl) rfl
  have s2_ : (fun w' : World => w'.cell? ⟨b2, 0, none⟩ = some (.pointer (some ⟨hl, 0, none⟩)) ∧ w'.cell? ⟨b3, 0, none⟩ = some (.slice RA rn rc) ∧ w'.cell? ⟨hl, 2, none⟩ = some (.pointer (some ⟨hs, 0, none⟩))) _ := ⟨E4.cell 2 0 rfl rfl, E4.cell 1 0 rfl rfl, E4.cell 3 2 rfl rfl⟩
  go_wp2_with fail
  refine hK.out _ _ (fun _ => s2_) ?_
  clear hK K
  try simp only [Act.put, List.getElem_toArray, List.getElem_cons_succ, List.getElem_cons_zero, List.setIfInBounds_toArray, List.set_cons_zero, List.set_cons_succ]
  refine wpAnyL_one (i := 7) (by kernel_rfl) rfl (fun K hK => ?_)
  go_simp
  refine (must_gone cd hcd _).mono ?_; rintro e w5 ⟨rfl, rfl⟩
  clear s0 s1 s2_ HA
  go_wp2_with fail
  exact ⟨rfl, rfl, E4⟩
set_option maxRecDepth 100000 in
set_option maxHeartbeats 6400000 in
theorem append1_ok {w0 w : World} {g r b2 b3 hl hs half gen : Nat} {s s2 : DSt} {bl : List WBk} {ys : List WRow} {rd : List BEl} {t t2 : SegSt} {A RA : Option Addr} {n c rn rc : Nat} {xs : List BEl} {l : List Nat} {cd : Int} (E : WE w0 w g s ((r, 25, #[.int .i64 0]) :: (b3, 22, #[.slice RA rn rc]) :: (b2, 50, #[.pointer (some ⟨hl, 0, none⟩)]) :: ledB hl g hs gen half false A n c :: segB hs g t :: bl) (⟨22, 1, A, n, c, xs.map BEl.v⟩ :: ys) (xs ++ rd)) (ok : t.Ok s) (hr : (⟨RA, rn, rc, l⟩ : BEl) ∈ rd) (hrn : rn ≤ 140737488355328) (hadd : SegSt.add s t [l] = (s2, t2, cd)) (hbg : s.begun ≤ 576460752303423488) (hpl : s.pend.length ≤ 549755813888) (hcd : cd = 0) (hn : n ≤ 1000) :
    Calls Tryd.prog 51 #[.pointer (some ⟨b2, 0, none⟩), .pointer (some ⟨b3, 0, none⟩)] w fun e w' => (∃ v, e = .returned v) ∧ ∃ A2 c2 y, y.l = l ∧ y.n = rn ∧ WE w0 w' g s2 ((r, 25, #[.int .i64 0]) :: (b3, 22, #[.slice RA rn rc]) :: (b2, 50, #[.pointer (some ⟨hl, 0, none⟩)]) :: ledB hl g hs gen half false A2 (n + 1) c2 :: segB hs g t2 :: bl) (⟨22, 1, A2, n + 1, c2, (xs ++ [y]).map BEl.v⟩ :: ys) ((xs ++ [y]) ++ rd) := by
  subst hcd
  go_enter Tryd.func51, Tryd.ntmps51
  go_wp2_with fail
  have E2 := E.drew
  generalize hwd : World.drew _ = wd at *
  have s0 : (fun w' : World => w'.cell? ⟨b2, 0, none⟩ = some (.pointer (some ⟨hl, 0, none⟩)) ∧ w'.cell? ⟨b3, 0, none⟩ = some (.slice RA rn rc) ∧ w'.cell? ⟨hl, 2, none⟩ = some (.pointer (some ⟨hs, 0, none⟩))) wd := ⟨E2.cell 2 0 rfl rfl, E2.cell 1 0 rfl rfl, E2.cell 3 2 rfl rfl⟩
  refine wp_region_late [] (fun w' : World => w'.cell? ⟨b2, 0, none⟩ = some (.pointer (some ⟨hl, 0, none⟩)) ∧ w'.cell? ⟨b3, 0, none⟩ = some (.slice RA rn rc) ∧ w'.cell? ⟨hl, 2, none⟩ = some (.pointer (some ⟨hs, 0, none⟩))) (by kernel_rfl) ?_
  rw [hwd]
  clear hwd E
  refine wpAnyL_take (i := 0) (v := ?_) rfl (by kernel_rfl) (by kernel_rfl) (by kernel_rfl) (by kernel_rfl) (by kernel_rfl) (fun _ _ _ h => h) (Or.inl ⟨by kernel_rfl, ?_⟩) s0 ?_
  rotate_left
  · rintro w0 ⟨h1_, h2_, h3_⟩; go_simp; (try with_reducible rfl)
  try simp only [Act.put, List.getElem_toArray, List.getElem_cons_succ, List.getElem_cons_zero, List.setIfInBounds_toArray, List.set_cons_zero, List.set_cons_succ]
  refine wpAnyL_take (i := 1) (v := ?_) rfl (by kernel_rfl) (by kernel_rfl) (by kernel_rfl) (by kernel_rfl) (by kernel_rfl) (fun _ _ _ h => h) (Or.inl ⟨by kernel_rfl, ?_⟩) s0 ?_
  rotate_left
  · rintro w0 ⟨h1_, h2_, h3_⟩; go_simp; (try with_reducible rfl)
  try simp only [Act.put, List.getElem_toArray, List.getElem_cons_succ, List.getElem_cons_zero, List.setIfInBounds_toArray, List.set_cons_zero, List.set_cons_succ]
  refine wpAnyL_take (i := 2) (v := ?_) rfl (by kernel_rfl) (by kernel_rfl) (by kernel_rfl) (by kernel_rfl) (by kernel_rfl) (fun _ _ _ h => h) (Or.inl ⟨by kernel_rfl, ?_⟩) s0 ?_
  rotate_left
  · rintro w0 ⟨h1_, h2_, h3_⟩; go_simp; (try with_reducible rfl)
  try simp only [Act.put, List.getElem_toArray, List.getElem_cons_succ, List.getElem_cons_zero, List.setIfInBounds_toArray, List.set_cons_zero, List.set_cons_succ]
  refine wpAnyL_take (i := 3) (v := ?_) rfl (by kernel_rfl) (by kernel_rfl) (by kernel_rfl) (by kernel_rfl) (by kernel_rfl) (fun _ _ _ h => h) (Or.inl ⟨by kernel_rfl, ?_⟩) s0 ?_
  rotate_left
  · rintro w0 ⟨h1_, h2_, h3_⟩; go_simp; (try with_reducible rfl)
  try simp only [Act.put, List.getElem_toArray, List.getElem_cons_succ, List.getElem_cons_zero, List.setIfInBounds_toArray, List.set_cons_zero, List.set_cons_succ]
  refine wpAnyL_take (i := 4) (v := ?_) rfl (by kernel_rfl) (by kernel_rfl) (by kernel_rfl) (by kernel_rfl) (by kernel_rfl) (fun _ _ _ h => h) (Or.inl ⟨by kernel_rfl, ?_⟩) s0 ?_
  rotate_left
  · rintro w0 ⟨h1_, h2_, h3_⟩; go_simp; (try with_reducible rfl)
  try simp only [Act.put, List.getElem_toArray, List.getElem_cons_succ, List.getElem_cons_zero, List.setIfInBounds_toArray, List.set_cons_zero, List.set_cons_succ]
  refine wpAnyL_one (i := 5) (by kernel_rfl) rfl (fun K hK => ?_)
  go_simp
  have hi3 := E2.rdm (List.mem_append_right xs hr)
  have hR3 : BArg (wd.alloc (.cells #[.slice RA rn rc] 22)) (some ⟨wd.heap.size, 0, none⟩) 1 1 [⟨RA, rn, rc, l⟩] := barg_blk (xs := [⟨RA, rn, rc, l⟩]) (Blk.new _ _ _) rfl (fun x hx => by rw [List.mem_singleton] at hx; subst hx; exact hi3.alloc _)
  have E3 := E2.alloc (.cells #[.slice RA rn rc] 22)
  have s1 : (fun w' : World => w'.cell? ⟨b2, 0, none⟩ = some (.pointer (some ⟨hl, 0, none⟩)) ∧ w'.cell? ⟨b3, 0, none⟩ = some (.slice RA rn rc) ∧ w'.cell? ⟨hl, 2, none⟩ = some (.pointer (some ⟨hs, 0, none⟩))) _ := ⟨E3.cell 2 0 rfl rfl, E3.cell 1 0 rfl rfl, E3.cell 3 2 rfl rfl⟩
  have hA := add_we E3 4 rfl ok hR3 (by omega) (fun x hx => by rw [List.mem_singleton] at hx; subst hx; exact hrn) hbg hpl
  simp only [List.map_cons, List.map_nil] at hA
  rw [hadd] at hA
  have HA := Lib.hid hA
  clear hA hi3 hR3 E2 E3
  refine hK.out _ _ (fun _ => s1) ?_
  clear hK K
  try simp only [Act.put, List.getElem_toArray, List.getElem_cons_succ, List.getElem_cons_zero, List.setIfInBounds_toArray, List.set_cons_zero, List.set_cons_succ]
  refine wpAnyL_one (i := 6) (by kernel_rfl) rfl (fun K hK => ?_)
  go_simp
  refine HA.out.mono ?_; rintro e w4 ⟨rfl, E4⟩
  have E4 := E4.setEq (bl' := (r, 25, #[.int .i64 0]) :: (b3, 22, #[.slice RA rn rc]) :: (b2, 50, #[.pointer (some ⟨hl, 0, none⟩)]) :: ledB hl g hs gen half false A n c :: segB hs g t2 :: bl) rfl
  have s2_ : (fun w' : World => w'.cell? ⟨b2, 0, none⟩ = some (.pointer (some ⟨hl, 0, none⟩)) ∧ w'.cell? ⟨b3, 0, none⟩ = some (.slice RA rn rc) ∧ w'.cell? ⟨hl, 2, none⟩ = some (.pointer (some ⟨hs, 0, none⟩))) _ := ⟨E4.cell 2 0 rfl rfl, E4.cell 1 0 rfl rfl, E4.cell 3 2 rfl rfl⟩
  go_wp2_with fail
  refine hK.out _ _ (fun _ => s2_) ?_
  clear hK K
  try simp only [Act.put, List.getElem_toArray, List.getElem_cons_succ, List.getElem_cons_zero, List.setIfInBounds_toArray, List.set_cons_zero, List.set_cons_succ]
  refine wpAnyL_one (i := 7) (by kernel_rfl) rfl (fun K hK => ?_)
  go_simp
  refine (must_ok _).mono ?_; rintro e w5 ⟨⟨v5, rfl⟩, rfl⟩
  go_wp2_with fail
  refine hK.out _ _ (fun _ => s2_) ?_
  clear hK K
  try simp only [Act.put, List.getElem_toArray, List.getElem_cons_succ, List.getElem_cons_zero, List.setIfInBounds_toArray, List.set_cons_zero, List.set_cons_succ]
  refine wpAnyL_done (by kernel_rfl) ?_ _
  clear s0 s1 s2_ HA
  go_wp2_with fail
  have E5 := E4.drew
  generalize hwd : World.drew _ = wd5 at *
  have s0 : (fun w' : World => w'.cell? ⟨b2, 0, none⟩ = some (.pointer (some ⟨hl, 0, none⟩)) ∧ w'.cell? ⟨b3, 0, none⟩ = some (.slice RA rn rc) ∧ w'.cell? ⟨hl, 3, none⟩ = some (.slice A n c)) wd5 := ⟨E5.cell 2 0 rfl rfl, E5.cell 1 0 rfl rfl, E5.cell 3 3 rfl rfl⟩
  refine wp_region_late [11] (fun w' : World => w'.cell? ⟨b2, 0, none⟩ = some (.pointer (some ⟨hl, 0, none⟩)) ∧ w'.cell? ⟨b3, 0, none⟩ = some (.slice RA rn rc) ∧ w'.cell? ⟨hl, 3, none⟩ = some (.slice A n c)) (by kernel_rfl) ?_
  rw [hwd]
  clear hwd E4
  refine wpAnyL_take (i := 0) (v := ?_) rfl (by kernel_rfl) (by kernel_rfl) (by kernel_rfl) (by kernel_rfl) (by kernel_rfl) (fun _ _ _ h => h) (Or.inl ⟨by kernel_rfl, ?_⟩) s0 ?_
  rotate_left
  · rintro w0 ⟨h1_, h2_, h3_⟩; go_simp; (try with_reducible rfl)
  try simp only [Act.put, List.getElem_toArray, List.getElem_cons_succ, List.getElem_cons_zero, List.setIfInBounds_toArray, List.set_cons_zero, List.set_cons_succ]
  refine wpAnyL_take (i := 1) (v := ?_) rfl (by kernel_rfl) (by kernel_rfl) (by kernel_rfl) (by kernel_rfl) (by kernel_rfl) (fun _ _ _ h => h) (Or.inl ⟨by kernel_rfl, ?_⟩) s0 ?_
  rotate_left
  · rintro w0 ⟨h1_, h2_, h3_⟩; go_simp; (try with_reducible rfl)
  try simp only [Act.put, List.getElem_toArray, List.getElem_cons_succ, List.getElem_cons_zero, List.setIfInBounds_toArray, List.set_cons_zero, List.set_cons_succ]
  refine wpAnyL_take (i := 2) (v := ?_) rfl (by kernel_rfl) (by kernel_rfl) (by kernel_rfl) (by kernel_rfl) (by kernel_rfl) (fun _ _ _ h => h) (Or.inl ⟨by kernel_rfl, ?_⟩) s0 ?_
  rotate_left
  · rintro w0 ⟨h1_, h2_, h3_⟩; go_simp; (try with_reducible rfl)
  try simp only [Act.put, List.getElem_toArray, List.getElem_cons_succ, List.getElem_cons_zero, List.setIfInBounds_toArray, List.set_cons_zero, List.set_cons_succ]
  refine wpAnyL_take (i := 3) (v := ?_) rfl (by kernel_rfl) (by kernel_rfl) (by kernel_rfl) (by kernel_rfl) (by kernel_rfl) (fun _ _ _ h => h) (Or.inl ⟨by kernel_rfl, ?_⟩) s0 ?_
  rotate_left
  · rintro w0 ⟨h1_, h2_, h3_⟩; go_simp; (try with_reducible rfl)
  try simp only [Act.put, List.getElem_toArray, List.getElem_cons_succ, List.getElem_cons_zero, List.setIfInBounds_toArray, List.set_cons_zero, List.set_cons_succ]
  refine wpAnyL_take (i := 4) (v := ?_) rfl (by kernel_rfl) (by kernel_rfl) (by kernel_rfl) (by kernel_rfl) (by kernel_rfl) (fun _ _ _ h => h) (Or.inl ⟨by kernel_rfl, ?_⟩) s0 ?_
  rotate_left
  · rintro w0 ⟨h1_, h2_, h3_⟩; go_simp; (try with_reducible rfl)
  try simp only [Act.put, List.getElem_toArray, List.getElem_cons_succ, List.getElem_cons_zero, List.setIfInBounds_toArray, List.set_cons_zero, List.set_cons_succ]
  refine wpAnyL_take (i := 5) (v := ?_) rfl (by kernel_rfl) (by kernel_rfl) (by kernel_rfl) (by kernel_rfl) (by kernel_rfl) (fun _ _ _ h => h) (Or.inl ⟨by kernel_rfl, ?_⟩) s0 ?_
  rotate_left
  · rintro w0 ⟨h1_, h2_, h3_⟩; go_simp; (try with_reducible rfl)
  try simp only [Act.put, List.getElem_toArray, List.getElem_cons_succ, List.getElem_cons_zero, List.setIfInBounds_toArray, List.set_cons_zero, List.set_cons_succ]
  refine wpAnyL_one (i := 6) (by kernel_rfl) rfl (fun K hK => ?_)
  go_simp
  refine (clone_b (E5.rdm (List.mem_append_right xs hr)) hrn).mono ?_; rintro e w6 ⟨y, rfl, hyn, hyl, hyf, hb6⟩
  have E6 := (E5.below hb6).see (hyf _)
  have HY := Lib.hid (And.intro hyn hyl)
  clear hyn hyl
  have s1 : (fun w' : World => w'.cell? ⟨b2, 0, none⟩ = some (.pointer (some ⟨hl, 0, none⟩)) ∧ w'.cell? ⟨b3, 0, none⟩ = some (.slice RA rn rc) ∧ w'.cell? ⟨hl, 3, none⟩ = some (.slice A n c)) _ := ⟨E6.cell 2 0 rfl rfl, E6.cell 1 0 rfl rfl, E6.cell 3 3 rfl rfl⟩
  clear E5 hyf hb6
  go_wp2_with fail
  refine hK.out _ _ (fun _ => s1) ?_
  clear hK K
  try simp only [Act.put, List.getElem_toArray, List.getElem_cons_succ, List.getElem_cons_zero, List.setIfInBounds_toArray, List.set_cons_zero, List.set_cons_succ]
  refine wpAnyL_one (i := 7) (by kernel_rfl) rfl (fun K hK => ?_)
  go_simp
  have hrow := (E6.row 0 rfl).alloc (.cells #[.slice y.A y.n y.c] 22)
  dsimp only at hrow
  have hcs := cells_new w6 #[.slice y.A y.n y.c] 22 (g := w6.heap.size) rfl
  have hbs2 : w0.heap.size ≤ (w6.alloc (.cells #[.slice y.A y.n y.c] 22)).heap.size := by rw [World.size_alloc]; have := E6.size; omega
  have E7 := E6.alloc (.cells #[.slice y.A y.n y.c] 22)
  have s2 : (fun w' : World => w'.cell? ⟨b2, 0, none⟩ = some (.pointer (some ⟨hl, 0, none⟩)) ∧ w'.cell? ⟨b3, 0, none⟩ = some (.slice RA rn rc) ∧ w'.cell? ⟨hl, 3, none⟩ = some (.slice A n c)) _ := ⟨E7.cell 2 0 rfl rfl, E7.cell 1 0 rfl rfl, E7.cell 3 3 rfl rfl⟩
  refine hK.out _ _ (fun _ => s2) ?_
  clear hK K
  try simp only [Act.put, List.getElem_toArray, List.getElem_cons_succ, List.getElem_cons_zero, List.setIfInBounds_toArray, List.set_cons_zero, List.set_cons_succ]
  refine wpAnyL_one (i := 8) (by kernel_rfl) rfl (fun K hK => ?_)
  refine step_appR rfl (.tmp 14) (.tmp 17) 32 rfl 22 (.slice none 0 0) 1 24 Tryd.underlying32 binfo rfl (by omega) (by omega) rfl hrow (ad := ⟨w6.heap.size, 0, none⟩) (m := 1) (c' := 1) [.slice y.A y.n y.c] rfl rfl hcs (by intro u hu; rw [List.mem_singleton] at hu; subst hu; rfl) (by omega) hbs2 ?_
  intro A10 c10 w10 hown hg10 hA10
  have E8 := E7.app 0 rfl hown hg10 hA10
  have s3 : (fun w' : World => w'.cell? ⟨b2, 0, none⟩ = some (.pointer (some ⟨hl, 0, none⟩)) ∧ w'.cell? ⟨b3, 0, none⟩ = some (.slice RA rn rc) ∧ w'.cell? ⟨hl, 3, none⟩ = some (.slice A n c)) _ := ⟨E8.cell 2 0 rfl rfl, E8.cell 1 0 rfl rfl, E8.cell 3 3 rfl rfl⟩
  clear hrow hcs hbs2 hown hg10 hA10 E6 E7
  refine hK.out _ _ (fun _ => s3) ?_
  clear hK K
  try simp only [Act.put, List.getElem_toArray, List.getElem_cons_succ, List.getElem_cons_zero, List.setIfInBounds_toArray, List.set_cons_zero, List.set_cons_succ]
  refine wpAnyL_take (i := 9) (v := ?_) rfl (by kernel_rfl) (by kernel_rfl) (by kernel_rfl) (by kernel_rfl) (by kernel_rfl) (fun _ _ _ h => h) (Or.inl ⟨by kernel_rfl, ?_⟩) s3 ?_
  rotate_left
  · rintro w0 ⟨h1_, h2_, h3_⟩; go_simp; (try with_reducible rfl)
  try simp only [Act.put, List.getElem_toArray, List.getElem_cons_succ, List.getElem_cons_zero, List.setIfInBounds_toArray, List.set_cons_zero, List.set_cons_succ]
  refine wpAnyL_take (i := 10) (v := ?_) rfl (by kernel_rfl) (by kernel_rfl) (by kernel_rfl) (by kernel_rfl) (by kernel_rfl) (fun _ _ _ h => h) (Or.inl ⟨by kernel_rfl, ?_⟩) s3 ?_
  rotate_left
  · rintro w0 ⟨h1_, h2_, h3_⟩; go_simp; (try with_reducible rfl)
  try simp only [Act.put, List.getElem_toArray, List.getElem_cons_succ, List.getElem_cons_zero, List.setIfInBounds_toArray, List.set_cons_zero, List.set_cons_succ]
  have fz3 : w10.frozen? ⟨hl, 3, none⟩ = false := E8.frozen 3 3 rfl
  have cz3 : w10.cell? ⟨hl, 3, none⟩ = some (.slice A n c) := E8.cell 3 3 rfl rfl
  have E9 := E8.set 3 3 rfl (.slice A10 (n + 1) c10)
  have HE9 := Lib.hid E9
  clear E8 E9
  refine wpAnyL_one (i := 11) (by kernel_rfl) rfl (fun K hK => ?_)
  go_simp
  refine hK.out _ _ (fun h => absurd (by simp) h) ?_
  clear hK K
  try simp only [Act.put, List.getElem_toArray, List.getElem_cons_succ, List.getElem_cons_zero, List.setIfInBounds_toArray, List.set_cons_zero, List.set_cons_succ]
  refine wpAnyL_done (by kernel_rfl) ?_ _
  clear fz3 cz3 s0 s1 s2 s3
  have E10 := (HE9.out.setEq (bl' := (r, 25, #[.int .i64 0]) :: (b3, 22, #[.slice RA rn rc]) :: (b2, 50, #[.pointer (some ⟨hl, 0, none⟩)]) :: ledB hl g hs gen half false A10 (n + 1) c10 :: segB hs g t2 :: bl) rfl).pick (ys' := ⟨22, 1, A10, n + 1, c10, (xs ++ [y]).map BEl.v⟩ :: ys) (rd' := (xs ++ [y]) ++ rd) (.refl _) (by rw [List.map_append]; exact .refl _) (fun z hz => by
    simp only [List.mem_append, List.mem_cons, List.not_mem_nil, or_false] at hz ⊢
    rcases hz with (h | h) | h
    · exact .inr (.inl h)
    · exact .inl h
    · exact .inr (.inr h))
  clear HE9 E4
  go_wp2_with fail
  go_end0
  exact ⟨⟨_, rfl⟩, A10, c10, y, HY.out.2, HY.out.1, E10⟩
section
variable {w0 w : World} {g hl : Nat} {s : DSt} {bl : List WBk} {ys : List WRow} {rd : List BEl}
set_option maxRecDepth 100000 in
set_option maxHeartbeats 3200000 in
theorem done_ok (E : WE w0 w g s bl ys rd) (F : FuncId) (caps : Array Value) (hF : ∀ w : World, (callFunc F caps).run Tryd.prog w = .ok (.enter F caps) w) (X : DSt → List WBk → List WRow → List BEl → Prop)
    (hb : ∀ r w1, WE w0 w1 g s ((r, 25, #[.int .i64 0]) :: bl) ys rd → Calls Tryd.prog F caps w1 fun e w2 => ∃ s2 bl2 ys2 rd2, (∃ v, e = .returned v) ∧ WE w0 w2 g s2 ((r, 25, #[.int .i64 0]) :: bl2) ys2 rd2 ∧ X s2 bl2 ys2 rd2) :
    Calls Tryd.prog 50 #[.pointer (some ⟨hl, 0, none⟩), .func (.func F) #[] caps] w fun e w' => e = .returned (.int .i64 0) ∧ ∃ s2 bl2 ys2 rd2, WE w0 w' g s2 bl2 ys2 rd2 ∧ X s2 bl2 ys2 rd2 := by
  have HC := Lib.hid (caught_we E F caps hF (fun cd _ s2 bl2 ys2 rd2 => cd = 0 ∧ X s2 bl2 ys2 rd2) (fun r w5 E5 => (hb r w5 E5).mono (fun e w6 ⟨s2, bl2, ys2, rd2, hv, E6, hx⟩ => ⟨0, s2, bl2, ys2, rd2, .inl ⟨rfl, hv⟩, E6, fun _ _ => ⟨rfl, hx⟩⟩)))
  clear hb E
  go_enter Tryd.func50, Tryd.ntmps50
  go_wp2_with fail
  refine HC.out.mono ?_; rintro e w7 ⟨cd, s2, bl2, ys2, rd2, rfl, E7, rfl, hx⟩
  have HF := Lib.hid (And.intro E7 hx)
  clear E7 hx HC
  go_wp2_with fail
  go_ret
  exact ⟨rfl, s2, bl2, ys2, rd2, HF.out.1, HF.out.2⟩
set_option maxRecDepth 100000 in
set_option maxHeartbeats 3200000 in
theorem done_down {hs gen half : Nat} {A : Option Addr} {n c : Nat} {s2 : DSt} {bl2 : List WBk} {ys2 : List WRow} {rd2 : List BEl} (E : WE w0 w g s bl ys rd) (F : FuncId) (caps : Array Value) (hF : ∀ w : World, (callFunc F caps).run Tryd.prog w = .ok (.enter F caps) w) (i : Nat) (hi : bl2[i]? = some (ledB hl g hs gen half false A n c))
    (hb : ∀ r w1, WE w0 w1 g s ((r, 25, #[.int .i64 0]) :: bl) ys rd → Calls Tryd.prog F caps w1 fun e w2 => e = .panicked (goneP 4) ∧ WE w0 w2 g s2 ((r, 25, #[.int .i64 0]) :: bl2) ys2 rd2) :
    Calls Tryd.prog 50 #[.pointer (some ⟨hl, 0, none⟩), .func (.func F) #[] caps] w fun e w' => e = .returned (.int .i64 4) ∧ WE w0 w' g s2 (bl2.set i (ledB hl g hs 0 half true none 0 0)) ys2 rd2 := by
  have HC := Lib.hid (caught_we E F caps hF (fun cd _ s3 bl3 ys3 rd3 => cd = 4 ∧ s3 = s2 ∧ bl3 = bl2 ∧ ys3 = ys2 ∧ rd3 = rd2) (fun r w5 E5 => (hb r w5 E5).mono (fun e w6 ⟨he, E6⟩ => ⟨4, s2, bl2, ys2, rd2, .inr ⟨by decide, he⟩, E6, fun _ _ => ⟨rfl, rfl, rfl, rfl, rfl⟩⟩)))
  clear hb E
  go_enter Tryd.func50, Tryd.ntmps50
  go_wp2_with fail
  refine HC.out.mono ?_; rintro e w7 ⟨cd, s3, bl3, ys3, rd3, rfl, E7, rfl, rfl, rfl, rfl, rfl⟩
  have f5 : w7.frozen? ⟨hl, 5, none⟩ = false := E7.frozen i 5 hi
  have f1 : w7.frozen? ⟨hl, 1, none⟩ = false := E7.frozen i 1 hi
  have f3 : w7.frozen? ⟨hl, 3, none⟩ = false := E7.frozen i 3 hi
  have c5 : w7.cell? ⟨hl, 5, none⟩ = some (.bool false) := E7.cell i 5 hi rfl
  have c1 : w7.cell? ⟨hl, 1, none⟩ = some (.int .u32 (gen : Int)) := E7.cell i 1 hi rfl
  have c3 : w7.cell? ⟨hl, 3, none⟩ = some (.slice A n c) := E7.cell i 3 hi rfl
  have hil := (List.getElem?_eq_some_iff.1 hi).1
  have E8 := E7.set i 5 hi (.bool true)
  have E9 := E8.set i 1 (List.getElem?_set_self hil) (.int .u32 0)
  rw [List.set_set] at E9
  have E10 := E9.set i 3 (List.getElem?_set_self hil) (.slice none 0 0)
  rw [List.set_set] at E10
  have HF := Lib.hid E10
  clear E7 E8 E9 E10 HC hi
  go_wp2_with fail
  go_ret
  exact ⟨rfl, HF.out⟩
end
end Go.Proofs.YtdlcngmcjidomaaDoor

/- ledger.Append. No condition but the reach. -/
namespace Go.Proofs.YtdlcngmcjidomaaDoor
set_option linter.unusedSimpArgs false
set_option linter.unusedVariables false
open Go.RowKit Go.Shelf

theorem lk2_ {a : DSt × SegSt × Int} {c : Int} (h : a.2.2 = c) : a = (a.1, a.2.1, c) := Prod.ext rfl (Prod.ext rfl h)
section
variable {w0 w : World} {g hl half gen : Nat} {s : DSt} {all : List (List Nat)} {B : Nat} {bl : List WBk} {ys : List WRow} {rd : List BEl} {RA : Option Addr} {rn rc : Nat} {l : List Nat}
set_option maxRecDepth 100000 in
set_option maxHeartbeats 6400000 in
theorem append_ok (E : LE w0 w g hl s half gen all B bl ys rd) (hr : (⟨RA, rn, rc, l⟩ : BEl) ∈ rd) (hmax : rn ≤ 140737488355328) (hgood : SegSt.good [l] = true) (hfit : SegSt.total all + SegSt.total [l] ≤ half) (h200 : all.length < 200) (hB : B + 1 ≤ 4294967295) (hbg : s.begun ≤ 576460752303423488) (h255 : half ≤ 255) :
    Calls Tryd.prog 24 #[.pointer (some ⟨hl, 0, none⟩), .slice RA rn rc] w fun e w' => e = .returned (.int .i64 0) ∧ ∃ s2, LE w0 w' g hl s2 half gen (all ++ [l]) (B + 1) bl ys rd ∧ s2.begun ≤ s.begun + half + 1 := by
  obtain ⟨hs, t, A, c, xs, E0, L, hx⟩ := E.ex
  have hgn := L.gn
  subst hgn
  have hxl : xs.length = all.length := by rw [← hx, List.length_map]
  have hok := L.ok
  have hup := L.up
  have E1 := (E0.add 50 #[.pointer (some ⟨hl, 0, none⟩)] (by decide)).add 22 #[.slice RA rn rc] (by decide)
  simp only [World.size_alloc] at E1
  have hlt0 := (E0.rdm (List.mem_append_right xs hr)).lt
  have hrl := (E0.rdm (List.mem_append_right xs hr)).len
  have hrn : rn ≤ 140737488355328 := hmax
  clear E E0
  go_enter Tryd.func24, Tryd.ntmps24
  go_upto_region 1 with (fail)
  generalize (w.alloc _).alloc _ = w1 at *
  obtain ⟨b2, hb2⟩ : ∃ b, w.heap.size = b := ⟨_, rfl⟩
  rw [hb2] at E1 ⊢
  obtain ⟨b3, hb3⟩ : ∃ b, b2 + 1 = b := ⟨_, rfl⟩
  rw [hb3] at E1 ⊢
  clear hb2 hb3
  have cb2 : w1.cell? ⟨b2, 0, none⟩ = some (.pointer (some ⟨hl, 0, none⟩)) := E1.cell 1 0 rfl rfl
  have cb3 : w1.cell? ⟨b3, 0, none⟩ = some (.slice RA rn rc) := E1.cell 0 0 rfl rfl
  have hi3 := E1.rdm (List.mem_append_right xs hr)
  have hR3 : BArg (w1.alloc (.cells #[.slice RA rn rc] 22)) (some ⟨w1.heap.size, 0, none⟩) 1 1 [⟨RA, rn, rc, l⟩] := barg_blk (xs := [⟨RA, rn, rc, l⟩]) (Blk.new _ _ _) rfl (fun x hx => by rw [List.mem_singleton] at hx; subst hx; exact hi3.alloc _)
  have hN := need_any hR3 (by omega) (fun x hx => by rw [List.mem_singleton] at hx; subst hx; exact hrn)
  simp only [List.map_cons, List.map_nil] at hN
  rw [needR_yes hgood] at hN
  obtain ⟨k, hk⟩ : ∃ k, SegSt.total [l] = k := ⟨_, rfl⟩
  rw [hk] at hN
  have E2 := E1.alloc (.cells #[.slice RA rn rc] 22)
  have HN := Lib.hid hN
  have HE := Lib.hid E2
  clear hN hR3 hi3 E1 E2
  obtain ⟨fr, hfr⟩ : ∃ fr, t.n - t.fin = fr := ⟨_, rfl⟩
  have hn := L.n
  have q6 : ¬ (200 : Int) ≤ (xs.length : Int) := by omega
  have q6d : decide ((200 : Int) ≤ (xs.length : Int)) = false := decide_eq_false q6
  have q7 : ¬ (fr : Int) < (k : Int) := by omega
  have q7d : decide ((fr : Int) < (k : Int)) = false := decide_eq_false q7
  have hlt : ∀ r ∈ [l], ∀ c ∈ r, c < 256 := fun r h => by rw [List.mem_singleton] at h; subst h; exact hlt0
  have HG := Lib.hid (And.intro hgood hlt)
  have HH := Lib.hid (And.intro L (And.intro hx (And.intro hfit (And.intro hB (And.intro hbg (And.intro hxl (And.intro hfr (And.intro hk (And.intro hok (And.intro hn h200))))))))))
  clear L hx hfit hB hbg hfr hk hok hn h200 hup hxl hmax hgood hrl hlt hlt0
  go_wp2_with fail
  refine HN.out.mono ?_; rintro e w2 ⟨rfl, rfl⟩
  generalize w1.alloc _ = w2 at *
  have cl5 : w2.cell? ⟨hl, 5, none⟩ = some (.bool false) := HE.out.cell 2 5 rfl rfl
  have cl3 : w2.cell? ⟨hl, 3, none⟩ = some (.slice A xs.length c) := HE.out.cell 2 3 rfl rfl
  have cl2 : w2.cell? ⟨hl, 2, none⟩ = some (.pointer (some ⟨hs, 0, none⟩)) := HE.out.cell 2 2 rfl rfl
  have cb2 : w2.cell? ⟨b2, 0, none⟩ = some (.pointer (some ⟨hl, 0, none⟩)) := HE.out.cell 1 0 rfl rfl
  have cb3 : w2.cell? ⟨b3, 0, none⟩ = some (.slice RA rn rc) := HE.out.cell 0 0 rfl rfl
  clear HN
  go_wp2_with fail
  refine (free_any (HE.out.b 3 rfl) (by have := HH.out.2.2.2.2.2.2.2.2; omega) (by have := HH.out.2.2.2.2.2.2.2.2; omega)).mono ?_; rintro e w3 ⟨rfl, qq, rfl⟩
  rw [HH.out.2.2.2.2.2.2.1]
  have E3 := HE.out.drewN qq
  clear cl5 cl3 cl2 cb2 cb3 HE
  generalize w2.drewN qq = w3 at *
  have cb2 : w3.cell? ⟨b2, 0, none⟩ = some (.pointer (some ⟨hl, 0, none⟩)) := E3.cell 1 0 rfl rfl
  have hgd := HG.out.1
  have hlt := HG.out.2
  have hadd : SegSt.add s t [l] = ((SegSt.add s t [l]).1, (SegSt.add s t [l]).2.1, 0) := lk2_ (HH.out.1.add hgd HH.out.2.2.1 HH.out.2.2.2.1 hlt).1
  have ok1 : t.Ok s := segOk_up HH.out.1.up HH.out.2.2.2.2.2.2.2.2.1.2.2.1
  have hn10 : xs.length ≤ 1000 := by have := HH.out.2.2.2.2.2.2.2.2.2.2; have := HH.out.2.2.2.2.2.1; omega
  have hD := done_ok E3 (hl := hl) 51 #[.pointer (some ⟨b2, 0, none⟩), .pointer (some ⟨b3, 0, none⟩)] (fun _ => by kernel_rfl)
    (fun s2 bl2 ys2 rd2 => s2 = (SegSt.add s t [l]).1 ∧ ∃ A2 c2 y, y.l = l ∧ bl2 = ((b3, 22, #[.slice RA rn rc]) :: (b2, 50, #[.pointer (some ⟨hl, 0, none⟩)]) :: ledB hl g hs t.gen half false A2 (xs.length + 1) c2 :: segB hs g (SegSt.add s t [l]).2.1 :: bl) ∧ ys2 = ((⟨22, 1, A2, xs.length + 1, c2, (xs ++ [y]).map BEl.v⟩ : WRow) :: ys) ∧ rd2 = (xs ++ [y]) ++ rd)
    (fun r w5 E5 => (append1_ok E5 ok1 hr hrn hadd HH.out.2.2.2.2.1 (by rw [HH.out.1.up.kept.pend]; exact Nat.zero_le _) rfl hn10).mono (fun e w6 ⟨hv, A2, c2, y, hyl, hyn, E6⟩ => ⟨_, _, _, _, hv, E6, rfl, A2, c2, y, hyl, rfl, rfl, rfl⟩))
  have HD := Lib.hid hD
  clear hD hadd ok1 hn10 E3 hgd hlt
  go_wp2_with fail
  refine HD.out.mono ?_; rintro e w7 ⟨rfl, s2, bl2, ys2, rd2, E7, rfl, A2, c2, y, hyl, rfl, rfl, rfl⟩
  have hl7 : xs.length + 1 = (xs ++ [y]).length := by rw [List.length_append]; rfl
  rw [hl7] at E7
  have HF := Lib.hid (And.intro (E7.pick (bl' := ledB hl g hs t.gen half false A2 (xs ++ [y]).length c2 :: segB hs g (SegSt.add s t [l]).2.1 :: bl) (.cons _ (.cons _ (.refl _))) (.refl _) (fun _ h => h)) hyl)
  clear E7 hyl hl7 HD
  go_wp2_with fail
  go_ret
  obtain ⟨_, a2, a3⟩ := HH.out.1.add (rs := [l]) HG.out.1 HH.out.2.2.1 HH.out.2.2.2.1 HG.out.2
  exact ⟨rfl, _, ⟨hs, _, A2, c2, xs ++ [y], HF.out.1, a2, by rw [List.map_append, HH.out.2.1, List.map_singleton, HF.out.2]⟩, a3⟩
set_option maxRecDepth 100000 in
set_option maxHeartbeats 6400000 in
theorem append_full (E : LE w0 w g hl s half gen all B bl ys rd) (hr : (⟨RA, rn, rc, l⟩ : BEl) ∈ rd) (hmax : rn ≤ 140737488355328) (hgood : SegSt.good [l] = true) (hfull : 200 ≤ all.length ∨ half < SegSt.total all + SegSt.total [l]) (h255 : half ≤ 255) :
    Calls Tryd.prog 24 #[.pointer (some ⟨hl, 0, none⟩), .slice RA rn rc] w fun e w' => e = .returned (.int .i64 3) ∧ LE w0 w' g hl s half gen all B bl ys rd := by
  obtain ⟨hs, t, A, c, xs, E0, L, hx⟩ := E.ex
  have hgn := L.gn
  subst hgn
  have hxl : xs.length = all.length := by rw [← hx, List.length_map]
  have hok := L.ok
  have hup := L.up
  have E1 := (E0.add 50 #[.pointer (some ⟨hl, 0, none⟩)] (by decide)).add 22 #[.slice RA rn rc] (by decide)
  simp only [World.size_alloc] at E1
  have hlt0 := (E0.rdm (List.mem_append_right xs hr)).lt
  have hrl := (E0.rdm (List.mem_append_right xs hr)).len
  have hrn : rn ≤ 140737488355328 := hmax
  clear E E0
  go_enter Tryd.func24, Tryd.ntmps24
  go_upto_region 1 with (fail)
  generalize (w.alloc _).alloc _ = w1 at *
  obtain ⟨b2, hb2⟩ : ∃ b, w.heap.size = b := ⟨_, rfl⟩
  rw [hb2] at E1 ⊢
  obtain ⟨b3, hb3⟩ : ∃ b, b2 + 1 = b := ⟨_, rfl⟩
  rw [hb3] at E1 ⊢
  clear hb2 hb3
  have cb2 : w1.cell? ⟨b2, 0, none⟩ = some (.pointer (some ⟨hl, 0, none⟩)) := E1.cell 1 0 rfl rfl
  have cb3 : w1.cell? ⟨b3, 0, none⟩ = some (.slice RA rn rc) := E1.cell 0 0 rfl rfl
  have hi3 := E1.rdm (List.mem_append_right xs hr)
  have hR3 : BArg (w1.alloc (.cells #[.slice RA rn rc] 22)) (some ⟨w1.heap.size, 0, none⟩) 1 1 [⟨RA, rn, rc, l⟩] := barg_blk (xs := [⟨RA, rn, rc, l⟩]) (Blk.new _ _ _) rfl (fun x hx => by rw [List.mem_singleton] at hx; subst hx; exact hi3.alloc _)
  have hN := need_any hR3 (by omega) (fun x hx => by rw [List.mem_singleton] at hx; subst hx; exact hrn)
  simp only [List.map_cons, List.map_nil] at hN
  rw [needR_yes hgood] at hN
  obtain ⟨k, hk⟩ : ∃ k, SegSt.total [l] = k := ⟨_, rfl⟩
  rw [hk] at hN
  have E2 := E1.alloc (.cells #[.slice RA rn rc] 22)
  have HN := Lib.hid hN
  have HE := Lib.hid E2
  clear hN hR3 hi3 E1 E2
  obtain ⟨fr, hfr⟩ : ∃ fr, t.n - t.fin = fr := ⟨_, rfl⟩
  have hn := L.n
  have HH := Lib.hid (And.intro L (And.intro hx (And.intro hfr (And.intro hok hn))))
  by_cases h200 : 200 ≤ all.length
  · have q6 : (200 : Int) ≤ (xs.length : Int) := by omega
    have q6d : decide ((200 : Int) ≤ (xs.length : Int)) = true := decide_eq_true q6
    clear L hx hfull hfr hk hok hn h200 hup hxl hmax hgood hrl hlt0
    go_wp2_with fail
    refine HN.out.mono ?_; rintro e w2 ⟨rfl, rfl⟩
    generalize w1.alloc _ = w2 at *
    have cl5 : w2.cell? ⟨hl, 5, none⟩ = some (.bool false) := HE.out.cell 2 5 rfl rfl
    have cl3 : w2.cell? ⟨hl, 3, none⟩ = some (.slice A xs.length c) := HE.out.cell 2 3 rfl rfl
    have cl2 : w2.cell? ⟨hl, 2, none⟩ = some (.pointer (some ⟨hs, 0, none⟩)) := HE.out.cell 2 2 rfl rfl
    have cb2 : w2.cell? ⟨b2, 0, none⟩ = some (.pointer (some ⟨hl, 0, none⟩)) := HE.out.cell 1 0 rfl rfl
    have cb3 : w2.cell? ⟨b3, 0, none⟩ = some (.slice RA rn rc) := HE.out.cell 0 0 rfl rfl
    have HF := Lib.hid (HE.out.pick (bl' := ledB hl g hs t.gen half false A xs.length c :: segB hs g t :: bl) (.cons _ (.cons _ (.refl _))) (.refl _) (fun _ h => h))
    clear HN HE
    go_wp2_with fail
    go_ret
    exact ⟨rfl, ⟨hs, t, A, c, xs, HF.out, HH.out.1, HH.out.2.1⟩⟩
  · have q6 : ¬ (200 : Int) ≤ (xs.length : Int) := by omega
    have q6d : decide ((200 : Int) ≤ (xs.length : Int)) = false := decide_eq_false q6
    have q7 : (fr : Int) < (k : Int) := by omega
    have q7d : decide ((fr : Int) < (k : Int)) = true := decide_eq_true q7
    clear L hx hfull hfr hk hok hn h200 hup hxl hmax hgood hrl hlt0
    go_wp2_with fail
    refine HN.out.mono ?_; rintro e w2 ⟨rfl, rfl⟩
    generalize w1.alloc _ = w2 at *
    have cl5 : w2.cell? ⟨hl, 5, none⟩ = some (.bool false) := HE.out.cell 2 5 rfl rfl
    have cl3 : w2.cell? ⟨hl, 3, none⟩ = some (.slice A xs.length c) := HE.out.cell 2 3 rfl rfl
    have cl2 : w2.cell? ⟨hl, 2, none⟩ = some (.pointer (some ⟨hs, 0, none⟩)) := HE.out.cell 2 2 rfl rfl
    have cb2 : w2.cell? ⟨b2, 0, none⟩ = some (.pointer (some ⟨hl, 0, none⟩)) := HE.out.cell 1 0 rfl rfl
    have cb3 : w2.cell? ⟨b3, 0, none⟩ = some (.slice RA rn rc) := HE.out.cell 0 0 rfl rfl
    clear HN
    go_wp2_with fail
    refine (free_any (HE.out.b 3 rfl) (by have := HH.out.2.2.2; omega) (by have := HH.out.2.2.2; omega)).mono ?_; rintro e w3 ⟨rfl, qq, rfl⟩
    rw [HH.out.2.2.1]
    have HF := Lib.hid ((HE.out.drewN qq).pick (bl' := ledB hl g hs t.gen half false A xs.length c :: segB hs g t :: bl) (.cons _ (.cons _ (.refl _))) (.refl _) (fun _ h => h))
    clear HE
    go_wp2_with fail
    go_ret
    exact ⟨rfl, ⟨hs, t, A, c, xs, HF.out, HH.out.1, HH.out.2.1⟩⟩
set_option maxRecDepth 100000 in
set_option maxHeartbeats 6400000 in
theorem append_down {s' s2 : DSt} {t t2 : SegSt} {hs : Nat} {A : Option Addr} {c : Nat} {xs : List BEl} (E0 : WE w0 w g s' (ledB hl g hs t.gen half false A xs.length c :: segB hs g t :: bl) (⟨22, 1, A, xs.length, c, xs.map BEl.v⟩ :: ys) (xs ++ rd)) (ok : t.Ok s') (hr : (⟨RA, rn, rc, l⟩ : BEl) ∈ rd) (hmax : rn ≤ 140737488355328) (hgood : SegSt.good [l] = true)
    (hadd : SegSt.add s' t [l] = (s2, t2, 4)) (hfit : t.fin + SegSt.total [l] ≤ t.n) (hf : t.fin ≤ t.n) (hn : t.n ≤ 255) (h200 : xs.length < 200) (hbg : s'.begun ≤ 576460752303423488) (hpl : s'.pend.length ≤ 549755813888) :
    Calls Tryd.prog 24 #[.pointer (some ⟨hl, 0, none⟩), .slice RA rn rc] w fun e w' => e = .returned (.int .i64 4) ∧ WE w0 w' g s2 (ledB hl g hs 0 half true none 0 0 :: segB hs g t2 :: bl) (⟨22, 1, A, xs.length, c, xs.map BEl.v⟩ :: ys) (xs ++ rd) := by
  have E1 := (E0.add 50 #[.pointer (some ⟨hl, 0, none⟩)] (by decide)).add 22 #[.slice RA rn rc] (by decide)
  simp only [World.size_alloc] at E1
  have hlt0 := (E0.rdm (List.mem_append_right xs hr)).lt
  have hrl := (E0.rdm (List.mem_append_right xs hr)).len
  have hrn : rn ≤ 140737488355328 := hmax
  clear E0
  go_enter Tryd.func24, Tryd.ntmps24
  go_upto_region 1 with (fail)
  generalize (w.alloc _).alloc _ = w1 at *
  obtain ⟨b2, hb2⟩ : ∃ b, w.heap.size = b := ⟨_, rfl⟩
  rw [hb2] at E1 ⊢
  obtain ⟨b3, hb3⟩ : ∃ b, b2 + 1 = b := ⟨_, rfl⟩
  rw [hb3] at E1 ⊢
  clear hb2 hb3
  have cb2 : w1.cell? ⟨b2, 0, none⟩ = some (.pointer (some ⟨hl, 0, none⟩)) := E1.cell 1 0 rfl rfl
  have cb3 : w1.cell? ⟨b3, 0, none⟩ = some (.slice RA rn rc) := E1.cell 0 0 rfl rfl
  have hi3 := E1.rdm (List.mem_append_right xs hr)
  have hR3 : BArg (w1.alloc (.cells #[.slice RA rn rc] 22)) (some ⟨w1.heap.size, 0, none⟩) 1 1 [⟨RA, rn, rc, l⟩] := barg_blk (xs := [⟨RA, rn, rc, l⟩]) (Blk.new _ _ _) rfl (fun x hx => by rw [List.mem_singleton] at hx; subst hx; exact hi3.alloc _)
  have hN := need_any hR3 (by omega) (fun x hx => by rw [List.mem_singleton] at hx; subst hx; exact hrn)
  simp only [List.map_cons, List.map_nil] at hN
  rw [needR_yes hgood] at hN
  obtain ⟨k, hk⟩ : ∃ k, SegSt.total [l] = k := ⟨_, rfl⟩
  rw [hk] at hN
  have E2 := E1.alloc (.cells #[.slice RA rn rc] 22)
  have HN := Lib.hid hN
  have HE := Lib.hid E2
  clear hN hR3 hi3 E1 E2
  obtain ⟨fr, hfr⟩ : ∃ fr, t.n - t.fin = fr := ⟨_, rfl⟩
  have q6 : ¬ (200 : Int) ≤ (xs.length : Int) := by omega
  have q6d : decide ((200 : Int) ≤ (xs.length : Int)) = false := decide_eq_false q6
  have q7 : ¬ (fr : Int) < (k : Int) := by omega
  have q7d : decide ((fr : Int) < (k : Int)) = false := decide_eq_false q7
  have HH := Lib.hid (And.intro hfr (And.intro hadd (And.intro ok (And.intro hf (And.intro hn (And.intro hbg hpl))))))
  clear hfr hadd ok hf hn hbg hpl hk hfit hgood hmax hrl hlt0 h200
  go_wp2_with fail
  refine HN.out.mono ?_; rintro e w2 ⟨rfl, rfl⟩
  generalize w1.alloc _ = w2 at *
  have cl5 : w2.cell? ⟨hl, 5, none⟩ = some (.bool false) := HE.out.cell 2 5 rfl rfl
  have cl3 : w2.cell? ⟨hl, 3, none⟩ = some (.slice A xs.length c) := HE.out.cell 2 3 rfl rfl
  have cl2 : w2.cell? ⟨hl, 2, none⟩ = some (.pointer (some ⟨hs, 0, none⟩)) := HE.out.cell 2 2 rfl rfl
  have cb2 : w2.cell? ⟨b2, 0, none⟩ = some (.pointer (some ⟨hl, 0, none⟩)) := HE.out.cell 1 0 rfl rfl
  have cb3 : w2.cell? ⟨b3, 0, none⟩ = some (.slice RA rn rc) := HE.out.cell 0 0 rfl rfl
  clear HN
  go_wp2_with fail
  refine (free_any (HE.out.b 3 rfl) HH.out.2.2.2.1 (by have := HH.out.2.2.2.2.1; omega)).mono ?_; rintro e w3 ⟨rfl, qq, rfl⟩
  rw [HH.out.1]
  have E3 := HE.out.drewN qq
  clear cl5 cl3 cl2 cb2 cb3 HE
  generalize w2.drewN qq = w3 at *
  have cb2 : w3.cell? ⟨b2, 0, none⟩ = some (.pointer (some ⟨hl, 0, none⟩)) := E3.cell 1 0 rfl rfl
  have hD := done_down (bl2 := (b3, 22, #[.slice RA rn rc]) :: (b2, 50, #[.pointer (some ⟨hl, 0, none⟩)]) :: ledB hl g hs t.gen half false A xs.length c :: segB hs g t2 :: bl) E3 51 #[.pointer (some ⟨b2, 0, none⟩), .pointer (some ⟨b3, 0, none⟩)] (fun _ => by kernel_rfl) 2 rfl
    (fun r w5 E5 => append1_down E5 HH.out.2.2.1 hr hrn HH.out.2.1 HH.out.2.2.2.2.2.1 HH.out.2.2.2.2.2.2 (by decide))
  have HD := Lib.hid hD
  clear hD E3
  go_wp2_with fail
  refine HD.out.mono ?_; rintro e w7 ⟨rfl, E7⟩
  have HF := Lib.hid ((E7.setEq (bl' := (b3, 22, #[.slice RA rn rc]) :: (b2, 50, #[.pointer (some ⟨hl, 0, none⟩)]) :: ledB hl g hs 0 half true none 0 0 :: segB hs g t2 :: bl) rfl).pick (bl' := ledB hl g hs 0 half true none 0 0 :: segB hs g t2 :: bl) (.cons _ (.cons _ (.refl _))) (.refl _) (fun _ h => h))
  clear E7 HD
  go_wp2_with fail
  go_ret
  exact ⟨rfl, HF.out⟩
set_option maxRecDepth 100000 in
set_option maxHeartbeats 6400000 in
theorem append_lost {hs : Nat} {xs : List BEl} (E0 : WE w0 w g s (ledB hl g hs 0 half true none 0 0 :: bl) ys (xs ++ rd)) (hr : (⟨RA, rn, rc, l⟩ : BEl) ∈ rd) (hmax : rn ≤ 140737488355328) (hgood : SegSt.good [l] = true) :
    Calls Tryd.prog 24 #[.pointer (some ⟨hl, 0, none⟩), .slice RA rn rc] w fun e w' => e = .returned (.int .i64 4) ∧ WE w0 w' g s (ledB hl g hs 0 half true none 0 0 :: bl) ys (xs ++ rd) := by
  have E1 := (E0.add 50 #[.pointer (some ⟨hl, 0, none⟩)] (by decide)).add 22 #[.slice RA rn rc] (by decide)
  simp only [World.size_alloc] at E1
  have hlt0 := (E0.rdm (List.mem_append_right xs hr)).lt
  have hrl := (E0.rdm (List.mem_append_right xs hr)).len
  have hrn : rn ≤ 140737488355328 := hmax
  clear E0
  go_enter Tryd.func24, Tryd.ntmps24
  go_upto_region 1 with (fail)
  generalize (w.alloc _).alloc _ = w1 at *
  obtain ⟨b2, hb2⟩ : ∃ b, w.heap.size = b := ⟨_, rfl⟩
  rw [hb2] at E1 ⊢
  obtain ⟨b3, hb3⟩ : ∃ b, b2 + 1 = b := ⟨_, rfl⟩
  rw [hb3] at E1 ⊢
  clear hb2 hb3
  have cb2 : w1.cell? ⟨b2, 0, none⟩ = some (.pointer (some ⟨hl, 0, none⟩)) := E1.cell 1 0 rfl rfl
  have cb3 : w1.cell? ⟨b3, 0, none⟩ = some (.slice RA rn rc) := E1.cell 0 0 rfl rfl
  have hi3 := E1.rdm (List.mem_append_right xs hr)
  have hR3 : BArg (w1.alloc (.cells #[.slice RA rn rc] 22)) (some ⟨w1.heap.size, 0, none⟩) 1 1 [⟨RA, rn, rc, l⟩] := barg_blk (xs := [⟨RA, rn, rc, l⟩]) (Blk.new _ _ _) rfl (fun x hx => by rw [List.mem_singleton] at hx; subst hx; exact hi3.alloc _)
  have hN := need_any hR3 (by omega) (fun x hx => by rw [List.mem_singleton] at hx; subst hx; exact hrn)
  simp only [List.map_cons, List.map_nil] at hN
  rw [needR_yes hgood] at hN
  obtain ⟨k, hk⟩ : ∃ k, SegSt.total [l] = k := ⟨_, rfl⟩
  rw [hk] at hN
  have E2 := E1.alloc (.cells #[.slice RA rn rc] 22)
  have HN := Lib.hid hN
  have HE := Lib.hid E2
  clear hN hR3 hi3 E1 E2
  clear hk hgood hmax hrl hlt0
  go_wp2_with fail
  refine HN.out.mono ?_; rintro e w2 ⟨rfl, rfl⟩
  generalize w1.alloc _ = w2 at *
  have cl5 : w2.cell? ⟨hl, 5, none⟩ = some (.bool true) := HE.out.cell 2 5 rfl rfl
  have cb2 : w2.cell? ⟨b2, 0, none⟩ = some (.pointer (some ⟨hl, 0, none⟩)) := HE.out.cell 1 0 rfl rfl
  have HF := Lib.hid (HE.out.pick (bl' := ledB hl g hs 0 half true none 0 0 :: bl) (.cons _ (.cons _ (.refl _))) (.refl _) (fun _ h => h))
  clear HN HE
  go_wp2_with fail
  go_ret
  exact ⟨rfl, HF.out⟩
end
end Go.Proofs.YtdlcngmcjidomaaDoor

/- ledger.Compact$1, the power being there. No condition but the reach. -/
namespace Go.Proofs.YtdlcngmcjidomaaDoor
set_option linter.unusedSimpArgs false
set_option linter.unusedVariables false
open Go.RowKit Go.Shelf

/-- Records that can be read, whatever a call lays beside them. -/
structure RecIn (w0 : World) (g : Nat) (ys : List WRow) (rd : List BEl) (RA : Option Addr) (rn rc : Nat) (zs : List BEl) : Prop where
  at_ : ∀ w1 s1 bl1 ys0 rd1, WE w0 w1 g s1 bl1 (ys0 ++ ys) (rd1 ++ rd) → BArg w1 RA rn rc zs
  most : ∀ z ∈ zs, z.n ≤ 140737488355328
set_option maxRecDepth 100000 in
set_option maxHeartbeats 12800000 in
theorem compact1_ok {w0 w : World} {g r b2 b3 hl hs half gen : Nat} {s : DSt} {bl : List WBk} {ys : List WRow} {rd : List BEl} {t : SegSt} {A RA : Option Addr} {n c rn rc : Nat} {xs zs : List BEl} {all : List (List Nat)} {B : Nat} (E : WE w0 w g s ((r, 25, #[.int .i64 0]) :: (b3, 32, #[.slice RA rn rc]) :: (b2, 50, #[.pointer (some ⟨hl, 0, none⟩)]) :: ledB hl g hs gen half false A n c :: segB hs g t :: bl) (⟨22, 1, A, n, c, xs.map BEl.v⟩ :: ys) (xs ++ rd)) (L : Led.LUp s half gen t all B) (R : RecIn w0 g ys rd RA rn rc zs)
    (hgood : SegSt.good (zs.map (·.l)) = true) (hfit : SegSt.total (zs.map (·.l)) ≤ half) (hrn : rn ≤ 1000) (hB : B + rn ≤ 4294967295) (hg1 : gen + 1 < 4294967296) (hbg : s.begun ≤ 281474976710656) :
    Calls Tryd.prog 52 #[.pointer (some ⟨b2, 0, none⟩), .pointer (some ⟨b3, 0, none⟩)] w fun e w' => (∃ v, e = .returned v) ∧ ∃ h2 s2 t2 A2 c2 us, Led.LUp s2 half (gen + 1) t2 (zs.map (·.l)) (B + rn) ∧ s2.begun ≤ s.begun + half + 10 ∧ us.map (·.l) = zs.map (·.l) ∧
      WE w0 w' g s2 ((r, 25, #[.int .i64 0]) :: (b3, 32, #[.slice RA rn rc]) :: (b2, 50, #[.pointer (some ⟨hl, 0, none⟩)]) :: ledB hl g h2 (gen + 1) half false A2 us.length c2 :: segB h2 g t2 :: bl) (⟨22, 1, A2, us.length, c2, us.map BEl.v⟩ :: ys) (us ++ rd) := by
  have h512 := E.wf.most
  have hh1 := L.half1
  have hln := L.len
  obtain ⟨gn, hgn⟩ : ∃ gn, gen + 1 = gn := ⟨_, rfl⟩
  have hzl : zs.length = rn := (R.at_ w s ((r, 25, #[.int .i64 0]) :: (b3, 32, #[.slice RA rn rc]) :: (b2, 50, #[.pointer (some ⟨hl, 0, none⟩)]) :: ledB hl g hs gen half false A n c :: segB hs g t :: bl) (⟨22, 1, A, n, c, xs.map BEl.v⟩ :: []) xs E).len
  have hin := Led.half_in half gn
  have hbe := L.begin hg1 (by omega) 0 4294967295
  rw [hgn] at hbe hg1 ⊢
  have hwg : IntKind.u32.wrap ((gen : Int) + 1) = (gn : Int) := by rw [IntKind.wrap_u32]; omega
  have ok1 : SegSt.Ok s ⟨2 + gn % 2 * half, half, gn, 0, 4294967295⟩ := ⟨hh1, by show 2 + gn % 2 * half + half ≤ _; omega, Nat.zero_le _, by show 4294967295 ≤ 4294967295; omega, hg1⟩
  have hfits : 2 + gn % 2 * half + half ≤ s.sure.length := by omega
  have HG := Lib.hid (And.intro hwg (And.intro hg1 (And.intro hfits (And.intro ok1 (And.intro hbe (And.intro hgood (And.intro hfit (And.intro hB (And.intro hzl hgn)))))))))
  have HL := Lib.hid L
  clear hwg hg1 hfits ok1 hbe hgood hfit hB hzl hin hln L hgn
  go_enter Tryd.func52, Tryd.ntmps52
  go_wp2_with fail
  have E2 := E.drew
  generalize hwd : World.drew _ = wd at *
  have s0 : (fun w' : World => w'.cell? ⟨b2, 0, none⟩ = some (.pointer (some ⟨hl, 0, none⟩)) ∧ w'.cell? ⟨hl, 1, none⟩ = some (.int .u32 (gen : Int))) wd := ⟨E2.cell 2 0 rfl rfl, E2.cell 3 1 rfl rfl⟩
  refine wp_region_late [] (fun w' : World => w'.cell? ⟨b2, 0, none⟩ = some (.pointer (some ⟨hl, 0, none⟩)) ∧ w'.cell? ⟨hl, 1, none⟩ = some (.int .u32 (gen : Int))) (by kernel_rfl) ?_
  rw [hwd]
  clear hwd E
  refine wpAnyL_take (i := 0) (v := ?_) rfl (by kernel_rfl) (by kernel_rfl) (by kernel_rfl) (by kernel_rfl) (by kernel_rfl) (fun _ _ _ h => h) (Or.inl ⟨by kernel_rfl, ?_⟩) s0 ?_
  rotate_left
  · rintro w0 ⟨h1_, h2_⟩; go_simp; (try with_reducible rfl)
  try simp only [Act.put, List.getElem_toArray, List.getElem_cons_succ, List.getElem_cons_zero, List.setIfInBounds_toArray, List.set_cons_zero, List.set_cons_succ]
  refine wpAnyL_take (i := 1) (v := ?_) rfl (by kernel_rfl) (by kernel_rfl) (by kernel_rfl) (by kernel_rfl) (by kernel_rfl) (fun _ _ _ h => h) (Or.inl ⟨by kernel_rfl, ?_⟩) s0 ?_
  rotate_left
  · rintro w0 ⟨h1_, h2_⟩; go_simp; (try with_reducible rfl)
  try simp only [Act.put, List.getElem_toArray, List.getElem_cons_succ, List.getElem_cons_zero, List.setIfInBounds_toArray, List.set_cons_zero, List.set_cons_succ]
  refine wpAnyL_take (i := 2) (v := ?_) rfl (by kernel_rfl) (by kernel_rfl) (by kernel_rfl) (by kernel_rfl) (by kernel_rfl) (fun _ _ _ h => h) (Or.inl ⟨by kernel_rfl, ?_⟩) s0 ?_
  rotate_left
  · rintro w0 ⟨h1_, h2_⟩; go_simp; (try with_reducible rfl)
  try simp only [Act.put, List.getElem_toArray, List.getElem_cons_succ, List.getElem_cons_zero, List.setIfInBounds_toArray, List.set_cons_zero, List.set_cons_succ]
  refine wpAnyL_take (i := 3) (v := ?_) rfl (by kernel_rfl) (by kernel_rfl) (by kernel_rfl) (by kernel_rfl) (by kernel_rfl) (fun _ _ _ h => h) (Or.inl ⟨by kernel_rfl, ?_⟩) s0 ?_
  rotate_left
  · rintro w0 ⟨h1_, h2_⟩; go_simp; (try with_reducible rfl)
  try simp only [Act.put, List.getElem_toArray, List.getElem_cons_succ, List.getElem_cons_zero, List.setIfInBounds_toArray, List.set_cons_zero, List.set_cons_succ]
  refine wpAnyL_take (i := 4) (v := ?_) rfl (by kernel_rfl) (by kernel_rfl) (by kernel_rfl) (by kernel_rfl) (by kernel_rfl) (fun _ _ _ h => h) (Or.inl ⟨by kernel_rfl, ?_⟩) s0 ?_
  rotate_left
  · rintro w0 ⟨h1_, h2_⟩; go_simp; (try with_reducible rfl)
  try simp only [Act.put, List.getElem_toArray, List.getElem_cons_succ, List.getElem_cons_zero, List.setIfInBounds_toArray, List.set_cons_zero, List.set_cons_succ]
  refine wpAnyL_take (i := 5) (v := ?_) rfl (by kernel_rfl) (by kernel_rfl) (by kernel_rfl) (by kernel_rfl) (by kernel_rfl) (fun _ _ _ h => h) (Or.inl ⟨by kernel_rfl, ?_⟩) s0 ?_
  rotate_left
  · rintro w0 ⟨h1_, h2_⟩; go_simp; (try with_reducible rfl)
  try simp only [Act.put, List.getElem_toArray, List.getElem_cons_succ, List.getElem_cons_zero, List.setIfInBounds_toArray, List.set_cons_zero, List.set_cons_succ]
  rw [HG.out.1]
  refine wpAnyL_one (i := 6) (by kernel_rfl) rfl (fun K hK => ?_)
  go_simp
  refine (segment_we E2 3 rfl half gn rfl rfl HG.out.2.1 hh1 HG.out.2.2.1 h512).mono ?_; rintro e w3 ⟨h2, rfl, E3⟩
  have s1 : (fun w' : World => w'.cell? ⟨b2, 0, none⟩ = some (.pointer (some ⟨hl, 0, none⟩)) ∧ w'.cell? ⟨hl, 1, none⟩ = some (.int .u32 (gen : Int))) w3 := ⟨E3.cell 3 0 rfl rfl, E3.cell 4 1 rfl rfl⟩
  clear E2
  go_wp2_with fail
  refine hK.out _ _ (fun _ => s1) ?_
  clear hK K
  try simp only [Act.put, List.getElem_toArray, List.getElem_cons_succ, List.getElem_cons_zero, List.setIfInBounds_toArray, List.set_cons_zero, List.set_cons_succ]
  refine wpAnyL_one (i := 7) (by kernel_rfl) rfl (fun K hK => ?_)
  go_simp
  refine hK.out _ _ (fun _ => s1) ?_
  clear hK K
  try simp only [Act.put, List.getElem_toArray, List.getElem_cons_succ, List.getElem_cons_zero, List.setIfInBounds_toArray, List.set_cons_zero, List.set_cons_succ]
  refine wpAnyL_done (by kernel_rfl) ?_ _
  clear s0 s1
  go_wp2_with fail
  refine (begin_we E3 0 rfl HG.out.2.2.2.1 HG.out.2.2.2.2.1.1).mono ?_; rintro e w4 ⟨rfl, E4⟩
  have hNx := HG.out.2.2.2.2.1.2
  have HG2 := Lib.hid (And.intro HG.out.1 (And.intro HG.out.2.1 (And.intro HG.out.2.2.1 HG.out.2.2.2.2.2)))
  clear HG
  generalize ({ (SegSt.scan s ⟨2 + gn % 2 * half, half, gn, 0, 4294967295⟩).1 with fin := 0 } : SegSt) = t2 at *
  have HNx := Lib.hid hNx
  clear hNx
  have E4 := E4.setEq (bl' := segB h2 g t2 :: (r, 25, #[.int .i64 0]) :: (b3, 32, #[.slice RA rn rc]) :: (b2, 50, #[.pointer (some ⟨hl, 0, none⟩)]) :: ledB hl g hs gen half false A n c :: segB hs g t :: bl) rfl
  clear E3
  go_wp2_with fail
  refine (must_ok _).mono ?_; rintro e w5 ⟨⟨v5, rfl⟩, rfl⟩
  have cb3 : w4.cell? ⟨b3, 0, none⟩ = some (.slice RA rn rc) := E4.cell 2 0 rfl rfl
  have HE4 := Lib.hid E4
  clear E4
  have f1 : True := trivial
  go_upto_if 17 with (fail)
  go_cut [2] (fun v2 wx => v2 = .pointer (some ⟨h2, 0, none⟩) ∧ ∃ s3, Led.Nx s3 half gen t2 [] B ∧ s3.begun ≤ s.begun + 2 ∧ WE w0 wx g s3 (segB h2 g t2 :: (r, 25, #[.int .i64 0]) :: (b3, 32, #[.slice RA rn rc]) :: (b2, 50, #[.pointer (some ⟨hl, 0, none⟩)]) :: ledB hl g hs gen half false A n c :: segB hs g t :: bl) (⟨22, 1, A, n, c, xs.map BEl.v⟩ :: ys) (xs ++ rd))
  case first =>
    by_cases hz : rn = 0
    · have q0 : ((rn : Int) == 0) = true := by simp [hz]
      have E4 := HE4.out
      obtain ⟨q1, q2, q3, q4, q5⟩ := HNx.out.clear
      rw [HG2.out.2.2.2.2.2.2.2] at q1 q2 q3 q4 q5
      obtain ⟨rr, hrr⟩ : ∃ r, gn % 2 = r := ⟨_, rfl⟩
      have hr1 : rr ≤ 1 := by omega
      have hfit2 := HG2.out.2.2.1
      rw [hrr] at q1 q2 q3 q4 q5 hfit2
      obtain ⟨q, hq⟩ : ∃ q, rr * half = q := ⟨_, rfl⟩
      rw [hq] at q1 q2 q3 q4 q5 hfit2
      obtain ⟨f, hf⟩ : ∃ f, 2 + q = f := ⟨_, rfl⟩
      rw [hf] at q1 q2 q3 q4 q5 hfit2
      have hqi : (rr : Int) * (half : Int) = (q : Int) := by rw [← hq]; simp
      have hw0 : (gn : Int).tmod 2 = (rr : Int) := by rw [Int.tmod_eq_emod_of_nonneg (by omega)]; omega
      have hwr : IntKind.i64.wrap (rr : Int) = (rr : Int) := IntWalk.i64_in _ ⟨by omega, by omega⟩
      have hw1 : IntKind.i64.wrap ((rr : Int) * (half : Int)) = (q : Int) := (IntWalk.i64_in _ ⟨by rw [hqi]; omega, by rw [hqi]; omega⟩).trans hqi
      have hw2 : IntKind.i64.wrap ((2 : Int) + (q : Int)) = (f : Int) := (IntWalk.i64_in _ ⟨by omega, by omega⟩).trans (by omega)
      have HW := Lib.hid (And.intro hw0 (And.intro hwr (And.intro hw1 hw2)))
      have HQ := Lib.hid (And.intro q1 (And.intro q2 (And.intro q3 (And.intro q4 q5))))
      clear hz hw0 hwr hw1 hw2 q1 q2 q3 q4 q5 hqi hf hq hrr hfit2 cb3
      go_wp2_with fail
      have E5 := E4.drew
      generalize hwd : World.drew _ = wd5 at *
      have s0 : (fun w' : World => w'.cell? ⟨b2, 0, none⟩ = some (.pointer (some ⟨hl, 0, none⟩)) ∧ w'.cell? ⟨hl, 0, none⟩ = some (.pointer (some ⟨g, 0, none⟩)) ∧ w'.cell? ⟨hl, 1, none⟩ = some (.int .u32 (gen : Int)) ∧ w'.cell? ⟨hl, 4, none⟩ = some (.int .i64 (half : Int))) wd5 := ⟨E5.cell 3 0 rfl rfl, E5.cell 4 0 rfl rfl, E5.cell 4 1 rfl rfl, E5.cell 4 4 rfl rfl⟩
      refine wp_region_late [] (fun w' : World => w'.cell? ⟨b2, 0, none⟩ = some (.pointer (some ⟨hl, 0, none⟩)) ∧ w'.cell? ⟨hl, 0, none⟩ = some (.pointer (some ⟨g, 0, none⟩)) ∧ w'.cell? ⟨hl, 1, none⟩ = some (.int .u32 (gen : Int)) ∧ w'.cell? ⟨hl, 4, none⟩ = some (.int .i64 (half : Int))) (by kernel_rfl) ?_
      rw [hwd]
      clear hwd E4
      refine wpAnyL_take (i := 0) (v := ?_) rfl (by kernel_rfl) (by kernel_rfl) (by kernel_rfl) (by kernel_rfl) (by kernel_rfl) (fun _ _ _ h => h) (Or.inl ⟨by kernel_rfl, ?_⟩) s0 ?_
      rotate_left
      · rintro w0 ⟨h1_, h2_, h3_, h4_⟩; go_simp; (try with_reducible rfl)
      try simp only [Act.put, List.getElem_toArray, List.getElem_cons_succ, List.getElem_cons_zero, List.setIfInBounds_toArray, List.set_cons_zero, List.set_cons_succ]
      refine wpAnyL_take (i := 1) (v := ?_) rfl (by kernel_rfl) (by kernel_rfl) (by kernel_rfl) (by kernel_rfl) (by kernel_rfl) (fun _ _ _ h => h) (Or.inl ⟨by kernel_rfl, ?_⟩) s0 ?_
      rotate_left
      · rintro w0 ⟨h1_, h2_, h3_, h4_⟩; go_simp; (try with_reducible rfl)
      try simp only [Act.put, List.getElem_toArray, List.getElem_cons_succ, List.getElem_cons_zero, List.setIfInBounds_toArray, List.set_cons_zero, List.set_cons_succ]
      refine wpAnyL_take (i := 2) (v := ?_) rfl (by kernel_rfl) (by kernel_rfl) (by kernel_rfl) (by kernel_rfl) (by kernel_rfl) (fun _ _ _ h => h) (Or.inl ⟨by kernel_rfl, ?_⟩) s0 ?_
      rotate_left
      · rintro w0 ⟨h1_, h2_, h3_, h4_⟩; go_simp; (try with_reducible rfl)
      try simp only [Act.put, List.getElem_toArray, List.getElem_cons_succ, List.getElem_cons_zero, List.setIfInBounds_toArray, List.set_cons_zero, List.set_cons_succ]
      refine wpAnyL_take (i := 3) (v := ?_) rfl (by kernel_rfl) (by kernel_rfl) (by kernel_rfl) (by kernel_rfl) (by kernel_rfl) (fun _ _ _ h => h) (Or.inl ⟨by kernel_rfl, ?_⟩) s0 ?_
      rotate_left
      · rintro w0 ⟨h1_, h2_, h3_, h4_⟩; go_simp; (try with_reducible rfl)
      try simp only [Act.put, List.getElem_toArray, List.getElem_cons_succ, List.getElem_cons_zero, List.setIfInBounds_toArray, List.set_cons_zero, List.set_cons_succ]
      refine wpAnyL_take (i := 4) (v := ?_) rfl (by kernel_rfl) (by kernel_rfl) (by kernel_rfl) (by kernel_rfl) (by kernel_rfl) (fun _ _ _ h => h) (Or.inl ⟨by kernel_rfl, ?_⟩) s0 ?_
      rotate_left
      · rintro w0 ⟨h1_, h2_, h3_, h4_⟩; go_simp; (try with_reducible rfl)
      try simp only [Act.put, List.getElem_toArray, List.getElem_cons_succ, List.getElem_cons_zero, List.setIfInBounds_toArray, List.set_cons_zero, List.set_cons_succ]
      refine wpAnyL_take (i := 5) (v := ?_) rfl (by kernel_rfl) (by kernel_rfl) (by kernel_rfl) (by kernel_rfl) (by kernel_rfl) (fun _ _ _ h => h) (Or.inl ⟨by kernel_rfl, ?_⟩) s0 ?_
      rotate_left
      · rintro w0 ⟨h1_, h2_, h3_, h4_⟩; go_simp; (try with_reducible rfl)
      try simp only [Act.put, List.getElem_toArray, List.getElem_cons_succ, List.getElem_cons_zero, List.setIfInBounds_toArray, List.set_cons_zero, List.set_cons_succ]
      refine wpAnyL_take (i := 6) (v := ?_) rfl (by kernel_rfl) (by kernel_rfl) (by kernel_rfl) (by kernel_rfl) (by kernel_rfl) (fun _ _ _ h => h) (Or.inl ⟨by kernel_rfl, ?_⟩) s0 ?_
      rotate_left
      · rintro w0 ⟨h1_, h2_, h3_, h4_⟩; go_simp; (try with_reducible rfl)
      try simp only [Act.put, List.getElem_toArray, List.getElem_cons_succ, List.getElem_cons_zero, List.setIfInBounds_toArray, List.set_cons_zero, List.set_cons_succ]
      refine wpAnyL_take (i := 7) (v := ?_) rfl (by kernel_rfl) (by kernel_rfl) (by kernel_rfl) (by kernel_rfl) (by kernel_rfl) (fun _ _ _ h => h) (Or.inl ⟨by kernel_rfl, ?_⟩) s0 ?_
      rotate_left
      · rintro w0 ⟨h1_, h2_, h3_, h4_⟩; go_simp; (try with_reducible rfl)
      try simp only [Act.put, List.getElem_toArray, List.getElem_cons_succ, List.getElem_cons_zero, List.setIfInBounds_toArray, List.set_cons_zero, List.set_cons_succ]
      refine wpAnyL_take (i := 8) (v := ?_) rfl (by kernel_rfl) (by kernel_rfl) (by kernel_rfl) (by kernel_rfl) (by kernel_rfl) (fun _ _ _ h => h) (Or.inl ⟨by kernel_rfl, ?_⟩) s0 ?_
      rotate_left
      · rintro w0 ⟨h1_, h2_, h3_, h4_⟩; go_simp; (try with_reducible rfl)
      try simp only [Act.put, List.getElem_toArray, List.getElem_cons_succ, List.getElem_cons_zero, List.setIfInBounds_toArray, List.set_cons_zero, List.set_cons_succ]
      rw [HG2.out.1]
      refine wpAnyL_take (i := 9) (v := ?_) rfl (by kernel_rfl) (by kernel_rfl) (by kernel_rfl) (by kernel_rfl) (by kernel_rfl) (fun _ _ _ h => h) (Or.inl ⟨by kernel_rfl, ?_⟩) s0 ?_
      rotate_left
      · rintro w0 ⟨h1_, h2_, h3_, h4_⟩; go_simp; (try with_reducible rfl)
      try simp only [Act.put, List.getElem_toArray, List.getElem_cons_succ, List.getElem_cons_zero, List.setIfInBounds_toArray, List.set_cons_zero, List.set_cons_succ]
      refine wpAnyL_take (i := 10) (v := ?_) rfl (by kernel_rfl) (by kernel_rfl) (by kernel_rfl) (by kernel_rfl) (by kernel_rfl) (fun _ _ _ h => h) (Or.inl ⟨by kernel_rfl, ?_⟩) s0 ?_
      rotate_left
      · rintro w0 ⟨h1_, h2_, h3_, h4_⟩; go_simp; (try with_reducible rfl)
      try simp only [Act.put, List.getElem_toArray, List.getElem_cons_succ, List.getElem_cons_zero, List.setIfInBounds_toArray, List.set_cons_zero, List.set_cons_succ]
      rw [HW.out.1, HW.out.2.1]
      refine wpAnyL_take (i := 11) (v := ?_) rfl (by kernel_rfl) (by kernel_rfl) (by kernel_rfl) (by kernel_rfl) (by kernel_rfl) (fun _ _ _ h => h) (Or.inl ⟨by kernel_rfl, ?_⟩) s0 ?_
      rotate_left
      · rintro w0 ⟨h1_, h2_, h3_, h4_⟩; go_simp; (try with_reducible rfl)
      try simp only [Act.put, List.getElem_toArray, List.getElem_cons_succ, List.getElem_cons_zero, List.setIfInBounds_toArray, List.set_cons_zero, List.set_cons_succ]
      refine wpAnyL_take (i := 12) (v := ?_) rfl (by kernel_rfl) (by kernel_rfl) (by kernel_rfl) (by kernel_rfl) (by kernel_rfl) (fun _ _ _ h => h) (Or.inl ⟨by kernel_rfl, ?_⟩) s0 ?_
      rotate_left
      · rintro w0 ⟨h1_, h2_, h3_, h4_⟩; go_simp; (try with_reducible rfl)
      try simp only [Act.put, List.getElem_toArray, List.getElem_cons_succ, List.getElem_cons_zero, List.setIfInBounds_toArray, List.set_cons_zero, List.set_cons_succ]
      refine wpAnyL_take (i := 13) (v := ?_) rfl (by kernel_rfl) (by kernel_rfl) (by kernel_rfl) (by kernel_rfl) (by kernel_rfl) (fun _ _ _ h => h) (Or.inl ⟨by kernel_rfl, ?_⟩) s0 ?_
      rotate_left
      · rintro w0 ⟨h1_, h2_, h3_, h4_⟩; go_simp; (try with_reducible rfl)
      try simp only [Act.put, List.getElem_toArray, List.getElem_cons_succ, List.getElem_cons_zero, List.setIfInBounds_toArray, List.set_cons_zero, List.set_cons_succ]
      refine wpAnyL_take (i := 14) (v := ?_) rfl (by kernel_rfl) (by kernel_rfl) (by kernel_rfl) (by kernel_rfl) (by kernel_rfl) (fun _ _ _ h => h) (Or.inl ⟨by kernel_rfl, ?_⟩) s0 ?_
      rotate_left
      · rintro w0 ⟨h1_, h2_, h3_, h4_⟩; go_simp; (try with_reducible rfl)
      try simp only [Act.put, List.getElem_toArray, List.getElem_cons_succ, List.getElem_cons_zero, List.setIfInBounds_toArray, List.set_cons_zero, List.set_cons_succ]
      refine wpAnyL_take (i := 15) (v := ?_) rfl (by kernel_rfl) (by kernel_rfl) (by kernel_rfl) (by kernel_rfl) (by kernel_rfl) (fun _ _ _ h => h) (Or.inl ⟨by kernel_rfl, ?_⟩) s0 ?_
      rotate_left
      · rintro w0 ⟨h1_, h2_, h3_, h4_⟩; go_simp; (try with_reducible rfl)
      try simp only [Act.put, List.getElem_toArray, List.getElem_cons_succ, List.getElem_cons_zero, List.setIfInBounds_toArray, List.set_cons_zero, List.set_cons_succ]
      rw [HW.out.2.2.1]
      refine wpAnyL_take (i := 16) (v := ?_) rfl (by kernel_rfl) (by kernel_rfl) (by kernel_rfl) (by kernel_rfl) (by kernel_rfl) (fun _ _ _ h => h) (Or.inl ⟨by kernel_rfl, ?_⟩) s0 ?_
      rotate_left
      · rintro w0 ⟨h1_, h2_, h3_, h4_⟩; go_simp; (try with_reducible rfl)
      try simp only [Act.put, List.getElem_toArray, List.getElem_cons_succ, List.getElem_cons_zero, List.setIfInBounds_toArray, List.set_cons_zero, List.set_cons_succ]
      rw [HW.out.2.2.2]
      refine wpAnyL_one (i := 17) (by kernel_rfl) rfl (fun K hK => ?_)
      refine step_mkI rfl _ _ 22 rfl (lim := 256) (by omega) 5 1 Tryd.underlying22 dinfo_u8 64 rfl rfl rfl rfl (by omega) (by unfold maxLen; omega) wd5.heap.size (Nat.le_refl _) ?_
      intro w6 ho6 hg6
      have E6 := E5.below ((Below.refl wd5.heap.size wd5).grown hg6 (Nat.le_refl _) (fun k e => by cases e))
      have s1 : (fun w' : World => w'.cell? ⟨b2, 0, none⟩ = some (.pointer (some ⟨hl, 0, none⟩)) ∧ w'.cell? ⟨hl, 0, none⟩ = some (.pointer (some ⟨g, 0, none⟩)) ∧ w'.cell? ⟨hl, 1, none⟩ = some (.int .u32 (gen : Int)) ∧ w'.cell? ⟨hl, 4, none⟩ = some (.int .i64 (half : Int))) w6 := ⟨E6.cell 3 0 rfl rfl, E6.cell 4 0 rfl rfl, E6.cell 4 1 rfl rfl, E6.cell 4 4 rfl rfl⟩
      have HO := Lib.hid ho6
      clear E5 ho6 hg6
      refine hK.out _ _ (fun _ => s1) ?_
      clear hK K
      try simp only [Act.put, List.getElem_toArray, List.getElem_cons_succ, List.getElem_cons_zero, List.setIfInBounds_toArray, List.set_cons_zero, List.set_cons_succ]
      refine wpAnyL_one (i := 18) (by kernel_rfl) rfl (fun K hK => ?_)
      go_simp
      refine (dwrite_we E6 (f : Int) HO.out (by omega) (by omega) (by rw [HL.out.up.kept.pend]; exact Nat.zero_lt_succ _)).mono ?_; rintro e w7 ⟨rfl, E7⟩
      rw [HQ.out.1]
      have s2 : (fun w' : World => w'.cell? ⟨b2, 0, none⟩ = some (.pointer (some ⟨hl, 0, none⟩)) ∧ w'.cell? ⟨hl, 0, none⟩ = some (.pointer (some ⟨g, 0, none⟩)) ∧ w'.cell? ⟨hl, 1, none⟩ = some (.int .u32 (gen : Int)) ∧ w'.cell? ⟨hl, 4, none⟩ = some (.int .i64 (half : Int))) w7 := ⟨E7.cell 3 0 rfl rfl, E7.cell 4 0 rfl rfl, E7.cell 4 1 rfl rfl, E7.cell 4 4 rfl rfl⟩
      clear E6
      go_wp2_with fail
      refine hK.out _ _ (fun _ => s2) ?_
      clear hK K
      try simp only [Act.put, List.getElem_toArray, List.getElem_cons_succ, List.getElem_cons_zero, List.setIfInBounds_toArray, List.set_cons_zero, List.set_cons_succ]
      refine wpAnyL_one (i := 19) (by kernel_rfl) rfl (fun K hK => ?_)
      go_simp
      refine (must_ok _).mono ?_; rintro e w8 ⟨⟨v8, rfl⟩, rfl⟩
      go_wp2_with fail
      refine hK.out _ _ (fun _ => s2) ?_
      clear hK K
      try simp only [Act.put, List.getElem_toArray, List.getElem_cons_succ, List.getElem_cons_zero, List.setIfInBounds_toArray, List.set_cons_zero, List.set_cons_succ]
      refine wpAnyL_done (by kernel_rfl) ?_ _
      clear s0 s1 s2
      have hfl := dflush_we E7 (by rw [HQ.out.2.2.1]; omega)
      rw [HQ.out.2.1] at hfl
      have cb2 : w7.cell? ⟨b2, 0, none⟩ = some (.pointer (some ⟨hl, 0, none⟩)) := E7.cell 3 0 rfl rfl
      have cl0 : w7.cell? ⟨hl, 0, none⟩ = some (.pointer (some ⟨g, 0, none⟩)) := E7.cell 4 0 rfl rfl
      have HFl := Lib.hid hfl
      clear hfl E7 HO
      go_wp2_with fail
      refine HFl.out.mono ?_; rintro e w9 ⟨rfl, E9⟩
      have HE9 := Lib.hid E9
      clear E9 HFl
      go_wp2_with fail
      refine (must_ok _).mono ?_; rintro e w10 ⟨⟨v10, rfl⟩, rfl⟩
      go_wp2_with fail
      go_meet
      exact ⟨rfl, _, HQ.out.2.2.2.1, by rw [HQ.out.2.2.2.2]; exact Nat.le_refl _, HE9.out⟩
    · have q0 : ((rn : Int) == 0) = false := by simp [hz]
      clear hz
      go_wp2_with fail
      go_meet
      exact ⟨rfl, s, HNx.out, by omega, HE4.out⟩
  case rest =>
    obtain ⟨rfl, s3, hn3, hb3, E5⟩ := hcut
    have cb3 : wc.cell? ⟨b3, 0, none⟩ = some (.slice RA rn rc) := E5.cell 2 0 rfl rfl
    have hR5 := R.at_ wc s3 _ (_ :: []) xs E5
    have ok5 : SegSt.Ok s3 t2 := segOk_up hn3.up (by rw [hn3.n]; exact hh1)
    have hbyt : ∀ r ∈ zs.map (·.l), ∀ c ∈ r, c < 256 := fun r hr => by
      obtain ⟨z, hz, rfl⟩ := List.mem_map.1 hr
      exact (hR5.ok z hz).lt
    have hlen : (zs.map (·.l)).length = rn := by rw [List.length_map]; exact HG2.out.2.2.2.2.2.2.1
    obtain ⟨a1, a2, a3⟩ := hn3.add (rs := zs.map (·.l)) HG2.out.2.2.2.1 HG2.out.2.2.2.2.1 (by rw [hlen]; exact HG2.out.2.2.2.2.2.1) hbyt
    have hA := add_we E5 0 rfl ok5 hR5 hrn R.most (by omega) (by rw [hn3.up.kept.pend]; exact Nat.zero_le _)
    rw [hlen] at a2
    have hup5 := hn3.half1
    generalize SegSt.add s3 t2 (zs.map (·.l)) = AD at *
    obtain ⟨s6, t6, cd6⟩ := AD
    dsimp only at a1 a2 a3 hA
    subst a1
    obtain ⟨b1, b4, b5⟩ := a2.save (by rw [HG2.out.2.2.2.2.2.2.2]; exact HG2.out.2.1)
    rw [HG2.out.2.2.2.2.2.2.2] at b1 b4 b5
    have HA := Lib.hid hA
    have HS := Lib.hid (And.intro (show s6.begun ≤ 281474976710656 + half + 10 by omega) (And.intro a2.up.kept.pend (And.intro b1 (And.intro b4 (And.intro b5 (show s6.begun ≤ s.begun + half + 3 by omega))))))
    clear hA E5 hR5 ok5 hbyt hlen a2 a3 b1 b4 b5 hn3 hb3 hup5
    go_wp2_with fail
    refine HA.out.mono ?_; rintro e w6 ⟨rfl, E6⟩
    have E6 := E6.setEq (bl' := segB h2 g t6 :: (r, 25, #[.int .i64 0]) :: (b3, 32, #[.slice RA rn rc]) :: (b2, 50, #[.pointer (some ⟨hl, 0, none⟩)]) :: ledB hl g hs gen half false A n c :: segB hs g t :: bl) rfl
    clear HA cb3
    go_wp2_with fail
    refine (must_ok _).mono ?_; rintro e w7 ⟨⟨v7, rfl⟩, rfl⟩
    have h255 : half ≤ 512 := by have := HG2.out.2.2.1; omega
    go_wp2_with fail
    have E7 := E6.drew
    generalize hwd : World.drew _ = wd6 at *
    have s0 : (fun w' : World => w'.cell? ⟨b2, 0, none⟩ = some (.pointer (some ⟨hl, 0, none⟩)) ∧ w'.cell? ⟨hl, 0, none⟩ = some (.pointer (some ⟨g, 0, none⟩)) ∧ w'.cell? ⟨hl, 1, none⟩ = some (.int .u32 (gen : Int))) wd6 := ⟨E7.cell 3 0 rfl rfl, E7.cell 4 0 rfl rfl, E7.cell 4 1 rfl rfl⟩
    refine wp_region_late [] (fun w' : World => w'.cell? ⟨b2, 0, none⟩ = some (.pointer (some ⟨hl, 0, none⟩)) ∧ w'.cell? ⟨hl, 0, none⟩ = some (.pointer (some ⟨g, 0, none⟩)) ∧ w'.cell? ⟨hl, 1, none⟩ = some (.int .u32 (gen : Int))) (by kernel_rfl) ?_
    rw [hwd]
    clear hwd E6
    refine wpAnyL_take (i := 0) (v := ?_) rfl (by kernel_rfl) (by kernel_rfl) (by kernel_rfl) (by kernel_rfl) (by kernel_rfl) (fun _ _ _ h => h) (Or.inl ⟨by kernel_rfl, ?_⟩) s0 ?_
    rotate_left
    · rintro w0 ⟨h1_, h2_, h3_⟩; go_simp; (try with_reducible rfl)
    try simp only [Act.put, List.getElem_toArray, List.getElem_cons_succ, List.getElem_cons_zero, List.setIfInBounds_toArray, List.set_cons_zero, List.set_cons_succ]
    refine wpAnyL_take (i := 1) (v := ?_) rfl (by kernel_rfl) (by kernel_rfl) (by kernel_rfl) (by kernel_rfl) (by kernel_rfl) (fun _ _ _ h => h) (Or.inl ⟨by kernel_rfl, ?_⟩) s0 ?_
    rotate_left
    · rintro w0 ⟨h1_, h2_, h3_⟩; go_simp; (try with_reducible rfl)
    try simp only [Act.put, List.getElem_toArray, List.getElem_cons_succ, List.getElem_cons_zero, List.setIfInBounds_toArray, List.set_cons_zero, List.set_cons_succ]
    refine wpAnyL_take (i := 2) (v := ?_) rfl (by kernel_rfl) (by kernel_rfl) (by kernel_rfl) (by kernel_rfl) (by kernel_rfl) (fun _ _ _ h => h) (Or.inl ⟨by kernel_rfl, ?_⟩) s0 ?_
    rotate_left
    · rintro w0 ⟨h1_, h2_, h3_⟩; go_simp; (try with_reducible rfl)
    try simp only [Act.put, List.getElem_toArray, List.getElem_cons_succ, List.getElem_cons_zero, List.setIfInBounds_toArray, List.set_cons_zero, List.set_cons_succ]
    refine wpAnyL_take (i := 3) (v := ?_) rfl (by kernel_rfl) (by kernel_rfl) (by kernel_rfl) (by kernel_rfl) (by kernel_rfl) (fun _ _ _ h => h) (Or.inl ⟨by kernel_rfl, ?_⟩) s0 ?_
    rotate_left
    · rintro w0 ⟨h1_, h2_, h3_⟩; go_simp; (try with_reducible rfl)
    try simp only [Act.put, List.getElem_toArray, List.getElem_cons_succ, List.getElem_cons_zero, List.setIfInBounds_toArray, List.set_cons_zero, List.set_cons_succ]
    refine wpAnyL_take (i := 4) (v := ?_) rfl (by kernel_rfl) (by kernel_rfl) (by kernel_rfl) (by kernel_rfl) (by kernel_rfl) (fun _ _ _ h => h) (Or.inl ⟨by kernel_rfl, ?_⟩) s0 ?_
    rotate_left
    · rintro w0 ⟨h1_, h2_, h3_⟩; go_simp; (try with_reducible rfl)
    try simp only [Act.put, List.getElem_toArray, List.getElem_cons_succ, List.getElem_cons_zero, List.setIfInBounds_toArray, List.set_cons_zero, List.set_cons_succ]
    refine wpAnyL_take (i := 5) (v := ?_) rfl (by kernel_rfl) (by kernel_rfl) (by kernel_rfl) (by kernel_rfl) (by kernel_rfl) (fun _ _ _ h => h) (Or.inl ⟨by kernel_rfl, ?_⟩) s0 ?_
    rotate_left
    · rintro w0 ⟨h1_, h2_, h3_⟩; go_simp; (try with_reducible rfl)
    try simp only [Act.put, List.getElem_toArray, List.getElem_cons_succ, List.getElem_cons_zero, List.setIfInBounds_toArray, List.set_cons_zero, List.set_cons_succ]
    refine wpAnyL_take (i := 6) (v := ?_) rfl (by kernel_rfl) (by kernel_rfl) (by kernel_rfl) (by kernel_rfl) (by kernel_rfl) (fun _ _ _ h => h) (Or.inl ⟨by kernel_rfl, ?_⟩) s0 ?_
    rotate_left
    · rintro w0 ⟨h1_, h2_, h3_⟩; go_simp; (try with_reducible rfl)
    try simp only [Act.put, List.getElem_toArray, List.getElem_cons_succ, List.getElem_cons_zero, List.setIfInBounds_toArray, List.set_cons_zero, List.set_cons_succ]
    refine wpAnyL_take (i := 7) (v := ?_) rfl (by kernel_rfl) (by kernel_rfl) (by kernel_rfl) (by kernel_rfl) (by kernel_rfl) (fun _ _ _ h => h) (Or.inl ⟨by kernel_rfl, ?_⟩) s0 ?_
    rotate_left
    · rintro w0 ⟨h1_, h2_, h3_⟩; go_simp; (try with_reducible rfl)
    try simp only [Act.put, List.getElem_toArray, List.getElem_cons_succ, List.getElem_cons_zero, List.setIfInBounds_toArray, List.set_cons_zero, List.set_cons_succ]
    refine wpAnyL_take (i := 8) (v := ?_) rfl (by kernel_rfl) (by kernel_rfl) (by kernel_rfl) (by kernel_rfl) (by kernel_rfl) (fun _ _ _ h => h) (Or.inl ⟨by kernel_rfl, ?_⟩) s0 ?_
    rotate_left
    · rintro w0 ⟨h1_, h2_, h3_⟩; go_simp; (try with_reducible rfl)
    try simp only [Act.put, List.getElem_toArray, List.getElem_cons_succ, List.getElem_cons_zero, List.setIfInBounds_toArray, List.set_cons_zero, List.set_cons_succ]
    rw [HG2.out.1]
    refine wpAnyL_one (i := 9) (by kernel_rfl) rfl (fun K hK => ?_)
    go_simp
    refine (save_we E7 gn HG2.out.2.1 (by have := HS.out.1; omega) (by rw [HS.out.2.1]; decide)).mono ?_; rintro e w8 ⟨rfl, E8⟩
    rw [HS.out.2.2.1]
    have s1 : (fun w' : World => w'.cell? ⟨b2, 0, none⟩ = some (.pointer (some ⟨hl, 0, none⟩)) ∧ w'.cell? ⟨hl, 0, none⟩ = some (.pointer (some ⟨g, 0, none⟩)) ∧ w'.cell? ⟨hl, 1, none⟩ = some (.int .u32 (gen : Int))) w8 := ⟨E8.cell 3 0 rfl rfl, E8.cell 4 0 rfl rfl, E8.cell 4 1 rfl rfl⟩
    clear E7
    go_wp2_with fail
    refine hK.out _ _ (fun _ => s1) ?_
    clear hK K
    try simp only [Act.put, List.getElem_toArray, List.getElem_cons_succ, List.getElem_cons_zero, List.setIfInBounds_toArray, List.set_cons_zero, List.set_cons_succ]
    refine wpAnyL_one (i := 10) (by kernel_rfl) rfl (fun K hK => ?_)
    go_simp
    refine (must_ok _).mono ?_; rintro e w9 ⟨⟨v9, rfl⟩, rfl⟩
    go_wp2_with fail
    refine hK.out _ _ (fun _ => s1) ?_
    clear hK K
    try simp only [Act.put, List.getElem_toArray, List.getElem_cons_succ, List.getElem_cons_zero, List.setIfInBounds_toArray, List.set_cons_zero, List.set_cons_succ]
    refine wpAnyL_done (by kernel_rfl) ?_ _
    clear s0 s1
    go_wp2_with fail
    have E9 := E8.drew
    generalize hwd : World.drew _ = wd7 at *
    have s0 : (fun w' : World => w'.cell? ⟨b2, 0, none⟩ = some (.pointer (some ⟨hl, 0, none⟩))) wd7 := E9.cell 3 0 rfl rfl
    refine wp_region_late [] (fun w' : World => w'.cell? ⟨b2, 0, none⟩ = some (.pointer (some ⟨hl, 0, none⟩))) (by kernel_rfl) ?_
    rw [hwd]
    clear hwd E8
    refine wpAnyL_take (i := 0) (v := ?_) rfl (by kernel_rfl) (by kernel_rfl) (by kernel_rfl) (by kernel_rfl) (by kernel_rfl) (fun _ _ _ h => h) (Or.inl ⟨by kernel_rfl, ?_⟩) s0 ?_
    rotate_left
    · rintro w0 h1_; go_simp; (try with_reducible rfl)
    try simp only [Act.put, List.getElem_toArray, List.getElem_cons_succ, List.getElem_cons_zero, List.setIfInBounds_toArray, List.set_cons_zero, List.set_cons_succ]
    refine wpAnyL_take (i := 1) (v := ?_) rfl (by kernel_rfl) (by kernel_rfl) (by kernel_rfl) (by kernel_rfl) (by kernel_rfl) (fun _ _ _ h => h) (Or.inl ⟨by kernel_rfl, ?_⟩) s0 ?_
    rotate_left
    · rintro w0 h1_; go_simp; (try with_reducible rfl)
    try simp only [Act.put, List.getElem_toArray, List.getElem_cons_succ, List.getElem_cons_zero, List.setIfInBounds_toArray, List.set_cons_zero, List.set_cons_succ]
    refine wpAnyL_take (i := 2) (v := ?_) rfl (by kernel_rfl) (by kernel_rfl) (by kernel_rfl) (by kernel_rfl) (by kernel_rfl) (fun _ _ _ h => h) (Or.inl ⟨by kernel_rfl, ?_⟩) s0 ?_
    rotate_left
    · rintro w0 h1_; go_simp; (try with_reducible rfl)
    try simp only [Act.put, List.getElem_toArray, List.getElem_cons_succ, List.getElem_cons_zero, List.setIfInBounds_toArray, List.set_cons_zero, List.set_cons_succ]
    refine wpAnyL_take (i := 3) (v := ?_) rfl (by kernel_rfl) (by kernel_rfl) (by kernel_rfl) (by kernel_rfl) (by kernel_rfl) (fun _ _ _ h => h) (Or.inl ⟨by kernel_rfl, ?_⟩) s0 ?_
    rotate_left
    · rintro w0 h1_; go_simp; (try with_reducible rfl)
    try simp only [Act.put, List.getElem_toArray, List.getElem_cons_succ, List.getElem_cons_zero, List.setIfInBounds_toArray, List.set_cons_zero, List.set_cons_succ]
    refine wpAnyL_take (i := 4) (v := ?_) rfl (by kernel_rfl) (by kernel_rfl) (by kernel_rfl) (by kernel_rfl) (by kernel_rfl) (fun _ _ _ h => h) (Or.inl ⟨by kernel_rfl, ?_⟩) s0 ?_
    rotate_left
    · rintro w0 h1_; go_simp; (try with_reducible rfl)
    try simp only [Act.put, List.getElem_toArray, List.getElem_cons_succ, List.getElem_cons_zero, List.setIfInBounds_toArray, List.set_cons_zero, List.set_cons_succ]
    refine wpAnyL_take (i := 5) (v := ?_) rfl (by kernel_rfl) (by kernel_rfl) (by kernel_rfl) (by kernel_rfl) (by kernel_rfl) (fun _ _ _ h => h) (Or.inl ⟨by kernel_rfl, ?_⟩) s0 ?_
    rotate_left
    · rintro w0 h1_; go_simp; (try with_reducible rfl)
    try simp only [Act.put, List.getElem_toArray, List.getElem_cons_succ, List.getElem_cons_zero, List.setIfInBounds_toArray, List.set_cons_zero, List.set_cons_succ]
    refine wpAnyL_take (i := 8) (v := ?_) rfl (by kernel_rfl) (by kernel_rfl) (by kernel_rfl) (by kernel_rfl) (by kernel_rfl) (fun _ _ _ h => h) (Or.inl ⟨by kernel_rfl, ?_⟩) s0 ?_
    rotate_left
    · rintro w0 h1_; go_simp; (try with_reducible rfl)
    try simp only [Act.put, List.getElem_toArray, List.getElem_cons_succ, List.getElem_cons_zero, List.setIfInBounds_toArray, List.set_cons_zero, List.set_cons_succ]
    have cg : wd7.cell? ⟨hl, 1, none⟩ = some (.int .u32 (gen : Int)) := E9.cell 4 1 rfl rfl
    refine wpAnyL_one (i := 6) (by kernel_rfl) rfl (fun K hK => ?_)
    go_simp
    refine hK.out _ _ (fun _ => s0) ?_
    clear hK K
    try simp only [Act.put, List.getElem_toArray, List.getElem_cons_succ, List.getElem_cons_zero, List.setIfInBounds_toArray, List.set_cons_zero, List.set_cons_succ]
    refine wpAnyL_take (i := 7) (v := ?_) rfl (by kernel_rfl) (by kernel_rfl) (by kernel_rfl) (by kernel_rfl) (by kernel_rfl) (fun _ _ _ h => h) (Or.inl ⟨by kernel_rfl, ?_⟩) s0 ?_
    rotate_left
    · rintro w0 h1_; go_simp; (try with_reducible rfl)
    try simp only [Act.put, List.getElem_toArray, List.getElem_cons_succ, List.getElem_cons_zero, List.setIfInBounds_toArray, List.set_cons_zero, List.set_cons_succ]
    rw [HG2.out.1]
    refine wpAnyL_take (i := 9) (v := ?_) rfl (by kernel_rfl) (by kernel_rfl) (by kernel_rfl) (by kernel_rfl) (by kernel_rfl) (fun _ _ _ h => h) (Or.inl ⟨by kernel_rfl, ?_⟩) s0 ?_
    rotate_left
    · rintro w0 h1_; go_simp; (try with_reducible rfl)
    try simp only [Act.put, List.getElem_toArray, List.getElem_cons_succ, List.getElem_cons_zero, List.setIfInBounds_toArray, List.set_cons_zero, List.set_cons_succ]
    refine wpAnyL_take (i := 10) (v := ?_) rfl (by kernel_rfl) (by kernel_rfl) (by kernel_rfl) (by kernel_rfl) (by kernel_rfl) (fun _ _ _ h => h) (Or.inl ⟨by kernel_rfl, ?_⟩) s0 ?_
    rotate_left
    · rintro w0 h1_; go_simp; (try with_reducible rfl)
    try simp only [Act.put, List.getElem_toArray, List.getElem_cons_succ, List.getElem_cons_zero, List.setIfInBounds_toArray, List.set_cons_zero, List.set_cons_succ]
    have fz : wd7.frozen? ⟨hl, 1, none⟩ = false := E9.frozen 4 1 rfl
    have E10 := E9.set 4 1 rfl (.int .u32 (gn : Int))
    have HE10 := Lib.hid E10
    clear E9 E10
    refine wpAnyL_one (i := 11) (by kernel_rfl) rfl (fun K hK => ?_)
    go_simp
    have s2 : (fun w' : World => w'.cell? ⟨b2, 0, none⟩ = some (.pointer (some ⟨hl, 0, none⟩))) _ := HE10.out.cell 3 0 rfl rfl
    refine hK.out _ _ (fun _ => s2) ?_
    clear hK K
    try simp only [Act.put, List.getElem_toArray, List.getElem_cons_succ, List.getElem_cons_zero, List.setIfInBounds_toArray, List.set_cons_zero, List.set_cons_succ]
    clear fz cg
    have E10 := HE10.out
    generalize World.setCell _ _ _ = wa at *
    clear HE10
    refine wpAnyL_take (i := 12) (v := ?_) rfl (by kernel_rfl) (by kernel_rfl) (by kernel_rfl) (by kernel_rfl) (by kernel_rfl) (fun _ _ _ h => h) (Or.inl ⟨by kernel_rfl, ?_⟩) s2 ?_
    rotate_left
    · rintro w0 h1_; go_simp; (try with_reducible rfl)
    try simp only [Act.put, List.getElem_toArray, List.getElem_cons_succ, List.getElem_cons_zero, List.setIfInBounds_toArray, List.set_cons_zero, List.set_cons_succ]
    refine wpAnyL_take (i := 13) (v := ?_) rfl (by kernel_rfl) (by kernel_rfl) (by kernel_rfl) (by kernel_rfl) (by kernel_rfl) (fun _ _ _ h => h) (Or.inl ⟨by kernel_rfl, ?_⟩) s2 ?_
    rotate_left
    · rintro w0 h1_; go_simp; (try with_reducible rfl)
    try simp only [Act.put, List.getElem_toArray, List.getElem_cons_succ, List.getElem_cons_zero, List.setIfInBounds_toArray, List.set_cons_zero, List.set_cons_succ]
    have fz : wa.frozen? ⟨hl, 2, none⟩ = false := E10.frozen 4 2 rfl
    have cz : wa.cell? ⟨hl, 2, none⟩ = some (.pointer (some ⟨hs, 0, none⟩)) := E10.cell 4 2 rfl rfl
    have E11 := E10.set 4 2 rfl (.pointer (some ⟨h2, 0, none⟩))
    have HE11 := Lib.hid E11
    clear E10 E11
    refine wpAnyL_one (i := 14) (by kernel_rfl) rfl (fun K hK => ?_)
    go_simp
    have s3 : (fun w' : World => w'.cell? ⟨b2, 0, none⟩ = some (.pointer (some ⟨hl, 0, none⟩))) _ := HE11.out.cell 3 0 rfl rfl
    refine hK.out _ _ (fun _ => s3) ?_
    clear hK K
    try simp only [Act.put, List.getElem_toArray, List.getElem_cons_succ, List.getElem_cons_zero, List.setIfInBounds_toArray, List.set_cons_zero, List.set_cons_succ]
    clear fz cz
    have E11 := HE11.out
    generalize World.setCell _ _ _ = wb at *
    clear HE11
    refine wpAnyL_take (i := 15) (v := ?_) rfl (by kernel_rfl) (by kernel_rfl) (by kernel_rfl) (by kernel_rfl) (by kernel_rfl) (fun _ _ _ h => h) (Or.inl ⟨by kernel_rfl, ?_⟩) s3 ?_
    rotate_left
    · rintro w0 h1_; go_simp; (try with_reducible rfl)
    try simp only [Act.put, List.getElem_toArray, List.getElem_cons_succ, List.getElem_cons_zero, List.setIfInBounds_toArray, List.set_cons_zero, List.set_cons_succ]
    refine wpAnyL_take (i := 16) (v := ?_) rfl (by kernel_rfl) (by kernel_rfl) (by kernel_rfl) (by kernel_rfl) (by kernel_rfl) (fun _ _ _ h => h) (Or.inl ⟨by kernel_rfl, ?_⟩) s3 ?_
    rotate_left
    · rintro w0 h1_; go_simp; (try with_reducible rfl)
    try simp only [Act.put, List.getElem_toArray, List.getElem_cons_succ, List.getElem_cons_zero, List.setIfInBounds_toArray, List.set_cons_zero, List.set_cons_succ]
    have fz : wb.frozen? ⟨hl, 3, none⟩ = false := E11.frozen 4 3 rfl
    have cz : wb.cell? ⟨hl, 3, none⟩ = some (.slice A n c) := E11.cell 4 3 rfl rfl
    have E12 := E11.set 4 3 rfl (.slice none 0 0)
    have HE12 := Lib.hid E12
    clear E11 E12
    refine wpAnyL_one (i := 17) (by kernel_rfl) rfl (fun K hK => ?_)
    go_simp
    have s4 : (fun w' : World => w'.cell? ⟨b2, 0, none⟩ = some (.pointer (some ⟨hl, 0, none⟩))) _ := HE12.out.cell 3 0 rfl rfl
    refine hK.out _ _ (fun _ => s4) ?_
    clear hK K
    try simp only [Act.put, List.getElem_toArray, List.getElem_cons_succ, List.getElem_cons_zero, List.setIfInBounds_toArray, List.set_cons_zero, List.set_cons_succ]
    refine wpAnyL_done (by kernel_rfl) ?_ _
    clear s0 s2 s3 s4 fz cz
    have E13 := (((HE12.out.setEq (bl' := segB h2 g t6 :: (r, 25, #[.int .i64 0]) :: (b3, 32, #[.slice RA rn rc]) :: (b2, 50, #[.pointer (some ⟨hl, 0, none⟩)]) :: ledB hl g h2 gn half false none 0 0 :: segB hs g t :: bl) rfl).nil (ty := 22) 1 (by decide)).pick (ys' := (⟨22, 1, none, 0, 0, []⟩ : WRow) :: ys) (rd' := rd) (.refl _) (.cons_cons _ (.cons _ (.refl _))) (fun x hx => List.mem_append_right _ hx))
    have cb3 : World.cell? _ ⟨b3, 0, none⟩ = some (.slice RA rn rc) := E13.cell 2 0 rfl rfl
    have HS2 := Lib.hid HS.out.2.2.2
    generalize (s6.save gn).1 = s8 at *
    clear HE12 HS
    have HE13 := Lib.hid E13
    clear E13
    go_wp2_with fail
    go_loopw [76] (fun iv wr => ∃ (j : Nat) (A2 : Option Addr) (c2 : Nat) (us : List BEl), j ≤ rn ∧ iv = .int .i64 (j : Int) ∧ us.length = j ∧ us.map (·.l) = (zs.map (·.l)).take j ∧ WE w0 wr g s8 (segB h2 g t6 :: (r, 25, #[.int .i64 0]) :: (b3, 32, #[.slice RA rn rc]) :: (b2, 50, #[.pointer (some ⟨hl, 0, none⟩)]) :: ledB hl g h2 gn half false A2 j c2 :: segB hs g t :: bl) (⟨22, 1, A2, j, c2, us.map BEl.v⟩ :: ys) (us ++ rd)) (fun iv _ => rn - (intOf iv).toNat)
    case atStart => exact ⟨0, none, 0, [], Nat.zero_le _, rfl, rfl, rfl, HE13.out⟩
    case round =>
      obtain ⟨j, A2, c2, us, hj, rfl, hul, hus, E⟩ := hrel
      clear cb3
      have HU := Lib.hid (And.intro hul hus)
      clear hul hus
      by_cases hlt : j < rn
      · obtain ⟨ba, oo, z, rfl, hz, hcz, hiz⟩ := (R.at_ _ _ _ (_ :: []) us E).get hlt
        have hlt1 : (j : Int) < (rn : Int) := by omega
        have hj0 : (0 : Int) ≤ (j : Int) := by omega
        have HZ := Lib.hid (And.intro hz hz)
        clear hz hiz
        go_wp2_with fail
        have E5 := E.drew
        generalize hwd : World.drew _ = wd11 at *
        have s0 : (fun w' : World => w'.cell? ⟨b2, 0, none⟩ = some (.pointer (some ⟨hl, 0, none⟩)) ∧ w'.cell? ⟨hl, 3, none⟩ = some (.slice A2 j c2)) wd11 := ⟨E5.cell 3 0 rfl rfl, E5.cell 4 3 rfl rfl⟩
        refine wp_region_late [11] (fun w' : World => w'.cell? ⟨b2, 0, none⟩ = some (.pointer (some ⟨hl, 0, none⟩)) ∧ w'.cell? ⟨hl, 3, none⟩ = some (.slice A2 j c2)) (by kernel_rfl) ?_
        rw [hwd]
        clear hwd E
        refine wpAnyL_take (i := 0) (v := ?_) rfl (by kernel_rfl) (by kernel_rfl) (by kernel_rfl) (by kernel_rfl) (by kernel_rfl) (fun _ _ _ h => h) (Or.inl ⟨by kernel_rfl, ?_⟩) s0 ?_
        rotate_left
        · rintro w0 ⟨h1_, h2_⟩; go_simp; (try with_reducible rfl)
        try simp only [Act.put, List.getElem_toArray, List.getElem_cons_succ, List.getElem_cons_zero, List.setIfInBounds_toArray, List.set_cons_zero, List.set_cons_succ]
        refine wpAnyL_take (i := 1) (v := ?_) rfl (by kernel_rfl) (by kernel_rfl) (by kernel_rfl) (by kernel_rfl) (by kernel_rfl) (fun _ _ _ h => h) (Or.inl ⟨by kernel_rfl, ?_⟩) s0 ?_
        rotate_left
        · rintro w0 ⟨h1_, h2_⟩; go_simp; (try with_reducible rfl)
        try simp only [Act.put, List.getElem_toArray, List.getElem_cons_succ, List.getElem_cons_zero, List.setIfInBounds_toArray, List.set_cons_zero, List.set_cons_succ]
        refine wpAnyL_take (i := 2) (v := ?_) rfl (by kernel_rfl) (by kernel_rfl) (by kernel_rfl) (by kernel_rfl) (by kernel_rfl) (fun _ _ _ h => h) (Or.inl ⟨by kernel_rfl, ?_⟩) s0 ?_
        rotate_left
        · rintro w0 ⟨h1_, h2_⟩; go_simp; (try with_reducible rfl)
        try simp only [Act.put, List.getElem_toArray, List.getElem_cons_succ, List.getElem_cons_zero, List.setIfInBounds_toArray, List.set_cons_zero, List.set_cons_succ]
        refine wpAnyL_take (i := 3) (v := ?_) rfl (by kernel_rfl) (by kernel_rfl) (by kernel_rfl) (by kernel_rfl) (by kernel_rfl) (fun _ _ _ h => h) (Or.inl ⟨by kernel_rfl, ?_⟩) s0 ?_
        rotate_left
        · rintro w0 ⟨h1_, h2_⟩; go_simp; (try with_reducible rfl)
        try simp only [Act.put, List.getElem_toArray, List.getElem_cons_succ, List.getElem_cons_zero, List.setIfInBounds_toArray, List.set_cons_zero, List.set_cons_succ]
        refine wpAnyL_take (i := 4) (v := ?_) rfl (by kernel_rfl) (by kernel_rfl) (by kernel_rfl) (by kernel_rfl) (by kernel_rfl) (fun _ _ _ h => h) (Or.inl ⟨by kernel_rfl, ?_⟩) s0 ?_
        rotate_left
        · rintro w0 ⟨h1_, h2_⟩; go_simp; (try with_reducible rfl)
        try simp only [Act.put, List.getElem_toArray, List.getElem_cons_succ, List.getElem_cons_zero, List.setIfInBounds_toArray, List.set_cons_zero, List.set_cons_succ]
        refine wpAnyL_take (i := 5) (v := ?_) rfl (by kernel_rfl) (by kernel_rfl) (by kernel_rfl) (by kernel_rfl) (by kernel_rfl) (fun _ _ _ h => h) (Or.inl ⟨by kernel_rfl, ?_⟩) s0 ?_
        rotate_left
        · rintro w0 ⟨h1_, h2_⟩; go_simp; (try with_reducible rfl)
        try simp only [Act.put, List.getElem_toArray, List.getElem_cons_succ, List.getElem_cons_zero, List.setIfInBounds_toArray, List.set_cons_zero, List.set_cons_succ]
        refine wpAnyL_one (i := 6) (by kernel_rfl) rfl (fun K hK => ?_)
        go_simp
        refine (clone_b ((R.at_ _ _ _ (_ :: []) us E5).ok z (List.mem_of_getElem? HZ.out.1)) (R.most z (List.mem_of_getElem? HZ.out.1))).mono ?_; rintro e w6 ⟨y, rfl, hyn, hyl, hyf, hb6⟩
        have E6 := (E5.below hb6).see (hyf _)
        have HY := Lib.hid hyl
        clear hyn hyl
        have s1 : (fun w' : World => w'.cell? ⟨b2, 0, none⟩ = some (.pointer (some ⟨hl, 0, none⟩)) ∧ w'.cell? ⟨hl, 3, none⟩ = some (.slice A2 j c2)) w6 := ⟨E6.cell 3 0 rfl rfl, E6.cell 4 3 rfl rfl⟩
        clear E5 hyf hb6
        go_wp2_with fail
        refine hK.out _ _ (fun _ => s1) ?_
        clear hK K
        try simp only [Act.put, List.getElem_toArray, List.getElem_cons_succ, List.getElem_cons_zero, List.setIfInBounds_toArray, List.set_cons_zero, List.set_cons_succ]
        refine wpAnyL_one (i := 7) (by kernel_rfl) rfl (fun K hK => ?_)
        go_simp
        have hrow := (E6.row 0 rfl).alloc (.cells #[.slice y.A y.n y.c] 22)
        dsimp only at hrow
        have hcs := cells_new w6 #[.slice y.A y.n y.c] 22 (g := w6.heap.size) rfl
        have hbs2 : w0.heap.size ≤ (w6.alloc (.cells #[.slice y.A y.n y.c] 22)).heap.size := by rw [World.size_alloc]; have := E6.size; omega
        have E7 := E6.alloc (.cells #[.slice y.A y.n y.c] 22)
        have s2 : (fun w' : World => w'.cell? ⟨b2, 0, none⟩ = some (.pointer (some ⟨hl, 0, none⟩)) ∧ w'.cell? ⟨hl, 3, none⟩ = some (.slice A2 j c2)) _ := ⟨E7.cell 3 0 rfl rfl, E7.cell 4 3 rfl rfl⟩
        refine hK.out _ _ (fun _ => s2) ?_
        clear hK K
        try simp only [Act.put, List.getElem_toArray, List.getElem_cons_succ, List.getElem_cons_zero, List.setIfInBounds_toArray, List.set_cons_zero, List.set_cons_succ]
        refine wpAnyL_one (i := 8) (by kernel_rfl) rfl (fun K hK => ?_)
        refine step_appR rfl (.tmp 84) (.tmp 87) 32 rfl 22 (.slice none 0 0) 1 24 Tryd.underlying32 binfo rfl (by omega) (by omega) rfl hrow (ad := ⟨w6.heap.size, 0, none⟩) (m := 1) (c' := 1) [.slice y.A y.n y.c] rfl rfl hcs (by intro u hu; rw [List.mem_singleton] at hu; subst hu; rfl) (by omega) hbs2 ?_
        intro A10 c10 w10 hown hg10 hA10
        have E8 := E7.app 0 rfl hown hg10 hA10
        have s3 : (fun w' : World => w'.cell? ⟨b2, 0, none⟩ = some (.pointer (some ⟨hl, 0, none⟩)) ∧ w'.cell? ⟨hl, 3, none⟩ = some (.slice A2 j c2)) w10 := ⟨E8.cell 3 0 rfl rfl, E8.cell 4 3 rfl rfl⟩
        clear hrow hcs hbs2 hown hg10 hA10 E6 E7
        refine hK.out _ _ (fun _ => s3) ?_
        clear hK K
        try simp only [Act.put, List.getElem_toArray, List.getElem_cons_succ, List.getElem_cons_zero, List.setIfInBounds_toArray, List.set_cons_zero, List.set_cons_succ]
        refine wpAnyL_take (i := 9) (v := ?_) rfl (by kernel_rfl) (by kernel_rfl) (by kernel_rfl) (by kernel_rfl) (by kernel_rfl) (fun _ _ _ h => h) (Or.inl ⟨by kernel_rfl, ?_⟩) s3 ?_
        rotate_left
        · rintro w0 ⟨h1_, h2_⟩; go_simp; (try with_reducible rfl)
        try simp only [Act.put, List.getElem_toArray, List.getElem_cons_succ, List.getElem_cons_zero, List.setIfInBounds_toArray, List.set_cons_zero, List.set_cons_succ]
        refine wpAnyL_take (i := 10) (v := ?_) rfl (by kernel_rfl) (by kernel_rfl) (by kernel_rfl) (by kernel_rfl) (by kernel_rfl) (fun _ _ _ h => h) (Or.inl ⟨by kernel_rfl, ?_⟩) s3 ?_
        rotate_left
        · rintro w0 ⟨h1_, h2_⟩; go_simp; (try with_reducible rfl)
        try simp only [Act.put, List.getElem_toArray, List.getElem_cons_succ, List.getElem_cons_zero, List.setIfInBounds_toArray, List.set_cons_zero, List.set_cons_succ]
        have fz3 : w10.frozen? ⟨hl, 3, none⟩ = false := E8.frozen 4 3 rfl
        have cz3 : w10.cell? ⟨hl, 3, none⟩ = some (.slice A2 j c2) := E8.cell 4 3 rfl rfl
        have E9 := E8.set 4 3 rfl (.slice A10 (j + 1) c10)
        have HE9 := Lib.hid E9
        clear E8 E9
        refine wpAnyL_one (i := 11) (by kernel_rfl) rfl (fun K hK => ?_)
        go_simp
        refine hK.out _ _ (fun h => absurd (by simp) h) ?_
        clear hK K
        try simp only [Act.put, List.getElem_toArray, List.getElem_cons_succ, List.getElem_cons_zero, List.setIfInBounds_toArray, List.set_cons_zero, List.set_cons_succ]
        refine wpAnyL_done (by kernel_rfl) ?_ _
        clear fz3 cz3 s0 s1 s2 s3
        have E10 : WE w0 _ g s8 (segB h2 g t6 :: (r, 25, #[.int .i64 0]) :: (b3, 32, #[.slice (some ⟨ba, oo, none⟩) rn rc]) :: (b2, 50, #[.pointer (some ⟨hl, 0, none⟩)]) :: ledB hl g h2 gn half false A10 (j + 1) c10 :: segB hs g t :: bl) (⟨22, 1, A10, j + 1, c10, (us ++ [y]).map BEl.v⟩ :: ys) ((us ++ [y]) ++ rd) := (HE9.out.setEq (bl' := segB h2 g t6 :: (r, 25, #[.int .i64 0]) :: (b3, 32, #[.slice (some ⟨ba, oo, none⟩) rn rc]) :: (b2, 50, #[.pointer (some ⟨hl, 0, none⟩)]) :: ledB hl g h2 gn half false A10 (j + 1) c10 :: segB hs g t :: bl) rfl).pick (.refl _) (by rw [List.map_append]; exact .refl _) (fun z hz => by
          simp only [List.mem_append, List.mem_cons, List.not_mem_nil, or_false] at hz ⊢
          rcases hz with (h | h) | h
          · exact .inr (.inl h)
          · exact .inl h
          · exact .inr (.inr h))
        have hus2 : (us ++ [y]).map (·.l) = (zs.map (·.l)).take (j + 1) := by
          rw [List.map_append, HU.out.2, List.take_add_one, List.getElem?_map, HZ.out.1]; show _ ++ [y.l] = _ ++ [z.l]; rw [HY.out]
        have hul2 : (us ++ [y]).length = j + 1 := by rw [List.length_append, HU.out.1]; rfl
        have HF := Lib.hid (And.intro E10 (And.intro hus2 hul2))
        clear HE9 E10 hus2 hul2 HY hcz
        go_wp2_with fail
        go_roundw
        case rel => exact ⟨j + 1, A10, c10, us ++ [y], by omega, by go_num, HF.out.2.2, HF.out.2.1, HF.out.1⟩
        case measure => simp [intOf]; omega
      · obtain rfl : j = rn := by omega
        have hlt1 : ¬ (j : Int) < (j : Int) := by omega
        have hul := HU.out.1
        have E14 := E
        rw [← hul] at E14
        have hus : us.map (·.l) = zs.map (·.l) := by rw [HU.out.2]; exact List.take_of_length_le (by rw [List.length_map]; have := HG2.out.2.2.2.2.2.2.1; omega)
        have E15 := (E14.pick (bl' := segB h2 g t6 :: (r, 25, #[.int .i64 0]) :: (b3, 32, #[.slice RA us.length rc]) :: (b2, 50, #[.pointer (some ⟨hl, 0, none⟩)]) :: ledB hl g h2 gn half false A2 us.length c2 :: bl) (.cons_cons _ (.cons_cons _ (.cons_cons _ (.cons_cons _ (.cons_cons _ (.cons _ (.refl _))))))) (.refl _) (fun _ h => h)).perm (bl' := (r, 25, #[.int .i64 0]) :: (b3, 32, #[.slice RA us.length rc]) :: (b2, 50, #[.pointer (some ⟨hl, 0, none⟩)]) :: ledB hl g h2 gn half false A2 us.length c2 :: segB h2 g t6 :: bl) (List.Perm.trans (List.Perm.cons _ (List.Perm.cons _ (List.Perm.cons _ (List.Perm.swap _ _ _)))) (List.Perm.trans (List.Perm.cons _ (List.Perm.cons _ (List.Perm.swap _ _ _))) (List.Perm.trans (List.Perm.cons _ (List.Perm.swap _ _ _)) (List.Perm.swap _ _ _)))) (.refl _)
        have E15 := E15.setEq (bl' := (r, 25, #[.int .i64 0]) :: (b3, 32, #[.slice RA j rc]) :: (b2, 50, #[.pointer (some ⟨hl, 0, none⟩)]) :: ledB hl g h2 gn half false A2 us.length c2 :: segB h2 g t6 :: bl) (by rw [hul])
        have HF := Lib.hid (And.intro E15 hus)
        clear E E14 E15 hul hus
        go_wp2_with fail
        go_end0
        exact ⟨⟨_, rfl⟩, h2, s8, t6, HS2.out.1, by rw [HS2.out.2.1]; have := HS2.out.2.2; omega, A2, c2, us, HF.out.2, HF.out.1⟩
end Go.Proofs.YtdlcngmcjidomaaDoor

/- ledger.Compact. No condition but the reach. -/
namespace Go.Proofs.YtdlcngmcjidomaaDoor
set_option linter.unusedSimpArgs false
set_option linter.unusedVariables false
open Go.RowKit Go.Shelf

section
variable {w0 w : World} {g hl half gen : Nat} {s : DSt} {all : List (List Nat)} {B : Nat} {bl : List WBk} {ys : List WRow} {rd : List BEl} {RA : Option Addr} {rn rc : Nat} {zs : List BEl}
set_option maxRecDepth 100000 in
set_option maxHeartbeats 6400000 in
theorem compact_arg (E : LE w0 w g hl s half gen all B bl ys rd) (R : RecIn w0 g ys rd RA rn rc zs) (hrn : rn ≤ 1000) (hgood : SegSt.good (zs.map (·.l)) = false) :
    Calls Tryd.prog 27 #[.pointer (some ⟨hl, 0, none⟩), .slice RA rn rc] w fun e w' => e = .returned (.int .i64 1) ∧ LE w0 w' g hl s half gen all B bl ys rd := by
  obtain ⟨hs, t, A, c, xs, E0, L, hx⟩ := E.ex
  have hgn := L.gn
  subst hgn
  have hok := L.ok
  have E1 := (E0.add 50 #[.pointer (some ⟨hl, 0, none⟩)] (by decide)).add 32 #[.slice RA rn rc] (by decide)
  simp only [World.size_alloc] at E1
  go_enter Tryd.func27, Tryd.ntmps27
  go_upto_region 1 with (fail)
  clear E0
  generalize (w.alloc _).alloc _ = w1 at *
  obtain ⟨b2, hb2⟩ : ∃ b, w.heap.size = b := ⟨_, rfl⟩
  rw [hb2] at E1 ⊢
  obtain ⟨b3, hb3⟩ : ∃ b, b2 + 1 = b := ⟨_, rfl⟩
  rw [hb3] at E1 ⊢
  clear hb2 hb3
  have cb2 : w1.cell? ⟨b2, 0, none⟩ = some (.pointer (some ⟨hl, 0, none⟩)) := E1.cell 1 0 rfl rfl
  have cb3 : w1.cell? ⟨b3, 0, none⟩ = some (.slice RA rn rc) := E1.cell 0 0 rfl rfl
  have hR1 := R.at_ w1 s _ (_ :: []) xs E1
  have hN := need_any hR1 hrn R.most
  have HE := Lib.hid E1
  rw [needR_no hgood] at hN
  have cl5 : w1.cell? ⟨hl, 5, none⟩ = some (.bool false) := E1.cell 2 5 rfl rfl
  have cl4 : w1.cell? ⟨hl, 4, none⟩ = some (.int .i64 (half : Int)) := E1.cell 2 4 rfl rfl
  have cl1 : w1.cell? ⟨hl, 1, none⟩ = some (.int .u32 (t.gen : Int)) := E1.cell 2 1 rfl rfl
  have HN := Lib.hid hN
  have HH := Lib.hid (And.intro L hx)
  clear hN hR1 E1 L hx hok hgood E
  go_wp2_with fail
  refine HN.out.mono ?_; rintro e w2 ⟨rfl, rfl⟩
  have HF := Lib.hid (HE.out.pick (bl' := ledB hl g hs t.gen half false A xs.length c :: segB hs g t :: bl) (.cons _ (.cons _ (.refl _))) (.refl _) (fun _ h => h))
  clear HE HN
  go_wp2_with fail
  go_ret
  exact ⟨rfl, ⟨hs, t, A, c, xs, HF.out, HH.out.1, HH.out.2⟩⟩
set_option maxRecDepth 100000 in
set_option maxHeartbeats 6400000 in
theorem compact_full (E : LE w0 w g hl s half gen all B bl ys rd) (R : RecIn w0 g ys rd RA rn rc zs) (hrn2 : rn ≤ 200) (hgood : SegSt.good (zs.map (·.l)) = true) (hfull : half < SegSt.total (zs.map (·.l))) :
    Calls Tryd.prog 27 #[.pointer (some ⟨hl, 0, none⟩), .slice RA rn rc] w fun e w' => e = .returned (.int .i64 3) ∧ LE w0 w' g hl s half gen all B bl ys rd := by
  have hrn : rn ≤ 1000 := by omega
  obtain ⟨hs, t, A, c, xs, E0, L, hx⟩ := E.ex
  have hgn := L.gn
  subst hgn
  have hok := L.ok
  have E1 := (E0.add 50 #[.pointer (some ⟨hl, 0, none⟩)] (by decide)).add 32 #[.slice RA rn rc] (by decide)
  simp only [World.size_alloc] at E1
  go_enter Tryd.func27, Tryd.ntmps27
  go_upto_region 1 with (fail)
  clear E0
  generalize (w.alloc _).alloc _ = w1 at *
  obtain ⟨b2, hb2⟩ : ∃ b, w.heap.size = b := ⟨_, rfl⟩
  rw [hb2] at E1 ⊢
  obtain ⟨b3, hb3⟩ : ∃ b, b2 + 1 = b := ⟨_, rfl⟩
  rw [hb3] at E1 ⊢
  clear hb2 hb3
  have cb2 : w1.cell? ⟨b2, 0, none⟩ = some (.pointer (some ⟨hl, 0, none⟩)) := E1.cell 1 0 rfl rfl
  have cb3 : w1.cell? ⟨b3, 0, none⟩ = some (.slice RA rn rc) := E1.cell 0 0 rfl rfl
  have hR1 := R.at_ w1 s _ (_ :: []) xs E1
  have hN := need_any hR1 hrn R.most
  have HE := Lib.hid E1
  rw [needR_yes hgood] at hN
  have cl5 : w1.cell? ⟨hl, 5, none⟩ = some (.bool false) := E1.cell 2 5 rfl rfl
  have cl4 : w1.cell? ⟨hl, 4, none⟩ = some (.int .i64 (half : Int)) := E1.cell 2 4 rfl rfl
  have cl1 : w1.cell? ⟨hl, 1, none⟩ = some (.int .u32 (t.gen : Int)) := E1.cell 2 1 rfl rfl
  obtain ⟨k, hk⟩ : ∃ k, SegSt.total (zs.map (·.l)) = k := ⟨_, rfl⟩
  rw [hk] at hN hfull
  have q2 : ¬ (200 : Int) < (rn : Int) := by omega
  have q2d : decide ((200 : Int) < (rn : Int)) = false := decide_eq_false q2
  have q3 : (half : Int) < (k : Int) := by omega
  have q3d : decide ((half : Int) < (k : Int)) = true := decide_eq_true q3
  have HN := Lib.hid hN
  have HH := Lib.hid (And.intro L hx)
  clear hN hR1 E1 L hx hok hgood hfull hk hrn hrn2 E
  go_wp2_with fail
  refine HN.out.mono ?_; rintro e w2 ⟨rfl, rfl⟩
  have HF := Lib.hid (HE.out.pick (bl' := ledB hl g hs t.gen half false A xs.length c :: segB hs g t :: bl) (.cons _ (.cons _ (.refl _))) (.refl _) (fun _ h => h))
  clear HE HN
  go_wp2_with fail
  go_ret
  exact ⟨rfl, ⟨hs, t, A, c, xs, HF.out, HH.out.1, HH.out.2⟩⟩
set_option maxRecDepth 100000 in
set_option maxHeartbeats 6400000 in
theorem compact_lost {hs : Nat} {ys0 : List WRow} {rd0 : List BEl} (E0 : WE w0 w g s (ledB hl g hs 0 half true none 0 0 :: bl) (ys0 ++ ys) (rd0 ++ rd)) (R : RecIn w0 g ys rd RA rn rc zs) (hrn : rn ≤ 1000) :
    Calls Tryd.prog 27 #[.pointer (some ⟨hl, 0, none⟩), .slice RA rn rc] w fun e w' => e = .returned (.int .i64 4) ∧ WE w0 w' g s (ledB hl g hs 0 half true none 0 0 :: bl) (ys0 ++ ys) (rd0 ++ rd) := by
  have E1 := (E0.add 50 #[.pointer (some ⟨hl, 0, none⟩)] (by decide)).add 32 #[.slice RA rn rc] (by decide)
  simp only [World.size_alloc] at E1
  go_enter Tryd.func27, Tryd.ntmps27
  go_upto_region 1 with (fail)
  clear E0
  generalize (w.alloc _).alloc _ = w1 at *
  obtain ⟨b2, hb2⟩ : ∃ b, w.heap.size = b := ⟨_, rfl⟩
  rw [hb2] at E1 ⊢
  obtain ⟨b3, hb3⟩ : ∃ b, b2 + 1 = b := ⟨_, rfl⟩
  rw [hb3] at E1 ⊢
  clear hb2 hb3
  have cb2 : w1.cell? ⟨b2, 0, none⟩ = some (.pointer (some ⟨hl, 0, none⟩)) := E1.cell 1 0 rfl rfl
  have cb3 : w1.cell? ⟨b3, 0, none⟩ = some (.slice RA rn rc) := E1.cell 0 0 rfl rfl
  have hR1 := R.at_ w1 s _ ys0 rd0 E1
  have hN := need_any hR1 hrn R.most
  have HE := Lib.hid E1
  have cl5 : w1.cell? ⟨hl, 5, none⟩ = some (.bool true) := E1.cell 2 5 rfl rfl
  have HF := Lib.hid (HE.out.pick (bl' := ledB hl g hs 0 half true none 0 0 :: bl) (.cons _ (.cons _ (.refl _))) (.refl _) (fun _ h => h))
  cases hgood : SegSt.good (zs.map (·.l)) with
  | false =>
    rw [needR_no hgood] at hN
    have HN := Lib.hid hN
    clear hN hR1 E1 hgood HE
    go_wp2_with fail
    refine HN.out.mono ?_; rintro e w2 ⟨rfl, rfl⟩
    clear HN
    go_wp2_with fail
    go_ret
    exact ⟨rfl, HF.out⟩
  | true =>
    rw [needR_yes hgood] at hN
    have HN := Lib.hid hN
    clear hN hR1 E1 hgood HE
    go_wp2_with fail
    refine HN.out.mono ?_; rintro e w2 ⟨rfl, rfl⟩
    clear HN
    go_wp2_with fail
    go_ret
    exact ⟨rfl, HF.out⟩
set_option maxRecDepth 100000 in
set_option maxHeartbeats 6400000 in
theorem compact_ok (E : LE w0 w g hl s half gen all B bl ys rd) (R : RecIn w0 g ys rd RA rn rc zs) (hrn2 : rn ≤ 200) (hgood : SegSt.good (zs.map (·.l)) = true) (hfit : SegSt.total (zs.map (·.l)) ≤ half) (hB : B + rn ≤ 4294967295) (hg1 : gen + 1 < 4294967296) (hbg : s.begun ≤ 281474976710656) :
    Calls Tryd.prog 27 #[.pointer (some ⟨hl, 0, none⟩), .slice RA rn rc] w fun e w' => e = .returned (.int .i64 0) ∧ ∃ s2, LE w0 w' g hl s2 half (gen + 1) (zs.map (·.l)) (B + rn) bl ys rd ∧ s2.begun ≤ s.begun + half + 10 := by
  have hrn : rn ≤ 1000 := by omega
  obtain ⟨hs, t, A, c, xs, E0, L, hx⟩ := E.ex
  have hgn := L.gn
  subst hgn
  have hok := L.ok
  have E1 := (E0.add 50 #[.pointer (some ⟨hl, 0, none⟩)] (by decide)).add 32 #[.slice RA rn rc] (by decide)
  simp only [World.size_alloc] at E1
  go_enter Tryd.func27, Tryd.ntmps27
  go_upto_region 1 with (fail)
  clear E0
  generalize (w.alloc _).alloc _ = w1 at *
  obtain ⟨b2, hb2⟩ : ∃ b, w.heap.size = b := ⟨_, rfl⟩
  rw [hb2] at E1 ⊢
  obtain ⟨b3, hb3⟩ : ∃ b, b2 + 1 = b := ⟨_, rfl⟩
  rw [hb3] at E1 ⊢
  clear hb2 hb3
  have cb2 : w1.cell? ⟨b2, 0, none⟩ = some (.pointer (some ⟨hl, 0, none⟩)) := E1.cell 1 0 rfl rfl
  have cb3 : w1.cell? ⟨b3, 0, none⟩ = some (.slice RA rn rc) := E1.cell 0 0 rfl rfl
  have hR1 := R.at_ w1 s _ (_ :: []) xs E1
  have hN := need_any hR1 hrn R.most
  have HE := Lib.hid E1
  rw [needR_yes hgood] at hN
  have cl5 : w1.cell? ⟨hl, 5, none⟩ = some (.bool false) := E1.cell 2 5 rfl rfl
  have cl4 : w1.cell? ⟨hl, 4, none⟩ = some (.int .i64 (half : Int)) := E1.cell 2 4 rfl rfl
  have cl1 : w1.cell? ⟨hl, 1, none⟩ = some (.int .u32 (t.gen : Int)) := E1.cell 2 1 rfl rfl
  obtain ⟨k, hk⟩ : ∃ k, SegSt.total (zs.map (·.l)) = k := ⟨_, rfl⟩
  have q2 : ¬ (200 : Int) < (rn : Int) := by omega
  have q2d : decide ((200 : Int) < (rn : Int)) = false := decide_eq_false q2
  have q3 : ¬ (half : Int) < (k : Int) := by omega
  have q3d : decide ((half : Int) < (k : Int)) = false := decide_eq_false q3
  have q4 : ((t.gen : Int) == 4294967295) = false := by
    have : ¬ (t.gen : Int) = 4294967295 := by omega
    simp [this]
  rw [hk] at hN
  have HN := Lib.hid hN
  have hD := done_ok E1 (hl := hl) 52 #[.pointer (some ⟨b2, 0, none⟩), .pointer (some ⟨b3, 0, none⟩)] (fun _ => by kernel_rfl)
    (fun s2 bl2 ys2 rd2 => ∃ h2 t2 A2 c2 us, Led.LUp s2 half (t.gen + 1) t2 (zs.map (·.l)) (B + rn) ∧ s2.begun ≤ s.begun + half + 10 ∧ us.map (·.l) = zs.map (·.l) ∧ bl2 = ((b3, 32, #[.slice RA rn rc]) :: (b2, 50, #[.pointer (some ⟨hl, 0, none⟩)]) :: ledB hl g h2 (t.gen + 1) half false A2 us.length c2 :: segB h2 g t2 :: bl) ∧ ys2 = ((⟨22, 1, A2, us.length, c2, us.map BEl.v⟩ : WRow) :: ys) ∧ rd2 = us ++ rd)
    (fun r w5 E5 => (compact1_ok E5 L R hgood hfit hrn hB hg1 hbg).mono (fun e w6 ⟨hv, h2, s2, t2, A2, c2, us, h1, h3, h4, E6⟩ => ⟨s2, _, _, _, hv, E6, h2, t2, A2, c2, us, h1, h3, h4, rfl, rfl, rfl⟩))
  have HD := Lib.hid hD
  clear hN hR1 E1 L hx hok hgood hfit hk hrn hrn2 hD HE E hg1
  go_wp2_with fail
  refine HN.out.mono ?_; rintro e w2 ⟨rfl, rfl⟩
  clear HN
  go_wp2_with fail
  refine HD.out.mono ?_; rintro e w7 ⟨rfl, s2, bl2, ys2, rd2, E7, h2, t2, A2, c2, us, h1, h3, h4, rfl, rfl, rfl⟩
  have HF := Lib.hid (And.intro (E7.pick (bl' := ledB hl g h2 (t.gen + 1) half false A2 us.length c2 :: segB h2 g t2 :: bl) (.cons _ (.cons _ (.refl _))) (.refl _) (fun _ h => h)) (And.intro h1 (And.intro h3 h4)))
  clear E7 h1 h3 h4 HD
  go_wp2_with fail
  go_ret
  exact ⟨rfl, s2, ⟨h2, t2, A2, c2, us, HF.out.1, HF.out.2.1, HF.out.2.2.2⟩, HF.out.2.2.1⟩
end
end Go.Proofs.YtdlcngmcjidomaaDoor

/- What a ledger tells; a disk too small for one. No condition but the reach. -/
namespace Go.Proofs.YtdlcngmcjidomaaDoor
set_option linter.unusedSimpArgs false
set_option linter.unusedVariables false
open Go.RowKit Go.Shelf

section
variable {w0 w w' : World} {g hl half gen : Nat} {s : DSt} {all : List (List Nat)} {B : Nat} {bl : List WBk} {ys : List WRow} {rd : List BEl}
set_option maxRecDepth 100000 in
theorem open_no (E : WE w0 w g s bl ys rd) (h18 : s.sure.length < 18) :
    Calls Tryd.prog 23 #[.pointer (some ⟨g, 0, none⟩)] w fun e w' => e = .returned (.tuple #[.pointer none, .int .i64 1]) ∧ WE w0 w' g s bl ys rd := by
  obtain ⟨K, hK⟩ : ∃ K, s.sure.length = K := ⟨_, rfl⟩
  rw [hK] at h18
  have q : (K : Int) < 18 := by omega
  have qd : decide ((K : Int) < 18) = true := decide_eq_true q
  have E1 := E.add 24 #[.pointer (some ⟨g, 0, none⟩)] (by decide)
  have cbd : (w.alloc (.cells #[.pointer (some ⟨g, 0, none⟩)] 24)).cell? ⟨w.heap.size, 0, none⟩ = some (.pointer (some ⟨g, 0, none⟩)) := E1.cell 0 0 rfl rfl
  have HK := Lib.hid (And.intro hK (E1.pick (bl' := bl) (.cons _ (.refl _)) (.refl _) (fun _ h => h)))
  clear E hK
  go_enter Tryd.func23, Tryd.ntmps23
  go_wp2_with fail
  refine (dsectors_we E1).mono ?_; rintro e w1 ⟨rfl, rfl⟩
  rw [HK.out.1]
  clear E1
  go_wp2_with fail
  go_ret2
  exact ⟨rfl, HK.out.2⟩
theorem LE.to (E : LE w0 w g hl s half gen all B bl ys rd) (h : ∀ bl ys rd, WE w0 w g s bl ys rd → WE w0 w' g s bl ys rd) : LE w0 w' g hl s half gen all B bl ys rd := by
  obtain ⟨hs, t, A, c, xs, E0, L, hx⟩ := E.ex
  exact ⟨hs, t, A, c, xs, h _ _ _ E0, L, hx⟩
theorem LE.below (E : LE w0 w g hl s half gen all B bl ys rd) (hb : Below w.heap.size w w') : LE w0 w' g hl s half gen all B bl ys rd := E.to fun _ _ _ E => E.below hb
theorem LE.alloc (E : LE w0 w g hl s half gen all B bl ys rd) (o : Obj) : LE w0 (w.alloc o) g hl s half gen all B bl ys rd := E.to fun _ _ _ E => E.alloc o
theorem LE.bel (E : LE w0 w g hl s half gen all B bl ys rd) : Below w0.heap.size w0 w := by
  obtain ⟨hs, t, A, c, xs, E0, L, hx⟩ := E.ex
  exact E0.bel
theorem LE.bytes (E : LE w0 w g hl s half gen all B bl ys rd) : ∀ x ∈ s.sure, ∀ c ∈ x, c < 256 := by
  obtain ⟨hs, t, A, c, xs, E0, L, hx⟩ := E.ex
  exact E0.bytes
theorem LE.good (E : LE w0 w g hl s half gen all B bl ys rd) : ∀ r ∈ all, 1 ≤ r.length ∧ r.length ≤ 392 := by
  obtain ⟨hs, t, A, c, xs, E0, L, hx⟩ := E.ex
  obtain ⟨pre, old, b, Y⟩ := L.up.kept.lay
  exact fun r hr => by have h1 := Y.all r hr; rw [ne_eq, Cl.need_iff] at h1; omega
theorem LE.tot (E : LE w0 w g hl s half gen all B bl ys rd) : SegSt.total all ≤ half := by
  obtain ⟨hs, t, A, c, xs, E0, L, hx⟩ := E.ex
  have := L.ok
  omega
theorem LE.see (E : LE w0 w g hl s half gen all B bl ys rd) {x : BEl} (hx : FarB w w0.heap.size x) : LE w0 w g hl s half gen all B bl ys (x :: rd) := by
  obtain ⟨hs, t, A, c, xs, E0, L, hxs⟩ := E.ex
  exact ⟨hs, t, A, c, xs, (E0.see hx).pick (.refl _) (.refl _) (fun y hy => by
    rcases List.mem_append.1 hy with h | h
    · exact List.mem_cons_of_mem _ (List.mem_append_left _ h)
    · rcases List.mem_cons.1 h with rfl | h
      · exact List.mem_cons_self ..
      · exact List.mem_cons_of_mem _ (List.mem_append_right _ h)), L, hxs⟩
theorem LE.sees (E : LE w0 w g hl s half gen all B bl ys rd) {zs : List BEl} (hz : ∀ x ∈ zs, FarB w w0.heap.size x) : LE w0 w g hl s half gen all B bl ys (zs ++ rd) := by
  obtain ⟨hs, t, A, c, xs, E0, L, hxs⟩ := E.ex
  exact ⟨hs, t, A, c, xs, (E0.sees hz).pick (.refl _) (.refl _) (fun y hy => by
    simp only [List.mem_append] at hy ⊢
    rcases hy with h | h | h
    · exact .inr (.inl h)
    · exact .inl h
    · exact .inr (.inr h)), L, hxs⟩
theorem LE.pick (E : LE w0 w g hl s half gen all B bl ys rd) {bl' : List WBk} {ys' : List WRow} {rd' : List BEl} (h1 : bl'.Sublist bl) (h2 : ys'.Sublist ys) (h3 : ∀ x ∈ rd', x ∈ rd) : LE w0 w g hl s half gen all B bl' ys' rd' := by
  obtain ⟨hs, t, A, c, xs, E0, L, hxs⟩ := E.ex
  exact ⟨hs, t, A, c, xs, E0.pick (.cons_cons _ (.cons_cons _ h1)) (.cons_cons _ h2) (fun y hy => by
    rcases List.mem_append.1 hy with h | h
    · exact List.mem_append_left _ h
    · exact List.mem_append_right _ (h3 y h)), L, hxs⟩
/-- The power goes and comes. -/
theorem lup_le (E : LE w0 w g hl s half gen all B bl ys rd) {bA : Option Addr} {bn bc : Nat} {l : List Nat} (hB : Ints w .u8 256 bA bn bc l) (hbn : bn ≤ 1099511627776) :
    Calls Tryd.prog 19 #[.pointer (some ⟨g, 0, none⟩), .slice bA bn bc] w fun e w' => (∃ v, e = .returned v) ∧ LE w0 w' g hl (s.up l) half gen all B bl ys rd := by
  obtain ⟨hs, t, A, c, xs, E0, L, hxs⟩ := E.ex
  exact (dup_we E0 hB hbn).mono fun _ _ ⟨he, E1⟩ => ⟨he, hs, t, A, c, xs, E1, L.loss l, hxs⟩
theorem lgen_le (E : LE w0 w g hl s half gen all B bl ys rd) :
    Calls Tryd.prog 29 #[.pointer (some ⟨hl, 0, none⟩)] w fun e w' => e = .returned (.int .u32 (gen : Int)) ∧ w = w' := by
  obtain ⟨hs, t, A, c, xs, E0, L, hxs⟩ := E.ex
  exact lgen_any (E0.b 0 rfl) rfl
theorem lfree_le (E : LE w0 w g hl s half gen all B bl ys rd) :
    Calls Tryd.prog 28 #[.pointer (some ⟨hl, 0, none⟩)] w fun e w' => e = .returned (.int .i64 ((half - SegSt.total all : Nat) : Int)) ∧ LE w0 w' g hl s half gen all B bl ys rd := by
  obtain ⟨hs, t, A, c, xs, E0, L, hxs⟩ := E.ex
  have hok := L.ok
  have hn := L.n
  have hln := L.len
  have h512 := E0.wf.most
  refine (lfree_any (E0.b 0 rfl) (E0.b 1 rfl) (by omega) (by omega)).mono fun e w' ⟨he, hb⟩ => ⟨?_, hs, t, A, c, xs, E0.below hb, L, hxs⟩
  rw [he, hok.1, hn]
theorem lused_le (E : LE w0 w g hl s half gen all B bl ys rd) :
    Calls Tryd.prog 26 #[.pointer (some ⟨hl, 0, none⟩)] w fun e w' => e = .returned (.int .i64 (SegSt.total all : Nat)) ∧ LE w0 w' g hl s half gen all B bl ys rd := by
  obtain ⟨hs, t, A, c, xs, E0, L, hxs⟩ := E.ex
  have hok := L.ok
  have hn := L.n
  have hln := L.len
  have h512 := E0.wf.most
  refine (lused_any (E0.b 0 rfl) (E0.b 1 rfl) (by omega) (by omega) hn.symm).mono fun e w' ⟨he, hb⟩ => ⟨?_, hs, t, A, c, xs, E0.below hb, L, hxs⟩
  rw [he, hok.1]
theorem lrecords_le (E : LE w0 w g hl s half gen all B bl ys rd) (hl1 : all.length ≤ 1000) :
    Calls Tryd.prog 25 #[.pointer (some ⟨hl, 0, none⟩)] w fun e w' => ∃ A2 c2 us, e = .returned (.slice A2 all.length c2) ∧ LE w0 w' g hl s half gen all B bl (⟨22, 1, A2, all.length, c2, us.map BEl.v⟩ :: ys) (us ++ rd) ∧ us.map (·.l) = all ∧ ∀ u ∈ us, u.n ≤ 392 := by
  have hgd := E.good
  obtain ⟨hs, t, A, c, xs, E0, L, hxs⟩ := E.ex
  have hxl : xs.length = all.length := by rw [← hxs, List.length_map]
  have hxn : ∀ x ∈ xs, x.n ≤ 392 := fun x hx => by
    have h1 := (E0.rdm (x := x) (List.mem_append_left _ hx)).len
    have h2 := hgd x.l (by rw [← hxs]; exact List.mem_map.2 ⟨x, hx, rfl⟩)
    omega
  refine (lrecords_we E0 0 rfl rfl 0 rfl (fun x hx => ⟨List.mem_append_left _ hx, by have := hxn x hx; omega⟩) (by omega)).mono fun e w' ⟨A2, c2, us, he, E1, h1, h2⟩ => ⟨A2, c2, us, by rw [he, hxl], ⟨hs, t, A, c, xs, ?_, L, hxs⟩, by rw [h1, hxs], fun u hu => ?_⟩
  · rw [hxl] at E1 ⊢
    refine (E1.perm (ys' := (⟨22, 1, A, all.length, c, xs.map BEl.v⟩ : WRow) :: ⟨22, 1, A2, all.length, c2, us.map BEl.v⟩ :: ys) (.refl _) (List.Perm.swap _ _ _)).pick (.refl _) (.refl _) (fun y hy => ?_)
    simp only [List.mem_append] at hy ⊢
    rcases hy with h | h | h
    · exact .inr (.inl h)
    · exact .inl h
    · exact .inr (.inr h)
  · have h3 : u.n ∈ us.map (·.n) := List.mem_map.2 ⟨u, hu, rfl⟩
    rw [h2] at h3
    obtain ⟨x, hx, hx2⟩ := List.mem_map.1 h3
    have := hxn x hx
    omega
end
/-- Records that lay there at first can be read. -/
theorem RecIn.low {w0 : World} {g : Nat} {ys : List WRow} {rd : List BEl} {RA : Option Addr} {rn rc : Nat} {zs : List BEl} (h : BArg w0 RA rn rc zs) (hm : ∀ z ∈ zs, z.n ≤ 140737488355328) : RecIn w0 g ys rd RA rn rc zs := ⟨fun _ _ _ _ _ E => h.below E.bel, hm⟩
/-- An own row can be read. -/
theorem RecIn.row {w0 : World} {g k n c : Nat} {ys : List WRow} {rd : List BEl} {A : Option Addr} {zs : List BEl} (hk : ys[k]? = some ⟨22, 1, A, n, c, zs.map BEl.v⟩) (hz : ∀ z ∈ zs, z ∈ rd) (hm : ∀ z ∈ zs, z.n ≤ 140737488355328) : RecIn w0 g ys rd A n c zs :=
  ⟨fun _ _ _ ys0 rd1 E => barg_of (E.row (ys0.length + k) (by rw [List.getElem?_append_right (Nat.le_add_right _ _), Nat.add_sub_cancel_left]; exact hk)) (fun x hx => E.rdm (List.mem_append_right _ (hz x hx))), hm⟩
end Go.Proofs.YtdlcngmcjidomaaDoor

/- The answers that a law of layer 9 asks first. No condition. -/
namespace Go.Proofs.YtdlcngmcjidomaaDoor
set_option linter.unusedSimpArgs false
set_option linter.unusedVariables false
open Go.RowKit Go.Shelf

section
variable {w0 w w' : World} {g hl half gen : Nat} {s : DSt} {all : List (List Nat)} {B : Nat} {bl : List WBk} {ys : List WRow} {rd : List BEl}
/-- A block that a call laid. -/
theorem WE.freshb (E : WE w0 w g s bl ys rd) (hb : Below w.heap.size w w') {k : Nat} {ty : TypeId} {cs : Array Value} (Bk : Blk w' k ty cs) (hk : w.heap.size ≤ k) (hty : ty ≠ 5) : WE w0 w' g s ((k, ty, cs) :: bl) ys rd := by
  have hsz := E.size
  obtain ⟨T0, D0, hT0, hb00, hB0, hN0, hY0, hP0, hR0⟩ := E.ex
  have hc : Ch w0.heap.size w w' [] := Ch.of_below hb
  refine ⟨T0, D0.below hb, hT0, below_step hb00 hb hsz, fun b h => ?_, ?_, fun y hy => ⟨(hY0 y hy).1.below hb, (hY0 y hy).2.1, fun ad e => ⟨((hY0 y hy).2.2 ad e).1, fun b h => ?_⟩⟩, hP0, fun x hx => hc.far (hR0 x hx) hsz⟩
  · rcases List.mem_cons.1 h with rfl | h
    · exact ⟨Bk, hty, fun hT => by have := D0.lt _ hT; dsimp only at this; omega, by dsimp only; omega⟩
    · exact ⟨(hB0 b h).1.below hb (hB0 b h).1.lt, (hB0 b h).2⟩
  · rw [List.map_cons, List.nodup_cons]
    refine ⟨fun hm => ?_, hN0⟩
    obtain ⟨b, hb1, hb2⟩ := List.mem_map.1 hm
    have := (hB0 b hb1).1.lt
    dsimp only at hb2
    omega
  · have hlt := ((hY0 y hy).1.lt ad e).2
    rcases List.mem_cons.1 h with rfl | h
    · dsimp only; omega
    · exact ((hY0 y hy).2.2 ad e).2 b h
/-- Another disk beside. -/
theorem new_beside (E : WE w0 w g s bl ys rd) (n : Nat) (hn1 : 1 ≤ n) (hn2 : n ≤ 512) :
    Calls Tryd.prog 11 #[.int .i64 (n : Int)] w fun e w' => ∃ g2 V A c, e = .returned (.tuple #[.pointer (some ⟨g2, 0, none⟩), .int .i64 0]) ∧ V[0]? = some (.slice A n c) ∧ WE w0 w' g s ((g2, 64, V) :: bl) ys rd := by
  refine (dnew_any n hn1 hn2 w).mono fun e w' ⟨g2, T, he, D, hT, hb⟩ => ?_
  obtain ⟨A, m, c, pA, pn, pc, xs, zs, D⟩ := D.ex
  have hg := hT g2 D.gT
  have hm : m = n := by
    have h1 := D.n_eq
    have h2 : (DSt.new n).sure.length = n := new_length n
    omega
  subst hm
  exact ⟨g2, _, A, c, he, rfl, E.freshb hb D.blk hg (by decide)⟩
set_option maxRecDepth 100000 in
theorem sectors_blk {k : Nat} {V : Array Value} {A : Option Addr} {n c : Nat} (Bk : Blk w k 64 V) (h0 : V[0]? = some (.slice A n c)) :
    Calls Tryd.prog 31 #[.pointer (some ⟨k, 0, none⟩)] w fun e w' => e = .returned (.int .i64 (n : Int)) ∧ w = w' := by
  have h0 : w.cell? ⟨k, 0, none⟩ = some (.slice A n c) := (Bk.cell 0).trans h0
  clear Bk
  go_enter Tryd.func31, Tryd.ntmps31
  go_wp2_with fail
  go_ret
  exact ⟨rfl, rfl⟩
set_option maxRecDepth 100000 in
theorem open_no_b (E : WE w0 w g s bl ys rd) (i : Nat) {k : Nat} {V : Array Value} {A : Option Addr} {K c : Nat} (hi : bl[i]? = some (k, 64, V)) (h0 : V[0]? = some (.slice A K c)) (h18 : K < 18) :
    Calls Tryd.prog 23 #[.pointer (some ⟨k, 0, none⟩)] w fun e w' => e = .returned (.tuple #[.pointer none, .int .i64 1]) ∧ WE w0 w' g s bl ys rd := by
  have q : (K : Int) < 18 := by omega
  have qd : decide ((K : Int) < 18) = true := decide_eq_true q
  have E1 := E.add 24 #[.pointer (some ⟨k, 0, none⟩)] (by decide)
  have cbd : (w.alloc (.cells #[.pointer (some ⟨k, 0, none⟩)] 24)).cell? ⟨w.heap.size, 0, none⟩ = some (.pointer (some ⟨k, 0, none⟩)) := E1.cell 0 0 rfl rfl
  have HK := Lib.hid (And.intro (sectors_blk (E1.b (i + 1) hi) h0) (E1.pick (bl' := bl) (.cons _ (.refl _)) (.refl _) (fun _ h => h)))
  clear E E1
  go_enter Tryd.func23, Tryd.ntmps23
  go_wp2_with fail
  refine HK.out.1.mono ?_; rintro e w1 ⟨rfl, rfl⟩
  go_wp2_with fail
  go_ret2
  exact ⟨rfl, HK.out.2⟩
theorem open_no_le (E : LE w0 w g hl s half gen all B bl ys rd) (i : Nat) {k : Nat} {V : Array Value} {A : Option Addr} {K c : Nat} (hi : bl[i]? = some (k, 64, V)) (h0 : V[0]? = some (.slice A K c)) (h18 : K < 18) :
    Calls Tryd.prog 23 #[.pointer (some ⟨k, 0, none⟩)] w fun e w' => e = .returned (.tuple #[.pointer none, .int .i64 1]) ∧ LE w0 w' g hl s half gen all B bl ys rd := by
  obtain ⟨hs, t, A, c, xs, E0, L, hxs⟩ := E.ex
  exact (open_no_b E0 (i + 2) hi h0 h18).mono fun _ _ ⟨he, E1⟩ => ⟨he, hs, t, A, c, xs, E1, L, hxs⟩
/-- A row that a call laid. -/
theorem LE.fresh (E : LE w0 w g hl s half gen all B bl ys rd) (hb : Below w.heap.size w w') {ty : TypeId} {sz n c : Nat} {A : Option Addr} {vs : List Value} (ho : OwnR w' w.heap.size ty sz A n c vs) (hty : ty ≠ 5) : LE w0 w' g hl s half gen all B bl (⟨ty, sz, A, n, c, vs⟩ :: ys) rd := by
  obtain ⟨hs, t, A, c, xs, E0, L, hxs⟩ := E.ex
  exact ⟨hs, t, A, c, xs, (E0.fresh hb ho hty).perm (.refl _) (List.Perm.swap _ _ _), L, hxs⟩
theorem FarB.blk {Bk : Nat} {cs : Array Value} {base c : Nat} {l : List Nat} (h : Blk w Bk 5 cs) (hcs : cs.toList = l.map fun x : Nat => .int .u8 (x : Int)) (hl : ∀ x ∈ l, x < 256) (hc : l.length ≤ c) : FarB w base ⟨some ⟨Bk, 0, none⟩, l.length, c, l⟩ :=
  ⟨⟨⟨by rw [List.length_map], hc, fun _ => ⟨Bk, 0, rfl, h.lt, fun j u hu => by
    rw [Nat.zero_add, h.cell j, ← Array.getElem?_toList, hcs]; exact hu⟩⟩, hl⟩, fun _ ad e => by cases e; exact .inr ⟨cs, h⟩⟩
/-- '[][]byte{{a}, {b}}'. -/
theorem lit2 (w : World) {a b : Nat} (ha : a < 256) (hb : b < 256) (W : World) (hW : W = ((w.alloc (.cells #[.int .u8 (a : Int)] 5)).alloc (.cells #[.int .u8 (b : Int)] 5)).alloc (.cells #[.slice (some ⟨w.heap.size, 0, none⟩) 1 1, .slice (some ⟨w.heap.size + 1, 0, none⟩) 1 1] 22)) :
    OwnR W w.heap.size 22 1 (some ⟨w.heap.size + 1 + 1, 0, none⟩) 2 2 ([(⟨some ⟨w.heap.size, 0, none⟩, 1, 1, [a]⟩ : BEl), ⟨some ⟨w.heap.size + 1, 0, none⟩, 1, 1, [b]⟩].map BEl.v) ∧ (∀ base, ∀ x ∈ [(⟨some ⟨w.heap.size, 0, none⟩, 1, 1, [a]⟩ : BEl), ⟨some ⟨w.heap.size + 1, 0, none⟩, 1, 1, [b]⟩], FarB W base x) ∧ Below w.heap.size w W := by
  subst hW
  have h1 := ((Blk.new w 5 #[.int .u8 (a : Int)]).alloc (.cells #[.int .u8 (b : Int)] 5)).alloc (.cells #[.slice (some ⟨w.heap.size, 0, none⟩) 1 1, .slice (some ⟨w.heap.size + 1, 0, none⟩) 1 1] 22)
  have h2 := (blk_at (w := w.alloc (.cells #[.int .u8 (a : Int)] 5)) (t := 5) (cs := #[.int .u8 (b : Int)]) (g := w.heap.size + 1) (by simp)).alloc (.cells #[.slice (some ⟨w.heap.size, 0, none⟩) 1 1, .slice (some ⟨w.heap.size + 1, 0, none⟩) 1 1] 22)
  have h3 := blk_at (w := (w.alloc (.cells #[.int .u8 (a : Int)] 5)).alloc (.cells #[.int .u8 (b : Int)] 5)) (t := 22) (cs := #[.slice (some ⟨w.heap.size, 0, none⟩) 1 1, .slice (some ⟨w.heap.size + 1, 0, none⟩) 1 1]) (g := w.heap.size + 1 + 1) (by simp)
  refine ⟨OwnR.of_blk (by omega) h3 (Nat.le_refl _) (by unfold maxLen; omega) rfl rfl, fun base x hx => ?_, (((Below.refl _ w).alloc (Nat.le_refl _) _).alloc (by simp) _).alloc (by simp; omega) _⟩
  simp only [List.mem_cons, List.not_mem_nil, or_false] at hx
  rcases hx with rfl | rfl
  · exact FarB.blk (l := [a]) h1 rfl (fun x hx => by rw [List.mem_singleton] at hx; omega) (Nat.le_refl _)
  · exact FarB.blk (l := [b]) h2 rfl (fun x hx => by rw [List.mem_singleton] at hx; omega) (Nat.le_refl _)
set_option maxRecDepth 100000 in
set_option maxHeartbeats 12800000 in
theorem awake9_any (w : World) : Calls Tryd.prog 22 #[] w fun e w' => e = .returned (.bool true) ∧ Below w.heap.size w w' := by
  have hL := Led.LUp.new (half := 8) (D := 18) (by omega) (by omega)
  have HP := Lib.hid hL
  clear hL
  go_enter Tryd.func22, Tryd.ntmps22
  go_wp2_with fail
  refine (we_new (w0 := w) 18 (by omega) (by omega) w (Below.refl _ _)).mono ?_; rintro e w1 ⟨g, rfl, E⟩
  go_wp2_with fail
  refine (new_beside E 17 (by omega) (by omega)).mono ?_; rintro e w2 ⟨g2, V, VA, vc, rfl, hV, E2⟩
  have HV := Lib.hid hV
  clear E hV
  go_wp2_with fail
  refine (open_we E2 HP.out (by rw [new_length]) (by rw [new_length]; omega) (by decide)).mono ?_; rintro e w3 ⟨hl, rfl, E3⟩
  clear E2
  go_wp2_with fail
  refine (open_no_le E3 0 rfl HV.out (by omega)).mono ?_; rintro e w4 ⟨rfl, E4⟩
  clear E3
  go_wp2_with fail
  have E5 := (E4.alloc (.cells #[.int .u8 ((1 : Nat) : Int), .int .u8 ((2 : Nat) : Int)] 5)).see (FarB.blk (l := [1, 2]) (c := 2) (Blk.new w4 5 #[.int .u8 ((1 : Nat) : Int), .int .u8 ((2 : Nat) : Int)]) rfl (fun x hx => by simp only [List.mem_cons, List.not_mem_nil, or_false] at hx; omega) (Nat.le_refl _))
  refine (append_ok E5 (List.mem_cons_self ..) (by decide) (by decide) (by decide) (by decide) (by omega) (by show 0 ≤ _; omega) (by omega)).mono ?_; rintro e w5 ⟨rfl, s5, E6, hb5⟩
  have E6 := E6.pick (bl' := []) (ys' := []) (rd' := []) (.cons _ (.refl _)) (.refl _) (fun _ h => by cases h)
  have hb5 : s5.begun ≤ 9 := by have h0 : (DSt.new 18).begun = 0 := rfl; omega
  clear E4 E5
  go_wp2_with fail
  obtain ⟨ho6, hf6, hb6⟩ := lit2 w5 (a := 3) (b := 4) (by omega) (by omega) _ rfl
  have E7 := (E6.fresh hb6 ho6 (by decide)).sees (fun x hx => hf6 _ x hx)
  refine (compact_ok E7 (RecIn.row (k := 0) rfl (fun z hz => List.mem_append_left _ hz) (fun z hz => by
    simp only [List.mem_cons, List.not_mem_nil, or_false] at hz
    rcases hz with rfl | rfl <;> (show (1 : Nat) ≤ _; decide))) (by omega) (show SegSt.good [[3], [4]] = true by decide) (show SegSt.total [[3], [4]] ≤ 8 by decide) (by decide) (by decide) (by omega)).mono ?_; rintro e w6 ⟨rfl, s6, E8, hb8⟩
  have E8 : LE w w6 g hl s6 8 1 [[3], [4]] 3 [] [] [] := E8.pick (bl' := []) (ys' := []) (rd' := []) (.refl _) (.cons _ (.refl _)) (fun _ h => by cases h)
  clear E6 E7 ho6 hf6 hb6
  have hsz := Nat.le_refl w6.heap.size
  have HE8 := Lib.hid E8
  clear E8
  go_wp2_with (at_make; refine wpList_mkI _ rfl _ _ 22 rfl (lim := 256) (by omega) 5 1 Tryd.underlying22 dinfo_u8 392 rfl rfl rfl rfl (by omega) (by unfold maxLen; omega) w6.heap.size hsz ?_; intro w7 ho7 hg7)
  have E9 := (HE8.out.below ((Below.refl w6.heap.size w6).grown hg7 (Nat.le_refl _) (fun k e => by cases e))).see (FarB.of_own ho7)
  refine (append_full E9 (List.mem_cons_self ..) (by decide) (by decide) (.inr (by decide)) (by omega)).mono ?_; rintro e w8 ⟨rfl, E10⟩
  have E10 := E10.pick (bl' := []) (ys' := []) (rd' := []) (.refl _) (.refl _) (fun _ h => by cases h)
  clear E9 ho7 hg7 HE8 hsz
  go_wp2_with fail
  have HB10 := Lib.hid E10
  clear E10
  refine (lrecords_le HB10.out (by decide)).mono ?_; rintro e w9 ⟨A2, c2, us, rfl, E11, hus, hun⟩
  have hI9 : BImg w9 A2 2 c2 [[3], [4]] := by
    obtain ⟨hs, t, A, c, xs, E0, L, hxs⟩ := E11.ex
    have h := (barg_of (E0.row 1 rfl) (fun x hx => E0.rdm (List.mem_append_right _ (List.mem_append_left _ hx)))).img (by show 2 ≤ 140737488355328; omega) (fun x hx => by have := hun x hx; omega)
    rwa [hus] at h
  have E12 := E11.pick (bl' := []) (ys' := []) (rd' := []) (.refl _) (.cons _ (.refl _)) (fun _ h => by cases h)
  have HI := Lib.hid (And.intro hI9 E12)
  clear E11 E12 hI9 hus hun HB10
  go_wp2_with fail
  obtain ⟨ho, hf, hb⟩ := lit2 w9 (a := 3) (b := 4) (by omega) (by omega) _ rfl
  have hR : BImg _ _ 2 2 [[3], [4]] := (barg_of ho (fun x hx => (hf 0 x hx).ints)).img (by omega) (fun x hx => by
    simp only [List.mem_cons, List.not_mem_nil, or_false] at hx
    rcases hx with rfl | rfl <;> (show (1 : Nat) ≤ _; decide))
  have E13 := HI.out.2.below hb
  have hI13 := HI.out.1.below hb
  have HE := Lib.hid E13
  refine (alike_same hI13 hR).mono ?_; rintro e w10 ⟨⟨q10, rfl⟩, rfl⟩
  have HE14 := Lib.hid (HE.out.below (((Moved.refl _ []).drewN q10).below0))
  clear ho hf hb hR E13 hI13 HE HI
  generalize World.drewN _ _ = w11 at *
  go_wp2_with fail
  refine (lfree_le HE14.out).mono ?_; rintro e w12 ⟨rfl, E15⟩
  have HE15 := Lib.hid E15
  clear E15 HE14
  have hfr : (8 - SegSt.total [[3], [4]] : Nat) = 6 := by decide
  rw [hfr]
  go_wp2_with fail
  refine (lused_le HE15.out).mono ?_; rintro e w13 ⟨rfl, E16⟩
  have HE16 := Lib.hid E16
  clear E16 HE15
  have hus : SegSt.total [[3], [4]] = 2 := by decide
  rw [hus]
  go_wp2_with fail
  refine (lgen_le HE16.out).mono ?_; rintro e w14 ⟨rfl, rfl⟩
  have HF := Lib.hid HE16.out.bel
  go_wp2_with fail
  go_ret
  exact ⟨rfl, HF.out⟩
end
end Go.Proofs.YtdlcngmcjidomaaDoor
