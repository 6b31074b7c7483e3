/- The contracts of heijunkaref06.May, word, Need, write and Encode. No condition but the reach of a slice. -/
import Derived.Test.YtdlcngmcjidomaaDoorCellD
import Derived.Deep.CutBlock
namespace Go.Proofs.YtdlcngmcjidomaaDoor
set_option linter.unusedSimpArgs false
set_option linter.unusedVariables false
open Go.RowKit

theorem own_dis {w w' : World} {base : Nat} {kd : IntKind} {lim : Nat} {e : TypeId} {A : Option Addr} {n c : Nat} {l : List Nat} {A' : Option Addr} {n' c' : Nat} {l' : List Nat} (h : OwnI w base kd lim e A n c l) (h' : OwnI w' w.heap.size kd lim e A' n' c' l') : Dis A A' :=
  ⟨fun x y hx hy e => by have := (h.lt_ x hx).2; have := (h'.lt_ y hy).1; omega⟩
theorem own_apart {w : World} {kd : IntKind} {lim : Nat} {e : TypeId} {A : Option Addr} {n c : Nat} {l : List Nat} {g b : Nat} (h : OwnI w b kd lim e A n c l) (hg : g + 1 ≤ b) : some g ≠ A.map (·.block) := fun e => by
  cases A with
  | none => cases e
  | some ad => have := (h.lt_ ad rfl).1; injection e with e; have e : g = ad.block := e; omega
theorem need_loop {n k : Nat} (h1 : 1 ≤ n) (h2 : n ≤ 392) (hk : 1 ≤ k) (hk2 : 49 * (k - 1) < n) (h : n ≤ 49 * k) : k = Cl.need n := by
  rw [(Cl.need_pos h1 h2).1]; omega
set_option maxRecDepth 100000 in
set_option maxHeartbeats 800000 in
theorem rneed_any (n : Int) (w : World) (h1 : -9223372036854775808 ≤ n) (h2 : n ≤ 9223372036854775807) :
    Calls Tryd.prog 14 #[.int .i64 n] w fun e w' => e = .returned (.int .i64 (Cl.need n.toNat : Nat)) ∧ w = w' := by
  by_cases h3 : n < 1
  · have HZ := Lib.hid (Cl.need_zero (n := n.toNat) (by omega))
    go_enter Tryd.func14, Tryd.ntmps14
    go_wp2_with fail
    go_ret
    exact ⟨by rw [HZ.out]; rfl, rfl⟩
  by_cases h4 : 392 < n
  · have HZ := Lib.hid (Cl.need_zero (n := n.toNat) (by omega))
    go_enter Tryd.func14, Tryd.ntmps14
    go_wp2_with fail
    go_ret
    exact ⟨by rw [HZ.out]; rfl, rfl⟩
  · obtain ⟨m, rfl⟩ : ∃ m : Nat, n = (m : Int) := ⟨n.toNat, by omega⟩
    have k1 : 1 ≤ m := by omega
    have k2 : m ≤ 392 := by omega
    go_enter Tryd.func14, Tryd.ntmps14
    go_wp2_with fail
    go_loop [3] (fun v => ∃ k : Nat, 1 ≤ k ∧ 49 * (k - 1) < m ∧ v = .int .i64 k) (fun v => 400 - (intOf v).toNat)
    case atStart => exact ⟨1, by omega, by omega, rfl⟩
    case round =>
      obtain ⟨k, hk1, hk2, rfl⟩ := hrel
      by_cases hlt : 49 * k < m
      · have hl : 49 * (k : Int) < (m : Int) := by omega
        have hk0 : (k : Int) ≤ 8 := by omega
        have hk00 : (0 : Int) ≤ (k : Int) := by omega
        go_wp2_with fail
        go_round
        case rel => exact ⟨k + 1, by omega, by omega, by go_num⟩
        case measure => simp [intOf]; omega
      · have hl : ¬ 49 * (k : Int) < (m : Int) := by omega
        have hk0 : (k : Int) ≤ 9 := by omega
        have hk00 : (0 : Int) ≤ (k : Int) := by omega
        have HK := Lib.hid (need_loop k1 k2 hk1 hk2 (by omega))
        go_wp2_with fail
        go_ret
        exact ⟨ret_int (by rw [← HK.out]), rfl⟩
theorem encode_any (gs sq : Nat) (hgs : gs < 4294967296) (hsq : sq < 4294967296) (pt ps : Int) (hp : -9223372036854775808 ≤ ps ∧ ps ≤ 9223372036854775807) (A : Option Addr) (n c : Nat) (l : List Nat) (w : World) (hr : Ints w .u8 256 A n c l) :
    Calls Tryd.prog 37 #[.agg #[.int .u32 (gs : Int), .int .u32 (sq : Int), .int .i64 pt, .int .i64 ps, .slice A n c]] w fun e w' => ∃ A' m c', e = .returned (.tuple #[.slice A' m c', .int .i64 (Cl.encCode ⟨gs, sq, pt, ps, l⟩)]) ∧ OwnI w' w.heap.size .u8 256 5 A' m c' (Cl.encL ⟨gs, sq, pt, ps, l⟩) ∧ Below w.heap.size w w' := by
  have hmay : Cl.may ⟨gs, sq, pt, ps, l⟩ = mayN pt ps n := by rw [may_eq, hr.len]
  cases hm : mayN pt ps n with
  | false =>
    have e1 : Cl.encCode ⟨gs, sq, pt, ps, l⟩ = 1 := by unfold Cl.encCode; rw [hmay, hm]; rfl
    have e2 : Cl.encL ⟨gs, sq, pt, ps, l⟩ = [] := by unfold Cl.encL; rw [hmay, hm]; rfl
    rw [e1, e2]
    exact (encode_no gs sq pt ps A n c w hp hm).mono fun _ _ ⟨he, hb⟩ => ⟨none, 0, 0, he, OwnI.nil_ .., hb⟩
  | true =>
    have e1 : Cl.encCode ⟨gs, sq, pt, ps, l⟩ = 0 := by unfold Cl.encCode; rw [hmay, hm]; rfl
    have e2 : Cl.encL ⟨gs, sq, pt, ps, l⟩ = Cl.enc ⟨gs, sq, pt, ps, l⟩ := by unfold Cl.encL; rw [hmay, hm]; rfl
    rw [e1, e2]
    obtain ⟨h1, h2, h3, h4, _⟩ := mayN_iff.1 hm
    obtain ⟨p, rfl⟩ : ∃ p : Nat, pt = (p : Int) := ⟨pt.toNat, by omega⟩
    obtain ⟨q, rfl⟩ : ∃ q : Nat, ps = (q : Int) := ⟨ps.toNat, by omega⟩
    exact (encode_yes gs sq hgs hsq p q A n c l w hr hm).mono fun _ _ ⟨A', c', he, ho, hb⟩ => ⟨A', 64, c', he, ho, hb⟩
end Go.Proofs.YtdlcngmcjidomaaDoor
