/- The ledger, plain: an adding that the power ends, and what is there behind it. No program here. -/
import Derived.Test.YtdlcngmcjidomaaDoorGSM
namespace Go.Proofs.YtdlcngmcjidomaaDoor
set_option linter.unusedVariables false
set_option linter.unusedSimpArgs false
namespace DSt
theorem layBy_nil (p : List (Nat × List Nat)) : ∀ su : List (List Nat), layBy su p [] = su := by
  induction p with
  | nil => intro su; rfl
  | cons x p ih => intro su; exact ih su
/-- What was not flushed is not there, if no choice says so. -/
theorem up_same {s s2 : DSt} (h : s2.sure = s.sure) (hp : s.pend = []) : s2.up [] = s.up [] := by
  unfold up
  rw [layBy_nil, layBy_nil, h]
end DSt
namespace SegSt
theorem add_one_down {s : DSt} {t : SegSt} {all : List (List Nat)} {r : List Nat} (K : SUp s t all) (hn : Cl.need r.length = 1) (hfit : t.fin + 1 ≤ t.n) (htop : t.top + 1 ≤ 4294967295) (hr : ∀ c ∈ r, c < 256) {k : Int} (hk : k = 1 ∨ k = 2) :
    (add (s.plan k) t [r]).2.2 = 4 ∧ (add (s.plan k) t [r]).1.sure = s.sure := by
  have hok := K.ok
  have htot : total [r] = 1 := by unfold total; simp [hn]
  have hg : good [r] = true := good_iff.2 fun x hx => by rw [List.mem_singleton] at hx; subst hx; omega
  have hlen : ((Sc.cellsOf t.gen t.top [r]).map Cl.enc).length = 1 := by rw [List.length_map, total_cells, htot]
  have hce := cells_enc hok.2.2.2 (top := t.top) (rs := [r]) (by show t.top + 1 < _; omega) (fun x hx => by rw [List.mem_singleton] at hx; subst hx; exact hr)
  obtain ⟨b, hb⟩ : ∃ b, (Sc.cellsOf t.gen t.top [r]).map Cl.enc = [b] := by
    match hm : (Sc.cellsOf t.gen t.top [r]).map Cl.enc, hlen with
    | [b], _ => exact ⟨b, rfl⟩
  have hb64 : b.length = 64 := hce b (by rw [hb]; exact List.mem_singleton_self _)
  have hd : (s.plan k).down = false := K.kept.down
  have hh : ((s.plan k).has ((t.first + t.fin : Nat) : Int) && decide (b.length = 64)) = true := by
    have h1 : (s.plan k).has ((t.first + t.fin : Nat) : Int) = true := decide_eq_true ⟨by omega, by show ((t.first + t.fin : Nat) : Int) < (s.sure.length : Nat); omega⟩
    rw [h1, hb64]; rfl
  unfold add
  rw [if_neg (by rw [hg]; decide), if_neg (by rw [htot]; show ¬ (t.n < t.fin + 1 ∨ 4294967295 < t.top + 1); omega), if_neg (by rw [hd]; decide), if_neg (by simp), hb]
  have hw : writes (s.plan k) (t.first + t.fin) [b] = if ((s.plan k).write ((t.first + t.fin : Nat) : Int) b).2 = 0 then (((s.plan k).write ((t.first + t.fin : Nat) : Int) b).1, 0) else (s.plan k).write ((t.first + t.fin : Nat) : Int) b := rfl
  rcases hk with rfl | rfl
  · have hgo : (s.plan 1).goes = true := by
      unfold DSt.goes
      rw [hd]
      rfl
    rw [DSt.write_goes hd hh hgo, if_neg (by show ¬ (4 : Int) = 0; decide)] at hw
    rw [hw, if_pos (by show (4 : Int) ≠ 0; decide)]
    exact ⟨rfl, rfl⟩
  · have hgo : (s.plan 2).goes = false := by
      unfold DSt.goes
      rw [hd]
      rfl
    rw [DSt.write_ok hd hh hgo, if_pos rfl] at hw
    rw [hw, if_neg (fun h => h rfl)]
    have hd2 : ({ (s.plan 2).beg with pend := (s.plan 2).pend ++ [(((t.first + t.fin : Nat) : Int).toNat, b)] } : DSt).down = false := hgo
    have hg2 : ({ (s.plan 2).beg with pend := (s.plan 2).pend ++ [(((t.first + t.fin : Nat) : Int).toNat, b)] } : DSt).goes = true := by
      unfold DSt.goes
      rw [hd2]
      rfl
    rw [DSt.flush_goes hd2 hg2, if_pos (by show (4 : Int) ≠ 0; decide)]
    exact ⟨rfl, rfl⟩
end SegSt
end Go.Proofs.YtdlcngmcjidomaaDoor
