/- 'append(s, make([]byte, m)...)', s the call's own. No condition but the reach of a slice. -/
import Derived.Test.YtdlcngmcjidomaaDoorBase
import Derived.Laws.OwnMore
namespace Go.Proofs.YtdlcngmcjidomaaDoor
set_option linter.unusedSimpArgs false
set_option linter.unusedVariables false
open Go.RowKit

theorem zeroCells_one (z : Value) (n : Nat) : Builtin.zeroCells #[z] n = (List.replicate n z).toArray := by
  apply Array.ext
  · simp [Builtin.zeroCells]
  · intro i h1 h2
    simp [Builtin.zeroCells, Nat.mod_one]
section
variable {P : Program} (w : World)
theorem run_appZ (base : Nat) (t ti ty e : TypeId) (z : Value) (ht : P.underlying t = some (.slice e)) (hti : P.underlying ti = some (.int .i64)) (hinfo : (P.info? e).map (fun i => (i.zero, i.size, i.bytes)) = some (some z, 1, 1)) (hz1 : z.cells = #[z]) (ho : z.oneCell' = true)
    (A : Option Addr) (n c : Nat) (xs : List Value) (hown : Own w base e A n c xs) (m : Nat) (hb : n + m ≤ 140737488355328) (hbase : base ≤ w.heap.size) :
    ∃ A2 c2 w', (Builtin.append_ #[t, ti] ty #[.slice A n c, .int .i64 (m : Int)]).run P w = .ok (.slice A2 (n + m) c2) w' ∧ Own w' base e A2 (n + m) c2 (xs ++ List.replicate m z) ∧ w.grownBy w' (A.map (·.block)) ∧
      (A2 = A ∨ A2 = some ⟨w.heap.size, 0, none⟩) := by
  obtain ⟨i, hi, hz, hs1, hs2⟩ := info_parts hinfo
  have hwm : IntKind.i64.wrap (m : Int) = (m : Int) := IntWalk.i64_in _ (by omega)
  have hm0 : ¬ (m : Int) < 0 := by omega
  have hw0 : IntKind.i64.wrap 0 = 0 := by decide
  have hm48 : ¬ 281474976710656 < (m : Int) := by omega
  have h63 : n + m ≤ maxLen := by simp only [maxLen]; omega
  have hxs := hown.len
  have hzc : Builtin.zeroCells z.cells m = (List.replicate m z).toArray := by rw [hz1]; exact zeroCells_one z m
  have hone : ∀ u ∈ List.replicate m z, u.oneCell' = true := fun u hu => by rw [List.eq_of_mem_replicate hu]; exact ho
  have grown : ∀ old, old < n + m → Own (w.drew.alloc (.cells (xs.toArray ++ (List.replicate m z).toArray ++ Builtin.zeroCells z.cells (grownCap w (n + m) old e - (n + m))) e)) base e (some ⟨w.heap.size, 0, none⟩) (n + m) (grownCap w (n + m) old e) (xs ++ List.replicate m z) := fun old _ => by
    have hge := grownCap_ge w (n + m) old e
    have hcm := grownCap_le_maxLen w (n + m) old e h63
    refine Own.of_blk hbase (Blk.new w.drew e _) hge hcm ?_ ?_
    · simp only [Array.size_append, List.size_toArray, size_zeroCells, hz1, hxs, List.length_replicate]
      simp
      omega
    · simp only [Array.toList_append]
      exact List.take_left' (by simp [hxs])
  rcases hown.form with ⟨rfl, rfl, rfl, rfl⟩ | ⟨g, cur, rfl, hg0, hg, hnc, hcm, hsz, htake⟩
  · by_cases h0 : m = 0
    · subst h0
      refine ⟨none, 0, w, ?_, by simpa using hown, World.grownBy.refl w _, .inl rfl⟩
      simp [Builtin.append_, run_underlying ht, run_underlying hti, sizeOf, typeInfo, hi, hs1, hs2, asInt, asIntOf, hw0]
    · have hfit : ¬ (281474976710656 < Builtin.nextslicecap m 0) := by rw [nextslicecap_zero (by omega)]; omega
      have hgr := grown 0 (by omega)
      refine ⟨some ⟨w.heap.size, 0, none⟩, grownCap w (0 + m) 0 e, _, ?_, hgr, ⟨rfl, rfl, rfl, by simp, fun k hk _ => heap_alloc_old w.drew _ hk⟩, .inr rfl⟩
      simp only [Nat.zero_add] at hgr ⊢
      have hm1 : ¬ m ≤ 0 := by omega
      have h6 : ¬ (9223372036854775807 < (m : Int)) := by omega
      simp [Builtin.append_, run_underlying ht, run_underlying hti, sizeOf, typeInfo, zeroValue, hi, hz, hs1, hs2, asInt, asIntOf, hwm, hm0, hm48, hm1, h0, h6, hfit, hzc, Builtin.firstCells, Question.forced, newRow, grownCap]
  · by_cases hroom : n + m ≤ c
    · have hst := run_storeCells_at P g n e (List.replicate m z) 0 cur w hg.is (by simp; omega) hone
      simp only [Nat.add_zero] at hst
      refine ⟨some ⟨g, 0, none⟩, c, w.setRow g (cur.toList.take n ++ List.replicate m z ++ cur.toList.drop (n + (List.replicate m z).length)).toArray, ?_, ?_, ⟨rfl, rfl, rfl, by simp, fun k _ hk => setRow_other w g k _ (fun e => hk (by simp [e]))⟩, .inl rfl⟩
      · by_cases h0 : m = 0
        · subst h0
          simp at hst
          simp [Builtin.append_, run_underlying ht, run_underlying hti, sizeOf, typeInfo, hi, hs1, hs2, asInt, asIntOf, hw0, hnc, Addr.add_lit, hst]
        · simp at hst
          simp [Builtin.append_, run_underlying ht, run_underlying hti, sizeOf, typeInfo, zeroValue, hi, hz, hs1, hs2, asInt, asIntOf, hwm, hm0, hm48, hroom, h0, hzc, Addr.add_lit, hst]
      · refine Own.of_blk hg0 ⟨setRow_heap w g cur _ e _ hg.is⟩ hroom hcm ?_ ?_
        · simp only [List.size_toArray, List.length_append, List.length_take, List.length_drop, Array.length_toList, List.length_replicate]
          omega
        · have e1 : cur.toList.take n = xs := htake
          rw [e1]
          exact List.take_left' (by simp [hxs])
    · have holds : ∀ j u, xs[j]? = some u → w.drew.cell? ((⟨g, 0, none⟩ : Addr).add j) = some u := hown.row.cells (g := g) rfl
      have hf := run_firstCells_some (P := P) w.drew 1 n ⟨g, 0, none⟩ n c xs (by omega) holds
      have hfit : ¬ (281474976710656 < Builtin.nextslicecap (n + m) c) := by
        have := growslice_fits (need := n + m) (old := c) (bytes := 1) (by omega) (by omega)
        omega
      have h6 : ¬ (9223372036854775807 < (n : Int) + (m : Int)) := by omega
      have h0 : m ≠ 0 := by omega
      refine ⟨some ⟨w.heap.size, 0, none⟩, grownCap w (n + m) c e, _, ?_, grown c (by omega), ⟨rfl, rfl, rfl, by simp, fun k hk _ => heap_alloc_old w.drew _ hk⟩, .inr rfl⟩
      simp [Builtin.append_, run_underlying ht, run_underlying hti, sizeOf, typeInfo, zeroValue, hi, hz, hs1, hs2, asInt, asIntOf, hwm, hm0, hm48, hroom, h0, h6, hfit, hzc, hf, Question.forced, newRow, grownCap]

/-- At the operation, of bytes. -/
theorem wpList_appZ {ops : Array Oper} {rest : List Oper} {o : Oper} {a : Act} {Q : Exit → Act → World → Prop} (hgd : o.guard = none) (s x : Operand) (t ti : TypeId)
    (ho : o.op = .call { callee := .builtin .append, args := #[s, x], argTypes := #[t, ti] })
    {kd : IntKind} {lim : Nat} (hlim : 0 < lim) (e : TypeId) (ht : P.underlying t = some (.slice e)) (hti : P.underlying ti = some (.int .i64)) (hinfo : (P.info? e).map (fun i => (i.zero, i.size, i.bytes)) = some (some (.int kd 0), 1, 1))
    {base : Nat} {A : Option Addr} {n c : Nat} {l : List Nat} (hown : OwnI w base kd lim e A n c l) (hs : a.eval s = .slice A n c) {m : Nat} {M : Int} (hx : a.eval x = .int .i64 M) (hM : M = (m : Int))
    (hb : n + m ≤ 140737488355328) (hbase : base ≤ w.heap.size)
    (h : ∀ A2 c2 w', OwnI w' base kd lim e A2 (n + m) c2 (l ++ List.replicate m 0) → w.grownBy w' (A.map (·.block)) → (A2 = A ∨ A2 = some ⟨w.heap.size, 0, none⟩) → wpList P ops Q rest (a.put o.dst (.slice A2 (n + m) c2)) w') :
    wpList P ops Q (o :: rest) a w := by
  subst hM
  refine wpList_plain hgd fun K hK => ?_
  obtain ⟨A2, c2, w', hrun, h2, h3, h4⟩ := run_appZ (P := P) w base t ti o.type e (.int kd 0) ht hti hinfo rfl rfl A n c _ hown.own m hb hbase
  unfold Oper.wp execOp
  simp only [ho, resolve, invoke, builtin, Sem.run_bind, Sem.run_pure, Result.andThen_ok, List.map_toArray, List.map_cons, List.map_nil, hs, hx, hrun]
  exact hK _ _ (h A2 c2 w' ⟨by rw [List.map_append, List.map_replicate]; exact h2, fun y hy => by
      rcases List.mem_append.1 hy with hy | hy
      · exact hown.lt y hy
      · rw [List.eq_of_mem_replicate hy]; exact hlim⟩ h3 h4)
end
end Go.Proofs.YtdlcngmcjidomaaDoor
