/- Further words for memory: copy, of whatever program. No condition. -/
import Derived.Test.YticheiocmhaakaaDoorBase
import Derived.Laws.CopyOwn
namespace Go.Proofs.YticheiocmhaakaaDoor
open Go.RowKit

theorem ret_int {k : IntKind} {a b : Int} (h : a = b) : Ending.returned (.int k a) = .returned (.int k b) := by rw [h]
theorem ret_bool {a b : Bool} (h : a = b) : Ending.returned (.bool a) = .returned (.bool b) := by rw [h]

theorem grown_drew {w w' : World} {row : Option Nat} (h : w.grownBy w' row) : w.grownBy w'.drew row := ⟨h.os, h.tape, h.output, h.size, h.block⟩
theorem grown_drewN {w w' : World} {row : Option Nat} (h : w.grownBy w' row) (n : Nat) : w.grownBy (w'.drewN n) row := ⟨h.os, h.tape, h.output, h.size, h.block⟩
theorem grown_set {w w' : World} {b : Nat} (h : w.grownBy w' (some b)) (i : Nat) (v : Value) : w.grownBy (w'.setCell ⟨b, i, none⟩ v) (some b) :=
  ⟨h.os, h.tape, h.output, by simpa [World.setCell] using h.size, fun k hk hne => (heap_setCell_other w' ⟨b, i, none⟩ k v (fun e => hne (by rw [e]))).trans (h.block k hk hne)⟩

section
variable {P : Program} {w : World}
/-- 'copy(dst, src)' of numbers, dst a row of the call's own. -/
theorem wpList_copyI {ops : Array Oper} {rest : List Oper} {o : Oper} {a : Act} {Q : Exit → Act → World → Prop} (hgd : o.guard = none) (d s : Operand) (dT sT : TypeId)
    (ho : o.op = .call { callee := .builtin .copy, args := #[d, s], argTypes := #[dT, sT] }) {kd : IntKind} {lim : Nat} (e : TypeId) (hu : P.underlying dT = some (.slice e)) (hsz : (P.info? e).map (·.size) = some 1)
    {base g n c : Nat} {l : List Nat} (hown : OwnI w base kd lim e (some ⟨g, 0, none⟩) n c l) (hd : a.eval d = .slice (some ⟨g, 0, none⟩) n c)
    {A : Option Addr} {m c' : Nat} {l' : List Nat} (hr : Ints w kd lim A m c' l') (hs : a.eval s = .slice A m c')
    (h : ∀ w', OwnI w' base kd lim e (some ⟨g, 0, none⟩) n c (l'.take n ++ l.drop m) → w.grownBy w' (some g) → wpList P ops Q rest (a.put o.dst (goInt (Nat.min m n))) w') :
    wpList P ops Q (o :: rest) a w := by
  have hln := hown.len
  have hlm := hr.len
  rcases Nat.eq_zero_or_pos (Nat.min m n) with h0 | h0
  · refine wpList_copy_nothing hgd d s dT sT ho e hu hsz _ _ n c m c' hd hs h0 ?_
    have := h w (by
      have hz : l'.take n ++ l.drop m = l := by
        rcases Nat.eq_zero_or_pos m with rfl | hm
        · rw [List.eq_nil_of_length_eq_zero hlm]; simp
        · have hn : n = 0 := by
            rcases Nat.eq_zero_or_pos n with hn | hn
            · exact hn
            · have : 0 < Nat.min m n := Nat.lt_min.2 ⟨hm, hn⟩
              omega
          subst hn
          rw [List.eq_nil_of_length_eq_zero hln]; simp
      rw [hz]; exact hown) (World.grownBy.refl w _)
    rw [h0] at this
    exact this
  · have hm : 0 < m := Nat.lt_of_lt_of_le h0 (Nat.min_le_left ..)
    have hn : 0 < n := Nat.lt_of_lt_of_le h0 (Nat.min_le_right ..)
    obtain ⟨b, o', rfl, hb, hc⟩ := hr.rd.at_ hm
    rcases hown.own.form with ⟨h, _⟩ | ⟨g', cur, he, hbg, hblk, hnc, hmx, hcs, htk⟩
    · cases h
    · cases he
      have hlc : ((l'.take n).map fun x : Nat => Value.int kd (x : Int)).length = Nat.min m n := by
        rw [List.length_map, List.length_take, hlm, Nat.min_comm]
      refine wpList_copy_own hgd d s dT sT ho e hu hsz g 0 n c ⟨b, o', none⟩ m c' hd hs cur e hblk.is ((l'.take n).map fun x : Nat => .int kd (x : Int)) hlc ?_ (by rw [hlc, hcs]; exact Nat.le_trans (Nat.zero_add _ ▸ Nat.min_le_right m n) hnc) (ints_one kd _) ?_
      · intro j v hv
        rw [add_plain]
        refine hc j v ?_
        rw [List.map_take, List.getElem?_take] at hv
        split at hv
        · exact hv
        · cases hv
      · have hgrow : w.grownBy (w.setRow g (cur.toList.take 0 ++ (((l'.take n).map fun x : Nat => Value.int kd (x : Int)) ++ cur.toList.drop (0 + ((l'.take n).map fun x : Nat => Value.int kd (x : Int)).length))).toArray) (some g) :=
          ⟨rfl, rfl, rfl, by simp [World.setRow], fun k _ hk => setRow_other w g k _ (fun e => hk (by rw [e]))⟩
        have hblk' := setRow_heap w g cur (cur.toList.take 0 ++ (((l'.take n).map fun x : Nat => Value.int kd (x : Int)) ++ cur.toList.drop (0 + ((l'.take n).map fun x : Nat => Value.int kd (x : Int)).length))).toArray e _ hblk.is
        rw [show goInt ((l'.take n).map fun x : Nat => Value.int kd (x : Int)).length = goInt (Nat.min m n) by rw [hlc]]
        refine h _ ⟨Own.of_blk hbg ⟨hblk'⟩ hnc hmx ?_ ?_, ?_⟩ hgrow
        · have := Nat.min_le_right m n
          simp [hcs]; omega
        · have h1 := Nat.min_le_right m n
          simp only [List.take_zero, List.nil_append, Nat.zero_add, hlc]
          rw [List.map_append, List.take_append, hlc, List.take_of_length_le (by rw [hlc]; exact h1)]
          congr 1
          rw [List.map_drop, ← htk]
          rcases Nat.le_total m n with hmn' | hmn'
          · rw [show m.min n = m from Nat.min_eq_left hmn', List.take_drop]
            congr 2
            omega
          · rw [show m.min n = n from Nat.min_eq_right hmn', Nat.sub_self, List.take_zero, List.drop_eq_nil_of_le]
            simp; omega
        · intro x hx
          rcases List.mem_append.1 hx with hx | hx
          · exact hr.lt x (List.mem_of_mem_take hx)
          · exact hown.lt x (List.mem_of_mem_drop hx)
end
end Go.Proofs.YticheiocmhaakaaDoor
