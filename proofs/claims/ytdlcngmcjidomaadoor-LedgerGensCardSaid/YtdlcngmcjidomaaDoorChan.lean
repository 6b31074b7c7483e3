/- Channels in one goroutine, beside the lone walk: code of an ordinary call's frame, whose regions may hold a send or a select that need not wait. No condition. -/
import Derived.Test.YtdlcngmcjidomaaDoorBase
import Derived.Conc.LoneSelect
namespace Go.Proofs.YtdlcngmcjidomaaDoor
set_option linter.unusedSimpArgs false
set_option linter.unusedVariables false
open Go.RowKit Go.Conc

/-- As 'Code.wp', of an ordinary call's frame alone. -/
structure CodeN (P : Program) (c : Code) (Q : Exit → Act → World → Prop) (a : Act) (w : World) : Prop where
  go : ∀ (b : Frame) (k : List Item) (cs : List Frame), b.kind = .normal → ∃ e a' w', Q e a' w' ∧ Arrives P (lone (b.at a (.code c :: k)) cs w) b k cs e a' w'
/-- What is left of a region. -/
structure SemN (P : Program) (ops : Array Oper) (Q : Exit → Act → World → Prop) (l : List Nat) (a : Act) (w : World) : Prop where
  go : ∀ (b : Frame) (k : List Item) (cs : List Frame), b.kind = .normal → ∃ e a' w', Q e a' w' ∧ Arrives P (lone (b.at a (.inRegion ops l :: k)) cs w) b k cs e a' w'

section
variable {P : Program} {Q : Exit → Act → World → Prop} {a : Act} {w w1 : World} {ops : Array Oper}
theorem CodeN.of_wp {c : Code} (h : c.wp P Q a w) : CodeN P c Q a w := ⟨fun b k cs _ => h b k cs⟩
theorem CodeN.seq {x y : Code} (h : CodeN P x (Exit.then (CodeN P y Q) Q) a w) : CodeN P (.seq x y) Q a w := by
  refine ⟨fun b k cs hb => ?_⟩
  obtain ⟨e, a1, w1, hq, harr⟩ := h.go b (.code y :: k) cs hb
  cases e with
  | normal =>
    obtain ⟨e2, a2, w2, hq2, harr2⟩ := hq.go b k cs hb
    exact ⟨e2, a2, w2, hq2, .of_steps (.head step_seq harr) harr2⟩
  | _ => exact ⟨_, a1, w1, hq, .of_steps (.one step_seq) (.pass (x := .code y) rfl (fun _ _ => .inl (by simp)) harr)⟩
/-- Its first part by the lone walk. -/
theorem CodeN.seq_k {x y : Code} (h : ∀ K : Act → World → Prop, (∀ a w, CodeN P y Q a w → K a w) → x.wp P (Exit.then K Q) a w) : CodeN P (.seq x y) Q a w :=
  .seq (.of_wp (h _ fun _ _ h => h))
theorem CodeN.of_k {x y : Code} (h : ∀ K : Act → World → Prop, (∀ a w, CodeN P y Q a w → K a w) → x.wp P (Exit.then K Q) a w) : CodeN P x (Exit.then (CodeN P y Q) Q) a w :=
  .of_wp (h _ fun _ _ h => h)
theorem CodeN.of_any {x : Code} {R : Act → World → Prop} (h : ∀ K : Act → World → Prop, (∀ a w, R a w → K a w) → x.wp P (Exit.then K Q) a w) : CodeN P x (Exit.then R Q) a w :=
  .of_wp (h _ fun _ _ h => h)
theorem CodeN.cond {c : Operand} {x y : Code} {t : Bool} (hc : a.eval c = .bool t) (h : CodeN P (if t then x else y) Q a w) : CodeN P (.cond c x y) Q a w :=
  ⟨fun b k cs hb => let ⟨e, a', w', q, r⟩ := h.go b k cs hb; ⟨e, a', w', q, .of_steps (.one (step_cond hc)) r⟩⟩
theorem CodeN.block {id : Nat} {c : Code} (h : CodeN P c (Exit.inBlock id Q) a w) : CodeN P (.block id c) Q a w := by
  refine ⟨fun b k cs hb => ?_⟩
  obtain ⟨e, a1, w1, hq, harr⟩ := h.go b (.inBlock id :: k) cs hb
  cases e with
  | normal => exact ⟨.normal, a1, w1, hq, .head step_block (Steps.trans harr (.one step_inBlock))⟩
  | exit id' =>
    by_cases hid : id' = id
    · simp only [Exit.inBlock, hid, if_true] at hq
      exact ⟨.normal, a1, w1, hq, .head step_block (harr k (by simp [exitTo, hid]))⟩
    · simp only [Exit.inBlock, hid, if_false] at hq
      have hne : (id == id') = false := by simp; exact fun h => hid h.symm
      exact ⟨.exit id', a1, w1, hq, fun k' hk => .head step_block (harr k' (by simp [exitTo, hne, hk]))⟩
  | goto l => exact ⟨_, a1, w1, hq, fun k' hk => .head step_block (harr k' (by simp [gotoIn, hk]))⟩
  | ret => exact ⟨_, a1, w1, hq, .of_steps (.one step_block) harr⟩
  | panic ch => exact ⟨_, a1, w1, hq, .of_steps (.one step_block) harr⟩
  | outgrown => exact ⟨_, a1, w1, hq, .of_steps (b := b) (k := k) (cs := cs) (e := .outgrown) (.one step_block) harr⟩
theorem CodeN.loop {c : Code} (I : Nat → Act → World → Prop) (n : Nat) (h0 : I n a w) (round : ∀ n a w, I n a w → CodeN P c (Exit.then (fun a' w' => ∃ m, m < n ∧ I m a' w') Q) a w) : CodeN P (.loop c) Q a w := by
  refine ⟨fun b k cs hb => ?_⟩
  have key : ∀ n a w, I n a w → ∃ e a' w', Q e a' w' ∧ Arrives P (lone (b.at a (.code c :: .inLoop c :: k)) cs w) b k cs e a' w' := by
    intro n
    induction n using Nat.strongRecOn with
    | ind n ih =>
      intro a w hI
      obtain ⟨e, a1, w1, hq, harr⟩ := (round n a w hI).go b (.inLoop c :: k) cs hb
      cases e with
      | normal =>
        obtain ⟨m, hm, hI1⟩ := hq
        obtain ⟨e2, a2, w2, hq2, harr2⟩ := ih m hm a1 w1 hI1
        exact ⟨e2, a2, w2, hq2, .of_steps (Steps.trans harr (.one step_inLoop)) harr2⟩
      | _ => exact ⟨_, a1, w1, hq, .pass (x := .inLoop c) rfl (fun _ _ => .inl (by simp)) harr⟩
  obtain ⟨e, a', w', hq, harr⟩ := key n a w h0
  exact ⟨e, a', w', hq, .of_steps (.one step_loop) harr⟩
theorem CodeN.region {id : Nat} (h : SemN P ops Q (List.range ops.size) a w) : CodeN P (.region id ops false) Q a w :=
  ⟨fun b k cs hb => let ⟨e, a', w', q, r⟩ := h.go b k cs hb; ⟨e, a', w', q, .of_steps (.one step_region) r⟩⟩
theorem SemN.nil (h : Q .normal a w) : SemN P ops Q [] a w := ⟨fun _ _ _ _ => ⟨.normal, a, w, h, .one step_region_end⟩⟩
theorem SemN.of_ops {l : List Nat} (h : wpOps P ops Q l a w) : SemN P ops Q l a w := ⟨fun b k cs _ => wp_ops l a w h b k cs⟩
theorem SemN.value {i : Nat} {rest : List Nat} {o : Oper} {v : Value} (ho : ops[i]? = some o) (hw : Region.wanted o (yielded ops a.tmps) = true) (hr : (execOp a.eval o).run P w = .ok (.value v) w1) (h : SemN P ops Q rest (a.put o.dst v) w1) : SemN P ops Q (i :: rest) a w := by
  refine ⟨fun b k cs hb => ?_⟩
  obtain ⟨e, a', w', hq, harr⟩ := h.go b k cs hb
  refine ⟨e, a', w', hq, .of_steps (.one (step_lone_go ?_)) harr⟩
  have hf : (b.at a (.inRegion ops (i :: rest) :: k)).finish v = b.at (a.put o.dst v) (.inRegion ops rest :: k) := by rw [Frame.finish_at, ho]; rfl
  rw [stepG_op ho hw, ← hf]
  simp [stepG.apply, hr]
theorem SemN.pure {i : Nat} {rest : List Nat} {o : Oper} (v : Value) (ho : ops[i]? = some o) (hw : Region.wanted o (yielded ops a.tmps) = true) (hr : (execOp a.eval o).run P w = .ok (.value v) w) (h : SemN P ops Q rest (a.put o.dst v) w) : SemN P ops Q (i :: rest) a w := .value ho hw hr h
theorem SemN.comm {i : Nat} {rest : List Nat} {o : Oper} {v : Value} (ho : ops[i]? = some o)
    (hs : ∀ (b : Frame) (k : List Item) (cs : List Frame), b.kind ≠ .early → step P (solo (G (b.at a (.inRegion ops (i :: rest) :: k)) cs) w) = .next (solo (G ((b.at a (.inRegion ops (i :: rest) :: k)).finish v) cs) w1))
    (h : SemN P ops Q rest (a.put o.dst v) w1) : SemN P ops Q (i :: rest) a w := by
  refine ⟨fun b k cs hb => ?_⟩
  obtain ⟨e, a', w', hq, harr⟩ := h.go b k cs hb
  refine ⟨e, a', w', hq, .of_steps (.one ?_) harr⟩
  have hf : (b.at a (.inRegion ops (i :: rest) :: k)).finish v = b.at (a.put o.dst v) (.inRegion ops rest :: k) := by rw [Frame.finish_at, ho]; rfl
  have := hs b k cs (by rw [hb]; decide)
  rw [hf] at this
  exact this
/-- A send into a buffer with room. -/
theorem SemN.send {i : Nat} {rest : List Nat} {o : Oper} {c cap s r : Nat} {buf : Array Value} {v z : Value} {tm : Bool} (ho : ops[i]? = some o) (hw : Region.wanted o (yielded ops a.tmps) = true)
    (hr : (execOp a.eval o).run P w = .ok (.comm #[scase c v z] true .send) w) (hc : w.heap[c]? = some (.chan cap buf false s r tm)) (hroom : buf.size < cap)
    (h : SemN P ops Q rest (a.put o.dst undef) (w.setChan c cap (buf.push v) false (s + 1) r tm)) : SemN P ops Q (i :: rest) a w :=
  .comm ho (fun _ _ _ hb => step_lone_send_room (stepG_comm ho hw hb hr) hc hroom) h
/-- A select of one receive, with a default: the buffer holds something; or is empty, the channel being closed. -/
theorem SemN.sel_buf {i : Nat} {rest : List Nat} {o : Oper} {c cap s r : Nat} {buf : Array Value} {z : Value} {closed tm : Bool} (ho : ops[i]? = some o) (hw : Region.wanted o (yielded ops a.tmps) = true)
    (hr : (execOp a.eval o).run P w = .ok (.comm #[rcase c z] false .select) w) (hc : w.heap[c]? = some (.chan cap buf closed s r tm)) (hsome : 0 < buf.size)
    (h : SemN P ops Q rest (a.put o.dst (.tuple #[goInt 0, .bool true, buf.getD 0 undef])) (w.setChan c cap (buf.extract 1 buf.size) closed s (r + 1) tm)) : SemN P ops Q (i :: rest) a w :=
  .comm ho (fun _ _ _ hb => step_lone_select_recv_buf (stepG_comm ho hw hb hr) hc hsome) h
theorem SemN.sel_shut {i : Nat} {rest : List Nat} {o : Oper} {c cap s r : Nat} {z : Value} {tm : Bool} (ho : ops[i]? = some o) (hw : Region.wanted o (yielded ops a.tmps) = true)
    (hr : (execOp a.eval o).run P w = .ok (.comm #[rcase c z] false .select) w) (hc : w.heap[c]? = some (.chan cap #[] true s r tm))
    (h : SemN P ops Q rest (a.put o.dst (.tuple #[goInt 0, .bool false, z])) w) : SemN P ops Q (i :: rest) a w :=
  .comm ho (fun _ _ _ hb => step_lone_select_recv_shut (stepG_comm ho hw hb hr) hc) h
end
/-- A call out of it. -/
theorem calls_of_codeN {P : Program} {f : FuncId} {fn : Func} {c : Code} {args : Array Value} {w : World} {R : Ending → World → Prop} (hf : P.funcs[f]? = some fn) (hb : fn.body = some c) (hno : ∀ w', ¬ R .outgrown w')
    (h : CodeN P c (bodyPost P fn R) { tmps := args ++ Array.replicate (fn.ntmps - args.size) undef, defers := [] } w) : Calls P f args w R := by
  intro cs
  obtain ⟨b, hbf, hbk, henter⟩ : ∃ b : Frame, b.fn = f ∧ b.kind = .normal ∧ Frame.enter P f args .normal = b.at { tmps := args ++ Array.replicate (fn.ntmps - args.size) undef, defers := [] } [.code c] :=
    ⟨{ (default : Frame) with fn := f, kind := .normal }, rfl, rfl, by simp [Frame.enter, Frame.at, hf, hb]⟩
  obtain ⟨e, a', w', hq, harr⟩ := h.go b [] cs hbk
  rw [← henter] at harr
  subst hbf
  cases e with
  | normal =>
    obtain ⟨hd, v, hr, hR⟩ := hq
    exact ⟨.returned v, w', _, hR, Steps.trans harr (.one step_end), rfl, rfl, hd, hbk, fn, hf, hr⟩
  | ret =>
    obtain ⟨hd, v, hr, hR⟩ := hq
    obtain ⟨todo, hs⟩ := harr
    exact ⟨.returned v, w', _, hR, hs, rfl, rfl, hd, hbk, fn, hf, hr⟩
  | panic chain =>
    obtain ⟨hd, hR⟩ := hq
    obtain ⟨todo, hs⟩ := harr
    exact ⟨.panicked chain, w', _, hR, hs, rfl, rfl, hd, fn, hf⟩
  | exit id => exact hq.elim
  | goto l => exact hq.elim
  | outgrown => exact absurd hq (hno w')
end Go.Proofs.YtdlcngmcjidomaaDoor
