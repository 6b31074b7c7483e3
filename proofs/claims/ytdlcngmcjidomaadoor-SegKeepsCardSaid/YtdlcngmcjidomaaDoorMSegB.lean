/- The cells of a segment, one by one. No condition. -/
import Derived.Test.YtdlcngmcjidomaaDoorMSegA
import Derived.Test.YtdlcngmcjidomaaDoorRangeF
import Derived.Deep.DeepCutAuto
import Derived.Deep.CutBlock
namespace Go.Proofs.YtdlcngmcjidomaaDoor
set_option linter.unusedSimpArgs false
set_option linter.unusedVariables false
open Go.RowKit Go.Shelf
attribute [local go_sem] Oper.semAt_some

/-- What the iterator reads. -/
structure Src (W : World) (g h Bc first n : Nat) (s : DSt) : Prop where
  disk : ∃ T, DiskAt W T g s
  seg : ∃ gn e tp, Blk W h 67 (segV g ⟨first, n, gn, e, tp⟩)
  box : Blk W Bc 28 #[.pointer (some ⟨h, 0, none⟩)]
def CTold.At (s : DSt) (first k : Nat) : List Nat × Int := s.read ((first : Int) + (k : Int))
/-- What it tells. -/
structure CTold (s : DSt) (first n k : Nat) (x : Nat × CEl) (W : World) : Prop where
  lt : k < n
  i : x.1 = k
  is : x.2.x = Cl.dec (s.read ((first + k : Nat) : Int)).1
  in_ : x.2.In W
  fi : FI W x.2.A x.2.n x.2.c x.2.x.data
def clEnc (x : Nat × CEl) : Array Value := #[.int .i64 (x.1 : Int), .agg #[.int .u32 (x.2.x.gen : Int), .int .u32 (x.2.x.seq : Int), .int .i64 x.2.x.part, .int .i64 x.2.x.parts, .slice x.2.A x.2.n x.2.c]]
theorem read_len2 {s : DSt} (h : s.Wf) (i : Int) : (s.read i).1.length ≤ 64 := by
  have hc : ∀ k, (s.cur k).length ≤ 64 := fun k => by
    unfold DSt.cur
    have h1 : ∀ (p : List (Nat × List Nat)) (d : List Nat), (∀ x ∈ p, x.2.length = 64) → d.length ≤ 64 → (DSt.lastOf p k d).length ≤ 64 := by
      intro p
      induction p with
      | nil => intro d _ hd; exact hd
      | cons x xs ih =>
        intro d hx hd
        rw [DSt.lastOf_cons]
        refine ih _ (fun y hy => hx y (List.mem_cons_of_mem _ hy)) ?_
        split
        · rw [hx x (List.mem_cons_self ..)]; exact Nat.le_refl _
        · exact hd
    refine h1 _ _ (fun x hx => (h.pend x hx).2) ?_
    rw [List.getD_eq_getElem?_getD]
    cases hk : s.sure[k]? with
    | none => exact Nat.zero_le _
    | some l => rcases h.sure l (List.mem_of_getElem? hk) with e | e <;> simp [e]
  unfold DSt.read
  split
  · exact Nat.zero_le _
  · split
    · split
      · exact Nat.zero_le _
      · exact hc _
    · exact Nat.zero_le _
theorem dec_rng {l : List Nat} (hl : ∀ x ∈ l, x < 256) : (-9223372036854775808 ≤ (Cl.dec l).part ∧ (Cl.dec l).part ≤ 9223372036854775807) ∧ (-9223372036854775808 ≤ (Cl.dec l).parts ∧ (Cl.dec l).parts ≤ 9223372036854775807) ∧ (Cl.dec l).data.length ≤ l.length := by
  have hg : ∀ i, l.getD i 0 < 256 := fun i => by
    rw [List.getD_eq_getElem?_getD]
    cases h : l[i]? with
    | none => exact Nat.zero_lt_succ _
    | some x => exact hl x (List.mem_of_getElem? h)
  unfold Cl.dec
  split
  · have h1 := hg 12
    have h2 := hg 13
    refine ⟨⟨?_, ?_⟩, ⟨?_, ?_⟩, ?_⟩
    · show _ ≤ ((l.getD 12 0 : Nat) : Int); omega
    · show ((l.getD 12 0 : Nat) : Int) ≤ _; omega
    · show _ ≤ ((l.getD 13 0 : Nat) : Int); omega
    · show ((l.getD 13 0 : Nat) : Int) ≤ _; omega
    · show ((l.drop 15).take _).length ≤ _
      rw [List.length_take, List.length_drop]; omega
  · exact ⟨by decide, by decide, Nat.zero_le _⟩
/-- A struct's store leaves bytes as they are. -/
theorem FI.put {w w' : World} {A : Option Addr} {n c k : Nat} {l : List Nat} {cs : Array Value} (h : FI w A n c l) (hg : w.grownBy w' (some k)) (hk : Blk w k 73 cs) : FI w' A n c l := by
  have hne : 0 < n → ∀ ad, A = some ad → ∃ cs', Blk w ad.block 5 cs' ∧ ad.block ≠ k := fun hn ad e => by
    obtain ⟨cs', hb⟩ := h.far hn ad e
    exact ⟨cs', hb, hb.type_ne hk (by decide)⟩
  refine ⟨⟨⟨h.ints.rd.len, h.ints.rd.cap, fun hn => ?_⟩, h.ints.lt⟩, fun hn ad e => ?_⟩
  · obtain ⟨b, o, e, hb, hc⟩ := h.ints.rd.at_ hn
    obtain ⟨cs', hb', hne'⟩ := hne hn _ e
    exact ⟨b, o, e, Nat.lt_of_lt_of_le hb hg.size, fun j u hu => (World.cell?_of_block (a := ⟨b, o + j, none⟩) (hg.block b hb (fun e => hne' (by injection e)))).trans (hc j u hu)⟩
  · obtain ⟨cs', hb', hne'⟩ := hne hn _ e
    exact ⟨cs', hb'.grown hg (fun e => hne' (by injection e))⟩
theorem dec_read {s : DSt} {i : Int} (h : (s.read i).2 ≠ 0) : Cl.dec (s.read i).1 = Cl.zero := by
  have e : (s.read i).1 = [] := by
    revert h
    unfold DSt.read
    split
    · intro _; rfl
    · split
      · split
        · intro _; rfl
        · intro h; exact absurd rfl h
      · intro _; rfl
  rw [e, SegSt.dec_nil]

set_option maxRecDepth 100000 in
theorem cells_any (h : Nat) (w : World) :
    Calls Tryd.prog 34 #[.pointer (some ⟨h, 0, none⟩)] w fun e w' => e = .returned (.func (.func 55) #[] #[.pointer (some ⟨w.heap.size, 0, none⟩)]) ∧ w' = w.alloc (.cells #[.pointer (some ⟨h, 0, none⟩)] 28) := by
  have hmf : ∀ (fn : Fn) (first cap : Array Value) (w : World), (Instr.makeFunc fn first cap).run Tryd.prog w = .ok (.func fn first cap) w := fun _ _ _ _ => rfl
  go_enter Tryd.func34, Tryd.ntmps34
  go_wp2_with fail
  go_ret
  exact ⟨rfl, rfl⟩

set_option maxRecDepth 100000 in
set_option maxHeartbeats 6400000 in
theorem cells1_in (m : Nat) (hm : 1 ≤ m) (l Bc g h first n : Nat) (s : DSt) (hf : first + n ≤ 512) (J : List (Nat × CEl) → World → Prop)
    (hJ : ∀ p A B, J p A → Below A.heap.size A B → J p B) (hS : ∀ p A, J p A → Src A g h Bc first n s)
    (hY : ∀ pre x W, J pre W → CTold s first n pre.length x W → YieldAt Fence.wide (m - 1) Tryd.prog l (clEnc x) W fun e W' => e = .returned (.bool true) ∧ J (pre ++ [x]) W')
    (W : World) (h0 : J [] W) :
    CallsIn Fence.wide m Tryd.prog 55 #[.func (.yield l) #[] #[], .pointer (some ⟨Bc, 0, none⟩)] W fun e W' => (∃ v, e = .returned v) ∧ ∃ xs, J xs W' ∧ xs.length = n := by
  have S0 := hS _ _ h0
  obtain ⟨gn, e, tp, hB0⟩ := S0.seg
  have cb : W.cell? ⟨Bc, 0, none⟩ = some (.pointer (some ⟨h, 0, none⟩)) := S0.box.cell 0
  have c2 : W.cell? ⟨h, 2, none⟩ = some (.int .i64 (n : Int)) := hB0.cell 2
  clear hB0 S0
  refine callsIn_of_wp Tryd.func55 rfl trivial ?_ rfl
  simp only [Tryd.ntmps55, List.size_toArray, List.length_cons, List.length_nil, Nat.reduceAdd, Nat.reduceSub, Array.replicate_succ, Array.replicate_zero, List.push_toArray, List.append_toArray, List.nil_append, List.cons_append]
  gi_wp2
  clear cb c2
  gi_loopw [11] (fun i wr => ∃ pre : List (Nat × CEl), pre.length ≤ n ∧ i = .int .i64 (pre.length : Int) ∧ J pre wr) (fun i _ => n - (intOf i).toNat)
  case atStart => exact ⟨[], Nat.zero_le _, rfl, h0⟩
  case round =>
    obtain ⟨pre, hk, rfl, hJs⟩ := hrel
    obtain ⟨k, hkk⟩ : ∃ k, pre.length = k := ⟨_, rfl⟩
    have HK := Lib.hid hkk
    rw [hkk] at hk ⊢
    clear hkk
    by_cases hlt : k < n
    · have hlti : (k : Int) < (n : Int) := by omega
      have S1 := hS _ _ hJs
      obtain ⟨T, D⟩ := S1.disk
      obtain ⟨gn, e, tp, hB⟩ := S1.seg
      have hBx := S1.box
      have hZ := Blk.new wr 73 #[.int .u32 0, .int .u32 0, .int .i64 0, .int .i64 0, .slice none 0 0]
      have hbz : Below wr.heap.size wr (wr.alloc (.cells #[.int .u32 0, .int .u32 0, .int .i64 0, .int .i64 0, .slice none 0 0] 73)) := (Below.refl _ _).alloc (Nat.le_refl _) _
      have hlb := hB.lt
      have hlx := hBx.lt
      have HH := Lib.hid (And.intro hJs (And.intro (D.below hbz) (And.intro (hB.below hbz hlb) (And.intro (hBx.below hbz hlx) (And.intro hZ hbz)))))
      clear hJs S1 D hB hBx hZ hbz
      gi_wp2
      refine wpIn_wide.2 ?_
      have hw : IntKind.i64.wrap ((first : Int) + (k : Int)) = ((first + k : Nat) : Int) := by rw [IntWalk.i64_in _ (by omega)]; omega
      have hj := HH.out.1
      have D3 := HH.out.2.1.below ((Below.refl _ _).drew)
      have hB := HH.out.2.2.1.drew
      have hBx := HH.out.2.2.2.1.drew
      have hZ := HH.out.2.2.2.2.1.drew
      have hbz := HH.out.2.2.2.2.2.drew
      have c0 := hB.cell 0
      have c1 := hB.cell 1
      have cb := hBx.cell 0
      simp only [segV, List.getElem?_toArray, List.getElem?_cons_zero, List.getElem?_cons_succ] at c0 c1 cb
      have s0 : (fun W : World => W.cell? ⟨Bc, 0, none⟩ = some (.pointer (some ⟨h, 0, none⟩)) ∧ W.cell? ⟨h, 0, none⟩ = some (.pointer (some ⟨g, 0, none⟩)) ∧ W.cell? ⟨h, 1, none⟩ = some (.int .i64 (first : Int))) _ := ⟨cb, c0, c1⟩
      have LT := Lib.hid (And.intro hBx.lt hB.lt)
      have HH2 := Lib.hid (And.intro hj (And.intro hBx (And.intro hB (And.intro hZ hbz))))
      clear HH hj hB hBx hbz hZ c0 c1 cb
      generalize hwd : World.drew _ = w5 at *
      refine wp_region_late [] (fun W : World => W.cell? ⟨Bc, 0, none⟩ = some (.pointer (some ⟨h, 0, none⟩)) ∧ W.cell? ⟨h, 0, none⟩ = some (.pointer (some ⟨g, 0, none⟩)) ∧ W.cell? ⟨h, 1, none⟩ = some (.int .i64 (first : Int))) (by kernel_rfl) ?_
      rw [hwd]
      clear hwd
      refine wpAnyL_take (i := 0) (v := ?_) rfl (by kernel_rfl) (by kernel_rfl) (by kernel_rfl) (by kernel_rfl) (by kernel_rfl) (fun _ _ _ h => h) (Or.inl ⟨by kernel_rfl, ?_⟩) s0 ?_
      rotate_left
      · rintro w0 ⟨h1_, h2_, h3_⟩; go_simp; (try with_reducible rfl)
      try simp only [Act.put, List.getElem_toArray, List.getElem_cons_succ, List.getElem_cons_zero, List.setIfInBounds_toArray, List.set_cons_zero, List.set_cons_succ]
      refine wpAnyL_take (i := 1) (v := ?_) rfl (by kernel_rfl) (by kernel_rfl) (by kernel_rfl) (by kernel_rfl) (by kernel_rfl) (fun _ _ _ h => h) (Or.inl ⟨by kernel_rfl, ?_⟩) s0 ?_
      rotate_left
      · rintro w0 ⟨h1_, h2_, h3_⟩; go_simp; (try with_reducible rfl)
      try simp only [Act.put, List.getElem_toArray, List.getElem_cons_succ, List.getElem_cons_zero, List.setIfInBounds_toArray, List.set_cons_zero, List.set_cons_succ]
      refine wpAnyL_take (i := 2) (v := ?_) rfl (by kernel_rfl) (by kernel_rfl) (by kernel_rfl) (by kernel_rfl) (by kernel_rfl) (fun _ _ _ h => h) (Or.inl ⟨by kernel_rfl, ?_⟩) s0 ?_
      rotate_left
      · rintro w0 ⟨h1_, h2_, h3_⟩; go_simp; (try with_reducible rfl)
      try simp only [Act.put, List.getElem_toArray, List.getElem_cons_succ, List.getElem_cons_zero, List.setIfInBounds_toArray, List.set_cons_zero, List.set_cons_succ]
      refine wpAnyL_take (i := 3) (v := ?_) rfl (by kernel_rfl) (by kernel_rfl) (by kernel_rfl) (by kernel_rfl) (by kernel_rfl) (fun _ _ _ h => h) (Or.inl ⟨by kernel_rfl, ?_⟩) s0 ?_
      rotate_left
      · rintro w0 ⟨h1_, h2_, h3_⟩; go_simp; (try with_reducible rfl)
      try simp only [Act.put, List.getElem_toArray, List.getElem_cons_succ, List.getElem_cons_zero, List.setIfInBounds_toArray, List.set_cons_zero, List.set_cons_succ]
      refine wpAnyL_take (i := 4) (v := ?_) rfl (by kernel_rfl) (by kernel_rfl) (by kernel_rfl) (by kernel_rfl) (by kernel_rfl) (fun _ _ _ h => h) (Or.inl ⟨by kernel_rfl, ?_⟩) s0 ?_
      rotate_left
      · rintro w0 ⟨h1_, h2_, h3_⟩; go_simp; (try with_reducible rfl)
      try simp only [Act.put, List.getElem_toArray, List.getElem_cons_succ, List.getElem_cons_zero, List.setIfInBounds_toArray, List.set_cons_zero, List.set_cons_succ]
      refine wpAnyL_take (i := 5) (v := ?_) rfl (by kernel_rfl) (by kernel_rfl) (by kernel_rfl) (by kernel_rfl) (by kernel_rfl) (fun _ _ _ h => h) (Or.inl ⟨by kernel_rfl, ?_⟩) s0 ?_
      rotate_left
      · rintro w0 ⟨h1_, h2_, h3_⟩; go_simp; (try with_reducible rfl)
      try simp only [Act.put, List.getElem_toArray, List.getElem_cons_succ, List.getElem_cons_zero, List.setIfInBounds_toArray, List.set_cons_zero, List.set_cons_succ]
      refine wpAnyL_take (i := 6) (v := ?_) rfl (by kernel_rfl) (by kernel_rfl) (by kernel_rfl) (by kernel_rfl) (by kernel_rfl) (fun _ _ _ h => h) (Or.inl ⟨by kernel_rfl, ?_⟩) s0 ?_
      rotate_left
      · rintro w0 ⟨h1_, h2_, h3_⟩; go_simp; (try with_reducible rfl)
      try simp only [Act.put, List.getElem_toArray, List.getElem_cons_succ, List.getElem_cons_zero, List.setIfInBounds_toArray, List.set_cons_zero, List.set_cons_succ]
      refine wpAnyL_take (i := 7) (v := ?_) rfl (by kernel_rfl) (by kernel_rfl) (by kernel_rfl) (by kernel_rfl) (by kernel_rfl) (fun _ _ _ h => h) (Or.inl ⟨by kernel_rfl, ?_⟩) s0 ?_
      rotate_left
      · rintro w0 ⟨h1_, h2_, h3_⟩; go_simp; (try with_reducible rfl)
      try simp only [Act.put, List.getElem_toArray, List.getElem_cons_succ, List.getElem_cons_zero, List.setIfInBounds_toArray, List.set_cons_zero, List.set_cons_succ]
      refine wpAnyL_take (i := 8) (v := ?_) rfl (by kernel_rfl) (by kernel_rfl) (by kernel_rfl) (by kernel_rfl) (by kernel_rfl) (fun _ _ _ h => h) (Or.inl ⟨by kernel_rfl, ?_⟩) s0 ?_
      rotate_left
      · rintro w0 ⟨h1_, h2_, h3_⟩; go_simp; (try with_reducible rfl)
      try simp only [Act.put, List.getElem_toArray, List.getElem_cons_succ, List.getElem_cons_zero, List.setIfInBounds_toArray, List.set_cons_zero, List.set_cons_succ]
      refine wpAnyL_take (i := 9) (v := ?_) rfl (by kernel_rfl) (by kernel_rfl) (by kernel_rfl) (by kernel_rfl) (by kernel_rfl) (fun _ _ _ h => h) (Or.inl ⟨by kernel_rfl, ?_⟩) s0 ?_
      rotate_left
      · rintro w0 ⟨h1_, h2_, h3_⟩; go_simp; (try with_reducible rfl)
      try simp only [Act.put, List.getElem_toArray, List.getElem_cons_succ, List.getElem_cons_zero, List.setIfInBounds_toArray, List.set_cons_zero, List.set_cons_succ]
      refine wpAnyL_one (i := 10) (by kernel_rfl) rfl (fun K hK => ?_)
      go_simp
      refine (dread_any D3 ((first : Int) + (k : Int))).mono ?_; rintro e w6 ⟨A6, n6, c6, rfl, hx6, hb6⟩
      have s1 : (fun W : World => W.cell? ⟨Bc, 0, none⟩ = some (.pointer (some ⟨h, 0, none⟩)) ∧ W.cell? ⟨h, 0, none⟩ = some (.pointer (some ⟨g, 0, none⟩)) ∧ W.cell? ⟨h, 1, none⟩ = some (.int .i64 (first : Int))) w6 := ⟨(hb6.cell (p := ⟨Bc, 0, none⟩) LT.out.1).trans s0.1, (hb6.cell (p := ⟨h, 0, none⟩) LT.out.2).trans s0.2.1, (hb6.cell (p := ⟨h, 1, none⟩) LT.out.2).trans s0.2.2⟩
      go_wp2_with fail
      refine hK.out _ _ (fun _ => s1) ?_
      clear hK K
      try simp only [Act.put, List.getElem_toArray, List.getElem_cons_succ, List.getElem_cons_zero, List.setIfInBounds_toArray, List.set_cons_zero, List.set_cons_succ]
      refine wpAnyL_take (i := 11) (v := ?_) rfl (by kernel_rfl) (by kernel_rfl) (by kernel_rfl) (by kernel_rfl) (by kernel_rfl) (fun _ _ _ h => h) (Or.inl ⟨by kernel_rfl, ?_⟩) s1 ?_
      rotate_left
      · rintro w0 ⟨h1_, h2_, h3_⟩; go_simp; (try with_reducible rfl)
      try simp only [Act.put, List.getElem_toArray, List.getElem_cons_succ, List.getElem_cons_zero, List.setIfInBounds_toArray, List.set_cons_zero, List.set_cons_succ]
      refine wpAnyL_take (i := 12) (v := ?_) rfl (by kernel_rfl) (by kernel_rfl) (by kernel_rfl) (by kernel_rfl) (by kernel_rfl) (fun _ _ _ h => h) (Or.inl ⟨by kernel_rfl, ?_⟩) s1 ?_
      rotate_left
      · rintro w0 ⟨h1_, h2_, h3_⟩; go_simp; (try with_reducible rfl)
      try simp only [Act.put, List.getElem_toArray, List.getElem_cons_succ, List.getElem_cons_zero, List.setIfInBounds_toArray, List.set_cons_zero, List.set_cons_succ]
      refine wpAnyL_take (i := 13) (v := ?_) rfl (by kernel_rfl) (by kernel_rfl) (by kernel_rfl) (by kernel_rfl) (by kernel_rfl) (fun _ _ _ h => h) (Or.inl ⟨by kernel_rfl, ?_⟩) s1 ?_
      rotate_left
      · rintro w0 ⟨h1_, h2_, h3_⟩; go_simp; (try with_reducible rfl)
      try simp only [Act.put, List.getElem_toArray, List.getElem_cons_succ, List.getElem_cons_zero, List.setIfInBounds_toArray, List.set_cons_zero, List.set_cons_succ]
      refine wpAnyL_one (i := 14) (by kernel_rfl) rfl (fun K hK => ?_)
      go_simp
      refine hK.out _ _ (fun _ => s1) ?_
      clear hK K
      try simp only [Act.put, List.getElem_toArray, List.getElem_cons_succ, List.getElem_cons_zero, List.setIfInBounds_toArray, List.set_cons_zero, List.set_cons_succ]
      refine wpAnyL_one (i := 15) (by kernel_rfl) rfl (fun K hK => ?_)
      go_simp
      refine hK.out _ _ (fun _ => s1) ?_
      clear hK K
      try simp only [Act.put, List.getElem_toArray, List.getElem_cons_succ, List.getElem_cons_zero, List.setIfInBounds_toArray, List.set_cons_zero, List.set_cons_succ]
      refine wpAnyL_done (by kernel_rfl) ?_ _
      have hwl := hx6.len
      dsimp only at hwl
      have hB6 := HH2.out.2.2.1.below hb6 LT.out.2
      have hZ6 := HH2.out.2.2.2.1.below hb6 HH2.out.2.2.2.1.lt
      have hb6' := below_step HH2.out.2.2.2.2 hb6 HH2.out.2.2.2.2.size
      have hrl := read_len2 (D3.wf) ((first : Int) + (k : Int))
      have HN := Lib.hid (And.intro (show CTold.At s first k = ((s.read ((first : Int) + (k : Int))).1, (s.read ((first : Int) + (k : Int))).2) from rfl) (And.intro (@dec_read s ((first : Int) + (k : Int))) hrl))
      have HX := Lib.hid (And.intro HH2.out.1 (And.intro hb6' (And.intro hZ6 hx6)))
      clear HH2 hB6 hZ6 hb6 hx6 s0 s1 D3 LT
      generalize (s.read ((first : Int) + (k : Int))).1 = rl at *
      generalize (s.read ((first : Int) + (k : Int))).2 = rc at *
      rename_i hK5
      by_cases hrc : rc = 0
      · have q0 : (rc == 0) = true := by simp [hrc]
        clear hrc
        refine hK5 _ _ (wpIn_wide.2 ?_)
        go_wp2_with fail
        refine (decode_any (HX.out.2.2.2.ints) (by show n6 ≤ _; omega)).mono ?_
        unfold DecPost
        rintro e w7 ⟨A7, m7, c7, rfl, hf7, hb7⟩
        generalize Cl.code rl = cd7 at *
        obtain ⟨cx, hcx⟩ : ∃ cx, Cl.dec rl = cx := ⟨_, rfl⟩
        rw [hcx] at hf7 ⊢
        obtain ⟨g1, g2, p1, p2, d1⟩ := cx
        have hok := Cl.dec_ok (l := rl) HX.out.2.2.2.own.lt
        have hrg := dec_rng (l := rl) HX.out.2.2.2.own.lt
        have hml := hf7.ints.len
        rw [hcx] at hok hrg
        dsimp only at hf7 hrg hml ⊢
        have HQ := Lib.hid (And.intro HX.out.1 (And.intro (below_step HX.out.2.1 hb7 HX.out.2.1.size) (And.intro hf7 (And.intro hok (And.intro hrg hml)))))
        have hZ7 := HX.out.2.2.1.below hb7 HX.out.2.2.1.lt
        have HR := Lib.hid (And.intro HN.out hcx)
        have HZ7 := Lib.hid hZ7
        clear HX HN hf7 hok hrg hcx hb7 hml
        go_wp2_with (refine wpList_store_blk rfl 73 (.tmp 4) (.tmp 33) rfl wr.heap.size rfl 73 _ #[.int .u32 (g1 : Int), .int .u32 (g2 : Int), .int .i64 p1, .int .i64 p2, .slice A7 m7 c7] rfl hZ7 cell_size5 rfl (by simp [Value.oneCell']) ?_; intro w8 hZ8 hg8; clear hZ7)
        have hJ8 : J pre w8 := hJ _ _ _ HQ.out.1 (HQ.out.2.1.grown hg8 HQ.out.2.1.size (fun k e => by cases e; exact Nat.le_refl _))
        have hT8 : CTold s first n k (k, ⟨⟨g1, g2, p1, p2, d1⟩, A7, m7, c7⟩) w8 := by
          have hfi : FI w8 A7 m7 c7 d1 := HQ.out.2.2.1.put hg8 HZ7.out
          refine ⟨hlt, rfl, ?_, ⟨hfi.ints, HQ.out.2.2.2.1.gen, HQ.out.2.2.2.1.seq, HQ.out.2.2.2.2.1.1, HQ.out.2.2.2.2.1.2.1, by have := HQ.out.2.2.2.2.1.2.2; have := HQ.out.2.2.2.2.2; have := HR.out.1.2.2; dsimp only at *; omega⟩, hfi⟩
          have h1 := HR.out.1.1
          unfold CTold.At at h1
          rw [← Int.natCast_add] at h1
          rw [h1]
          exact HR.out.2.symm
        clear HQ HR hg8
        obtain ⟨fn, tmps, assign, body, hy, hRd⟩ := hY pre (k, ⟨⟨g1, g2, p1, p2, d1⟩, A7, m7, c7⟩) w8 hJ8 (by rw [HK.out]; exact hT8)
        unfold clEnc at hy
        dsimp only at hy
        have k0 := hZ8.cell 0
        have k1 := hZ8.cell 1
        have k2 := hZ8.cell 2
        have k3 := hZ8.cell 3
        have k4 := hZ8.cell 4
        simp only [List.getElem?_toArray, List.getElem?_cons_zero, List.getElem?_cons_succ] at k0 k1 k2 k3 k4
        clear hZ8 hJ8 hT8
        gi_wp2
        refine hRd.mono ?_
        rintro e W3 ⟨rfl, hJ3⟩
        have HJ := Lib.hid hJ3
        clear hJ3 hy hRd k0 k1 k2 k3 k4
        gi_wp2
        go_roundw
        case rel => exact ⟨pre ++ [(k, ⟨⟨g1, g2, p1, p2, d1⟩, A7, m7, c7⟩)], by rw [List.length_append, HK.out]; simp; omega, by rw [List.length_append, HK.out]; go_num, HJ.out⟩
        case measure => simp [intOf]; omega
      · have q0 : (rc == 0) = false := by simpa using hrc
        have HR := Lib.hid hrc
        have hZ8 := HX.out.2.2.1
        have hJ8 : J pre w6 := hJ _ _ _ HX.out.1 HX.out.2.1
        have hT8 : CTold s first n k (k, ⟨⟨0, 0, 0, 0, []⟩, none, 0, 0⟩) w6 := by
          refine ⟨hlt, rfl, ?_, ⟨Ints.nil_ .., by show (0 : Nat) < _; decide, by show (0 : Nat) < _; decide, by show _ ≤ (0 : Int) ∧ (0 : Int) ≤ _; decide, by show _ ≤ (0 : Int) ∧ (0 : Int) ≤ _; decide, by show (0 : Nat) ≤ _; decide⟩, FI.nil_ ..⟩
          have h1 := HN.out.1
          unfold CTold.At at h1
          rw [← Int.natCast_add] at h1
          rw [h1]
          exact (HN.out.2.1 HR.out).symm
        generalize hw8 : w6 = w8 at *
        clear HX HN hrc hw8
        obtain ⟨fn, tmps, assign, body, hy, hRd⟩ := hY pre (k, ⟨⟨0, 0, 0, 0, []⟩, none, 0, 0⟩) w8 hJ8 (by rw [HK.out]; exact hT8)
        unfold clEnc at hy
        dsimp only at hy
        have hy : (Instr.yield l #[.int .i64 (k : Int), .agg #[.int .u32 0, .int .u32 0, .int .i64 0, .int .i64 0, .slice none 0 0]]).run Tryd.prog w8 = .ok (.round l fn tmps assign body) w8 := hy
        have k0 := hZ8.cell 0
        have k1 := hZ8.cell 1
        have k2 := hZ8.cell 2
        have k3 := hZ8.cell 3
        have k4 := hZ8.cell 4
        simp only [List.getElem?_toArray, List.getElem?_cons_zero, List.getElem?_cons_succ] at k0 k1 k2 k3 k4
        clear hZ8 hJ8 hT8
        gi_wp2
        refine hRd.mono ?_
        rintro e W3 ⟨rfl, hJ3⟩
        have HJ := Lib.hid hJ3
        clear hJ3 hy hRd k0 k1 k2 k3 k4
        gi_wp2
        go_roundw
        case rel => exact ⟨pre ++ [(k, ⟨⟨0, 0, 0, 0, []⟩, none, 0, 0⟩)], by rw [List.length_append, HK.out]; simp; omega, by rw [List.length_append, HK.out]; go_num, HJ.out⟩
        case measure => simp [intOf]; omega
    · obtain rfl : k = n := by omega
      have hlti : ¬ (k : Int) < (k : Int) := by omega
      gi_wp2
      go_end0
      exact ⟨⟨_, rfl⟩, pre, hJs, HK.out⟩
end Go.Proofs.YtdlcngmcjidomaaDoor
