/- CrcUnlike: two rows of one length that differ in one to four bytes side by side have unlike sums; so have they, with the same behind both. No condition. -/
import Derived.Test.YtjdgkeajjmoglaaCrcOpens
import Derived.Laws.StructEq
namespace Go.Proofs.Ytjdgkeajjmoglaa
open Go.RowKit

theorem unlike (p a b : List Nat) (q : List Nat) (hp : ∀ x ∈ p, x < 256) (ha : ∀ x ∈ a, x < 256) (hb : ∀ x ∈ b, x < 256) (hq : ∀ x ∈ q, x < 256) (hl : a.length = b.length) (h4 : a.length ≤ 4) :
    (Crc.sum (p ++ a ++ q) = Crc.sum (p ++ b ++ q)) ↔ a = b := by
  constructor
  · intro h
    by_cases e : a = b
    · exact e
    · exact absurd h (Crc.sum_mid p a b q hp ha hb hq hl h4 e)
  · rintro rfl; rfl

theorem arr_eqIn (d : Nat) (a0 a1 a2 a3 e0 e1 e2 e3 : Nat) (w : World) : (Op.equalIn (d + 1 + 1) 38 (.agg #[.int .u8 (a0 : Int), .int .u8 (a1 : Int), .int .u8 (a2 : Int), .int .u8 (a3 : Int)]) (.agg #[.int .u8 (e0 : Int), .int .u8 (e1 : Int), .int .u8 (e2 : Int), .int .u8 (e3 : Int)])).run Try.prog w
   = .ok (decide ([a0, a1, a2, a3] = [e0, e1, e2, e3])) w := by
  have hi : ∀ a b : Int, (Op.equalIn (d + 1) 5 (.int .u8 a) (.int .u8 b)).run Try.prog w = .ok (a == b) w := fun a b => run_equalIn_int w d _ _ .u8 a b Try.underlying5
  have hp : ∀ (cs : Array Value) (i : Nat) (v : Value), cs[i]? = some v → (part 5 cs i).run Try.prog w = .ok v w := by
    intro cs i v hv
    simp [part, go_sem, hv]
  rw [Op.equalIn]
  generalize Op.equalIn (d + 1) = f at *
  simp [go_sem, Std.Legacy.Range.forIn_eq_forIn_range', List.range', hi]
  by_cases h0 : a0 = e0 <;> by_cases h1 : a1 = e1 <;> by_cases h2 : a2 = e2 <;> by_cases h3 : a3 = e3 <;>
    simp [h0, h1, h2, h3, Int.natCast_inj]
theorem arr_eql (a0 a1 a2 a3 e0 e1 e2 e3 : Nat) (w : World) : (binOp .eql 38 (.agg #[.int .u8 (a0 : Int), .int .u8 (a1 : Int), .int .u8 (a2 : Int), .int .u8 (a3 : Int)]) (.agg #[.int .u8 (e0 : Int), .int .u8 (e1 : Int), .int .u8 (e2 : Int), .int .u8 (e3 : Int)])).run Try.prog w
   = .ok (.bool (decide ([a0, a1, a2, a3] = [e0, e1, e2, e3]))) w := by
  rw [run_eql_struct, arr_eqIn 9998]
  rfl

/-- What the last expression reads, in whatever world. -/
structure Seen (w0 : World) (A3 A5 A7 A9 : Option Addr) (n3 c3 c5 n7 c7 c9 : Nat) (l3 l5 l7 l9 : List Nat) (w : World) : Prop where
  below : Below w0.heap.size w0 w
  x : Ints w .u8 256 A3 n3 c3 l3
  y : Ints w .u8 256 A5 n3 c5 l5
  z : Ints w .u8 256 A7 n7 c7 l7
  u : Ints w .u8 256 A9 n7 c9 l9
theorem Seen.step {w0 : World} {A3 A5 A7 A9 : Option Addr} {n3 c3 c5 n7 c7 c9 : Nat} {l3 l5 l7 l9 : List Nat} {w w' : World} (h : Seen w0 A3 A5 A7 A9 n3 c3 c5 n7 c7 c9 l3 l5 l7 l9 w) (hb : Below w.heap.size w w') :
    Seen w0 A3 A5 A7 A9 n3 c3 c5 n7 c7 c9 l3 l5 l7 l9 w' := ⟨below_step h.below hb h.below.size, h.x.below hb, h.y.below hb, h.z.below hb, h.u.below hb⟩
theorem Seen.drew {w0 : World} {A3 A5 A7 A9 : Option Addr} {n3 c3 c5 n7 c7 c9 : Nat} {l3 l5 l7 l9 : List Nat} {w : World} (h : Seen w0 A3 A5 A7 A9 n3 c3 c5 n7 c7 c9 l3 l5 l7 l9 w) :
    Seen w0 A3 A5 A7 A9 n3 c3 c5 n7 c7 c9 l3 l5 l7 l9 w.drew := ⟨h.below.drew, h.x.drew, h.y.drew, h.z.drew, h.u.drew⟩

set_option maxRecDepth 100000 in
set_option maxHeartbeats 1600000 in
theorem crcUnlike_any (A : Option Addr) (n c : Nat) (l : List Nat) (a0 a1 a2 a3 e0 e1 e2 e3 : Nat) (w : World) (hr : Ints w .u8 256 A n c l) (hn : n ≤ maxLen)
    (ha0 : a0 < 256) (ha1 : a1 < 256) (ha2 : a2 < 256) (ha3 : a3 < 256) (he0 : e0 < 256) (he1 : e1 < 256) (he2 : e2 < 256) (he3 : e3 < 256) :
    Calls Try.prog 7 #[.slice A n c, .agg #[.int .u8 (a0 : Int), .int .u8 (a1 : Int), .int .u8 (a2 : Int), .int .u8 (a3 : Int)], .agg #[.int .u8 (e0 : Int), .int .u8 (e1 : Int), .int .u8 (e2 : Int), .int .u8 (e3 : Int)]] w
      fun e w' => e = .returned (.bool true) ∧ Below w.heap.size w w' := by
  unfold maxLen at hn
  by_cases h3 : 1000 < n
  · go_enter Try.func7, Try.ntmps7
    go_wp2_with (go_at_call 14; refine (awake_any _).mono ?_; rintro e w1 ⟨rfl, b1⟩)
    go_ret
    exact ⟨rfl, below_step (((Below.refl _ _).alloc (Nat.le_refl _) _).alloc (by simp) _) b1 (by simp; omega)⟩
  go_enter Try.func7, Try.ntmps7
  go_wp2_with (go_at_call 14; refine (awake_any _).mono ?_; rintro e w1 ⟨rfl, b1⟩)
  have hA0 : Ints ((w.alloc (.cells #[.int .u8 (a0 : Int), .int .u8 (a1 : Int), .int .u8 (a2 : Int), .int .u8 (a3 : Int)] 38)).alloc (.cells #[.int .u8 (e0 : Int), .int .u8 (e1 : Int), .int .u8 (e2 : Int), .int .u8 (e3 : Int)] 38)) .u8 256 (some ⟨w.heap.size, 0, none⟩) 4 4 [a0, a1, a2, a3] :=
    (Ints.lit .u8 256 38 (n := 4) [a0, a1, a2, a3] rfl rfl rfl (by simp; omega)).alloc _
  have hE0 : Ints ((w.alloc (.cells #[.int .u8 (a0 : Int), .int .u8 (a1 : Int), .int .u8 (a2 : Int), .int .u8 (a3 : Int)] 38)).alloc (.cells #[.int .u8 (e0 : Int), .int .u8 (e1 : Int), .int .u8 (e2 : Int), .int .u8 (e3 : Int)] 38)) .u8 256 (some ⟨w.heap.size + 1, 0, none⟩) 4 4 [e0, e1, e2, e3] :=
    Ints.lit .u8 256 38 (n := 4) [e0, e1, e2, e3] (by simp) rfl rfl (by simp; omega)
  have hA := hA0.below b1
  have hE := hE0.below b1
  have hb0 : Below w.heap.size w w1 := below_step (((Below.refl _ _).alloc (Nat.le_refl _) _).alloc (by simp) _) b1 (by simp; omega)
  have hl1 := hr.below hb0
  have S1 := b1.size
  simp at S1
  clear hA0 hE0
  go_region_held3 (fun _ => True) (trivial)
    ((first
      | (refine step_appI _ rfl (.tmp 16) (.tmp 17) _ rfl 5 1 Try.underlying22 info_u8 (by omega) ((OwnI.empty (base := w1.heap.size) .u8 256 5 rfl (Nat.le_refl _)).drew) rfl ((hl1.alloc _).drew) rfl (by omega) (by simp) ?_; intro A2 c2 w2 o2 g2 _)
      | (refine step_appI _ rfl (.tmp 18) (.tmp 19) _ rfl 5 1 Try.underlying22 info_u8 (by omega) o2 rfl (hA.below (below_own (((Below.refl w1.heap.size w1).alloc (Nat.le_refl _) _).drew) g2 (by simp) (by simp))) rfl (by omega) (by have := g2.size; simp at this; omega) ?_; intro A3 c3 w3 o3 g3 _)))
  have b3 : Below w1.heap.size w1 w3 := below_own (below_own (((Below.refl w1.heap.size w1).alloc (Nat.le_refl _) _).drew) g2 (by simp) (by simp)) g3 (by have := g2.size; simp at this; omega) (fun ad h => (o2.lt_ ad h).1)
  simp only [List.nil_append, Nat.zero_add] at o3
  have hb3 := below_step hb0 b3 hb0.size
  have hE3 := hE.below b3
  have hl3 := hr.below hb3
  have S3 := b3.size
  clear o2 g2 g3
  go_wp2_with fail
  go_region_held3 (fun _ => True) (trivial)
    ((first
      | (refine step_appI _ rfl (.tmp 21) (.tmp 22) _ rfl 5 1 Try.underlying22 info_u8 (by omega) ((OwnI.empty (base := w3.heap.size) .u8 256 5 rfl (Nat.le_refl _)).drew) rfl ((hl3.alloc _).drew) rfl (by omega) (by simp) ?_; intro A4 c4 w4 o4 g4 _)
      | (refine step_appI _ rfl (.tmp 23) (.tmp 24) _ rfl 5 1 Try.underlying22 info_u8 (by omega) o4 rfl (hE3.below (below_own (((Below.refl w3.heap.size w3).alloc (Nat.le_refl _) _).drew) g4 (by simp) (by simp))) rfl (by omega) (by have := g4.size; simp at this; omega) ?_; intro A5 c5 w5 o5 g5 _)))
  have b5 : Below w3.heap.size w3 w5 := below_own (below_own (((Below.refl w3.heap.size w3).alloc (Nat.le_refl _) _).drew) g4 (by simp) (by simp)) g5 (by have := g4.size; simp at this; omega) (fun ad h => (o4.lt_ ad h).1)
  simp only [List.nil_append, Nat.zero_add] at o5
  have hb5 := below_step hb3 b5 hb3.size
  have hl5 := hr.below hb5
  have x5 := (o3.below b5).ints
  have y5 := o5.ints
  have S5 := b5.size
  clear o4 g4 g5 hE3 hl3
  go_wp2_with (first
      | (at_builtin; refine wpList_appI _ rfl (.tmp 26) (.tmp 27) _ rfl 5 1 Try.underlying22 info_u8 (by omega) (OwnI.empty (base := w5.heap.size) .u8 256 5 rfl (Nat.le_refl _)) rfl (x5.alloc _) rfl (by omega) (by simp) ?_; intro A6 c6 w6 o6 g6 _; have b6 : Below w5.heap.size w5 w6 := below_own ((Below.refl w5.heap.size w5).alloc (Nat.le_refl _) _) g6 (by simp) (by simp); have S6 := b6.size; simp only [List.nil_append, Nat.zero_add] at o6)
      | (at_builtin; refine wpList_appI _ rfl (.tmp 28) (.tmp 29) _ rfl 5 1 Try.underlying22 info_u8 (by omega) o6 rfl (hl5.below b6) rfl (by omega) (by omega) ?_; intro A7 c7 w7 o7 g7 _; have b7 : Below w5.heap.size w5 w7 := below_own b6 g7 (by omega) (fun ad h => (o6.lt_ ad h).1); have S7 := b7.size; have y7 := y5.below b7; have l7 := hl5.below b7)
      | (at_builtin; refine wpList_appI _ rfl (.tmp 31) (.tmp 32) _ rfl 5 1 Try.underlying22 info_u8 (by omega) (OwnI.empty (base := w7.heap.size) .u8 256 5 rfl (Nat.le_refl _)) rfl (y7.alloc _) rfl (by omega) (by simp) ?_; intro A8 c8 w8 o8 g8 _; have b8 : Below w7.heap.size w7 w8 := below_own ((Below.refl w7.heap.size w7).alloc (Nat.le_refl _) _) g8 (by simp) (by simp); have S8 := b8.size; simp only [List.nil_append, Nat.zero_add] at o8)
      | (at_builtin; refine wpList_appI _ rfl (.tmp 33) (.tmp 34) _ rfl 5 1 Try.underlying22 info_u8 (by omega) o8 rfl (l7.below b8) rfl (by omega) (by omega) ?_; intro A9 c9 w9 o9 g9 _; have b9 : Below w7.heap.size w7 w9 := below_own b8 g9 (by omega) (fun ad h => (o8.lt_ ad h).1)))
  have hb9 : Below w.heap.size w w9 := below_step (below_step hb5 b7 hb5.size) b9 (by have := hb5.size; omega)
  have hS : Seen w A3 A5 A7 A9 (n + 4) c3 c5 (n + 4 + n) c7 c9 (l ++ [a0, a1, a2, a3]) (l ++ [e0, e1, e2, e3]) (l ++ [a0, a1, a2, a3] ++ l) (l ++ [e0, e1, e2, e3] ++ l) w9 :=
    ⟨hb9, (x5.below b7).below b9, y7.below b9, (o7.below b9).ints, o9.ints⟩
  have hla : ∀ x ∈ [a0, a1, a2, a3], x < 256 := by simp; omega
  have hle : ∀ x ∈ [e0, e1, e2, e3], x < 256 := by simp; omega
  have u1 := unlike l [a0, a1, a2, a3] [e0, e1, e2, e3] [] hr.lt hla hle (by simp) rfl (by simp)
  rw [List.append_nil, List.append_nil] at u1
  have u2 := unlike l [a0, a1, a2, a3] [e0, e1, e2, e3] l hr.lt hla hle hr.lt rfl (by simp)
  have q1 := fun w => arr_eql a0 a1 a2 a3 e0 e1 e2 e3 w
  have q2 : ∀ w : World, (Op.equalIn 10000 38 (.agg #[.int .u8 (a0 : Int), .int .u8 (a1 : Int), .int .u8 (a2 : Int), .int .u8 (a3 : Int)]) (.agg #[.int .u8 (e0 : Int), .int .u8 (e1 : Int), .int .u8 (e2 : Int), .int .u8 (e3 : Int)])).run Try.prog w = .ok (decide ([a0, a1, a2, a3] = [e0, e1, e2, e3])) w := fun w => arr_eqIn 9998 a0 a1 a2 a3 e0 e1 e2 e3 w
  have b19 := below_step (below_step (below_step (below_step b1 b3 b1.size) b5 (by simp; omega)) b7 (by simp; omega)) b9 (by simp; omega)
  have hx9 : ∀ i u, #[Value.int .u8 (a0 : Int), .int .u8 (a1 : Int), .int .u8 (a2 : Int), .int .u8 (a3 : Int)][i]? = some u → w9.cell? ⟨w.heap.size, i, none⟩ = some u := fun i u hu => by
    have h := World.cell?_alloc_at (w := w) #[Value.int .u8 (a0 : Int), .int .u8 (a1 : Int), .int .u8 (a2 : Int), .int .u8 (a3 : Int)] 38 w.heap.size i rfl
    have h2 := (World.cell?_alloc_past (w := w.alloc (.cells #[.int .u8 (a0 : Int), .int .u8 (a1 : Int), .int .u8 (a2 : Int), .int .u8 (a3 : Int)] 38)) (.cells #[.int .u8 (e0 : Int), .int .u8 (e1 : Int), .int .u8 (e2 : Int), .int .u8 (e3 : Int)] 38) w.heap.size i (by simp)).trans (h.trans hu)
    exact (b19.cell (p := ⟨w.heap.size, i, none⟩) (by simp; omega)).trans h2
  have hy9 : ∀ i u, #[Value.int .u8 (e0 : Int), .int .u8 (e1 : Int), .int .u8 (e2 : Int), .int .u8 (e3 : Int)][i]? = some u → w9.cell? ⟨w.heap.size + 1, i, none⟩ = some u := fun i u hu => by
    have h := World.cell?_alloc_at (w := w.alloc (.cells #[.int .u8 (a0 : Int), .int .u8 (a1 : Int), .int .u8 (a2 : Int), .int .u8 (a3 : Int)] 38)) #[Value.int .u8 (e0 : Int), .int .u8 (e1 : Int), .int .u8 (e2 : Int), .int .u8 (e3 : Int)] 38 (w.heap.size + 1) i (by simp)
    exact (b19.cell (p := ⟨w.heap.size + 1, i, none⟩) (by simp)).trans (h.trans hu)
  have k0 : w9.cell? ⟨w.heap.size, 0, none⟩ = some (.int .u8 (a0 : Int)) := hx9 0 _ rfl
  have k1 : w9.cell? ⟨w.heap.size, 1, none⟩ = some (.int .u8 (a1 : Int)) := hx9 1 _ rfl
  have k2 : w9.cell? ⟨w.heap.size, 2, none⟩ = some (.int .u8 (a2 : Int)) := hx9 2 _ rfl
  have k3 : w9.cell? ⟨w.heap.size, 3, none⟩ = some (.int .u8 (a3 : Int)) := hx9 3 _ rfl
  have m0 : w9.cell? ⟨w.heap.size + 1, 0, none⟩ = some (.int .u8 (e0 : Int)) := hy9 0 _ rfl
  have m1 : w9.cell? ⟨w.heap.size + 1, 1, none⟩ = some (.int .u8 (e1 : Int)) := hy9 1 _ rfl
  have m2 : w9.cell? ⟨w.heap.size + 1, 2, none⟩ = some (.int .u8 (e2 : Int)) := hy9 2 _ rfl
  have m3 : w9.cell? ⟨w.heap.size + 1, 3, none⟩ = some (.int .u8 (e3 : Int)) := hy9 3 _ rfl
  have s1 := fun A n c w h hn => sum_any A n c (l ++ [a0, a1, a2, a3]) w h hn
  have s2 := fun A n c w h hn => sum_any A n c (l ++ [e0, e1, e2, e3]) w h hn
  have s3 := fun A n c w h hn => sum_any A n c (l ++ [a0, a1, a2, a3] ++ l) w h hn
  have s4 := fun A n c w h hn => sum_any A n c (l ++ [e0, e1, e2, e3] ++ l) w h hn
  generalize Crc.sum (l ++ [a0, a1, a2, a3] ++ l) = v3 at *
  generalize Crc.sum (l ++ [e0, e1, e2, e3] ++ l) = v4 at *
  generalize Crc.sum (l ++ [a0, a1, a2, a3]) = v1 at *
  generalize Crc.sum (l ++ [e0, e1, e2, e3]) = v2 at *
  have t1 : ((v1 : Int) == (v2 : Int)) = decide ([a0, a1, a2, a3] = [e0, e1, e2, e3]) := by
    rw [Bool.eq_iff_iff, decide_eq_true_eq, ← u1, beq_iff_eq]; omega
  have t2 : ((v3 : Int) == (v4 : Int)) = decide ([a0, a1, a2, a3] = [e0, e1, e2, e3]) := by
    rw [Bool.eq_iff_iff, decide_eq_true_eq, ← u2, beq_iff_eq]; omega
  generalize decide ([a0, a1, a2, a3] = [e0, e1, e2, e3]) = t at *
  have H1 := Lib.hid s1
  have H2 := Lib.hid s2
  have H3 := Lib.hid s3
  have H4 := Lib.hid s4
  clear s1 s2 s3 s4 u1 u2 hx9 hy9 hb9 hA hE
  have hSd := hS.drew
  have hsz9 : w.heap.size + 1 < w9.drew.heap.size := by show w.heap.size + 1 < w9.heap.size; have := b9.size; omega
  go_region_held3 (fun w' => w'.cell? ⟨w.heap.size, 0, none⟩ = some (.int .u8 (a0 : Int)) ∧ w'.cell? ⟨w.heap.size, 1, none⟩ = some (.int .u8 (a1 : Int)) ∧ w'.cell? ⟨w.heap.size, 2, none⟩ = some (.int .u8 (a2 : Int)) ∧ w'.cell? ⟨w.heap.size, 3, none⟩ = some (.int .u8 (a3 : Int)) ∧
      w'.cell? ⟨w.heap.size + 1, 0, none⟩ = some (.int .u8 (e0 : Int)) ∧ w'.cell? ⟨w.heap.size + 1, 1, none⟩ = some (.int .u8 (e1 : Int)) ∧ w'.cell? ⟨w.heap.size + 1, 2, none⟩ = some (.int .u8 (e2 : Int)) ∧ w'.cell? ⟨w.heap.size + 1, 3, none⟩ = some (.int .u8 (e3 : Int)) ∧
      w.heap.size + 1 < w'.heap.size ∧ Seen w A3 A5 A7 A9 (n + 4) c3 c5 (n + 4 + n) c7 c9 (l ++ [a0, a1, a2, a3]) (l ++ [e0, e1, e2, e3]) (l ++ [a0, a1, a2, a3] ++ l) (l ++ [e0, e1, e2, e3] ++ l) w')
    (first
      | exact ⟨k0, k1, k2, k3, m0, m1, m2, m3, hsz9, hSd⟩
      | ((try go_split_ands)
         refine ⟨?_, ?_, ?_, ?_, ?_, ?_, ?_, ?_, ?_, ?_⟩
         all_goals first
           | exact (Below.cell (p := ⟨w.heap.size, _, none⟩) hbc (by dsimp only; omega)).trans (by assumption)
           | exact (Below.cell (p := ⟨w.heap.size + 1, _, none⟩) hbc (by dsimp only; omega)).trans (by assumption)
           | exact Nat.lt_of_lt_of_le (by assumption) hbc.size
           | exact Seen.step (by assumption) hbc))
    ((first
      | (go_at_call 18; (try go_split_ands); (with_reducible refine (H1.out A3 (n + 4) c3 _ ?_ ?_).mono ?_); (exact Seen.x (by assumption)); (omega); rintro e wc ⟨rfl, hbc⟩)
      | (go_at_call 18; (try go_split_ands); (with_reducible refine (H2.out A5 (n + 4) c5 _ ?_ ?_).mono ?_); (exact Seen.y (by assumption)); (omega); rintro e wc ⟨rfl, hbc⟩)
      | (go_at_call 18; (try go_split_ands); (with_reducible refine (H3.out A7 (n + 4 + n) c7 _ ?_ ?_).mono ?_); (exact Seen.z (by assumption)); (omega); rintro e wc ⟨rfl, hbc⟩)
      | (go_at_call 18; (try go_split_ands); (with_reducible refine (H4.out A9 (n + 4 + n) c9 _ ?_ ?_).mono ?_); (exact Seen.u (by assumption)); (omega); rintro e wc ⟨rfl, hbc⟩)))
  go_wp2_with fail
  (try go_split_ands)
  go_ret
  exact ⟨rfl, Seen.below (by assumption)⟩
end Go.Proofs.Ytjdgkeajjmoglaa
