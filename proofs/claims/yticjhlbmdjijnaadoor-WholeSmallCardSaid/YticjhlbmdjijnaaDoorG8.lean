/- Texts of several parts in one: WholeG, WholeH, WholeI, ZW, RW, RW2, RW3, RW4, RW5, RW6. Each says what it proves; no condition but those named there. -/
import Derived.Test.YticjhlbmdjijnaaDoorG5
import Derived.Test.YticjhlbmdjijnaaDoorG7
/- The contracts of package whole: Text, Bytes. No condition but the reach of a slice. -/
namespace Go.Proofs.YticjhlbmdjijnaaDoor
open Go.RowKit

/-- A whole number's text; its bytes. -/
def ztx (z : Int) : List Nat := if z < 0 then 45 :: decTxt z.natAbs else decTxt z.natAbs
theorem ztx_neg {z : Int} (h : z < 0) : ztx z = 45 :: decTxt z.natAbs := by unfold ztx; rw [if_pos h]
theorem ztx_pos {z : Int} (h : ¬ z < 0) : ztx z = decTxt z.natAbs := by unfold ztx; rw [if_neg h]
def zenc (z : Int) : List Nat := if enc (lmb z.natAbs) = [] then [] else (if z < 0 then 1 else 0) :: enc (lmb z.natAbs)

theorem decTxt_most (v n : Nat) (h : v < 4294967296 ^ n) : (decTxt v).length ≤ 10 * n + 1 := by
  refine decTxt_len (10 * n) v (Nat.lt_of_lt_of_le h ?_)
  rw [Nat.pow_succ, Nat.pow_mul]
  exact Nat.le_trans (Nat.pow_le_pow_left (by decide) n) (Nat.le_mul_of_pos_right _ (by decide))

set_option maxRecDepth 100000 in
set_option maxHeartbeats 1600000 in
theorem wtext_any (ng : Bool) (A : Option Addr) (n c : Nat) (l : List Nat) (w : World) (hr : Lim w A n c l) (hn : n ≤ 268435456) :
    Calls Tryd.prog 10 #[.agg #[.bool ng, .slice A n c]] w fun e w' => e = .returned (.string (str (ztx (zv ng (vl l))))) ∧ Below w.heap.size w w' := by
  have hvn : vl l < 4294967296 ^ n := by rw [← hr.len]; exact Num.val_lt _ l hr.lt
  have hlen := decTxt_most (vl l) n hvn
  obtain ⟨bb, hbb⟩ : ∃ bb, decide (zv ng (vl l) < 0) = bb := ⟨_, rfl⟩
  have hz : ztx (zv ng (vl l)) = if bb then 45 :: decTxt (vl l) else decTxt (vl l) := by
    unfold ztx
    rw [zv_abs, ← hbb]
    simp
  have pa := fun w0 h0 => plain_any ng A n c l w0 h0 (by omega)
  rw [hbb] at pa
  have HZ := Lib.hid hz
  have hadd := fun w0 => str_add (P := Tryd.prog) [45] (decTxt (vl l)) (by simp; omega) w0
  have e45 : str [45] = ⟨#[45]⟩ := rfl
  rw [e45] at hadd
  clear hz hbb hvn hlen e45
  go_enter Tryd.func10, Tryd.ntmps10
  go_wp2_with fail
  refine (pa _ (hr.alloc _)).mono ?_; rintro e w1 ⟨A1, m1, rfl, hm1, ho1, hb1⟩
  have q0 := (Blk.new w 24 #[.bool ng, .slice A n c]).below hb1 (by simp)
  have c0 := q0.c0
  have c1 := q0.c1
  have f0 := q0.frozen 0
  have f1 := q0.frozen 1
  have x1 := ho1.st2 (g := w.heap.size) (ho1.far (by simp)) (.bool bb) (.slice A1 m1 m1)
  have y := below_st2 (below_step ((Below.refl _ _).alloc (Nat.le_refl _) _) hb1 (by simp)) (Nat.le_refl _) (.bool bb) (.slice A1 m1 m1)
  have t1 := fun w0 h0 => text_any A1 m1 m1 (lmb (vl l)) w0 h0 (by omega)
  simp only [vl_lmb] at t1
  cases bb
  · go_wp2_with fail
    refine (t1 _ x1.ints).mono ?_; rintro e w2 ⟨rfl, hb2⟩
    go_wp2_with fail
    go_ret
    rw [HZ.out]
    exact ⟨rfl, below_step y hb2 y.size⟩
  · go_wp2_with fail
    refine (t1 _ x1.ints).mono ?_; rintro e w2 ⟨rfl, hb2⟩
    go_wp2_with fail
    go_ret
    rw [HZ.out]
    exact ⟨rfl, below_step y hb2 y.size⟩

end Go.Proofs.YticjhlbmdjijnaaDoor

/- The contracts of package whole: Parse. No condition but the reach of a string. -/
namespace Go.Proofs.YticjhlbmdjijnaaDoor
open Go.RowKit

/-- A text's sign, and what stands behind it; the number that it tells. -/
def bod (l : List Nat) : List Nat := if l[0]? = some 45 then l.drop 1 else l
structure ZReads (l : List Nat) : Prop where
  ok : Reads (bod l)
  nz : ¬ (l[0]? = some 45 ∧ dec (bod l) = 0)
def zdec (l : List Nat) : Int := zv (decide (l[0]? = some 45)) (dec (bod l))
theorem bod_lt {l : List Nat} (hl : ∀ x ∈ l, x < 256) : ∀ x ∈ bod l, x < 256 := fun x hx => by
  unfold bod at hx
  split at hx
  · exact hl x (List.mem_of_mem_drop hx)
  · exact hl x hx
theorem bod_len (l : List Nat) : (bod l).length ≤ l.length := by
  unfold bod
  split
  · simp
  · exact Nat.le_refl _

set_option maxRecDepth 100000 in
set_option maxHeartbeats 1600000 in
theorem wparse_ok (l : List Nat) (hl : ∀ x ∈ l, x < 256) (w : World) (h : ZReads l) :
    Calls Tryd.prog 17 #[.string (str l)] w fun e w' => ∃ A m, e = .returned (.tuple #[.agg #[.bool (decide (zdec l < 0)), .slice A m m], .bool true]) ∧ m ≤ 80002 ∧ OwnL w' w.heap.size A m m (lmb (zdec l).natAbs) ∧ Below w.heap.size w w' := by
  obtain ⟨n, hn⟩ : ∃ n, l.length = n := ⟨_, rfl⟩
  have hS : (str l).size = n := by rw [str_size, hn]
  have hok := h.ok
  have hb := bod_len l
  have hpos := hok.pos
  have hmost := hok.most
  have t1 := fun w0 => parse_ok (bod l) (bod_lt hl) w0 hok
  obtain ⟨x, hx⟩ : ∃ x, l[0]? = some x := ⟨_, List.getElem?_eq_getElem (by omega)⟩
  have hxl := hl x (List.mem_of_getElem? hx)
  obtain ⟨z, hz⟩ : ∃ z, zdec l = z := ⟨_, rfl⟩
  obtain ⟨v, hv⟩ : ∃ v, dec (bod l) = v := ⟨_, rfl⟩
  have hzz : z = zv (decide (x = 45)) v := by rw [← hz]; unfold zdec; rw [hx, hv]; simp
  have h1 : (str l).extract 0 1 = str [x] := by
    rw [str_take]
    congr 1
    cases l with
    | nil => simp at hx
    | cons a m => simp at hx; simp [hx]
  have hnz := h.nz
  rw [hx, hv] at hnz
  rw [hz]
  rw [hv] at t1
  obtain ⟨bb, hbb⟩ : ∃ bb, decide (z < 0) = bb := ⟨_, rfl⟩
  have hna : z.natAbs = v := by rw [hzz, zv_abs]
  have tf := fun A1 m1 w0 h0 (hm : m1 ≤ 80002) => of_any (decide (x = 45)) A1 m1 m1 (lmb v) w0 h0 (by omega)
  simp only [vl_lmb, ← hzz, hbb] at tf
  rw [hna, hbb]
  by_cases h45 : x = 45
  · have hv0 : 0 < v := Nat.pos_of_ne_zero fun e => hnz ⟨by rw [h45], e⟩
    have hbd : bod l = l.drop 1 := by unfold bod; rw [hx, h45]; simp
    have h2 : (str l).extract 1 n = str (bod l) := by rw [← hS, str_drop, hbd]
    have h0n : decide ((0 : Int) < (n : Int)) = true := by simp; omega
    have h0n' : (1 : Int) ≤ (n : Int) := by omega
    rw [h45] at h1
    have e45 : str [45] = ⟨#[45]⟩ := rfl
    rw [e45] at h1
    simp only [h45, decide_true] at tf
    clear hz hv hnz hbd h hok hpos hmost hl hx hxl h45 hb e45 hn hzz hna hbb
    generalize str (bod l) = S2 at *
    generalize str l = S at *
    go_enter Tryd.func17, Tryd.ntmps17
    go_wp2_with fail
    refine (t1 _).mono ?_; rintro e w1 ⟨A1, m1, rfl, hm1, ho1, hb1⟩
    have q0 := (Blk.new w 24 #[.bool false, .slice none 0 0]).below hb1 (by simp)
    have hs1 : w.heap.size < w1.heap.size := by have := hb1.size; simp at this; omega
    have hm0 := lmb_len_pos ho1 hv0
    have hmn : ((m1 : Int) == 0) = false := by simp; omega
    clear hm0
    go_wp2_with fail
    refine (tf A1 m1 _ ho1.ints hm1).mono ?_; rintro e w2 ⟨A2, m2, rfl, hm2, ho2, hb2⟩
    have q1 := q0.below hb2 q0.lt
    have c0 := q1.c0
    have c1 := q1.c1
    have f0 := q1.frozen 0
    have f1 := q1.frozen 1
    have y := below_step (below_step ((Below.refl _ _).alloc (Nat.le_refl _) _) hb1 (by simp)) hb2 (by omega)
    go_wp2_with fail
    refine bodyPost_ret (results_row_tmp rfl _ _ w.heap.size 24 #[.bool bb, .slice A2 m2 m2] (0, 0) _ rfl (q1.st2 _ _).is Tryd.underlying24 rfl (by kernel_rfl)) rfl ?_
    exact ⟨A2, m2, rfl, by omega, (ho2.st2 (ho2.far hs1) _ _).mono (by omega), below_st2 y (Nat.le_refl _) _ _⟩
  · skip
    have hbd : bod l = l := by unfold bod; rw [hx]; simp [h45]
    have h0n : decide ((0 : Int) < (n : Int)) = true := by simp; omega
    have h0n' : (1 : Int) ≤ (n : Int) := by omega
    have hne : ((str [x]).toList == [45]) = false := by
      rw [ByteArray.toList_eq, str_list]
      simp
      intro e
      have := congrArg UInt8.toNat e
      simp at this
      omega
    rw [hbd] at t1
    simp only [h45, decide_false] at tf
    clear hz hv hnz hbd h hok hpos hmost hl hx hxl h45 hb hn hzz hna hbb
    generalize str [x] = S2 at *
    generalize str l = S at *
    go_enter Tryd.func17, Tryd.ntmps17
    go_wp2_with fail
    refine (t1 _).mono ?_; rintro e w1 ⟨A1, m1, rfl, hm1, ho1, hb1⟩
    have q0 := (Blk.new w 24 #[.bool false, .slice none 0 0]).below hb1 (by simp)
    have hs1 : w.heap.size < w1.heap.size := by have := hb1.size; simp at this; omega
    go_wp2_with fail
    refine (tf A1 m1 _ ho1.ints hm1).mono ?_; rintro e w2 ⟨A2, m2, rfl, hm2, ho2, hb2⟩
    have q1 := q0.below hb2 q0.lt
    have c0 := q1.c0
    have c1 := q1.c1
    have f0 := q1.frozen 0
    have f1 := q1.frozen 1
    have y := below_step (below_step ((Below.refl _ _).alloc (Nat.le_refl _) _) hb1 (by simp)) hb2 (by omega)
    go_wp2_with fail
    refine bodyPost_ret (results_row_tmp rfl _ _ w.heap.size 24 #[.bool bb, .slice A2 m2 m2] (0, 0) _ rfl (q1.st2 _ _).is Tryd.underlying24 rfl (by kernel_rfl)) rfl ?_
    exact ⟨A2, m2, rfl, by omega, (ho2.st2 (ho2.far hs1) _ _).mono (by omega), below_st2 y (Nat.le_refl _) _ _⟩

set_option maxRecDepth 100000 in
set_option maxHeartbeats 1600000 in
theorem wparse_bad (l : List Nat) (hl : ∀ x ∈ l, x < 256) (w : World) (hlen : l.length ≤ 9223372036854775807) (h : ¬ ZReads l) :
    Calls Tryd.prog 17 #[.string (str l)] w fun e w' => e = .returned (.tuple #[.agg #[.bool false, .slice none 0 0], .bool false]) ∧ Below w.heap.size w w' := by
  obtain ⟨n, hn⟩ : ∃ n, l.length = n := ⟨_, rfl⟩
  have hS : (str l).size = n := by rw [str_size, hn]
  have hb := bod_len l
  rcases Nat.eq_zero_or_pos n with hn0 | hn0
  · subst hn0
    have hl0 : l = [] := List.eq_nil_of_length_eq_zero hn
    have t1 := fun w0 => parse_bad [] (by simp) w0 (by simp) (fun hh => by have := hh.pos; simp at this)
    rw [hl0] at hS ⊢
    clear hl hn h hb hl0 hlen
    generalize str [] = S at *
    go_enter Tryd.func17, Tryd.ntmps17
    go_wp2_with fail
    refine (t1 _).mono ?_; rintro e w1 ⟨rfl, hb1⟩
    have q0 := (Blk.new w 24 #[.bool false, .slice none 0 0]).below hb1 (by simp)
    have c0 := q0.c0
    have c1 := q0.c1
    have f0 := q0.frozen 0
    have f1 := q0.frozen 1
    have y := below_step ((Below.refl _ _).alloc (Nat.le_refl _) _) hb1 (by simp)
    go_wp2_with fail
    refine bodyPost_ret (results_row_tmp rfl _ _ w.heap.size 24 #[.bool false, .slice none 0 0] (0, 0) _ rfl (q0.st2 _ _).is Tryd.underlying24 rfl (by kernel_rfl)) rfl ?_
    exact ⟨rfl, below_st2 y (Nat.le_refl _) _ _⟩
  obtain ⟨x, hx⟩ : ∃ x, l[0]? = some x := ⟨_, List.getElem?_eq_getElem (by omega)⟩
  have hxl := hl x (List.mem_of_getElem? hx)
  have h1 : (str l).extract 0 1 = str [x] := by
    rw [str_take]
    congr 1
    cases l with
    | nil => simp at hx
    | cons a m => simp at hx; simp [hx]
  by_cases hrd : Reads (bod l)
  · have hz : x = 45 ∧ dec (bod l) = 0 := Classical.byContradiction fun hc => h ⟨hrd, fun ⟨a, b⟩ => hc ⟨by rw [hx] at a; exact Option.some.inj a, b⟩⟩
    obtain ⟨h45, hv⟩ := hz
    have t1 := fun w0 => parse_ok (bod l) (bod_lt hl) w0 hrd
    rw [hv] at t1
    have hbd : bod l = l.drop 1 := by unfold bod; rw [hx, h45]; simp
    have h2 : (str l).extract 1 n = str (bod l) := by rw [← hS, str_drop, hbd]
    have h0n : decide ((0 : Int) < (n : Int)) = true := by simp; omega
    have h0n' : (1 : Int) ≤ (n : Int) := by omega
    rw [h45] at h1
    have e45 : str [45] = ⟨#[45]⟩ := rfl
    rw [e45] at h1
    clear hv hbd h hl hx hxl h45 hb e45 hn hlen hrd
    generalize str (bod l) = S2 at *
    generalize str l = S at *
    go_enter Tryd.func17, Tryd.ntmps17
    go_wp2_with fail
    refine (t1 _).mono ?_; rintro e w1 ⟨A1, m1, rfl, hm1, ho1, hb1⟩
    have q0 := (Blk.new w 24 #[.bool false, .slice none 0 0]).below hb1 (by simp)
    have c0 := q0.c0
    have c1 := q0.c1
    have f0 := q0.frozen 0
    have f1 := q0.frozen 1
    have y := below_step ((Below.refl _ _).alloc (Nat.le_refl _) _) hb1 (by simp)
    obtain rfl := lmb_len_zero ho1 rfl
    go_wp2_with fail
    refine bodyPost_ret (results_row_tmp rfl _ _ w.heap.size 24 #[.bool false, .slice none 0 0] (0, 0) _ rfl (q0.st2 _ _).is Tryd.underlying24 rfl (by kernel_rfl)) rfl ?_
    exact ⟨rfl, below_st2 y (Nat.le_refl _) _ _⟩
  · have t1 := fun w0 => parse_bad (bod l) (bod_lt hl) w0 (by omega) hrd
    by_cases h45 : x = 45
    · skip
      have hbd : bod l = l.drop 1 := by unfold bod; rw [hx, h45]; simp
      have h2 : (str l).extract 1 n = str (bod l) := by rw [← hS, str_drop, hbd]
      have h0n : decide ((0 : Int) < (n : Int)) = true := by simp; omega
      have h0n' : (1 : Int) ≤ (n : Int) := by omega
      rw [h45] at h1
      have e45 : str [45] = ⟨#[45]⟩ := rfl
      rw [e45] at h1
      clear hbd h hl hx hxl h45 hb e45 hn hlen hrd
      generalize str (bod l) = S2 at *
      generalize str l = S at *
      go_enter Tryd.func17, Tryd.ntmps17
      go_wp2_with fail
      refine (t1 _).mono ?_; rintro e w1 ⟨rfl, hb1⟩
      have q0 := (Blk.new w 24 #[.bool false, .slice none 0 0]).below hb1 (by simp)
      have c0 := q0.c0
      have c1 := q0.c1
      have f0 := q0.frozen 0
      have f1 := q0.frozen 1
      have y := below_step ((Below.refl _ _).alloc (Nat.le_refl _) _) hb1 (by simp)
      go_wp2_with fail
      refine bodyPost_ret (results_row_tmp rfl _ _ w.heap.size 24 #[.bool false, .slice none 0 0] (0, 0) _ rfl (q0.st2 _ _).is Tryd.underlying24 rfl (by kernel_rfl)) rfl ?_
      exact ⟨rfl, below_st2 y (Nat.le_refl _) _ _⟩
    · skip
      have hbd : bod l = l := by unfold bod; rw [hx]; simp [h45]
      have h0n : decide ((0 : Int) < (n : Int)) = true := by simp; omega
      have h0n' : (1 : Int) ≤ (n : Int) := by omega
      have hne : ((str [x]).toList == [45]) = false := by
        rw [ByteArray.toList_eq, str_list]
        simp
        intro e
        have := congrArg UInt8.toNat e
        simp at this
        omega
      rw [hbd] at t1
      clear hbd h hl hx hxl h45 hb hn hlen hrd
      generalize str [x] = S2 at *
      generalize str l = S at *
      go_enter Tryd.func17, Tryd.ntmps17
      go_wp2_with fail
      refine (t1 _).mono ?_; rintro e w1 ⟨rfl, hb1⟩
      have q0 := (Blk.new w 24 #[.bool false, .slice none 0 0]).below hb1 (by simp)
      have c0 := q0.c0
      have c1 := q0.c1
      have f0 := q0.frozen 0
      have f1 := q0.frozen 1
      have y := below_step ((Below.refl _ _).alloc (Nat.le_refl _) _) hb1 (by simp)
      go_wp2_with fail
      refine bodyPost_ret (results_row_tmp rfl _ _ w.heap.size 24 #[.bool false, .slice none 0 0] (0, 0) _ rfl (q0.st2 _ _).is Tryd.underlying24 rfl (by kernel_rfl)) rfl ?_
      exact ⟨rfl, below_st2 y (Nat.le_refl _) _ _⟩

end Go.Proofs.YticjhlbmdjijnaaDoor

/- The contracts of package whole: Read. No condition but the reach of a slice. -/
namespace Go.Proofs.YticjhlbmdjijnaaDoor
open Go.RowKit

/-- Bytes that a whole number may be read of; the number; what stands behind it. -/
structure ZBytes (l : List Nat) : Prop where
  sg : l[0]? = some 0 ∨ l[0]? = some 1
  ok : ReadOk (l.drop 1)
  nz : ¬ (l[0]? = some 1 ∧ cnt (l.drop 1) = 0)
theorem Ints.at0 {w : World} {kd : IntKind} {lim b o n c x : Nat} {l : List Nat} (h : Ints w kd lim (some ⟨b, o, none⟩) n c l) (hx : l[0]? = some x) : w.cell? ⟨b, o, none⟩ = some (.int kd (x : Int)) := by
  have hlen := h.len
  have h0 := (List.getElem?_eq_some_iff.1 hx).1
  obtain ⟨x', hx', _, hc⟩ := h.get' (k := 0) (by omega)
  rw [hx] at hx'
  cases hx'
  exact hc
def zbv (l : List Nat) : Int := zv (decide (l[0]? = some 1)) (vl (limbsAt (l.drop 1) (cnt (l.drop 1))))
def zbl (l : List Nat) : List Nat := (l.drop 1).drop (2 + 4 * cnt (l.drop 1))

end Go.Proofs.YticjhlbmdjijnaaDoor

/- The contracts of package whole, said of whole numbers. No condition but the reach of a slice. -/
namespace Go.Proofs.YticjhlbmdjijnaaDoor
open Go.RowKit

section
variable {w : World} {a b : Bool} {A B : Option Addr} {n c m d : Nat} {x y : Int} {i j : Nat} {p q : Bool}
theorem zplain {K : Nat} (ha : ZIs w a A n c x i p) (hi : i ≤ 268435456) (hK : i ≤ K) : Calls Tryd.prog 20 #[.agg #[.bool a, .slice A n c]] w fun e w' => ∃ b3 A3 n3, e = .returned (.agg #[.bool b3, .slice A3 n3 n3]) ∧ ZIs w' b3 A3 n3 n3 x K true ∧ Below w.heap.size w w' := by
  obtain ⟨l, hl, hv, hx⟩ := ha.lim
  have := ha.few
  refine (plain_any a A n c l w hl (by omega)).mono ?_
  rintro e w' ⟨A2, q, rfl, hq, ho, hb⟩
  rw [hx]
  rw [hv] at ho
  exact ⟨_, _, _, rfl, ZIs.of_own ho rfl (by omega), hb⟩
theorem zcmp_ (ha : ZIs w a A n c x i p) (hb : ZIs w b B m d y j q) (hi : i ≤ 268435456) (hj : j ≤ 268435456) : Calls Tryd.prog 19 #[.agg #[.bool a, .slice A n c], .agg #[.bool b, .slice B m d]] w fun e w' => e = .returned (.int .i64 (zcmp x y)) ∧ Below w.heap.size w w' := by
  obtain ⟨l, hl, _, hx⟩ := ha.lim
  obtain ⟨k, hk, _, hy⟩ := hb.lim
  have := ha.few
  have := hb.few
  refine (wcmp_any a b A B n c m d l k w hl hk (by omega) (by omega)).mono ?_
  rintro e w' ⟨rfl, hb⟩
  rw [hx, hy]
  exact ⟨rfl, hb⟩
theorem zadd {K : Nat} (ha : ZIs w a A n c x i p) (hb : ZIs w b B m d y j q) (hi : i ≤ 268435456) (hj : j ≤ 268435456) (hK : max i j + 1 ≤ K) : Calls Tryd.prog 13 #[.agg #[.bool a, .slice A n c], .agg #[.bool b, .slice B m d]] w fun e w' => ∃ b3 A3 n3, e = .returned (.agg #[.bool b3, .slice A3 n3 n3]) ∧ ZIs w' b3 A3 n3 n3 (x + y) K true ∧ Below w.heap.size w w' := by
  obtain ⟨l, hl, _, hx⟩ := ha.lim
  obtain ⟨k, hk, _, hy⟩ := hb.lim
  have := ha.few
  have := hb.few
  refine (wadd_any a b A B n c m d l k w hl hk (by omega) (by omega)).mono ?_
  rintro e w' ⟨A2, q, rfl, hq, ho, hb⟩
  rw [hx, hy] at ho ⊢
  exact ⟨_, _, _, rfl, ZIs.of_own ho rfl (by omega), hb⟩
theorem zsub {K : Nat} (ha : ZIs w a A n c x i p) (hb : ZIs w b B m d y j q) (hi : i ≤ 268435456) (hj : j ≤ 268435456) (hK : max i j + 1 ≤ K) : Calls Tryd.prog 25 #[.agg #[.bool a, .slice A n c], .agg #[.bool b, .slice B m d]] w fun e w' => ∃ b3 A3 n3, e = .returned (.agg #[.bool b3, .slice A3 n3 n3]) ∧ ZIs w' b3 A3 n3 n3 (x - y) K true ∧ Below w.heap.size w w' := by
  obtain ⟨l, hl, _, hx⟩ := ha.lim
  obtain ⟨k, hk, _, hy⟩ := hb.lim
  have := ha.few
  have := hb.few
  refine (wsub_any a b A B n c m d l k w hl hk (by omega) (by omega)).mono ?_
  rintro e w' ⟨A2, q, rfl, hq, ho, hb⟩
  rw [hx, hy] at ho ⊢
  exact ⟨_, _, _, rfl, ZIs.of_own ho rfl (by omega), hb⟩
theorem zmul {K : Nat} (ha : ZIs w a A n c x i p) (hb : ZIs w b B m d y j q) (hi : i ≤ 268435456) (hj : j ≤ 268435456) (hK : i + j ≤ K) : Calls Tryd.prog 14 #[.agg #[.bool a, .slice A n c], .agg #[.bool b, .slice B m d]] w fun e w' => ∃ b3 A3 n3, e = .returned (.agg #[.bool b3, .slice A3 n3 n3]) ∧ ZIs w' b3 A3 n3 n3 (x * y) K true ∧ Below w.heap.size w w' := by
  obtain ⟨l, hl, _, hx⟩ := ha.lim
  obtain ⟨k, hk, _, hy⟩ := hb.lim
  have := ha.few
  have := hb.few
  refine (wmul_any a b A B n c m d l k w hl hk (by omega) (by omega)).mono ?_
  rintro e w' ⟨A2, q, rfl, hq, ho, hb⟩
  rw [hx, hy] at ho ⊢
  exact ⟨_, _, _, rfl, ZIs.of_own ho rfl (by omega), hb⟩
theorem zof (z : Int) (w : World) (h1 : -9223372036854775808 ≤ z) (h2 : z ≤ 9223372036854775807) : Calls Tryd.prog 8 #[.int .i64 z] w fun e w' => ∃ b3 A3 n3, e = .returned (.agg #[.bool b3, .slice A3 n3 n3]) ∧ ZIs w' b3 A3 n3 n3 z 2 true ∧ Below w.heap.size w w' := by
  refine (wof_any z w h1 h2).mono ?_
  rintro e w' ⟨A2, q, rfl, hq, ho, hb⟩
  exact ⟨_, _, _, rfl, ZIs.of_own ho rfl (by omega), hb⟩
theorem zdiv_zero (ha : ZIs w a A n c x i p) (hb : ZIs w b B m d y j q) (hi : i ≤ 268435456) (hj : j ≤ 268435456) (h0 : y = 0) : Calls Tryd.prog 9 #[.agg #[.bool a, .slice A n c], .agg #[.bool b, .slice B m d]] w fun e w' => e = .returned (.tuple #[.agg #[.bool false, .slice none 0 0], .agg #[.bool false, .slice none 0 0], .bool false]) ∧ Below w.heap.size w w' := by
  obtain ⟨l, hl, _, hx⟩ := ha.lim
  obtain ⟨k, hk, hk', hy⟩ := hb.lim
  have := ha.few
  have := hb.few
  exact wdiv_zero a b A B n c m d l k w hl hk (by omega) (by omega) (by omega)
theorem zdiv {K L : Nat} (ha : ZIs w a A n c x i p) (hb : ZIs w b B m d y j q) (hi : i ≤ 268435456) (hj : j ≤ 268435456) (h0 : y ≠ 0) (hK : i + 3 ≤ K) (hL : max i j + 1 ≤ L) : Calls Tryd.prog 9 #[.agg #[.bool a, .slice A n c], .agg #[.bool b, .slice B m d]] w fun e w' => ∃ b3 A3 n3 b4 A4 n4, e = .returned (.tuple #[.agg #[.bool b3, .slice A3 n3 n3], .agg #[.bool b4, .slice A4 n4 n4], .bool true]) ∧ ZIs w' b3 A3 n3 n3 (wdiv x y) K true ∧ ZIs w' b4 A4 n4 n4 (wmod x y) L true ∧ Below w.heap.size w w' := by
  obtain ⟨l, hl, _, hx⟩ := ha.lim
  obtain ⟨k, hk, hk', hy⟩ := hb.lim
  have := ha.few
  have := hb.few
  refine (wdiv_any a b A B n c m d l k w hl hk (by omega) (by omega) (by omega)).mono ?_
  rintro e w' ⟨A2, q, A3, r, rfl, hq, hr, ho, ho3, hb⟩
  rw [hx, hy] at ho ho3 ⊢
  exact ⟨_, _, _, _, _, _, rfl, ZIs.of_own ho rfl (by omega), ZIs.of_own ho3 rfl (by omega), hb⟩
end
end Go.Proofs.YticjhlbmdjijnaaDoor

/- The contracts of heijunkaref02: Plain, Cmp, Add, Sub, Mul, Same, Text. No condition but the reach of a slice. -/
namespace Go.Proofs.YticjhlbmdjijnaaDoor
open Go.RowKit

set_option maxRecDepth 100000 in
set_option maxHeartbeats 1600000 in
theorem rzplain {w : World} {a : Bool} {A : Option Addr} {n c : Nat} {x : Int} {i : Nat} {p : Bool} {K : Nat} (ha : ZIs w a A n c x i p) (hi : i ≤ 268435456) (hK : 4 * i ≤ K) : Calls Tryd.prog 15 #[.agg #[.bool a, .slice A n c]] w fun e w' => ∃ b3 A3 n3 c3, e = .returned (.agg #[.bool b3, .slice A3 n3 c3]) ∧ ZIs w' b3 A3 n3 c3 (x) K true ∧ Below w.heap.size w w' := by
  obtain ⟨l, hl, hv, hx⟩ := ha.lim
  have hfew := ha.few
  have t1 := fun w0 h0 => rtrim_any A n c l w0 h0 (by omega)
  have E1 := ((Env.nil_ w).alloc 24 #[.bool a, .slice A n c] (g := w.heap.size) rfl rfl).alloc 24 #[.bool false, .slice none 0 0] (g := w.heap.size + 1) (by simp) rfl
  have HD : decide (x < 0) = (a && decide (0 < vl l)) := by rw [← hx, zv_neg]
  rw [hv] at t1 HD
  clear hx hv
  go_enter Tryd.func15, Tryd.ntmps15
  go_wp2_with fail
  refine (t1 _ ((hl.alloc _).alloc _)).mono ?_; rintro e w1 ⟨A1, m1, c1, rfl, hm1, ho1, hb1⟩
  have hd : decide (0 < x.natAbs) = decide (0 < m1) := by
    have hlm := ho1.len
    rcases Nat.eq_zero_or_pos x.natAbs with h | h
    · rw [h, lmb_zero] at hlm
      rw [h, ← hlm]; rfl
    · rw [decide_eq_true h, decide_eq_true (lmb_len_pos ho1 h)]
  have HD2 := Lib.hid (HD.trans (by rw [hd]))
  clear HD hd
  have E2 := E1.below hb1
  have k0 := E2.cell 1 0 rfl rfl
  have k1 := E2.cell 1 1 rfl rfl
  have k2 := E2.cell 0 0 rfl rfl
  have k3 := E2.cell 0 1 rfl rfl
  have f0 := E2.frozen 0 0 rfl
  have f1 := E2.frozen 0 1 rfl
  have z1 := fun (b : Bool) (h : decide (x < 0) = b) => (E2.add (ZIs.of_own (k := K) ho1 h (by omega))).st2 0 (.bool b) (.slice A1 m1 c1) rfl rfl rfl
  cases a
  · go_wp2_with fail
    have E3 := z1 false (by rw [HD2.out]; rfl)
    refine bodyPost_ret (results_cell_row rfl _ _ (w.heap.size + 1) 24 #[.bool false, .slice A1 m1 c1] (0, 0) _ rfl ((E3).b 0 rfl).is Tryd.underlying24 rfl (by kernel_rfl)) rfl ?_
    exact ⟨_, _, _, _, rfl, E3.z 0 rfl, E3.bel⟩
  · go_wp2_with fail
    have E3 := z1 (decide (0 < m1)) (by rw [HD2.out]; rfl)
    refine bodyPost_ret (results_cell_row rfl _ _ (w.heap.size + 1) 24 #[.bool (decide (0 < m1)), .slice A1 m1 c1] (0, 0) _ rfl ((E3).b 0 rfl).is Tryd.underlying24 rfl (by kernel_rfl)) rfl ?_
    exact ⟨_, _, _, _, rfl, E3.z 0 rfl, E3.bel⟩

set_option maxRecDepth 100000 in
set_option maxHeartbeats 1600000 in
theorem rzcmp {w : World} {a b : Bool} {A B : Option Addr} {n c m d : Nat} {x y : Int} {i j : Nat} {p q : Bool} (ha : ZIs w a A n c x i p) (hb : ZIs w b B m d y j q) (hi : i ≤ 1048576) (hj : j ≤ 1048576) : Calls Tryd.prog 22 #[.agg #[.bool a, .slice A n c], .agg #[.bool b, .slice B m d]] w fun e w' => e = .returned (.int .i64 (zcmp x y)) ∧ Below w.heap.size w w' := by
  have E0 := ((Env.nil_ w).add ha).add hb
  have E1 := (E0.alloc 24 #[.bool a, .slice A n c] (g := w.heap.size) rfl rfl).alloc 24 #[.bool b, .slice B m d] (g := w.heap.size + 1) (by simp) rfl
  go_enter Tryd.func22, Tryd.ntmps22
  go_wp2_with fail
  refine (rzplain (E1.z 1 rfl) (by omega) (Nat.le_refl _)).mono ?_; rintro e w1 ⟨b1, A1, n1, c1, rfl, z1, hb1⟩
  have E2 := ((E1.below hb1).add z1).alloc 24 #[.bool b1, .slice A1 n1 c1] (g := w1.heap.size) rfl rfl
  have a20 := E2.cell 1 0 rfl rfl
  have a21 := E2.cell 1 1 rfl rfl
  go_wp2_with fail
  refine (rzplain (E2.z 1 rfl) (by omega) (Nat.le_refl _)).mono ?_; rintro e w2 ⟨b2, A2, n2, c2, rfl, z2, hb2⟩
  have E3 := ((E2.below hb2).add z2).alloc 24 #[.bool b2, .slice A2 n2 c2] (g := w2.heap.size) rfl rfl
  clear a20 a21
  have a30 := E3.cell 1 0 rfl rfl
  have a31 := E3.cell 1 1 rfl rfl
  have a40 := E3.cell 0 0 rfl rfl
  have a41 := E3.cell 0 1 rfl rfl
  obtain ⟨l1, hl1, hv1, hz1⟩ := (E3.z 1 rfl).lim
  have HV1 := Lib.hid hv1
  have HZ1 := Lib.hid hz1
  clear hv1 hz1
  obtain ⟨l2, hl2, hv2, hz2⟩ := (E3.z 0 rfl).lim
  have HV2 := Lib.hid hv2
  have HZ2 := Lib.hid hz2
  clear hv2 hz2
  have hs1 := Lib.hid (E3.z 1 rfl).limbs.2
  have hs2 := Lib.hid (E3.z 0 rfl).limbs.2
  have hn1 := (E3.z 1 rfl).few
  have hn2 := (E3.z 0 rfl).few
  have hcmp := fun w0 h0 h1 => rCmp_any A1 n1 c1 l1 A2 n2 c2 l2 w0 h0 h1 (by omega) (by omega)
  rw [HV1.out, HV2.out] at hcmp
  cases b1 <;> cases b2
  · go_wp2_with fail
    refine (hcmp _ hl1 hl2).mono ?_; rintro e w3 ⟨rfl, hb3⟩
    obtain ⟨z, hz⟩ : ∃ z, Num.cmp x.natAbs y.natAbs = z := ⟨_, rfl⟩
    rw [hz]
    have HZ := Lib.hid hz
    clear hz
    have E4 := E3.below hb3
    have a30 := E4.cell 1 0 rfl rfl
    go_wp2_with fail
    go_ret
    refine ⟨ret_int ?_, E4.bel⟩
    have h1 := of_decide_eq_false hs1.out.symm
    have h2 := of_decide_eq_false hs2.out.symm
    show z = zcmp x y
    rw [← HZ.out, ← zcmp_pos, show (x.natAbs : Int) = x by omega, show (y.natAbs : Int) = y by omega]
  · go_wp2_with fail
    go_ret
    have h1 := of_decide_eq_false hs1.out.symm
    have h2 := of_decide_eq_true hs2.out.symm
    exact ⟨ret_int (zcmp_gt (by omega)).symm, E3.bel⟩
  · go_wp2_with fail
    go_ret
    have h1 := of_decide_eq_true hs1.out.symm
    have h2 := of_decide_eq_false hs2.out.symm
    exact ⟨ret_int (zcmp_lt (by omega)).symm, E3.bel⟩
  · go_wp2_with fail
    refine (hcmp _ hl1 hl2).mono ?_; rintro e w3 ⟨rfl, hb3⟩
    obtain ⟨z, hz⟩ : ∃ z, Num.cmp x.natAbs y.natAbs = z := ⟨_, rfl⟩
    have hzr : z = -1 ∨ z = 0 ∨ z = 1 := by
      rw [← hz, ← zcmp_pos]; exact zcmp_range ..
    rw [hz]
    have HZ := Lib.hid hz
    clear hz
    have E4 := E3.below hb3
    have a30 := E4.cell 1 0 rfl rfl
    go_wp2_with fail
    go_ret
    refine ⟨ret_int ?_, E4.bel⟩
    have h1 := of_decide_eq_true hs1.out.symm
    have h2 := of_decide_eq_true hs2.out.symm
    rw [← HZ.out, ← zcmp_pos, ← zcmp_swap, ← zcmp_neg, show -(x.natAbs : Int) = x by omega, show -(y.natAbs : Int) = y by omega]

end Go.Proofs.YticjhlbmdjijnaaDoor

/- The contracts of heijunkaref02: Mul, Add, Sub, Same, Text. No condition but the reach of a slice. -/
namespace Go.Proofs.YticjhlbmdjijnaaDoor
open Go.RowKit

theorem zv_add_same (b : Bool) (u v : Nat) : zv b (u + v) = zv b u + zv b v := by cases b <;> simp [zv] <;> omega
theorem zv_add_ge (b : Bool) (u v : Nat) (h : v ≤ u) : zv b (u - v) = zv b u + zv (!b) v := by cases b <;> simp [zv] <;> omega
theorem zv_add_lt (b : Bool) (u v : Nat) (h : u ≤ v) : zv (!b) (v - u) = zv b u + zv (!b) v := by cases b <;> simp [zv] <;> omega
end Go.Proofs.YticjhlbmdjijnaaDoor

/- The contracts of heijunkaref02: Sub, Same, Text, Bytes. No condition but the reach of a slice. -/
namespace Go.Proofs.YticjhlbmdjijnaaDoor
open Go.RowKit

theorem ZIs.neg {w : World} {b : Bool} {A : Option Addr} {n c : Nat} {z : Int} {k : Nat} {p : Bool} (h : ZIs w b A n c z k p) : ZIs w (!b) A n c (-z) k false := by
  obtain ⟨⟨l, h1, h2, _⟩, h3⟩ := h
  exact ⟨⟨l, h1, by rw [zv_not, h2], fun h => by cases h⟩, h3⟩
set_option maxRecDepth 100000 in
set_option maxHeartbeats 1600000 in
theorem zsame {w : World} {a b : Bool} {A B : Option Addr} {n c m d : Nat} {x y : Int} {i j : Nat} (ha : ZIs w a A n c x i true) (hb : ZIs w b B m d y j true) (hi : i ≤ 1073741824) (hj : j ≤ 1073741824) : Calls Tryd.prog 12 #[.agg #[.bool a, .slice A n c], .agg #[.bool b, .slice B m d]] w fun e w' => e = .returned (.bool (decide (x = y))) ∧ Below w.heap.size w w' := by
  obtain ⟨l1, hs1⟩ := ha.limbs
  obtain ⟨l2, hs2⟩ := hb.limbs
  have hn1 := ha.few
  have hn2 := hb.few
  have E1 := (((Env.nil_ w).alloc 24 #[.bool a, .slice A n c] (g := w.heap.size) rfl rfl).alloc 24 #[.bool b, .slice B m d] (g := w.heap.size + 1) (by simp) rfl)
  have hsm := fun w0 h0 h1 => same_below A B n c m d (lmb x.natAbs) (lmb y.natAbs) w0 h0 h1 (by omega) (by omega)
  have hl1 := (l1.alloc (.cells #[.bool a, .slice A n c] 24)).alloc (.cells #[.bool b, .slice B m d] 24)
  have hl2 := (l2.alloc (.cells #[.bool a, .slice A n c] 24)).alloc (.cells #[.bool b, .slice B m d] 24)
  by_cases hbb : a = b
  · subst hbb
    have he : decide (lmb x.natAbs = lmb y.natAbs) = decide (x = y) := by
      by_cases h : x = y
      · rw [h, decide_eq_true rfl, decide_eq_true rfl]
      · rw [decide_eq_false h, decide_eq_false]
        intro h'
        have h1 := lmb_inj h'
        by_cases hx : x < 0
        · rw [decide_eq_true hx] at hs1
          have := of_decide_eq_true (hs2.symm.trans hs1)
          omega
        · rw [decide_eq_false hx] at hs1
          have := of_decide_eq_false (hs2.symm.trans hs1)
          omega
    simp only [he] at hsm
    obtain ⟨r, hr⟩ : ∃ r, decide (x = y) = r := ⟨_, rfl⟩
    rw [hr] at hsm ⊢
    clear hs1 hs2 he hr l1 l2
    go_enter Tryd.func12, Tryd.ntmps12
    go_wp2_with fail
    refine (hsm _ hl1 hl2).mono ?_; rintro e w1 ⟨rfl, hb1⟩
    go_wp2_with fail
    go_ret
    exact ⟨rfl, (E1.below hb1).bel⟩
  · have hxy : decide (x = y) = false := by
      rw [decide_eq_false]
      rintro rfl
      exact hbb (hs1.trans hs2.symm)
    rw [hxy]
    have hab : (a == b) = false := by simpa using hbb
    clear hs1 hs2 hxy hsm hl1 hl2 l1 l2
    go_enter Tryd.func12, Tryd.ntmps12
    go_wp2_with fail
    go_ret
    exact ⟨rfl, E1.bel⟩
theorem run_fld0 (b : Bool) (A : Option Addr) (n c : Nat) (w : World) : (Instr.field 24 (.agg #[.bool b, .slice A n c]) 0).run Tryd.prog w = .ok (.bool b) w := by kernel_rfl
set_option maxRecDepth 100000 in
set_option maxHeartbeats 1600000 in
theorem rztext {w : World} {a : Bool} {A : Option Addr} {n c : Nat} {x : Int} {i : Nat} {p : Bool} (ha : ZIs w a A n c x i p) (hi : i ≤ 1048576) : Calls Tryd.prog 11 #[.agg #[.bool a, .slice A n c]] w fun e w' => e = .returned (.string (str (ztx x))) ∧ Below w.heap.size w w' := by
  have E1 := (((Env.nil_ w).add ha).alloc 24 #[.bool a, .slice A n c] (g := w.heap.size) rfl rfl)
  obtain ⟨l, hl, hv, hx⟩ := (E1.z 0 rfl).lim
  have hn := ha.few
  have tt := fun w0 h0 => rtext_any A n c l w0 h0 (by omega)
  have hvn : vl l < 4294967296 ^ n := by rw [← hl.len]; exact Num.val_lt _ l hl.lt
  rw [hv] at tt hvn
  have hlen := decTxt_most x.natAbs n hvn
  have hadd := fun w0 => str_add (P := Tryd.prog) [45] (decTxt x.natAbs) (by simp; omega) w0
  have e45 : str [45] = ⟨#[45]⟩ := rfl
  rw [e45] at hadd
  clear hx hv hvn hlen e45
  go_enter Tryd.func11, Tryd.ntmps11
  go_wp2_with fail
  refine (rzplain (E1.z 0 rfl) (by omega) (Nat.le_refl _)).mono ?_; rintro e w1 ⟨b1, A1, n1, c1, rfl, z1, hb1⟩
  have E2 := E1.below hb1
  have hs := z1.limbs.2
  have k0 := E2.cell 0 0 rfl rfl
  have k1 := E2.cell 0 1 rfl rfl
  have hfld := fun w0 => run_fld0 b1 A1 n1 c1 w0
  by_cases hneg : x < 0
  · rw [decide_eq_true hneg] at hs
    subst hs
    go_wp2_with fail
    refine (tt _ (hl.below hb1)).mono ?_; rintro e w2 ⟨rfl, hb2⟩
    go_wp2_with fail
    go_ret
    exact ⟨by rw [ztx_neg hneg]; rfl, (E2.below hb2).bel⟩
  · rw [decide_eq_false hneg] at hs
    subst hs
    go_wp2_with fail
    refine (tt _ (hl.below hb1)).mono ?_; rintro e w2 ⟨rfl, hb2⟩
    go_wp2_with fail
    go_ret
    exact ⟨by rw [ztx_pos (by omega)]; rfl, (E2.below hb2).bel⟩
end Go.Proofs.YticjhlbmdjijnaaDoor

/- The contracts of heijunkaref02: Bytes, Parse, Read; of heijunkalaw02: few. No condition but the reach of a slice. -/
namespace Go.Proofs.YticjhlbmdjijnaaDoor
open Go.RowKit

end Go.Proofs.YticjhlbmdjijnaaDoor

/- The contract of heijunkaref02: Parse. No condition but the reach of a string. -/
namespace Go.Proofs.YticjhlbmdjijnaaDoor
open Go.RowKit

theorem dec_zero {l : List Nat} (h : Reads l) : dec l = 0 ↔ l = [48] := by
  constructor
  · intro h0
    have hp := h.pos
    have hl := h.lead
    have hd := h.digs
    cases l with
    | nil => simp at hp
    | cons x m =>
      have h1 := dec_append [x] m
      rw [show [x] ++ m = x :: m from rfl, h0] at h1
      have hx := hd x (by simp)
      have h2 : dec [x] = x - 48 := by simp [dec]
      rw [h2] at h1
      have h3 : (x - 48) * 10 ^ m.length = 0 := by omega
      have h4 : x = 48 := by
        rcases Nat.mul_eq_zero.1 h3 with h | h
        · omega
        · have := Nat.pow_pos (n := m.length) (show 0 < 10 by decide); omega
      subst h4
      cases m with
      | nil => rfl
      | cons y k => exact absurd ⟨by simp, rfl⟩ hl
  · rintro rfl; rfl
instance (l : List Nat) : Decidable (Digs l) := by unfold Digs; exact inferInstance
instance (l : List Nat) : Decidable (Reads l) := decidable_of_iff (1 ≤ l.length ∧ l.length ≤ 40000 ∧ ¬ (1 < l.length ∧ l[0]? = some 48) ∧ Digs l) ⟨fun ⟨a, b, c, d⟩ => ⟨a, b, c, d⟩, fun ⟨a, b, c, d⟩ => ⟨a, b, c, d⟩⟩
instance (l : List Nat) : Decidable (ZReads l) := decidable_of_iff (Reads (bod l) ∧ ¬ (l[0]? = some 45 ∧ dec (bod l) = 0)) ⟨fun ⟨a, b⟩ => ⟨a, b⟩, fun ⟨a, b⟩ => ⟨a, b⟩⟩
/-- Is a text a whole number? Which one (0, if it is none)? -/
def zok (l : List Nat) : Bool := decide (ZReads l)
def zpv (l : List Nat) : Int := if zok l then zdec l else 0
theorem zok_yes {l : List Nat} (h : ZReads l) : zok l = true := by unfold zok; exact decide_eq_true h
theorem zok_no {l : List Nat} (h : ¬ ZReads l) : zok l = false := by unfold zok; exact decide_eq_false h
theorem zpv_yes {l : List Nat} (h : ZReads l) : zpv l = zdec l := by unfold zpv; rw [zok_yes h]; rfl
theorem zpv_no {l : List Nat} (h : ¬ ZReads l) : zpv l = 0 := by unfold zpv; rw [zok_no h]; rfl
end Go.Proofs.YticjhlbmdjijnaaDoor

/- The contract of heijunkaref02: Read. No condition but the reach of a slice. -/
namespace Go.Proofs.YticjhlbmdjijnaaDoor
open Go.RowKit

instance (l : List Nat) : Decidable (ReadOk l) := decidable_of_iff (2 ≤ l.length ∧ cnt l ≤ 4096 ∧ 2 + 4 * cnt l ≤ l.length ∧ (cnt l = 0 ∨ le4 l (2 + 4 * (cnt l - 1)) ≠ 0)) ⟨fun ⟨a, b, c, d⟩ => ⟨a, b, c, d⟩, fun ⟨a, b, c, d⟩ => ⟨a, b, c, d⟩⟩
instance (l : List Nat) : Decidable (ZBytes l) := decidable_of_iff ((l[0]? = some 0 ∨ l[0]? = some 1) ∧ ReadOk (l.drop 1) ∧ ¬ (l[0]? = some 1 ∧ cnt (l.drop 1) = 0)) ⟨fun ⟨a, b, c⟩ => ⟨a, b, c⟩, fun ⟨a, b, c⟩ => ⟨a, b, c⟩⟩
/-- May a whole number be read of bytes? Which one (0, if none)? What is behind it? -/
def zrok (l : List Nat) : Bool := decide (ZBytes l)
def zrv (l : List Nat) : Int := if zrok l then zbv l else 0
def zrl (l : List Nat) : List Nat := if zrok l then zbl l else []
theorem zrok_yes {l : List Nat} (h : ZBytes l) : zrok l = true := by unfold zrok; exact decide_eq_true h
theorem zrok_no {l : List Nat} (h : ¬ ZBytes l) : zrok l = false := by unfold zrok; exact decide_eq_false h
theorem zrv_yes {l : List Nat} (h : ZBytes l) : zrv l = zbv l := by unfold zrv; rw [zrok_yes h]; rfl
theorem zrv_no {l : List Nat} (h : ¬ ZBytes l) : zrv l = 0 := by unfold zrv; rw [zrok_no h]; rfl
theorem zrl_yes {l : List Nat} (h : ZBytes l) : zrl l = zbl l := by unfold zrl; rw [zrok_yes h]; rfl
theorem zrl_no {l : List Nat} (h : ¬ ZBytes l) : zrl l = [] := by unfold zrl; rw [zrok_no h]; rfl
theorem limbs_plain {l : List Nat} (hl : ∀ x ∈ l, x < 256) (h : ReadOk l) : limbsAt l (cnt l) = lmb (vl (limbsAt l (cnt l))) := by
  refine (Num.dig_val (b := 4294967296) (by decide) _ ?_ ?_).symm
  · intro x hx
    obtain ⟨i, hi⟩ := List.getElem?_of_mem hx
    unfold limbsAt at hi
    rw [List.getElem?_map] at hi
    obtain ⟨j, _, rfl⟩ := Option.map_eq_some_iff.1 hi
    have g : ∀ p, l[p]?.getD 0 < 256 := fun p => by
      rcases Nat.lt_or_ge p l.length with hp | hp
      · rw [List.getElem?_eq_getElem hp]; exact hl _ (List.getElem_mem hp)
      · rw [List.getElem?_eq_none hp]; decide
    unfold le4
    have := g (2 + 4 * j)
    have := g (2 + 4 * j + 1)
    have := g (2 + 4 * j + 2)
    have := g (2 + 4 * j + 3)
    omega
  · intro x hx
    rcases h.top with h0 | h0
    · rw [h0] at hx; simp [limbsAt] at hx
    · have hN : 0 < cnt l := by
        rcases Nat.eq_zero_or_pos (cnt l) with h1 | h1
        · rw [h1] at hx; simp [limbsAt] at hx
        · exact h1
      rw [limbsAt_len, limbsAt_get l (by omega)] at hx
      cases hx
      exact h0
end Go.Proofs.YticjhlbmdjijnaaDoor
