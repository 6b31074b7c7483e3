/- The law RootOnly, walked. No condition but the reach of a slice. -/
import Derived.Test.YtfoeapjlklfjgaaDoorRootC
import Derived.Test.YtfoeapjlklfjgaaDoorLawR64
import Derived.Deep.DeepCutAuto
namespace Go.Proofs.YtfoeapjlklfjgaaDoor
set_option linter.unusedSimpArgs false
set_option linter.unusedVariables false
open Go.RowKit

theorem zero_gen_ (n i : Nat) : genOf ((DSt.new n).sure.getD i []) i = 0 := by
  have hz : (DSt.new n).sure.getD i [] = List.replicate 64 0 ∨ (DSt.new n).sure.getD i [] = [] := by
    by_cases h : i < n
    · left
      show (List.replicate n (List.replicate 64 0)).getD i [] = _
      rw [List.getD_eq_getElem?_getD, List.getElem?_replicate, if_pos h]; rfl
    · right
      show (List.replicate n (List.replicate 64 0)).getD i [] = _
      rw [List.getD_eq_getElem?_getD, List.getElem?_replicate, if_neg h]; rfl
  rcases hz with e | e
  · rw [e]
    have : Cl.isEnc (List.replicate 64 0) = false := by
      unfold Cl.isEnc
      have : (Cl.raw (List.replicate 64 0)).may = false := by
        unfold Cl.may Cl.raw
        exact decide_eq_false (fun h => by have := h.1; simp at this)
      rw [this]; simp
    unfold genOf isRootL
    rw [this]; rfl
  · rw [e]; exact genOf_nil i
theorem genOf_x {l : List Nat} (h : l[15]? = some 120) (slot : Nat) : genOf l slot = 0 := by
  unfold genOf
  rw [if_neg]
  intro hr
  unfold isRootL at hr
  simp only [Bool.and_eq_true, decide_eq_true_eq] at hr
  have hd : (Cl.raw l).data = [114, 111, 111, 116] := by rw [hr.2.2]; rfl
  have hd : (l.drop 15).take (l.getD 14 0) = [114, 111, 111, 116] := hd
  have h0 := congrArg (fun m : List Nat => m[0]?) hd
  simp only [List.getElem?_cons_zero] at h0
  rw [List.getElem?_take] at h0
  split at h0
  · rw [List.getElem?_drop] at h0
    simp only [Nat.add_zero] at h0
    rw [h] at h0
    cases h0
  · cases h0
theorem lastOf_or (p : List (Nat × List Nat)) (i : Nat) (d : List Nat) : DSt.lastOf p i d = d ∨ ∃ x ∈ p, DSt.lastOf p i d = x.2 := by
  induction p generalizing d with
  | nil => exact .inl rfl
  | cons x xs ih =>
    rw [DSt.lastOf_cons]
    rcases ih (if x.1 = i then x.2 else d) with h | ⟨y, hy, h⟩
    · rw [h]
      split
      · exact .inr ⟨x, List.mem_cons_self .., rfl⟩
      · exact .inl rfl
    · exact .inr ⟨y, List.mem_cons_of_mem _ hy, h⟩
theorem rowV_one (l : List Nat) : ∀ v ∈ rowV l, v.oneCell' = true := by
  intro v hv
  obtain ⟨x, _, rfl⟩ := List.mem_map.1 hv
  rfl
theorem wpList_allocA {P : Program} {ops : Array Oper} {rest : List Oper} {o : Oper} {a : Act} {w : World} {Q : Exit → Act → World → Prop} (hgd : o.guard = none) (ty : TypeId) (ho : o.op = .alloc ty) (z : Array Value) (hi : (P.info? ty).map (·.zero) = some (some (.agg z)))
    (h : ∀ w', Blk w' w.heap.size ty z → Below w.heap.size w w' → wpList P ops Q rest (a.put o.dst (.pointer (some ⟨w.heap.size, 0, none⟩))) w') : wpList P ops Q (o :: rest) a w := by
  refine wpList_plain hgd fun K hK => ?_
  have h1 := h _ (Blk.new w ty z) ((Below.refl _ w).alloc (Nat.le_refl _) _)
  cases hq : P.info? ty with
  | none => simp [hq] at hi
  | some i =>
    have hz : i.zero = some (.agg z) := by simpa [hq] using hi
    unfold Oper.wp execOp
    simp [ho, Instr.alloc, zeroValue, typeInfo, hq, hz, newVar, newRow, Value.cells]
    exact hK _ _ h1
set_option maxRecDepth 100000 in
theorem zinfo : (Tryd.prog.info? 61).map (·.zero) = some (some (.agg (rowV (List.replicate 64 0)).toArray)) := by kernel_rfl
theorem row_set (x : List Nat) (k y : Nat) : (rowV x).toArray.setIfInBounds k (.int .u8 (y : Int)) = (rowV (x.set k y)).toArray := by
  unfold rowV
  rw [List.map_set, List.setIfInBounds_toArray]
theorem ints_of_blk {w : World} {g n : Nat} {t : TypeId} {l : List Nat} (h : Blk w g t (rowV l).toArray) (hl : l.length = n) (hb : ∀ y ∈ l, y < 256) : Ints w .u8 256 (some ⟨g, 0, none⟩) n n l :=
  ⟨⟨by rw [List.length_map]; exact hl, Nat.le_refl _, fun _ => ⟨g, 0, rfl, h.lt, fun j u hu => by
    rw [Nat.zero_add, h.cell j]
    unfold rowV
    simpa using hu⟩⟩, hb⟩
/-- Behind so many writes of what is no root. -/
structure Onl (s : DSt) (j : Nat) : Prop where
  up : s.Up
  sure : s.sure = (DSt.new 8).sure
  beg : s.begun ≤ j
  plen : s.pend.length ≤ j
  all : ∀ p ∈ s.pend, ∀ slot, genOf p.2 slot = 0
theorem Onl.zero : Onl (DSt.new 8) 0 := ⟨DSt.new_up 8, rfl, Nat.le_refl _, Nat.le_refl _, fun p h => by cases h⟩
theorem Onl.step {s : DSt} {j i : Nat} {l : List Nat} (h : Onl s j) (hi : i < 8) (hl : l.length = 64) (h15 : l[15]? = some 120) : Onl (s.write (i : Int) l).1 (j + 1) := by
  have hs : s.sure.length = 8 := by rw [h.sure]; rfl
  rw [h.up.write (by omega) hl]
  refine ⟨⟨rfl, rfl⟩, h.sure, by show s.begun + 1 ≤ _; have := h.beg; omega, by show (s.pend ++ [(i, l)]).length ≤ _; rw [List.length_append]; have := h.plen; simp; omega, fun p hp slot => ?_⟩
  have hp : p ∈ s.pend ++ [(i, l)] := hp
  rcases List.mem_append.1 hp with hp | hp
  · exact h.all p hp slot
  · rw [List.mem_singleton] at hp
    subst hp
    exact genOf_x h15 slot
theorem Onl.load {s : DSt} {j : Nat} (h : Onl s j) : s.flush.1.load = (0, 0) := by
  have hs : s.sure.length = 8 := by rw [h.sure]; rfl
  rw [h.up.flush]
  have hz : ∀ i, i < 8 → genOf ((DSt.lay s.sure s.pend).getD i []) i = 0 := fun i hi => by
    rw [DSt.lay_get _ _ _ (by omega)]
    rcases lastOf_or s.pend i (s.sure.getD i []) with e | ⟨x, hx, e⟩
    · rw [e, h.sure]; exact zero_gen_ 8 i
    · rw [e]; exact h.all x hx i
  have h1 := DSt.load_plain (s := { sure := DSt.lay s.sure s.pend, pend := [], down := false, stop := 0, begun := s.begun + 1 }) rfl rfl (by show 2 ≤ (DSt.lay s.sure s.pend).length; rw [DSt.len_lay]; omega)
  rw [h1]
  show (max (genOf ((DSt.lay s.sure s.pend).getD 0 []) 0) (genOf ((DSt.lay s.sure s.pend).getD 1 []) 1), (0 : Int)) = (0, 0)
  rw [hz 0 (by decide), hz 1 (by decide)]
  rfl
section
variable {w0 w : World} {g : Nat} {s : DSt} {rs : List BEl} {ims : List ImgT}
theorem dwrite_dx (E : DE w0 w g s rs ims) {w2 : World} (hb2 : Below w.heap.size w w2) (i : Int) {bA : Option Addr} {bn bc : Nat} {l : List Nat} (hB : Ints w2 .u8 256 bA bn bc l) (hoff : ∀ ad, bA = some ad → w.heap.size ≤ ad.block) (hbn : (bn : Int) ≤ 9223372036854775807) (hb : s.begun < 1152921504606846976) (hp : s.pend.length < 1099511627776) :
    Calls Tryd.prog 34 #[.pointer (some ⟨g, 0, none⟩), .int .i64 i, .slice bA bn bc] w2 fun e w' => e = .returned (.int .i64 (s.write i l).2) ∧ DE w0 w' g (s.write i l).1 rs ims := by
  obtain ⟨T, D, hT, hb0, hr, hi⟩ := E.ex
  have D2 := D.below hb2
  exact (dwrite_any D2 i hB (fun ad he hk => by have := hoff ad he; have := D.lt _ hk; omega) hbn hb hp).mono fun _ _ ⟨he, T', D', hm⟩ =>
    ⟨he, DE.go D2 hT (below_step hb0 hb2 hb0.size) (fun x hx => (hr x hx).below hb2) (fun i h => ⟨(hi i h).1.below hb2, (hi i h).2⟩) D' hm⟩
end

set_option maxRecDepth 100000 in
set_option maxHeartbeats 6400000 in
theorem rootOnly_any (A : Option Addr) (n c : Nat) (xs : List (List Nat)) (w : World) (hr : Rows64 w A n c xs) (hn : n ≤ maxLen) :
    Calls Tryd.prog 11 #[.slice A n c] w fun e w' => e = .returned (.bool true) ∧ Below w.heap.size w w' := by
  unfold maxLen at hn
  go_enter Tryd.func11, Tryd.ntmps11
  go_wp2_with fail
  refine (rawake_any _).mono ?_; rintro e w1 ⟨rfl, hb1⟩
  go_wp2_with fail
  refine (dnew_de 8 (by omega) (by omega) _ hb1).mono ?_; rintro e w2 ⟨g, rfl, E0⟩
  go_wp2_with fail
  go_loopw [5] (fun v wr => ∃ (j : Nat) (s : DSt), j ≤ n ∧ j ≤ 8 ∧ v = .int .i64 (j : Int) ∧ DE w wr g s [] [] ∧ Onl s j) (fun v _ => n - (intOf v).toNat)
  case atStart => exact ⟨0, _, Nat.zero_le _, by omega, rfl, E0, Onl.zero⟩
  case round =>
    obtain ⟨j, s, hj, hj8, rfl, E, hO⟩ := hrel
    clear E0
    by_cases hgo : j < n ∧ j < 8
    · obtain ⟨h1, h2⟩ := hgo
      have t1 : (j : Int) < (n : Int) := by omega
      have t2 : (j : Int) < 8 := by omega
      have t2d : decide ((j : Int) < 8) = true := decide_eq_true t2
      obtain ⟨b, o, x, hA, hbl, hx, hrg, hxl, hxb⟩ := (hr.below E.bel).get h1
      subst hA
      have hrl : (rowV x).length = 64 := by rw [rowV_len, hxl]
      have HR := Lib.hid hrg
      have HO := Lib.hid hO
      have HX := Lib.hid (And.intro hxl hxb)
      clear hrg hx hO hxl hxb
      clear hrl
      go_upto_region 10 with (first
        | (refine wpList_load_mid rfl 61 (.tmp 29) rfl b (o + j * 64) rfl (rowV x) _ HR.out Tryd.underlying61 rfl (by rw [rowV_len, HX.out.1]; kernel_rfl) ?_)
        | (refine wpList_allocA rfl 61 rfl _ zinfo ?_; intro w3 hB3 hb3)
        | (refine wpList_store_blk rfl 61 (.tmp 6) (.tmp 30) rfl wr.heap.size rfl 61 _ (rowV x).toArray rfl hB3 (by rw [List.size_toArray, rowV_len, HX.out.1]; first | done | kernel_rfl) (by rw [List.size_toArray, List.size_toArray, rowV_len, rowV_len, HX.out.1]; first | done | rfl) (all_oneCell_toArray (rowV_one x)) ?_; intro w4 hB4 hg4))
      have hb4 : Below wr.heap.size wr w4 := hb3.grown hg4 hb3.size (fun k e => by cases e; exact Nat.le_refl _)
      obtain ⟨v15, hv15⟩ : ∃ v, (rowV x).toArray[15]? = some v := ⟨_, Array.getElem?_eq_getElem (by rw [List.size_toArray, rowV_len, HX.out.1]; decide)⟩
      have hc15 : w4.cell? ⟨wr.heap.size, 15, none⟩ = some v15 := (hB4.cell 15).trans hv15
      have hf15 := hB4.frozen 15
      have hB5 := hB4.set_ 15 (.int .u8 ((120 : Nat) : Int))
      rw [row_set] at hB5
      have hb5 := hb4.setCell (p := ⟨wr.heap.size, 15, none⟩) (Nat.le_refl _) (.int .u8 ((120 : Nat) : Int))
      have hI5 := ints_of_blk hB5 (n := 64) (by rw [List.length_set]; exact HX.out.1) (fun y hy => by
        rcases List.mem_or_eq_of_mem_set hy with hy | rfl
        · exact HX.out.2 y hy
        · decide)
      have hst := HO.out.step (i := j) (l := x.set 15 120) h2 (by rw [List.length_set]; exact HX.out.1) (by rw [List.getElem?_set_self (by rw [HX.out.1]; decide)])
      have hbg := HO.out.beg
      have hpl := HO.out.plen
      have HST := Lib.hid hst
      clear hB3 hB4 hg4 hb3 hb4 hv15 hst hB5
      go_wp2_with fail
      refine (dwrite_dx E hb5 (j : Int) hI5 (fun ad e => by cases e; exact Nat.le_refl _) (by decide) (by omega) (by omega)).mono ?_; rintro e w6 ⟨rfl, E6⟩
      generalize (s.write (j : Int) (x.set 15 120)).2 = cdw
      clear hb5 hI5 hc15 hf15 E
      go_wp2_with fail
      go_roundw
      case rel => exact ⟨j + 1, _, by omega, by omega, by go_num, E6, HST.out⟩
      case measure => simp [intOf]; omega
    · go_upto_region 7 with (fail)
      go_cut [24] (fun v24 wx => v24 = .bool false ∧ wx = wr)
      case first =>
        by_cases h1 : j < n
        · have t1 : (j : Int) < (n : Int) := by omega
          have t2 : ¬ (j : Int) < 8 := by omega
          have t2d : decide ((j : Int) < 8) = false := decide_eq_false t2
          clear hgo h1
          go_wp2_with fail
          go_meet
          exact ⟨rfl, rfl⟩
        · have t1 : ¬ (j : Int) < (n : Int) := by omega
          clear hgo h1
          go_wp2_with fail
          go_meet
          exact ⟨rfl, rfl⟩
      case rest =>
        obtain ⟨rfl, rfl⟩ := hcut
        have HL := Lib.hid hO.load
        have hbg := hO.beg
        clear hgo hO
        go_wp2_with fail
        refine (dflush_de E (by omega)).mono ?_; rintro e w6 ⟨rfl, E⟩
        generalize s.flush.2 = cdf
        go_wp2_with fail
        refine (load_any E).mono ?_; rintro e w7 ⟨rfl, hb7⟩
        rw [HL.out]
        have E := E.below hb7
        clear hb7
        go_wp2_with fail
        go_ret
        exact ⟨rfl, E.bel⟩
end Go.Proofs.YtfoeapjlklfjgaaDoor
