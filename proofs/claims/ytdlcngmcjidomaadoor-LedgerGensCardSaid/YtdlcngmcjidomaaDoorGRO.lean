/- Texts of several parts in one: RootA, RootB, RootC. Each says what it proves; no condition but those named there. -/
import Derived.Test.YtdlcngmcjidomaaDoorLCellL
import Derived.Test.YtdlcngmcjidomaaDoorLDiskJ
import Derived.Test.YtdlcngmcjidomaaDoorGSM
import Derived.Lib.SlBytesConst
import Derived.Laws.IdiomStrings
/- The contracts of root.root and root.is. No condition but the reach of a slice. -/
namespace Go.Proofs.YtdlcngmcjidomaaDoor
set_option linter.unusedSimpArgs false
set_option linter.unusedVariables false
open Go.RowKit

theorem results_row1 {P : Program} {fn : Func} {p : Tmp} {ty : TypeId} (h : fn.results = #[.cell p ty]) (tmps : Array Value) (w : World) (g : Nat) (t : TypeId) (cs : Array Value) (fr : Nat × Nat) (d : TypeDesc)
    (hp : tmps.getD p undef = .pointer (some ⟨g, 0, none⟩)) (hg : w.heap[g]? = some (.cells cs t fr))
    (hu : P.underlying ty = some d) (hd : (match d with | .struct _ | .array _ _ => true | _ => false) = true) (hi : (P.info? ty).map (·.size) = some cs.size) :
    (results fn tmps).run P w = .ok (.agg cs) w := by
  have hp' : tmps[p]?.getD undef = .pointer (some ⟨g, 0, none⟩) := by simpa using hp
  simp [results, h, hp', asAddr, run_loadVar_row w g t ty cs fr d hg hu hd hi]
set_option maxRecDepth 100000 in
set_option maxHeartbeats 3200000 in
theorem root_any (gen : Nat) (hg : gen < 4294967296) (w : World) :
    Calls Tryd.prog 65 #[.int .u32 (gen : Int)] w fun e w' => ∃ A, e = .returned (.agg #[.int .u32 (gen : Int), .int .u32 0, .int .i64 0, .int .i64 1, .slice A 4 4]) ∧ Ints w' .u8 256 A 4 4 [114, 111, 111, 116] ∧ Below w.heap.size w w' := by
  have kc := conv_const (P := Tryd.prog) 22 5 Tryd.underlying22 Tryd.underlying5
  go_enter Tryd.func65, Tryd.ntmps65
  go_wp2_with fail
  clear kc
  refine bodyPost_ret (results_row1 rfl _ _ w.heap.size 73 #[.int .u32 (gen : Int), .int .u32 0, .int .i64 0, .int .i64 1, .slice (some ⟨w.heap.size + 1, 0, none⟩) 4 4] (0, 0) _ rfl ((Blk.new w 73 #[.int .u32 (gen : Int), .int .u32 0, .int .i64 0, .int .i64 1, .slice (some ⟨w.heap.size + 1, 0, none⟩) 4 4]).alloc _).is Tryd.underlying73 rfl (by kernel_rfl)) rfl ?_
  refine ⟨_, rfl, Ints.lit .u8 256 5 [114, 111, 111, 116] (by simp) rfl rfl (by decide), ?_⟩
  exact ((Below.refl _ w).alloc (Nat.le_refl _) _).alloc (by simp) _
/-- Bytes as a string. -/
def str_ (l : List Nat) : ByteArray := ⟨(l.map UInt8.ofNat).toArray⟩
theorem str_list_ (l : List Nat) : (str_ l).toList = l.map UInt8.ofNat := by rw [ByteArray.toList_eq]; simp [str_]
theorem str_root {l : List Nat} (h : l = [114, 111, 111, 116]) : ((str_ l).toList == [114, 111, 111, 116]) = true := by
  subst h; rw [str_list_]; rfl
theorem str_noroot {l : List Nat} (hl : ∀ x ∈ l, x < 256) (h : l ≠ [114, 111, 111, 116]) : ((str_ l).toList == [114, 111, 111, 116]) = false := by
  rw [str_list_]
  cases hb : (l.map UInt8.ofNat == [114, 111, 111, 116]) with
  | false => rfl
  | true =>
    exfalso
    apply h
    have e : l.map UInt8.ofNat = [114, 111, 111, 116] := by simpa using hb
    have e2 := congrArg (List.map UInt8.toNat) e
    rw [List.map_map] at e2
    have e3 : l.map (UInt8.toNat ∘ UInt8.ofNat) = l := by
      conv => rhs; rw [← List.map_id l]
      apply List.map_congr_left
      intro x hx
      simp [Nat.mod_eq_of_lt (hl x hx)]
    rw [e3] at e2
    exact e2
theorem conv_str_ {P : Program} {w : World} {A : Option Addr} {n c : Nat} {l : List Nat} (src dst e : TypeId) (hs : P.underlying src = some (.slice e)) (he : P.underlying e = some (.int .u8)) (hd : P.underlying dst = some .string) (h : Ints w .u8 256 A n c l) :
    (convert src dst (.slice A n c)).run P w = .ok (.string (str_ l)) w := by
  cases A with
  | none =>
    have h0 : n = 0 := by
      rcases Nat.eq_zero_or_pos n with h0 | h0
      · exact h0
      · obtain ⟨_, _, _, he, _⟩ := h.get h0
        cases he
    subst h0
    have := h.len
    rw [List.eq_nil_of_length_eq_zero this]
    rw [run_convert_bytes_string w src dst e none 0 c hs he hd]
    simp [Conv.bytesToString, str_]
    rfl
  | some ad =>
    have hl : (l.map UInt8.ofNat).length = n := by rw [List.length_map, h.len]
    have hb := run_convert_bytes_back (P := P) w src dst e ad c (l.map UInt8.ofNat) hs he hd (fun j hj => by
      have hjn : j < n := by omega
      obtain ⟨b, o, x, hA, _, hx, hxl, hc⟩ := h.get hjn
      cases hA
      rw [add_plain, hc]
      have e1 : (l.map UInt8.ofNat)[j]? = some (UInt8.ofNat x) := by rw [List.getElem?_map, hx]; rfl
      rw [List.getElem?_eq_getElem hj] at e1
      rw [Option.some.inj e1]
      simp only [UInt8.toNat_ofNat']
      rw [Nat.mod_eq_of_lt hxl])
    rw [hl] at hb
    exact hb
def isC (gs sq : Nat) (pt ps : Int) (l : List Nat) (slot : Int) : Bool := decide (0 < gs ∧ ((gs % 2 : Nat) : Int) = slot ∧ sq = 0 ∧ pt = 0 ∧ ps = 1 ∧ l = [114, 111, 111, 116])
theorem isC_no {gs sq : Nat} {pt ps : Int} {l : List Nat} {slot : Int} (h : ¬ (0 < gs ∧ ((gs % 2 : Nat) : Int) = slot ∧ sq = 0 ∧ pt = 0 ∧ ps = 1 ∧ l = [114, 111, 111, 116])) : isC gs sq pt ps l slot = false := decide_eq_false h
theorem isC_yes {gs sq : Nat} {pt ps : Int} {l : List Nat} {slot : Int} (h : 0 < gs ∧ ((gs % 2 : Nat) : Int) = slot ∧ sq = 0 ∧ pt = 0 ∧ ps = 1 ∧ l = [114, 111, 111, 116]) : isC gs sq pt ps l slot = true := decide_eq_true h

set_option maxRecDepth 100000 in
set_option maxHeartbeats 6400000 in
theorem is_any_ (gs sq : Nat) (pt ps : Int) (A : Option Addr) (n c : Nat) (l : List Nat) (slot : Int) (w : World) (hgs : gs < 4294967296) (hr : Ints w .u8 256 A n c l) :
    Calls Tryd.prog 63 #[.agg #[.int .u32 (gs : Int), .int .u32 (sq : Int), .int .i64 pt, .int .i64 ps, .slice A n c], .int .i64 slot] w fun e w' => e = .returned (.bool (isC gs sq pt ps l slot)) ∧ Below w.heap.size w w' := by
  have hlt := hr.lt
  obtain ⟨sg, hsg⟩ : ∃ z, gs % 2 = z := ⟨_, rfl⟩
  have hsgi : (gs : Int) % 2 = (sg : Int) := by omega
  have hsg2 : ((gs % 2 : Nat) : Int) = (sg : Int) := by rw [hsg]
  have E0 := ((CE.nil_ w).addI hr).alloc 73 #[.int .u32 (gs : Int), .int .u32 (sq : Int), .int .i64 pt, .int .i64 ps, .slice A n c] rfl
  have k0 := E0.cell 0 0 rfl rfl
  clear hr
  go_enter Tryd.func63, Tryd.ntmps63
  go_wp2_with fail
  refine (root_any gs hgs _).mono ?_; rintro e w1 ⟨Ar, rfl, hir, hb1⟩
  have E1 := (E0.below hb1).alloc 73 #[.int .u32 (gs : Int), .int .u32 0, .int .i64 0, .int .i64 1, .slice Ar 4 4] rfl
  clear E0 hir hb1 k0
  have k0 := E1.cell 1 0 rfl rfl
  have k1 := E1.cell 1 1 rfl rfl
  have k2 := E1.cell 1 2 rfl rfl
  have k3 := E1.cell 1 3 rfl rfl
  have k4 := E1.cell 1 4 rfl rfl
  have r0 := E1.cell 0 0 rfl rfl
  have r1 := E1.cell 0 1 rfl rfl
  have r2 := E1.cell 0 2 rfl rfl
  have r3 := E1.cell 0 3 rfl rfl
  have hcv := conv_str_ 22 9 5 Tryd.underlying22 Tryd.underlying5 Tryd.underlying9 (E1.i 0 rfl)
  have HB := Lib.hid E1.bel
  clear E1
  go_upto_region 2 with (fail)
  by_cases h1 : 0 < gs
  case neg =>
    have HN := Lib.hid (isC_no (gs := gs) (sq := sq) (pt := pt) (ps := ps) (l := l) (slot := slot) (fun h => h1 h.1))
    have t_h1 : decide ((0 : Int) < (gs : Int)) = false := decide_eq_false (by omega)
    have h0i : ¬ (0 : Int) < (gs : Int) := by omega
    clear h1
    go_wp2_with fail
    go_ret
    exact ⟨by rw [HN.out]; rfl, HB.out⟩
  have t_h1 : decide ((0 : Int) < (gs : Int)) = true := decide_eq_true (by omega)
  have h0i : (0 : Int) < (gs : Int) := by omega
  by_cases h2 : ((gs % 2 : Nat) : Int) = slot
  case neg =>
    have HN := Lib.hid (isC_no (gs := gs) (sq := sq) (pt := pt) (ps := ps) (l := l) (slot := slot) (fun h => h2 h.2.1))
    have t_h2 : ((sg : Int) == slot) = false := by rw [hsg2] at h2; simpa using h2
    clear h1 h2
    go_wp2_with fail
    go_ret
    exact ⟨by rw [HN.out]; rfl, HB.out⟩
  have t_h2 : ((sg : Int) == slot) = true := by rw [hsg2] at h2; simp [h2]
  by_cases h3 : sq = 0
  case neg =>
    have HN := Lib.hid (isC_no (gs := gs) (sq := sq) (pt := pt) (ps := ps) (l := l) (slot := slot) (fun h => h3 h.2.2.1))
    have t_h3 : ((sq : Int) == 0) = false := by simp; omega
    clear h1 h2 h3
    go_wp2_with fail
    go_ret
    exact ⟨by rw [HN.out]; rfl, HB.out⟩
  have t_h3 : ((sq : Int) == 0) = true := by simp [h3]
  by_cases h4 : pt = 0
  case neg =>
    have HN := Lib.hid (isC_no (gs := gs) (sq := sq) (pt := pt) (ps := ps) (l := l) (slot := slot) (fun h => h4 h.2.2.2.1))
    have t_h4 : (pt == 0) = false := by simpa using h4
    clear h1 h2 h3 h4
    go_wp2_with fail
    go_ret
    exact ⟨by rw [HN.out]; rfl, HB.out⟩
  have t_h4 : (pt == 0) = true := by simp [h4]
  by_cases h5 : ps = 1
  case neg =>
    have HN := Lib.hid (isC_no (gs := gs) (sq := sq) (pt := pt) (ps := ps) (l := l) (slot := slot) (fun h => h5 h.2.2.2.2.1))
    have t_h5 : (ps == 1) = false := by simpa using h5
    clear h1 h2 h3 h4 h5
    go_wp2_with fail
    go_ret
    exact ⟨by rw [HN.out]; rfl, HB.out⟩
  have t_h5 : (ps == 1) = true := by simp [h5]
  by_cases h6 : l = [114, 111, 111, 116]
  case neg =>
    have HN := Lib.hid (isC_no (gs := gs) (sq := sq) (pt := pt) (ps := ps) (l := l) (slot := slot) (fun h => h6 h.2.2.2.2.2))
    have t_h6 : ((str_ l).toList == [114, 111, 111, 116]) = false := str_noroot hlt h6
    clear h1 h2 h3 h4 h5 h6
    go_wp2_with fail
    go_ret
    exact ⟨by rw [HN.out]; rfl, HB.out⟩
  have t_h6 : ((str_ l).toList == [114, 111, 111, 116]) = true := str_root h6
  have HN := Lib.hid (isC_yes ⟨h1, h2, h3, h4, h5, h6⟩)
  clear h1 h2 h3 h4 h5 h6
  go_wp2_with fail
  go_ret
  exact ⟨by rw [HN.out]; rfl, HB.out⟩
end Go.Proofs.YtdlcngmcjidomaaDoor

/- The contracts of root.Load and root.Save, over a law's disk. No condition but those of the disk's own functions. -/
namespace Go.Proofs.YtdlcngmcjidomaaDoor
set_option linter.unusedSimpArgs false
set_option linter.unusedVariables false
open Go.RowKit

section
variable {w0 w w' : World} {g : Nat} {s : DSt} {rs : List BEl} {ims : List ImgT}
theorem dread_db (E : DE w0 w g s rs ims) (i : Int) :
    Calls Tryd.prog 56 #[.pointer (some ⟨g, 0, none⟩), .int .i64 i] w fun e w' => ∃ A n c, e = .returned (.tuple #[.slice A n c, .int .i64 (s.read i).2]) ∧ Ints w' .u8 256 A n c (s.read i).1 ∧ Below w.heap.size w w' := by
  obtain ⟨T, D, hT, hb0, hr, hi⟩ := E.ex
  exact (dread_any D i).mono fun _ _ ⟨A, n, c, he, hx, hb⟩ => ⟨A, n, c, he, hx.ints, hb⟩
theorem read_len (h : s.Wf) (i : Int) : (s.read i).1.length ≤ 64 := by
  have hc : ∀ k, (s.cur k).length ≤ 64 := fun k => by
    unfold DSt.cur
    have h1 : ∀ (p : List (Nat × List Nat)) (d : List Nat), (∀ x ∈ p, x.2.length = 64) → d.length ≤ 64 → (DSt.lastOf p k d).length ≤ 64 := by
      intro p
      induction p with
      | nil => intro d _ hd; exact hd
      | cons x xs ih =>
        intro d hx hd
        rw [DSt.lastOf_cons]
        refine ih _ (fun y hy => hx y (List.mem_cons_of_mem _ hy)) ?_
        split
        · rw [hx x (List.mem_cons_self ..)]; exact Nat.le_refl _
        · exact hd
    refine h1 _ _ (fun x hx => (h.pend x hx).2) ?_
    rw [List.getD_eq_getElem?_getD]
    cases hk : s.sure[k]? with
    | none => exact Nat.zero_le _
    | some l => rcases h.sure l (List.mem_of_getElem? hk) with e | e <;> simp [e]
  unfold DSt.read
  split
  · exact Nat.zero_le _
  · split
    · split
      · exact Nat.zero_le _
      · exact hc _
    · exact Nat.zero_le _
theorem read_bad {i : Int} (h : (s.read i).2 ≠ 0) : (s.read i).1 = [] := by
  unfold DSt.read at h ⊢
  split
  · rfl
  · rename_i h1
    rw [if_neg h1] at h
    split
    · rename_i h2
      rw [if_pos h2] at h
      split
      · rfl
      · rename_i h3
        rw [if_neg h3] at h
        exact absurd rfl h
    · rfl
theorem isRootL_isC {l : List Nat} {gs sq : Nat} {pt ps : Int} {d : List Nat} (hd : Cl.dec l = ⟨gs, sq, pt, ps, d⟩) (i : Nat) : isRootL l i = (decide (Cl.code l = 0) && isC gs sq pt ps d (i : Int)) := by
  cases he : Cl.isEnc l with
  | false =>
    have hc : Cl.code l = 2 := by unfold Cl.code; rw [he]; rfl
    unfold isRootL
    rw [he, hc, Bool.false_and]
    rfl
  | true =>
    have hc : Cl.code l = 0 := by unfold Cl.code; rw [he]; rfl
    have hr : Cl.raw l = ⟨gs, sq, pt, ps, d⟩ := by rw [← hd]; unfold Cl.dec; rw [he]; rfl
    have hroot : (Cl.mk gs sq pt ps d = rootC gs) ↔ (sq = 0 ∧ pt = 0 ∧ ps = 1 ∧ d = [114, 111, 111, 116]) := by unfold rootC; simp
    unfold isRootL isC
    rw [he, hr, hc, Bool.true_and]
    apply Bool.eq_iff_iff.2
    simp only [Bool.and_eq_true, decide_eq_true_eq]
    rw [hroot]
    constructor
    · rintro ⟨⟨h1, h2⟩, h3⟩
      exact ⟨trivial, h1, by omega, h3⟩
    · rintro ⟨_, h1, h2, h3⟩
      exact ⟨⟨h1, by omega⟩, h3⟩
theorem genOf_yes {l : List Nat} {gs sq : Nat} {pt ps : Int} {d : List Nat} (hd : Cl.dec l = ⟨gs, sq, pt, ps, d⟩) {i : Nat} (hc : Cl.code l = 0) (h : isC gs sq pt ps d (i : Int) = true) : genOf l i = gs := by
  have h1 := isRootL_isC hd i
  rw [hc, h] at h1
  unfold genOf
  rw [if_pos (by rw [h1]; rfl)]
  have he : Cl.isEnc l = true := by
    cases he : Cl.isEnc l with
    | true => rfl
    | false => unfold Cl.code at hc; rw [he] at hc; cases hc
  have hr : Cl.raw l = ⟨gs, sq, pt, ps, d⟩ := by rw [← hd]; unfold Cl.dec; rw [he]; rfl
  rw [hr]
theorem genOf_no {l : List Nat} {gs sq : Nat} {pt ps : Int} {d : List Nat} (hd : Cl.dec l = ⟨gs, sq, pt, ps, d⟩) {i : Nat} (h : Cl.code l ≠ 0 ∨ isC gs sq pt ps d (i : Int) = false) : genOf l i = 0 := by
  have h1 := isRootL_isC hd i
  unfold genOf
  rw [if_neg]
  intro h2
  rw [h1, Bool.and_eq_true, decide_eq_true_eq] at h2
  rcases h with h | h
  · exact h h2.1
  · rw [h] at h2; cases h2.2
/-- What Load has found, so far. -/
def fnd (s : DSt) (k j : Nat) : Nat := if j < k then s.found j else 0
theorem fnd_skip {s : DSt} {k : Nat} (h : s.found k = 0) (j : Nat) : fnd s (k + 1) j = fnd s k j := by
  unfold fnd
  by_cases hj : j < k
  · rw [if_pos hj, if_pos (by omega)]
  · rw [if_neg hj]
    by_cases hk : j = k
    · subst hk; rw [if_pos (by omega)]; exact h
    · rw [if_neg (by omega)]
theorem Cl.dec_in_ {l : List Nat} (hl : ∀ x ∈ l, x < 256) : (Cl.dec l).gen < 4294967296 ∧ (Cl.dec l).seq < 4294967296 := ⟨(Cl.dec_ok hl).gen, (Cl.dec_ok hl).seq⟩

set_option maxRecDepth 100000 in
set_option maxHeartbeats 6400000 in
theorem load_any (E : DE w0 w g s rs ims) :
    Calls Tryd.prog 46 #[.pointer (some ⟨g, 0, none⟩)] w fun e w' => e = .returned (.tuple #[.int .u32 (s.load.1 : Nat), .int .i64 s.load.2]) ∧ Below w.heap.size w w' := by
  cases hd : s.down with
  | true =>
    have hl : s.load = (0, 4) := by unfold DSt.load; rw [hd]; rfl
    have HL := Lib.hid hl
    clear hl
    go_enter Tryd.func46, Tryd.ntmps46
    go_wp2_with fail
    refine (ddown_de E).mono ?_; rintro e w1 ⟨rfl, rfl⟩
    rw [hd]
    go_wp2_with fail
    go_ret2
    exact ⟨by rw [HL.out]; rfl, Below.refl _ _⟩
  | false =>
  by_cases h2 : s.sure.length < 2
  · have h2i : ((s.sure.length : Nat) : Int) < 2 := by omega
    have hl : s.load = (0, 1) := by unfold DSt.load; rw [hd, if_neg (by decide), if_pos h2]
    have HL := Lib.hid hl
    clear hl
    go_enter Tryd.func46, Tryd.ntmps46
    go_wp2_with fail
    refine (ddown_de E).mono ?_; rintro e w1 ⟨rfl, rfl⟩
    rw [hd]
    go_wp2_with fail
    refine (dsectors_de E).mono ?_; rintro e w2 ⟨rfl, rfl⟩
    go_wp2_with fail
    go_ret2
    exact ⟨by rw [HL.out]; rfl, Below.refl _ _⟩
  have h2i : ¬ ((s.sure.length : Nat) : Int) < 2 := by omega
  have hl : s.load = (max (s.found 0) (s.found 1), 0) := by unfold DSt.load; rw [hd, if_neg (by decide), if_neg h2]
  have HL := Lib.hid hl
  have HW := Lib.hid E.wf
  clear hl h2
  go_enter Tryd.func46, Tryd.ntmps46
  go_wp2_with fail
  refine (ddown_de E).mono ?_; rintro e w1 ⟨rfl, rfl⟩
  rw [hd]
  go_wp2_with fail
  refine (dsectors_de E).mono ?_; rintro e w2 ⟨rfl, rfl⟩
  go_wp2_with fail
  go_loopw [17] (fun v wr => ∃ k : Nat, k ≤ 2 ∧ v = .int .i64 (k : Int) ∧ Blk wr w.heap.size 106 #[.int .u32 (fnd s k 0 : Nat), .int .u32 (fnd s k 1 : Nat)] ∧ Below w.heap.size w wr) (fun v _ => 2 - (intOf v).toNat)
  case atStart => exact ⟨0, by omega, rfl, Blk.new w _ _, (Below.refl _ w).alloc (Nat.le_refl _) _⟩
  case round =>
    obtain ⟨k, hk, rfl, hF, hb⟩ := hrel
    by_cases hk0 : k = 0
    · subst hk0
      have E2 := E.below hb
      go_wp2_with fail
      refine (dread_db E2 0).mono ?_; rintro e w3 ⟨A3, n3, c3, rfl, hi3, hb3⟩
      have hb03 := below_step hb hb3 hb.size
      have hF3 := hF.below hb3 hF.lt
      have hrl := read_len HW.out 0
      have hn3 := hi3.len
      obtain ⟨l, hl⟩ : ∃ z, (s.read 0).1 = z := ⟨_, rfl⟩
      obtain ⟨cd, hcd⟩ : ∃ z, (s.read 0).2 = z := ⟨_, rfl⟩
      rw [hl] at hi3 hrl hn3
      rw [hcd]
      have hn64 : n3 ≤ 64 := by omega
      have hfd : s.found 0 = genOf l 0 := by unfold DSt.found; rw [show ((0 : Nat) : Int) = 0 from rfl, hl]
      have HFD := Lib.hid hfd
      have HCD := Lib.hid (And.intro hl hcd)
      clear hfd hl hcd hrl hn3 hb3 hF E2
      by_cases hc : cd = 0
      case neg =>
        have hz : s.found 0 = 0 := by rw [HFD.out, ← HCD.out.1, read_bad (by rw [HCD.out.2]; exact hc)]; exact genOf_nil _
        have HZ := Lib.hid hz
        have hcn : (cd != 0) = true := by simpa using hc
        clear hz hc hi3
        go_wp2_with fail
        exact ⟨⟨1, by omega, by go_num, (by rw [fnd_skip HZ.out 0, fnd_skip HZ.out 1]; exact hF3), hb03⟩, by simp [intOf]⟩
      subst hc
      have hdin := Cl.dec_in_ (l := l) hi3.lt
      obtain ⟨dcl, hdec⟩ : ∃ z, Cl.dec l = z := ⟨_, rfl⟩
      rw [hdec] at hdin
      obtain ⟨dg, dsq, dp, dq, dd⟩ := dcl
      obtain ⟨dcd, hdcd⟩ : ∃ z, Cl.code l = z := ⟨_, rfl⟩
      obtain ⟨dm, hdm⟩ : ∃ z, dd.length = z := ⟨_, rfl⟩
      dsimp only at hdin
      have HD := Lib.hid (And.intro hdec (And.intro hdcd hdm))
      clear hdec hdcd hdm
      go_wp2_with fail
      refine (dec_c hi3 (by omega) HD.out.1 HD.out.2.1 HD.out.2.2).mono ?_; rintro e w4 ⟨A4, c4, rfl, hi4, hb4⟩
      have hb04 := (below_step hb03 hb4 hb03.size)
      have hb05 := hb04.alloc hb04.size (.cells #[.int .u32 (dg : Int), .int .u32 (dsq : Int), .int .i64 dp, .int .i64 dq, .slice A4 dm c4] 73)
      have hB5 := Blk.new w4 73 #[.int .u32 (dg : Int), .int .u32 (dsq : Int), .int .i64 dp, .int .i64 dq, .slice A4 dm c4]
      have hF5 := (hF3.below hb4 hF3.lt).alloc (.cells #[.int .u32 (dg : Int), .int .u32 (dsq : Int), .int .i64 dp, .int .i64 dq, .slice A4 dm c4] 73)
      have hi5 := hi4.alloc (.cells #[.int .u32 (dg : Int), .int .u32 (dsq : Int), .int .i64 dp, .int .i64 dq, .slice A4 dm c4] 73)
      clear hb4 hF3 hi4 hi3 hb04 hb03
      by_cases hc : dcd = 0
      case neg =>
        have HZ := Lib.hid (show s.found 0 = 0 from by rw [HFD.out]; exact genOf_no HD.out.1 (.inl (by rw [HD.out.2.1]; exact hc)))
        have hcn : (dcd == 0) = false := by simpa using hc
        clear hc
        go_wp2_with fail
        exact ⟨⟨1, by omega, by go_num, (by rw [fnd_skip HZ.out 0, fnd_skip HZ.out 1]; exact hF5), hb05⟩, by simp [intOf]⟩
      subst hc
      have k0 := hB5.cell 0
      have k1 := hB5.cell 1
      have k2 := hB5.cell 2
      have k3 := hB5.cell 3
      have k4 := hB5.cell 4
      simp only [List.getElem?_toArray, List.getElem?_cons_zero, List.getElem?_cons_succ] at k0 k1 k2 k3 k4
      go_wp2_with fail
      refine (is_any_ dg dsq dp dq A4 dm c4 dd 0 _ hdin.1 hi5).mono ?_; rintro e w6 ⟨rfl, hb6⟩
      have hb06 := below_step hb05 hb6 hb05.size
      have hF6 := hF5.below hb6 hF5.lt
      have hB6 := hB5.below hb6 hB5.lt
      clear hb05 hb6 hF5 hB5 hi5 k0 k1 k2 k3 k4
      cases his : isC dg dsq dp dq dd 0 with
      | false =>
        have HZ := Lib.hid (show s.found 0 = 0 from by rw [HFD.out]; exact genOf_no HD.out.1 (.inr his))
        go_wp2_with fail
        exact ⟨⟨1, by omega, by go_num, (by rw [fnd_skip HZ.out 0, fnd_skip HZ.out 1]; exact hF6), hb06⟩, by simp [intOf]⟩
      | true =>
        have HZ := Lib.hid (show s.found 0 = dg from by rw [HFD.out]; exact genOf_yes HD.out.1 HD.out.2.1 his)
        have k0 := hB6.cell 0
        simp only [List.getElem?_toArray, List.getElem?_cons_zero] at k0
        have f0 := hF6.cell 0
        simp only [List.getElem?_toArray, List.getElem?_cons_zero, List.getElem?_cons_succ] at f0
        have fr := hF6.frozen 0
        have hF7 := hF6.set_ 0 (.int .u32 (dg : Int))
        have hb07 := hb06.setCell (p := ⟨w.heap.size, 0, none⟩) (Nat.le_refl _) (.int .u32 (dg : Int))
        go_wp2_with fail
        refine ⟨⟨1, by omega, by go_num, ?_, hb07⟩, by simp [intOf]⟩
        have e0 : fnd s 1 0 = dg := by unfold fnd; rw [if_pos (by decide)]; exact HZ.out
        have e1 : fnd s 1 1 = fnd s 0 1 := by unfold fnd; rfl
        rw [e0, e1]
        exact hF7
    by_cases hk1 : k = 1
    · subst hk1
      have E2 := E.below hb
      go_wp2_with fail
      refine (dread_db E2 1).mono ?_; rintro e w3 ⟨A3, n3, c3, rfl, hi3, hb3⟩
      have hb03 := below_step hb hb3 hb.size
      have hF3 := hF.below hb3 hF.lt
      have hrl := read_len HW.out 1
      have hn3 := hi3.len
      obtain ⟨l, hl⟩ : ∃ z, (s.read 1).1 = z := ⟨_, rfl⟩
      obtain ⟨cd, hcd⟩ : ∃ z, (s.read 1).2 = z := ⟨_, rfl⟩
      rw [hl] at hi3 hrl hn3
      rw [hcd]
      have hn64 : n3 ≤ 64 := by omega
      have hfd : s.found 1 = genOf l 1 := by unfold DSt.found; rw [show ((1 : Nat) : Int) = 1 from rfl, hl]
      have HFD := Lib.hid hfd
      have HCD := Lib.hid (And.intro hl hcd)
      clear hfd hl hcd hrl hn3 hb3 hF E2
      by_cases hc : cd = 0
      case neg =>
        have hz : s.found 1 = 0 := by rw [HFD.out, ← HCD.out.1, read_bad (by rw [HCD.out.2]; exact hc)]; exact genOf_nil _
        have HZ := Lib.hid hz
        have hcn : (cd != 0) = true := by simpa using hc
        clear hz hc hi3
        go_wp2_with fail
        exact ⟨⟨2, by omega, by go_num, (by rw [fnd_skip HZ.out 0, fnd_skip HZ.out 1]; exact hF3), hb03⟩, by simp [intOf]⟩
      subst hc
      have hdin := Cl.dec_in_ (l := l) hi3.lt
      obtain ⟨dcl, hdec⟩ : ∃ z, Cl.dec l = z := ⟨_, rfl⟩
      rw [hdec] at hdin
      obtain ⟨dg, dsq, dp, dq, dd⟩ := dcl
      obtain ⟨dcd, hdcd⟩ : ∃ z, Cl.code l = z := ⟨_, rfl⟩
      obtain ⟨dm, hdm⟩ : ∃ z, dd.length = z := ⟨_, rfl⟩
      dsimp only at hdin
      have HD := Lib.hid (And.intro hdec (And.intro hdcd hdm))
      clear hdec hdcd hdm
      go_wp2_with fail
      refine (dec_c hi3 (by omega) HD.out.1 HD.out.2.1 HD.out.2.2).mono ?_; rintro e w4 ⟨A4, c4, rfl, hi4, hb4⟩
      have hb04 := (below_step hb03 hb4 hb03.size)
      have hb05 := hb04.alloc hb04.size (.cells #[.int .u32 (dg : Int), .int .u32 (dsq : Int), .int .i64 dp, .int .i64 dq, .slice A4 dm c4] 73)
      have hB5 := Blk.new w4 73 #[.int .u32 (dg : Int), .int .u32 (dsq : Int), .int .i64 dp, .int .i64 dq, .slice A4 dm c4]
      have hF5 := (hF3.below hb4 hF3.lt).alloc (.cells #[.int .u32 (dg : Int), .int .u32 (dsq : Int), .int .i64 dp, .int .i64 dq, .slice A4 dm c4] 73)
      have hi5 := hi4.alloc (.cells #[.int .u32 (dg : Int), .int .u32 (dsq : Int), .int .i64 dp, .int .i64 dq, .slice A4 dm c4] 73)
      clear hb4 hF3 hi4 hi3 hb04 hb03
      by_cases hc : dcd = 0
      case neg =>
        have HZ := Lib.hid (show s.found 1 = 0 from by rw [HFD.out]; exact genOf_no HD.out.1 (.inl (by rw [HD.out.2.1]; exact hc)))
        have hcn : (dcd == 0) = false := by simpa using hc
        clear hc
        go_wp2_with fail
        exact ⟨⟨2, by omega, by go_num, (by rw [fnd_skip HZ.out 0, fnd_skip HZ.out 1]; exact hF5), hb05⟩, by simp [intOf]⟩
      subst hc
      have k0 := hB5.cell 0
      have k1 := hB5.cell 1
      have k2 := hB5.cell 2
      have k3 := hB5.cell 3
      have k4 := hB5.cell 4
      simp only [List.getElem?_toArray, List.getElem?_cons_zero, List.getElem?_cons_succ] at k0 k1 k2 k3 k4
      go_wp2_with fail
      refine (is_any_ dg dsq dp dq A4 dm c4 dd 1 _ hdin.1 hi5).mono ?_; rintro e w6 ⟨rfl, hb6⟩
      have hb06 := below_step hb05 hb6 hb05.size
      have hF6 := hF5.below hb6 hF5.lt
      have hB6 := hB5.below hb6 hB5.lt
      clear hb05 hb6 hF5 hB5 hi5 k0 k1 k2 k3 k4
      cases his : isC dg dsq dp dq dd 1 with
      | false =>
        have HZ := Lib.hid (show s.found 1 = 0 from by rw [HFD.out]; exact genOf_no HD.out.1 (.inr his))
        go_wp2_with fail
        exact ⟨⟨2, by omega, by go_num, (by rw [fnd_skip HZ.out 0, fnd_skip HZ.out 1]; exact hF6), hb06⟩, by simp [intOf]⟩
      | true =>
        have HZ := Lib.hid (show s.found 1 = dg from by rw [HFD.out]; exact genOf_yes HD.out.1 HD.out.2.1 his)
        have k0 := hB6.cell 0
        simp only [List.getElem?_toArray, List.getElem?_cons_zero] at k0
        have f0 := hF6.cell 1
        simp only [List.getElem?_toArray, List.getElem?_cons_zero, List.getElem?_cons_succ] at f0
        have fr := hF6.frozen 1
        have hF7 := hF6.set_ 1 (.int .u32 (dg : Int))
        have hb07 := hb06.setCell (p := ⟨w.heap.size, 1, none⟩) (Nat.le_refl _) (.int .u32 (dg : Int))
        go_wp2_with fail
        refine ⟨⟨2, by omega, by go_num, ?_, hb07⟩, by simp [intOf]⟩
        have e0 : fnd s 2 1 = dg := by unfold fnd; rw [if_pos (by decide)]; exact HZ.out
        have e1 : fnd s 2 0 = fnd s 1 0 := by unfold fnd; rfl
        rw [e0, e1]
        exact hF7
    · obtain rfl : k = 2 := by omega
      have f0 := hF.cell 0
      have f1 := hF.cell 1
      simp only [List.getElem?_toArray, List.getElem?_cons_zero, List.getElem?_cons_succ] at f0 f1
      have HB := Lib.hid hb
      clear hF hb
      have e0 : fnd s 2 0 = s.found 0 := rfl
      have e1 : fnd s 2 1 = s.found 1 := rfl
      rw [e0] at f0
      rw [e1] at f1
      by_cases hmx : s.found 0 < s.found 1
      · have HX := Lib.hid (show max (s.found 0) (s.found 1) = s.found 1 by omega)
        go_wp2_with fail
        go_ret2
        exact ⟨by rw [HL.out, HX.out]; rfl, HB.out⟩
      · have HX := Lib.hid (show max (s.found 0) (s.found 1) = s.found 0 by omega)
        go_wp2_with fail
        go_ret2
        exact ⟨by rw [HL.out, HX.out]; rfl, HB.out⟩
end
end Go.Proofs.YtdlcngmcjidomaaDoor

/- The contract of root.Save, over a law's disk, and what laws of layer 8 ask first. No condition but those of the disk's own functions. -/
namespace Go.Proofs.YtdlcngmcjidomaaDoor
set_option linter.unusedSimpArgs false
set_option linter.unusedVariables false
open Go.RowKit

section
variable {w0 w w' : World} {g : Nat} {s : DSt} {rs : List BEl} {ims : List ImgT}
theorem write_begun (s : DSt) (i : Int) (l : List Nat) : (s.write i l).1.begun ≤ s.begun + 1 := by
  unfold DSt.write
  split
  · show s.begun ≤ _; omega
  · split
    · split
      · show s.begun + 1 ≤ _; omega
      · show s.begun + 1 ≤ _; omega
    · show s.begun ≤ _; omega
theorem save_arg {gen : Nat} (h : s.sure.length < 2 ∨ gen = 0) : s.save gen = (s, 1) := by unfold DSt.save; rw [if_pos h]
theorem save_more {gen r : Nat} (h : ¬ (s.sure.length < 2 ∨ gen = 0)) (hr : gen % 2 = r) : s.save gen = if (s.write (r : Int) (rootS gen)).2 = 0 then (s.write (r : Int) (rootS gen)).1.flush else s.write (r : Int) (rootS gen) := by subst hr; unfold DSt.save; rw [if_neg h]

set_option maxRecDepth 100000 in
set_option maxHeartbeats 6400000 in
theorem save_any (E : DE w0 w g s rs ims) (gen : Nat) (hg : gen < 4294967296) (hb : s.begun < 576460752303423488) (hp : s.pend.length < 1099511627776) :
    Calls Tryd.prog 54 #[.pointer (some ⟨g, 0, none⟩), .int .u32 (gen : Int)] w fun e w' => e = .returned (.int .i64 (s.save gen).2) ∧ DE w0 w' g (s.save gen).1 rs ims := by
  by_cases h2 : s.sure.length < 2
  · have h2i : ((s.sure.length : Nat) : Int) < 2 := by omega
    have h2d : decide (((s.sure.length : Nat) : Int) < 2) = true := decide_eq_true h2i
    have HS := Lib.hid (save_arg (s := s) (gen := gen) (.inl h2))
    go_enter Tryd.func54, Tryd.ntmps54
    go_wp2_with fail
    refine (dsectors_de E).mono ?_; rintro e w1 ⟨rfl, rfl⟩
    go_wp2_with fail
    go_ret
    exact ⟨by rw [HS.out]; rfl, by rw [HS.out]; exact E⟩
  have h2i : ¬ ((s.sure.length : Nat) : Int) < 2 := by omega
  have h2d : decide (((s.sure.length : Nat) : Int) < 2) = false := decide_eq_false h2i
  by_cases h0 : gen = 0
  · have h0i : ((gen : Int) == 0) = true := by simp [h0]
    have HS := Lib.hid (save_arg (s := s) (gen := gen) (.inr h0))
    clear h0
    go_enter Tryd.func54, Tryd.ntmps54
    go_wp2_with fail
    refine (dsectors_de E).mono ?_; rintro e w1 ⟨rfl, rfl⟩
    go_wp2_with fail
    go_ret
    exact ⟨by rw [HS.out]; rfl, by rw [HS.out]; exact E⟩
  have h0i : ((gen : Int) == 0) = false := by simp; omega
  obtain ⟨r, hr⟩ : ∃ r, gen % 2 = r := ⟨_, rfl⟩
  have hri : (gen : Int) % 2 = (r : Int) := by omega
  have HS := Lib.hid (save_more (s := s) (gen := gen) (fun h => h.elim h2 h0) hr)
  clear hr h2 h0
  go_enter Tryd.func54, Tryd.ntmps54
  go_wp2_with fail
  refine (dsectors_de E).mono ?_; rintro e w1 ⟨rfl, rfl⟩
  go_wp2_with fail
  refine (root_any gen hg _).mono ?_; rintro e w2 ⟨A2, rfl, hi2, hb2⟩
  have E2 := E.below hb2
  clear E hb2
  go_wp2_with fail
  have hen := encL_yes (rootC_may gen)
  have HEN := Lib.hid hen
  clear hen
  refine (encode_any gen 0 hg (by decide) 0 1 (by decide) A2 4 4 [114, 111, 111, 116] _ hi2).mono ?_; rintro e w3 ⟨A3, m3, c3, rfl, ho3, hb3⟩
  have hen1 : Cl.encL ⟨gen, 0, 0, 1, [114, 111, 111, 116]⟩ = rootS gen := HEN.out.1
  have hen2 : Cl.encCode ⟨gen, 0, 0, 1, [114, 111, 111, 116]⟩ = 0 := HEN.out.2
  rw [hen1] at ho3
  rw [hen2]
  have hm3 := ho3.len
  rw [rootS_len] at hm3
  subst hm3
  have E3 := E2.below hb3
  clear E2 hb3 hi2 hen1 hen2
  go_wp2_with fail
  refine (dwrite_de E3 (r : Int) ho3 (by decide) (by omega) hp).mono ?_; rintro e w4 ⟨rfl, E4⟩
  have hbw := write_begun s (r : Int) (rootS gen)
  obtain ⟨cd, hcd⟩ : ∃ z, (s.write (r : Int) (rootS gen)).2 = z := ⟨_, rfl⟩
  rw [hcd]
  have HCD := Lib.hid hcd
  clear hcd ho3 E3
  by_cases hc : cd = 0
  · have HF := Lib.hid (show s.save gen = (s.write (r : Int) (rootS gen)).1.flush by rw [HS.out, if_pos (by rw [HCD.out]; exact hc)])
    subst hc
    generalize (s.write (r : Int) (rootS gen)).1 = s4 at *
    go_wp2_with fail
    refine (dflush_de E4 (by omega)).mono ?_; rintro e w5 ⟨rfl, E5⟩
    clear E4
    rw [← HF.out] at E5 ⊢
    go_wp2_with fail
    go_ret
    exact ⟨rfl, E5⟩
  · have HF := Lib.hid (show s.save gen = s.write (r : Int) (rootS gen) by rw [HS.out, if_neg (by rw [HCD.out]; exact hc)])
    have hcn : (cd != 0) = true := by simpa using hc
    clear hc hbw
    go_wp2_with fail
    go_ret
    exact ⟨by rw [HF.out, HCD.out]; rfl, by rw [HF.out]; exact E4⟩
end
theorem Flip_up {gen : Nat} {s : DSt} (h : DSt.Flip s gen) (l : List Nat) : DSt.Flip (s.up l) gen := by
  have e : (s.up l).sure = s.sure := by unfold DSt.up; rw [h.pend]; rfl
  exact ⟨⟨rfl, rfl⟩, by rw [e]; exact h.len, rfl, Nat.zero_le _, by rw [e]; exact h.is, by rw [e]; exact h.other⟩
end Go.Proofs.YtdlcngmcjidomaaDoor
