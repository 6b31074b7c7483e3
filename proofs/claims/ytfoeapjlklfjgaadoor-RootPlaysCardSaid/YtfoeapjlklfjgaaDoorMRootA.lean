/- The contracts of root.root and root.is. No condition but the reach of a slice. -/
import Derived.Test.YtfoeapjlklfjgaaDoorCellL
import Derived.Test.YtfoeapjlklfjgaaDoorDiskJ
import Derived.Test.YtfoeapjlklfjgaaDoorGRDM
import Derived.Lib.SlBytesConst
import Derived.Laws.IdiomStrings
namespace Go.Proofs.YtfoeapjlklfjgaaDoor
set_option linter.unusedSimpArgs false
set_option linter.unusedVariables false
open Go.RowKit

theorem results_row1 {P : Program} {fn : Func} {p : Tmp} {ty : TypeId} (h : fn.results = #[.cell p ty]) (tmps : Array Value) (w : World) (g : Nat) (t : TypeId) (cs : Array Value) (fr : Nat × Nat) (d : TypeDesc)
    (hp : tmps.getD p undef = .pointer (some ⟨g, 0, none⟩)) (hg : w.heap[g]? = some (.cells cs t fr))
    (hu : P.underlying ty = some d) (hd : (match d with | .struct _ | .array _ _ => true | _ => false) = true) (hi : (P.info? ty).map (·.size) = some cs.size) :
    (results fn tmps).run P w = .ok (.agg cs) w := by
  have hp' : tmps[p]?.getD undef = .pointer (some ⟨g, 0, none⟩) := by simpa using hp
  simp [results, h, hp', asAddr, run_loadVar_row w g t ty cs fr d hg hu hd hi]
set_option maxRecDepth 100000 in
set_option maxHeartbeats 3200000 in
theorem root_any (gen : Nat) (hg : gen < 4294967296) (w : World) :
    Calls Tryd.prog 58 #[.int .u32 (gen : Int)] w fun e w' => ∃ A, e = .returned (.agg #[.int .u32 (gen : Int), .int .u32 0, .int .i64 0, .int .i64 1, .slice A 4 4]) ∧ Ints w' .u8 256 A 4 4 [114, 111, 111, 116] ∧ Below w.heap.size w w' := by
  have kc := conv_const (P := Tryd.prog) 23 5 Tryd.underlying23 Tryd.underlying5
  go_enter Tryd.func58, Tryd.ntmps58
  go_wp2_with fail
  clear kc
  refine bodyPost_ret (results_row1 rfl _ _ w.heap.size 25 #[.int .u32 (gen : Int), .int .u32 0, .int .i64 0, .int .i64 1, .slice (some ⟨w.heap.size + 1, 0, none⟩) 4 4] (0, 0) _ rfl ((Blk.new w 25 #[.int .u32 (gen : Int), .int .u32 0, .int .i64 0, .int .i64 1, .slice (some ⟨w.heap.size + 1, 0, none⟩) 4 4]).alloc _).is Tryd.underlying25 rfl (by kernel_rfl)) rfl ?_
  refine ⟨_, rfl, Ints.lit .u8 256 5 [114, 111, 111, 116] (by simp) rfl rfl (by decide), ?_⟩
  exact ((Below.refl _ w).alloc (Nat.le_refl _) _).alloc (by simp) _
/-- Bytes as a string. -/
def str_ (l : List Nat) : ByteArray := ⟨(l.map UInt8.ofNat).toArray⟩
theorem str_list_ (l : List Nat) : (str_ l).toList = l.map UInt8.ofNat := by rw [ByteArray.toList_eq]; simp [str_]
theorem str_root {l : List Nat} (h : l = [114, 111, 111, 116]) : ((str_ l).toList == [114, 111, 111, 116]) = true := by
  subst h; rw [str_list_]; rfl
theorem str_noroot {l : List Nat} (hl : ∀ x ∈ l, x < 256) (h : l ≠ [114, 111, 111, 116]) : ((str_ l).toList == [114, 111, 111, 116]) = false := by
  rw [str_list_]
  cases hb : (l.map UInt8.ofNat == [114, 111, 111, 116]) with
  | false => rfl
  | true =>
    exfalso
    apply h
    have e : l.map UInt8.ofNat = [114, 111, 111, 116] := by simpa using hb
    have e2 := congrArg (List.map UInt8.toNat) e
    rw [List.map_map] at e2
    have e3 : l.map (UInt8.toNat ∘ UInt8.ofNat) = l := by
      conv => rhs; rw [← List.map_id l]
      apply List.map_congr_left
      intro x hx
      simp [Nat.mod_eq_of_lt (hl x hx)]
    rw [e3] at e2
    exact e2
theorem conv_str_ {P : Program} {w : World} {A : Option Addr} {n c : Nat} {l : List Nat} (src dst e : TypeId) (hs : P.underlying src = some (.slice e)) (he : P.underlying e = some (.int .u8)) (hd : P.underlying dst = some .string) (h : Ints w .u8 256 A n c l) :
    (convert src dst (.slice A n c)).run P w = .ok (.string (str_ l)) w := by
  cases A with
  | none =>
    have h0 : n = 0 := by
      rcases Nat.eq_zero_or_pos n with h0 | h0
      · exact h0
      · obtain ⟨_, _, _, he, _⟩ := h.get h0
        cases he
    subst h0
    have := h.len
    rw [List.eq_nil_of_length_eq_zero this]
    rw [run_convert_bytes_string w src dst e none 0 c hs he hd]
    simp [Conv.bytesToString, str_]
    rfl
  | some ad =>
    have hl : (l.map UInt8.ofNat).length = n := by rw [List.length_map, h.len]
    have hb := run_convert_bytes_back (P := P) w src dst e ad c (l.map UInt8.ofNat) hs he hd (fun j hj => by
      have hjn : j < n := by omega
      obtain ⟨b, o, x, hA, _, hx, hxl, hc⟩ := h.get hjn
      cases hA
      rw [add_plain, hc]
      have e1 : (l.map UInt8.ofNat)[j]? = some (UInt8.ofNat x) := by rw [List.getElem?_map, hx]; rfl
      rw [List.getElem?_eq_getElem hj] at e1
      rw [Option.some.inj e1]
      simp only [UInt8.toNat_ofNat']
      rw [Nat.mod_eq_of_lt hxl])
    rw [hl] at hb
    exact hb
def isC (gs sq : Nat) (pt ps : Int) (l : List Nat) (slot : Int) : Bool := decide (0 < gs ∧ ((gs % 2 : Nat) : Int) = slot ∧ sq = 0 ∧ pt = 0 ∧ ps = 1 ∧ l = [114, 111, 111, 116])
theorem isC_no {gs sq : Nat} {pt ps : Int} {l : List Nat} {slot : Int} (h : ¬ (0 < gs ∧ ((gs % 2 : Nat) : Int) = slot ∧ sq = 0 ∧ pt = 0 ∧ ps = 1 ∧ l = [114, 111, 111, 116])) : isC gs sq pt ps l slot = false := decide_eq_false h
theorem isC_yes {gs sq : Nat} {pt ps : Int} {l : List Nat} {slot : Int} (h : 0 < gs ∧ ((gs % 2 : Nat) : Int) = slot ∧ sq = 0 ∧ pt = 0 ∧ ps = 1 ∧ l = [114, 111, 111, 116]) : isC gs sq pt ps l slot = true := decide_eq_true h

set_option maxRecDepth 100000 in
set_option maxHeartbeats 6400000 in
theorem is_any_ (gs sq : Nat) (pt ps : Int) (A : Option Addr) (n c : Nat) (l : List Nat) (slot : Int) (w : World) (hgs : gs < 4294967296) (hr : Ints w .u8 256 A n c l) :
    Calls Tryd.prog 65 #[.agg #[.int .u32 (gs : Int), .int .u32 (sq : Int), .int .i64 pt, .int .i64 ps, .slice A n c], .int .i64 slot] w fun e w' => e = .returned (.bool (isC gs sq pt ps l slot)) ∧ Below w.heap.size w w' := by
  have hlt := hr.lt
  obtain ⟨sg, hsg⟩ : ∃ z, gs % 2 = z := ⟨_, rfl⟩
  have hsgi : (gs : Int) % 2 = (sg : Int) := by omega
  have hsg2 : ((gs % 2 : Nat) : Int) = (sg : Int) := by rw [hsg]
  have E0 := ((CE.nil_ w).addI hr).alloc 25 #[.int .u32 (gs : Int), .int .u32 (sq : Int), .int .i64 pt, .int .i64 ps, .slice A n c] rfl
  have k0 := E0.cell 0 0 rfl rfl
  clear hr
  go_enter Tryd.func65, Tryd.ntmps65
  go_wp2_with fail
  refine (root_any gs hgs _).mono ?_; rintro e w1 ⟨Ar, rfl, hir, hb1⟩
  have E1 := (E0.below hb1).alloc 25 #[.int .u32 (gs : Int), .int .u32 0, .int .i64 0, .int .i64 1, .slice Ar 4 4] rfl
  clear E0 hir hb1 k0
  have k0 := E1.cell 1 0 rfl rfl
  have k1 := E1.cell 1 1 rfl rfl
  have k2 := E1.cell 1 2 rfl rfl
  have k3 := E1.cell 1 3 rfl rfl
  have k4 := E1.cell 1 4 rfl rfl
  have r0 := E1.cell 0 0 rfl rfl
  have r1 := E1.cell 0 1 rfl rfl
  have r2 := E1.cell 0 2 rfl rfl
  have r3 := E1.cell 0 3 rfl rfl
  have hcv := conv_str_ 23 9 5 Tryd.underlying23 Tryd.underlying5 Tryd.underlying9 (E1.i 0 rfl)
  have HB := Lib.hid E1.bel
  clear E1
  go_upto_region 2 with (fail)
  by_cases h1 : 0 < gs
  case neg =>
    have HN := Lib.hid (isC_no (gs := gs) (sq := sq) (pt := pt) (ps := ps) (l := l) (slot := slot) (fun h => h1 h.1))
    have t_h1 : decide ((0 : Int) < (gs : Int)) = false := decide_eq_false (by omega)
    have h0i : ¬ (0 : Int) < (gs : Int) := by omega
    clear h1
    go_wp2_with fail
    go_ret
    exact ⟨by rw [HN.out]; rfl, HB.out⟩
  have t_h1 : decide ((0 : Int) < (gs : Int)) = true := decide_eq_true (by omega)
  have h0i : (0 : Int) < (gs : Int) := by omega
  by_cases h2 : ((gs % 2 : Nat) : Int) = slot
  case neg =>
    have HN := Lib.hid (isC_no (gs := gs) (sq := sq) (pt := pt) (ps := ps) (l := l) (slot := slot) (fun h => h2 h.2.1))
    have t_h2 : ((sg : Int) == slot) = false := by rw [hsg2] at h2; simpa using h2
    clear h1 h2
    go_wp2_with fail
    go_ret
    exact ⟨by rw [HN.out]; rfl, HB.out⟩
  have t_h2 : ((sg : Int) == slot) = true := by rw [hsg2] at h2; simp [h2]
  by_cases h3 : sq = 0
  case neg =>
    have HN := Lib.hid (isC_no (gs := gs) (sq := sq) (pt := pt) (ps := ps) (l := l) (slot := slot) (fun h => h3 h.2.2.1))
    have t_h3 : ((sq : Int) == 0) = false := by simp; omega
    clear h1 h2 h3
    go_wp2_with fail
    go_ret
    exact ⟨by rw [HN.out]; rfl, HB.out⟩
  have t_h3 : ((sq : Int) == 0) = true := by simp [h3]
  by_cases h4 : pt = 0
  case neg =>
    have HN := Lib.hid (isC_no (gs := gs) (sq := sq) (pt := pt) (ps := ps) (l := l) (slot := slot) (fun h => h4 h.2.2.2.1))
    have t_h4 : (pt == 0) = false := by simpa using h4
    clear h1 h2 h3 h4
    go_wp2_with fail
    go_ret
    exact ⟨by rw [HN.out]; rfl, HB.out⟩
  have t_h4 : (pt == 0) = true := by simp [h4]
  by_cases h5 : ps = 1
  case neg =>
    have HN := Lib.hid (isC_no (gs := gs) (sq := sq) (pt := pt) (ps := ps) (l := l) (slot := slot) (fun h => h5 h.2.2.2.2.1))
    have t_h5 : (ps == 1) = false := by simpa using h5
    clear h1 h2 h3 h4 h5
    go_wp2_with fail
    go_ret
    exact ⟨by rw [HN.out]; rfl, HB.out⟩
  have t_h5 : (ps == 1) = true := by simp [h5]
  by_cases h6 : l = [114, 111, 111, 116]
  case neg =>
    have HN := Lib.hid (isC_no (gs := gs) (sq := sq) (pt := pt) (ps := ps) (l := l) (slot := slot) (fun h => h6 h.2.2.2.2.2))
    have t_h6 : ((str_ l).toList == [114, 111, 111, 116]) = false := str_noroot hlt h6
    clear h1 h2 h3 h4 h5 h6
    go_wp2_with fail
    go_ret
    exact ⟨by rw [HN.out]; rfl, HB.out⟩
  have t_h6 : ((str_ l).toList == [114, 111, 111, 116]) = true := str_root h6
  have HN := Lib.hid (isC_yes ⟨h1, h2, h3, h4, h5, h6⟩)
  clear h1 h2 h3 h4 h5 h6
  go_wp2_with fail
  go_ret
  exact ⟨by rw [HN.out]; rfl, HB.out⟩
end Go.Proofs.YtfoeapjlklfjgaaDoor
