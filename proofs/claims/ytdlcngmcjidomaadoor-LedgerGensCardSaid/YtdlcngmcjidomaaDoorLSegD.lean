/- The contract of Seg.Scan. No condition. -/
import Derived.Test.YtdlcngmcjidomaaDoorLSegC0
namespace Go.Proofs.YtdlcngmcjidomaaDoor
set_option linter.unusedSimpArgs false
set_option linter.unusedVariables false
open Go.RowKit Go.Shelf
attribute [local go_sem] Oper.semAt_some

structure ScX (w0 : World) (g h B G Z : Nat) (s : DSt) (t : SegSt) (bl : List WBk) (i : Nat) (ys : List WRow) (rd : List BEl) (pre : List (Nat × CEl)) (x : Nat × CEl) (X : Nat) (W : World) : Prop where
  at_ : ScAt w0 g h B G Z s t bl i ys rd [(X, 73, #[.int .u32 (x.2.x.gen : Int), .int .u32 (x.2.x.seq : Int), .int .i64 x.2.x.part, .int .i64 x.2.x.parts, .slice x.2.A x.2.n x.2.c])] [x.2.bel] pre W
  num : x.2.Num
  lt : pre.length < t.n
  i : x.1 = pre.length
  is : x.2.x = Cl.dec (s.read ((t.first + pre.length : Nat) : Int)).1
theorem ScX.own {w0 W W' : World} {g h B G Z : Nat} {s : DSt} {t : SegSt} {bl : List WBk} {i : Nat} {ys : List WRow} {rd : List BEl} {pre : List (Nat × CEl)} {x : Nat × CEl} {X : Nat} (S : ScX w0 g h B G Z s t bl i ys rd pre x X W) {row : Option Nat} (hg : W.grownBy W' row) (hr : ∀ r, row = some r → w0.heap.size ≤ r ∧ ∃ o : Obj, W.heap[r]? = some o ∧ o.isCells = false) : ScX w0 g h B G Z s t bl i ys rd pre x X W' := ⟨S.at_.own hg hr, S.num, S.lt, S.i, S.is⟩
theorem tight_normal {Q : Exit → Act → World → Prop} {a : Act} {w : World} (h : Q .normal a w) : Tight Q .normal a w := h
def ScanPost (w0 w : World) (g h : Nat) (s : DSt) (t : SegSt) (bl : List WBk) (i : Nat) (ys : List WRow) (rd : List BEl) (e : Ending) (w' : World) : Prop :=
  ∃ A c xs, e = .returned (.tuple #[.slice A xs.length c, .int .i64 (SegSt.scan s t).2.2]) ∧ WE w0 w' g s (bl.set i (segB h g (SegSt.scan s t).1)) (⟨22, 1, A, xs.length, c, xs.map BEl.v⟩ :: ys) (xs ++ rd) ∧ xs.map (·.l) = (SegSt.scan s t).2.1

set_option maxRecDepth 100000 in
set_option maxHeartbeats 6400000 in
theorem scan_up {w0 w : World} {g h : Nat} {s : DSt} {t : SegSt} {bl : List WBk} {ys : List WRow} {rd : List BEl} (E : WE w0 w g s bl ys rd) (i : Nat) (hi : bl[i]? = some (segB h g t)) (ok : t.Ok s) (hd : s.down = false) :
    Calls Tryd.prog 13 #[.pointer (some ⟨h, 0, none⟩)] w (ScanPost w0 w g h s t bl i ys rd) := by
  have E1 := E.add 28 #[.pointer (some ⟨h, 0, none⟩)] (by decide)
  have hi1 : ((w.heap.size, 28, #[.pointer (some ⟨h, 0, none⟩)]) :: bl)[i + 1]? = some (segB h g t) := hi
  have hil := (List.getElem?_eq_some_iff.1 hi).1
  have cb : (w.alloc (.cells #[.pointer (some ⟨h, 0, none⟩)] 28)).cell? ⟨w.heap.size, 0, none⟩ = some (.pointer (some ⟨h, 0, none⟩)) := E1.cell 0 0 rfl rfl
  clear E
  refine (callsIn_wide (n := 3)).1 ?_
  refine callsIn_of_wp_marks Tryd.func13 rfl trivial ?_ rfl
  simp only [Tryd.ntmps13, List.size_toArray, List.length_cons, List.length_nil, Nat.reduceAdd, Nat.reduceSub, Array.replicate_succ, Array.replicate_zero, List.push_toArray, List.append_toArray, List.nil_append, List.cons_append]
  refine wpIn_wide.2 ?_
  go_wp2_with fail
  go_step3
  go_wp2_with fail
  refine (unknown_we E1 (i + 1) hi1).mono ?_; rintro e w1 ⟨⟨v15, rfl⟩, E2⟩
  clear cb E1 hi1
  obtain ⟨B, hB⟩ : ∃ B, w.heap.size = B := ⟨_, rfl⟩
  rw [hB] at E2 ⊢
  have E2 := E2.setEq (bl' := (B, 28, #[.pointer (some ⟨h, 0, none⟩)]) :: bl.set i (segB h g t.unknown)) rfl
  have hi2 : ((B, 28, #[.pointer (some ⟨h, 0, none⟩)]) :: bl.set i (segB h g t.unknown))[i + 1]? = some (segB h g t.unknown) := List.getElem?_set_self hil
  have cb : w1.cell? ⟨B, 0, none⟩ = some (.pointer (some ⟨h, 0, none⟩)) := E2.cell 0 0 rfl rfl
  have c0 : w1.cell? ⟨h, 0, none⟩ = some (.pointer (some ⟨g, 0, none⟩)) := E2.cell (i + 1) 0 hi2 rfl
  obtain ⟨T, D, _⟩ := E2.at_
  go_wp2_with fail
  refine (down_any D).mono ?_; rintro e w2 ⟨rfl, rfl⟩
  rw [hd]
  clear D cb c0
  have E3 := E2.add 32 #[.slice none 0 0] (by decide)
  have E4 := E3.add 68 #[.slice none 0 0] (by decide)
  have E5 := E4.add 31 #[.int .u32 0] (by decide)
  have E6 := E5.add 65 #[.int .u64 0] (by decide)
  have E7 := E6.add 4 #[.bool false] (by decide)
  clear E2 E3 E4 E5 E6 hi2
  go_upto_region 7 with (fail)
  simp only [World.size_alloc] at E7
  generalize World.alloc _ _ = w7 at *
  obtain ⟨G, hG⟩ : ∃ G, w1.heap.size = G := ⟨_, rfl⟩
  rw [hG] at E7 ⊢
  have hi7 : ((G + 1 + 1 + 1 + 1, 4, #[Value.bool false]) :: (G + 1 + 1 + 1, 65, #[.int .u64 0]) :: (G + 1 + 1, 31, #[.int .u32 0]) :: (G + 1, 68, #[.slice none 0 0]) :: (G, 32, #[.slice none 0 0]) :: (B, 28, #[.pointer (some ⟨h, 0, none⟩)]) :: bl.set i (segB h g t.unknown))[i + 6]? = some (segB h g t.unknown) := List.getElem?_set_self hil
  have cb : w7.cell? ⟨B, 0, none⟩ = some (.pointer (some ⟨h, 0, none⟩)) := E7.cell 5 0 rfl rfl
  have c4 : w7.cell? ⟨h, 4, none⟩ = some (.int .i64 ((0 : Nat) : Int)) := E7.cell (i + 6) 4 hi7 rfl
  have f4 := E7.frozen (i + 6) 4 hi7
  have E8 := E7.set (i + 6) 4 hi7 (.int .i64 0)
  have E8 := E8.setEq (bl' := (G + 1 + 1 + 1 + 1, 4, #[Value.bool false]) :: (G + 1 + 1 + 1, 65, #[.int .u64 0]) :: (G + 1 + 1, 31, #[.int .u32 0]) :: (G + 1, 68, #[.slice none 0 0]) :: (G, 32, #[.slice none 0 0]) :: (B, 28, #[.pointer (some ⟨h, 0, none⟩)]) :: bl.set i (segB h g t.unknown)) (by show _ :: _ :: _ :: _ :: _ :: _ :: (bl.set i _).set i _ = _; rw [List.set_set]; rfl)
  clear E7
  go_upto_region 8 with (go_step3)
  generalize World.setCell _ _ _ = w8 at *
  clear cb c4 f4 hi7
  have cb : w8.cell? ⟨B, 0, none⟩ = some (.pointer (some ⟨h, 0, none⟩)) := E8.cell 5 0 rfl rfl
  go_wp2_with fail
  refine (cells_any h _).mono ?_; rintro e w9 ⟨rfl, hw9⟩
  have E9 := E8.add 28 #[.pointer (some ⟨h, 0, none⟩)] (by decide)
  rw [← hw9] at E9
  obtain ⟨Z, hZ⟩ : ∃ Z, w8.heap.size = Z := ⟨_, rfl⟩
  rw [hZ] at E9 ⊢
  clear hw9 hG hB cb E8 hi
  go_wp2_with fail
  refine (wpIn_wide (n := 3)).1 ?_
  refine wpIn_range_free (F := Fence.wide) rfl (by omega) (gf := 55) (lb := #[.pointer (some ⟨Z, 0, none⟩)]) rfl trivial (enters_of Tryd.func55 (by kernel_rfl) rfl) (encs := clEnc) (fun _ => rfl)
    (ScAt w0 g h B G Z s t bl i ys rd [] []) (fun pre x _ W => CTold s t.first t.n pre.length x W) (fun pre x a W => ∃ X, a = { tmps := #[.pointer (some ⟨h, 0, none⟩), .pointer (some ⟨B, 0, none⟩), .slice none 0 0, .int .i64 0, .pointer (some ⟨G, 0, none⟩), .pointer (some ⟨G + 1, 0, none⟩), .pointer (some ⟨G + 1 + 1, 0, none⟩), .pointer (some ⟨G + 1 + 1 + 1, 0, none⟩), .pointer (some ⟨G + 1 + 1 + 1 + 1, 0, none⟩), .int .i64 (x.1 : Int), .pointer (some ⟨X, 0, none⟩), undef, undef, undef, .pointer (some ⟨h, 0, none⟩), v15, .pointer (some ⟨h, 0, none⟩), .pointer (some ⟨h, 0, none⟩), .pointer (some ⟨h, 0, none⟩), .pointer (some ⟨g, 0, none⟩), .bool false, .pointer (some ⟨h, 0, none⟩), .pointer (some ⟨h, 0, none⟩), .pointer (some ⟨h, 4, none⟩), .pointer (some ⟨h, 0, none⟩), .func (.func 55) #[] #[.pointer (some ⟨Z, 0, none⟩)], .int .i64 (x.1 : Int), .agg #[.int .u32 (x.2.x.gen : Int), .int .u32 (x.2.x.seq : Int), .int .i64 x.2.x.part, .int .i64 x.2.x.parts, .slice x.2.A x.2.n x.2.c], undef, undef, undef, undef, undef, undef, undef, undef, undef, undef, undef, undef, undef, undef, undef, undef, undef, undef, undef, undef, undef, undef, undef, undef, undef, undef, undef, undef, undef, undef, undef, undef, undef, undef, undef, undef, undef, undef, undef, undef, undef, undef, undef, undef, undef, undef, undef, undef, undef, undef, undef, undef, undef, undef, undef, undef, undef, undef, undef, undef, undef, undef, undef, undef, undef, undef, undef, undef, undef, undef, undef, undef, undef, undef, undef, undef, undef, undef, undef, undef, undef, undef, undef, undef, undef], defers := [] } ∧ ScX w0 g h B G Z s t bl i ys rd pre x X W) (fun xs => xs.length = t.n) ?hI ?hIB ?h0 ?hAx ?seq ?assign ?body ?done
  case hI => exact fun pre W W' row hS hg hr => hS.own hg (fun r e => ⟨Nat.le_trans E9.size (hr r e).1, (hr r e).2⟩)
  case hIB => exact fun pre A B hS hb => hS.below hb
  case hAx => exact fun x a pre W W' row ⟨X, ha, hS⟩ hg hr => ⟨X, ha, hS.own hg (fun r e => ⟨Nat.le_trans E9.size (hr r e).1, (hr r e).2⟩)⟩
  case seq =>
    intro l J W hJ hJI h0 hY
    exact cells1_in 2 (by omega) l Z g h t.first t.n s (by have := ok.fits; have := E9.wf.most; omega) J hJ (fun p A hp => (hJI p A hp).src hil) (fun pre x W1 hj hc => hY pre x W1 hj hc) W h0
  case h0 =>
    have e0 : scSt t.gen [] = Sc.start := rfl
    have E10 := (E9.nil (ty := 22) 1 (by decide)).nil (ty := 73) 5 (by decide)
    exact ⟨⟨none, 0, [], none, 0, [], ⟨rfl, rfl, fun _ h => (by cases h), by rw [e0]; decide, by rw [e0]; decide⟩, E10⟩, Nat.zero_le _, ⟨Nat.le_refl _, Nat.le_refl _, Nat.le_refl _⟩, fun k x hx => by cases hx⟩
  case assign =>
    intro l pre x W hS hC
    unfold clEnc
    have hS0 := hS
    obtain ⟨A, c, xs, A2, c2, es, hD, E⟩ := hS.ex
    have K0 := (WK.start E).add 73 #[.int .u32 0, .int .u32 0, .int .i64 0, .int .i64 0, .slice none 0 0] (by decide)
    have HS := Lib.hid (And.intro hS0 (And.intro hC (And.intro hD K0)))
    have hZ := K0.e.b 0 rfl
    clear hS hS0 hC hD E K0
    refine wpIn_seq_k fun K1 hK1 => ?_
    have HK1 := Lib.hid hK1
    clear hK1
    gi_wp2
    refine HK1.out _ _ ?_
    clear HK1
    refine wpIn_round_lit (by kernel_rfl) ?_
    go_wp2_with (refine wpList_store_blk rfl 73 (.tmp 10) (.tmp 27) rfl W.heap.size rfl 73 #[.int .u32 0, .int .u32 0, .int .i64 0, .int .i64 0, .slice none 0 0] #[.int .u32 (x.2.x.gen : Int), .int .u32 (x.2.x.seq : Int), .int .i64 x.2.x.part, .int .i64 x.2.x.parts, .slice x.2.A x.2.n x.2.c] rfl hZ cell_size5 rfl (by simp [Value.oneCell']) ?_; intro w5 hB5 hg5; clear hZ)
    refine tight_normal ?_
    obtain ⟨hS, hC, hD, K0⟩ := HS.out
    have K1 := K0.put 0 rfl hB5 hg5
    have hfar : FarB w5 w0.heap.size x.2.bel := ⟨((hC.fi.alloc _).put hg5 (K0.e.b 0 rfl)).ints, fun hn ad e => .inr (((hC.fi.alloc _).put hg5 (K0.e.b 0 rfl)).far hn ad e)⟩
    refine ⟨K1.keeps _, W.heap.size, rfl, ⟨⟨⟨A, c, xs, A2, c2, es, hD, (K1.see hfar).e.pick (List.Sublist.refl _) (List.Sublist.refl _) fun y hy => ?_⟩, hS.len, hS.le, hS.told⟩, hC.in_.num, hC.lt, hC.i, hC.is⟩⟩
    simp only [List.mem_append, List.mem_cons, List.not_mem_nil, or_false, false_or] at hy ⊢
    rcases hy with h | h | h | h
    · exact .inr (.inl h)
    · exact .inr (.inr (.inl h))
    · exact .inl h
    · exact .inr (.inr (.inr h))
  case body =>
    rintro l pre x a' W ⟨X, rfl, hS⟩
    obtain ⟨ix, ⟨⟨xg, xsq, xp, xq, xd⟩, xA, xn, xc⟩⟩ := x
    obtain ⟨A, c, ls, A2, c2, es, hD, E⟩ := hS.at_.ex
    have hle := hS.at_.le
    have hnum := hS.num
    obtain rfl : ix = pre.length := hS.i
    have hlt := hS.lt
    have HS := Lib.hid hS
    obtain ⟨C, hC⟩ : ∃ C, scSt t.gen pre = C := ⟨_, rfl⟩
    rw [hC] at hD E hle
    obtain ⟨Cout, Cnow, Clast, Ctop, Cover, Cfin⟩ := C
    dsimp only at E hle
    have K0 := WK.start E
    have hlast := hD.last
    have htop := hD.top
    have hnl : es.length = Cnow.length := by have := congrArg List.length hD.now; rwa [List.length_map] at this
    have hol : ls.length = Cout.length := by have := congrArg List.length hD.out; rwa [List.length_map] at this
    dsimp only at hlast htop hnl hol
    have hes : es.length ≤ 512 := by have := ok.fits; have := E9.wf.most; omega
    have hls : ls.length ≤ 512 := by have := ok.fits; have := E9.wf.most; omega
    have HD := Lib.hid (And.intro hD (And.intro hC hnum))
    clear hS E hD hC hle hnl hol hnum
    have k1 : W.cell? ⟨X, 1, none⟩ = some (.int .u32 (xsq : Int)) := K0.cell 0 1 rfl rfl
    have k3 : W.cell? ⟨X, 3, none⟩ = some (.int .i64 xq) := K0.cell 0 3 rfl rfl
    have kt : W.cell? ⟨G + 1 + 1 + 1, 0, none⟩ = some (.int .u64 (Ctop : Int)) := K0.cell 3 0 rfl rfl
    have ft : W.frozen? ⟨G + 1 + 1 + 1, 0, none⟩ = false := K0.frozen 3 0 rfl
    refine wpIn_block ?_
    refine wpIn_seq_k fun K1 hK1 => ?_
    have hrest : ∀ (u28 u29 u30 u31 u32 u33 u34 u35 : Value) (Wt : World), WK W w0 Wt g s ((X, 73, #[.int .u32 (xg : Int), .int .u32 (xsq : Int), .int .i64 xp, .int .i64 xq, .slice xA xn xc]) :: scBox h B G Z Cover (Sc.topOf Ctop ⟨xg, xsq, xp, xq, xd⟩) Clast (.slice A2 es.length c2) (.slice A ls.length c) (bl.set i (segB h g ⟨t.first, t.n, t.gen, Cfin, 4294967295⟩))) (scRow ys A c ls A2 c2 es) (es.map CEl.bel ++ (ls ++ ((⟨xA, xn, xc, xd⟩ : BEl) :: rd))) →
        K1 { tmps := #[.pointer (some ⟨h, 0, none⟩), .pointer (some ⟨B, 0, none⟩), .slice none 0 0, .int .i64 0, .pointer (some ⟨G, 0, none⟩), .pointer (some ⟨G + 1, 0, none⟩), .pointer (some ⟨G + 1 + 1, 0, none⟩), .pointer (some ⟨G + 1 + 1 + 1, 0, none⟩), .pointer (some ⟨G + 1 + 1 + 1 + 1, 0, none⟩), .int .i64 (pre.length : Int), .pointer (some ⟨X, 0, none⟩), undef, undef, undef, .pointer (some ⟨h, 0, none⟩), v15, .pointer (some ⟨h, 0, none⟩), .pointer (some ⟨h, 0, none⟩), .pointer (some ⟨h, 0, none⟩), .pointer (some ⟨g, 0, none⟩), .bool false, .pointer (some ⟨h, 0, none⟩), .pointer (some ⟨h, 0, none⟩), .pointer (some ⟨h, 4, none⟩), .pointer (some ⟨h, 0, none⟩), .func (.func 55) #[] #[.pointer (some ⟨Z, 0, none⟩)], .int .i64 (pre.length : Int), .agg #[.int .u32 (xg : Int), .int .u32 (xsq : Int), .int .i64 xp, .int .i64 xq, .slice xA xn xc], u28, u29, u30, u31, u32, u33, u34, u35, undef, undef, undef, undef, undef, undef, undef, undef, undef, undef, undef, undef, undef, undef, undef, undef, undef, undef, undef, undef, undef, undef, undef, undef, undef, undef, undef, undef, undef, undef, undef, undef, undef, undef, undef, undef, undef, undef, undef, undef, undef, undef, undef, undef, undef, undef, undef, undef, undef, undef, undef, undef, undef, undef, undef, undef, undef, undef, undef, undef, undef, undef, undef, undef, undef, undef, undef, undef, undef, undef, undef, undef, undef, undef, undef, undef, undef], defers := [] } Wt := by
      intro u28 u29 u30 u31 u32 u33 u34 u35 Wt K
      refine hK1 _ _ ?_
      clear hK1 K0 k1 k3 kt ft
      obtain ⟨tp, htp⟩ : ∃ tp, Sc.topOf Ctop ⟨xg, xsq, xp, xq, xd⟩ = tp := ⟨_, rfl⟩
      rw [htp] at K
      have htpl : tp < 4294967296 := by
        have h5 := HD.out.2.2.seq
        dsimp only at h5
        rw [← htp]
        unfold Sc.topOf
        dsimp only
        split <;> omega
      have HTP := Lib.hid (And.intro htp htpl)
      clear htp htpl
      have ko : Wt.cell? ⟨G + 1 + 1 + 1 + 1, 0, none⟩ = some (.bool Cover) := K.cell 2 0 rfl rfl
      cases Cover with
      | true =>
        have HF := Lib.hid (fun a => HS.out.at_.close (Bk := w9.heap.size) (a := a) hlt HS.out.is (C := ⟨Cout, Cnow, Clast, tp, true, Cfin⟩) (by rw [HD.out.2.1, ← HTP.out.1]; rfl) ⟨HD.out.1.now, HD.out.1.out, HD.out.1.num, HD.out.1.last, HTP.out.2⟩ (xb := [(X, 73, #[.int .u32 (xg : Int), .int .u32 (xsq : Int), .int .i64 xp, .int .i64 xq, .slice xA xn xc])]) (xr := [⟨xA, xn, xc, xd⟩]) K)
        clear K
        gi_wp2
        exact HF.out _
      | false =>
        refine wpIn_seq_k fun K2 hK2 => ?_
        have HK2 := Lib.hid hK2
        clear hK2
        gi_wp2
        refine HK2.out _ _ ?_
        clear HK2 ko
        refine wpIn_seq_k fun K3 hK3 => ?_
        have HK3 := Lib.hid hK3
        clear hK3
        refine wpIn_round_lit (by kernel_rfl) ?_
        have kn : Wt.cell? ⟨G + 1, 0, none⟩ = some (.slice A2 es.length c2) := K.cell 5 0 rfl rfl
        have k0 : Wt.cell? ⟨X, 0, none⟩ = some (.int .u32 (xg : Int)) := K.cell 0 0 rfl rfl
        have k1 : Wt.cell? ⟨X, 1, none⟩ = some (.int .u32 (xsq : Int)) := K.cell 0 1 rfl rfl
        have k2 : Wt.cell? ⟨X, 2, none⟩ = some (.int .i64 xp) := K.cell 0 2 rfl rfl
        have k3 : Wt.cell? ⟨X, 3, none⟩ = some (.int .i64 xq) := K.cell 0 3 rfl rfl
        have k4 : Wt.cell? ⟨X, 4, none⟩ = some (.slice xA xn xc) := K.cell 0 4 rfl rfl
        have hrow := (K.e.row 0 rfl).alloc (.cells #[.int .u32 (xg : Int), .int .u32 (xsq : Int), .int .i64 xp, .int .i64 xq, .slice xA xn xc] 73)
        dsimp only at hrow
        have hcs := cells_new Wt #[.int .u32 (xg : Int), .int .u32 (xsq : Int), .int .i64 xp, .int .i64 xq, .slice xA xn xc] 73 (g := Wt.heap.size) rfl
        have hbs := K.e.size
        have K4 := K.alloc (.cells #[.int .u32 (xg : Int), .int .u32 (xsq : Int), .int .i64 xp, .int .i64 xq, .slice xA xn xc] 73)
        have HK := Lib.hid K4
        clear K K4
        go_wp2_with (at_builtin; (refine wpList_appR _ rfl (.tmp 37) (.tmp 39) 68 rfl 73 _ 5 48 Tryd.underlying68 clinfo rfl (by omega) (by omega) rfl hrow (ad := ⟨Wt.heap.size, 0, none⟩) (m := 1) (c' := 1) [.int .u32 (xg : Int), .int .u32 (xsq : Int), .int .i64 xp, .int .i64 xq, .slice xA xn xc] rfl rfl hcs (by simp [Value.oneCell']) (by omega) (by simp; omega) ?_); intro A5 c5 w5 hown hg5 hA5; have K5 := HK.out.app 0 rfl hown hg5 hA5; have f5 : w5.frozen? ⟨G + 1, 0, none⟩ = false := K5.frozen 5 0 rfl; have k5 : w5.cell? ⟨G + 1, 0, none⟩ = some (.slice A2 es.length c2) := K5.cell 5 0 rfl rfl; clear HK hrow hcs kn k0 k1 k2 k3 k4 hown hg5 hA5)
        refine tight_normal ?_
        refine HK3.out _ _ ?_
        clear HK3
        have K6 := K5.set 5 0 rfl (.slice A5 (es.length + 1) c5)
        clear K5 k5 f5
        obtain ⟨es', hes'⟩ : ∃ es', es ++ [(⟨⟨xg, xsq, xp, xq, xd⟩, xA, xn, xc⟩ : CEl)] = es' := ⟨_, rfl⟩
        have hn' : es'.length = es.length + 1 := by rw [← hes', List.length_append]; rfl
        have K8 : WK W w0 (w5.setCell ⟨G + 1, 0, none⟩ (.slice A5 (es.length + 1) c5)) g s ((X, 73, #[.int .u32 (xg : Int), .int .u32 (xsq : Int), .int .i64 xp, .int .i64 xq, .slice xA xn xc]) :: scBox h B G Z false tp Clast (.slice A5 (es.length + 1) c5) (.slice A ls.length c) (bl.set i (segB h g ⟨t.first, t.n, t.gen, Cfin, 4294967295⟩))) (⟨73, 5, A5, es.length + 1, c5, cflat es'⟩ :: ⟨22, 1, A, ls.length, c, ls.map BEl.v⟩ :: ys) (es'.map CEl.bel ++ (ls ++ ((⟨xA, xn, xc, xd⟩ : BEl) :: rd))) := by
          refine K6.to ?_
          rw [← hes', cflat_snoc]
          refine K6.e.pick (List.Sublist.refl _) (List.Sublist.refl _) fun y hy => ?_
          simp only [List.map_append, List.map_cons, List.map_nil, List.mem_append, List.mem_cons, List.not_mem_nil, or_false] at hy ⊢
          rcases hy with (h | h) | h | h | h
          · exact .inl h
          · exact .inr (.inr (.inl h))
          · exact .inr (.inl h)
          · exact .inr (.inr (.inl h))
          · exact .inr (.inr (.inr h))
        obtain ⟨n', hnn⟩ : ∃ n', es.length + 1 = n' := ⟨_, rfl⟩
        rw [hnn] at K8 hn' ⊢
        have hnow : es'.map (·.x) = Cnow ++ [⟨xg, xsq, xp, xq, xd⟩] := by rw [← hes', List.map_append, HD.out.1.now]; rfl
        have hnums : ∀ e ∈ es', e.Num := fun e he => by
          rw [← hes'] at he
          rcases List.mem_append.1 he with he | he
          · exact HD.out.1.num e he
          · rw [List.mem_singleton] at he; subst he; exact HD.out.2.2
        have hn512 : n' ≤ 513 := by omega
        have hn1 : 1 ≤ n' := by omega
        obtain ⟨⟨⟨zg, zs, zp, zq, zd⟩, zA, zn, zc⟩, hz⟩ : ∃ e0, es'[0]? = some e0 := ⟨_, List.getElem?_eq_getElem (by omega)⟩
        have hright := right_eq (gen := t.gen) (last := Clast) (x := ⟨xg, xsq, xp, xq, xd⟩) hnow hn' hz
        dsimp only at hright
        obtain ⟨rt, hrt⟩ : ∃ rt, Sc.right t.gen Clast (Cnow ++ [⟨xg, xsq, xp, xq, xd⟩]) ⟨xg, xsq, xp, xq, xd⟩ = rt := ⟨_, rfl⟩
        rw [hrt] at hright
        have K7 := K8.drew
        clear K6 K8
        generalize hwd : World.drew _ = w7 at *
        have hr7 := K7.e.row 0 rfl
        dsimp only at hr7
        obtain ⟨ga, hga, _, _, z1, _⟩ := hr7.get (cflat_get hz 1 (by omega))
        subst hga
        have z3 := hr7.get' (cflat_get hz 3 (by omega))
        have s0 : (fun w' : World => w'.cell? ⟨X, 0, none⟩ = some (.int .u32 (xg : Int)) ∧ w'.cell? ⟨X, 1, none⟩ = some (.int .u32 (xsq : Int)) ∧ w'.cell? ⟨X, 2, none⟩ = some (.int .i64 xp) ∧ w'.cell? ⟨X, 3, none⟩ = some (.int .i64 xq) ∧ w'.cell? ⟨B, 0, none⟩ = some (.pointer (some ⟨h, 0, none⟩)) ∧ w'.cell? ⟨h, 3, none⟩ = some (.int .u32 (t.gen : Int)) ∧ w'.cell? ⟨G + 1 + 1, 0, none⟩ = some (.int .u32 (Clast : Int)) ∧ w'.cell? ⟨G + 1, 0, none⟩ = some (.slice (some ⟨ga, 0, none⟩) n' c5) ∧ w'.cell? ⟨ga, 1, none⟩ = some (.int .u32 (zs : Int)) ∧ w'.cell? ⟨ga, 3, none⟩ = some (.int .i64 zq)) w7 := ⟨K7.cell 0 0 rfl rfl, K7.cell 0 1 rfl rfl, K7.cell 0 2 rfl rfl, K7.cell 0 3 rfl rfl, K7.cell 7 0 rfl rfl, K7.cell (i + 8) 3 (List.getElem?_set_self hil) rfl, K7.cell 4 0 rfl rfl, K7.cell 5 0 rfl rfl, z1, z3⟩
        have HR := Lib.hid (And.intro hrt (And.intro hnow (And.intro hnums hn')))
        clear hr7 hz hes' hnow hnums hn' hnn hes z1 z3
        refine wpIn_seq_k fun K4 hK4 => ?_
        have hrest4 : ∀ (u28 u29 u30 u31 u32 u33 u34 u35 u36 u37 u38 u39 u40 u41 u42 u43 u44 u45 u46 u47 u48 u49 u50 u51 u52 u53 u54 u55 u56 u57 u58 u59 u60 u61 u62 u63 u64 u65 u66 u67 u68 u69 u70 u71 u72 u73 u74 u75 u76 u77 u78 u79 u80 u81 u82 u83 u84 : Value), K4 { tmps := #[.pointer (some ⟨h, 0, none⟩), .pointer (some ⟨B, 0, none⟩), .slice none 0 0, .int .i64 0, .pointer (some ⟨G, 0, none⟩), .pointer (some ⟨G + 1, 0, none⟩), .pointer (some ⟨G + 1 + 1, 0, none⟩), .pointer (some ⟨G + 1 + 1 + 1, 0, none⟩), .pointer (some ⟨G + 1 + 1 + 1 + 1, 0, none⟩), .int .i64 (pre.length : Int), .pointer (some ⟨X, 0, none⟩), .bool rt, undef, undef, .pointer (some ⟨h, 0, none⟩), v15, .pointer (some ⟨h, 0, none⟩), .pointer (some ⟨h, 0, none⟩), .pointer (some ⟨h, 0, none⟩), .pointer (some ⟨g, 0, none⟩), .bool false, .pointer (some ⟨h, 0, none⟩), .pointer (some ⟨h, 0, none⟩), .pointer (some ⟨h, 4, none⟩), .pointer (some ⟨h, 0, none⟩), .func (.func 55) #[] #[.pointer (some ⟨Z, 0, none⟩)], .int .i64 (pre.length : Int), .agg #[.int .u32 (xg : Int), .int .u32 (xsq : Int), .int .i64 xp, .int .i64 xq, .slice xA xn xc], u28, u29, u30, u31, u32, u33, u34, u35, u36, u37, u38, u39, u40, u41, u42, u43, u44, u45, u46, u47, u48, u49, u50, u51, u52, u53, u54, u55, u56, u57, u58, u59, u60, u61, u62, u63, u64, u65, u66, u67, u68, u69, u70, u71, u72, u73, u74, u75, u76, u77, u78, u79, u80, u81, u82, u83, u84, undef, undef, undef, undef, undef, undef, undef, undef, undef, undef, undef, undef, undef, undef, undef, undef, undef, undef, undef, undef, undef, undef, undef, undef, undef, undef, undef, undef], defers := [] } w7 := by
          intro u28 u29 u30 u31 u32 u33 u34 u35 u36 u37 u38 u39 u40 u41 u42 u43 u44 u45 u46 u47 u48 u49 u50 u51 u52 u53 u54 u55 u56 u57 u58 u59 u60 u61 u62 u63 u64 u65 u66 u67 u68 u69 u70 u71 u72 u73 u74 u75 u76 u77 u78 u79 u80 u81 u82 u83 u84
          refine hK4 _ _ ?_
          clear hK4 hwd hright
          cases rt with
          | false =>
            have f4 : w7.frozen? ⟨G + 1 + 1 + 1 + 1, 0, none⟩ = false := K7.frozen 2 0 rfl
            have k4 : w7.cell? ⟨G + 1 + 1 + 1 + 1, 0, none⟩ = some (.bool false) := K7.cell 2 0 rfl rfl
            have K9 := K7.set 2 0 rfl (.bool true)
            have HF := Lib.hid (fun a => HS.out.at_.close (Bk := w9.heap.size) (a := a) hlt HS.out.is (C := ⟨Cout, Cnow ++ [⟨xg, xsq, xp, xq, xd⟩], Clast, tp, true, Cfin⟩) (by
              rw [HD.out.2.1]
              unfold Sc.step
              dsimp only
              rw [if_neg (by decide), if_neg (by rw [HR.out.1]; decide), HTP.out.1]) ⟨HR.out.2.1, HD.out.1.out, HR.out.2.2.1, HD.out.1.last, HTP.out.2⟩ (xb := [(X, 73, #[.int .u32 (xg : Int), .int .u32 (xsq : Int), .int .i64 xp, .int .i64 xq, .slice xA xn xc])]) (xr := [⟨xA, xn, xc, xd⟩]) (A := A) (c := c) (xs := ls) (A2 := some ⟨ga, 0, none⟩) (c2 := c5) (es := es') (W' := w7.setCell ⟨G + 1 + 1 + 1 + 1, 0, none⟩ (.bool true)) (by unfold scRow; rw [HR.out.2.2.2]; exact K9))
            clear K7 K9 s0
            gi_wp2
            exact HF.out _
          | true =>
            have kn : w7.cell? ⟨G + 1, 0, none⟩ = some (.slice (some ⟨ga, 0, none⟩) n' c5) := K7.cell 5 0 rfl rfl
            have k3 : w7.cell? ⟨X, 3, none⟩ = some (.int .i64 xq) := K7.cell 0 3 rfl rfl
            by_cases hfull : (n' : Int) = xq
            · have q1 : ((n' : Int) == xq) = true := by simp [hfull]
              have HFU := Lib.hid hfull
              clear hfull s0
              have hcrd : CRd w7 (some ⟨ga, 0, none⟩) n' c5 es' := crd_of (K7.e.row 0 rfl) HR.out.2.2.2 (fun e he => (HR.out.2.2.1 e he).in_ (K7.e.rdm (x := e.bel) (List.mem_append_left _ (List.mem_map.2 ⟨e, he, rfl⟩))))
              have HJ := Lib.hid hcrd
              clear hcrd
              gi_wp2
              refine ⟨trivial, (CallsIn.inRound l (callsIn_wide.2 (cjoin_any HJ.out (by omega)))).mono ?_⟩
              unfold JoinPost
              rw [HR.out.2.1]
              rintro e w8 ⟨A9, m9, c9, rfl, ho9, hb9⟩
              have K9 := (K7.below hb9).see (FarB.of_own ho9)
              generalize Cl.joinCode (Cnow ++ [⟨xg, xsq, xp, xq, xd⟩]) = cd9 at *
              clear K7 hb9 kn k3 ho9
              gi_wp2
              have K10 := K9.drew
              clear K9
              have hpl := HS.out.at_.len
              have hnm := ok.fits
              have hwm := E9.wf.most
              have hwi : IntKind.i64.wrap ((pre.length : Int) + 1) = ((pre.length + 1 : Nat) : Int) := by rw [IntWalk.i64_in _ (by omega)]; omega
              clear hpl hnm hwm
              generalize hwd : World.drew _ = wa at *
              have ko : wa.cell? ⟨G, 0, none⟩ = some (.slice A ls.length c) := K10.cell 6 0 rfl rfl
              refine wpIn_round_late [] (fun _ => True) (by kernel_rfl) (by kernel_rfl) ?_
              rw [hwd]
              clear hwd
              refine wpAnyL_take (i := 2) (v := ?_) rfl (by kernel_rfl) (by kernel_rfl) (by kernel_rfl) (by kernel_rfl) (by kernel_rfl) (fun _ _ _ h => h) (Or.inl ⟨by kernel_rfl, ?_⟩) trivial ?_
              rotate_left
              · rintro w0 _; go_simp; (try with_reducible rfl)
              try simp only [Act.put, List.getElem_toArray, List.getElem_cons_succ, List.getElem_cons_zero, List.setIfInBounds_toArray, List.set_cons_zero, List.set_cons_succ]
              refine wpAnyL_take (i := 5) (v := ?_) rfl (by kernel_rfl) (by kernel_rfl) (by kernel_rfl) (by kernel_rfl) (by kernel_rfl) (fun _ _ _ h => h) (Or.inl ⟨by kernel_rfl, ?_⟩) trivial ?_
              rotate_left
              · rintro w0 _; go_simp; (try with_reducible rfl)
              try simp only [Act.put, List.getElem_toArray, List.getElem_cons_succ, List.getElem_cons_zero, List.setIfInBounds_toArray, List.set_cons_zero, List.set_cons_succ]
              refine wpAnyL_take (i := 7) (v := ?_) rfl (by kernel_rfl) (by kernel_rfl) (by kernel_rfl) (by kernel_rfl) (by kernel_rfl) (fun _ _ _ h => h) (Or.inl ⟨by kernel_rfl, ?_⟩) trivial ?_
              rotate_left
              · rintro w0 _; go_simp; (try with_reducible rfl)
              try simp only [Act.put, List.getElem_toArray, List.getElem_cons_succ, List.getElem_cons_zero, List.setIfInBounds_toArray, List.set_cons_zero, List.set_cons_succ]
              refine wpAnyL_take (i := 8) (v := ?_) rfl (by kernel_rfl) (by kernel_rfl) (by kernel_rfl) (by kernel_rfl) (by kernel_rfl) (fun _ _ _ h => h) (Or.inl ⟨by kernel_rfl, ?_⟩) trivial ?_
              rotate_left
              · rintro w0 _; go_simp; (try with_reducible rfl)
              try simp only [Act.put, List.getElem_toArray, List.getElem_cons_succ, List.getElem_cons_zero, List.setIfInBounds_toArray, List.set_cons_zero, List.set_cons_succ]
              have s0 : (fun w' : World => w'.cell? ⟨B, 0, none⟩ = some (.pointer (some ⟨h, 0, none⟩)) ∧ w'.cell? ⟨X, 1, none⟩ = some (.int .u32 (xsq : Int))) wa := ⟨K10.cell 7 0 rfl rfl, K10.cell 0 1 rfl rfl⟩
              refine wpAnyL_sw (D := [14]) (S := (fun w' : World => w'.cell? ⟨B, 0, none⟩ = some (.pointer (some ⟨h, 0, none⟩)) ∧ w'.cell? ⟨X, 1, none⟩ = some (.int .u32 (xsq : Int)))) _ _ _ _ ?_
              refine wpAnyL_take (i := 0) (v := ?_) rfl (by kernel_rfl) (by kernel_rfl) (by kernel_rfl) (by kernel_rfl) (by kernel_rfl) (fun _ _ _ h => h) (Or.inl ⟨by kernel_rfl, ?_⟩) s0 ?_
              rotate_left
              · rintro w0 ⟨h1_, h2_⟩; go_simp; (try with_reducible rfl)
              try simp only [Act.put, List.getElem_toArray, List.getElem_cons_succ, List.getElem_cons_zero, List.setIfInBounds_toArray, List.set_cons_zero, List.set_cons_succ]
              refine wpAnyL_take (i := 6) (v := ?_) rfl (by kernel_rfl) (by kernel_rfl) (by kernel_rfl) (by kernel_rfl) (by kernel_rfl) (fun _ _ _ h => h) (Or.inl ⟨by kernel_rfl, ?_⟩) s0 ?_
              rotate_left
              · rintro w0 ⟨h1_, h2_⟩; go_simp; (try with_reducible rfl)
              try simp only [Act.put, List.getElem_toArray, List.getElem_cons_succ, List.getElem_cons_zero, List.setIfInBounds_toArray, List.set_cons_zero, List.set_cons_succ]
              refine wpAnyL_all (rs := [1, 3]) (by kernel_rfl) (by simp) (StepsL.cons (i := 1) rfl (fun K hK => ?_) (StepsL.cons (i := 3) rfl (fun K hK => ?_) StepsL.nil))
              · go_simp
                refine hK.out _ _ (fun _ => s0) ?_
                clear hK K
                try simp only [Act.put, List.getElem_toArray, List.getElem_cons_succ, List.getElem_cons_zero, List.setIfInBounds_toArray, List.set_cons_zero, List.set_cons_succ]
                refine wpAnyL_one (i := 3) (by kernel_rfl) rfl (fun K hK => ?_)
                go_simp
                have K11 := K10.alloc (.cells #[.slice A9 m9 c9] 22)
                have s1 : (fun w' : World => w'.cell? ⟨B, 0, none⟩ = some (.pointer (some ⟨h, 0, none⟩)) ∧ w'.cell? ⟨X, 1, none⟩ = some (.int .u32 (xsq : Int))) _ := ⟨K11.cell 7 0 rfl rfl, K11.cell 0 1 rfl rfl⟩
                refine hK.out _ _ (fun _ => s1) ?_
                clear hK K
                try simp only [Act.put, List.getElem_toArray, List.getElem_cons_succ, List.getElem_cons_zero, List.setIfInBounds_toArray, List.set_cons_zero, List.set_cons_succ]
                have hrow := K11.e.row 1 rfl
                dsimp only at hrow
                have hbs := K11.e.size
                clear K10 ko
                refine wpAnyL_one (i := 4) (by kernel_rfl) rfl (fun K hK => ?_)
                refine step_appR rfl (.tmp 98) (.tmp 100) 32 rfl 22 _ 1 24 Tryd.underlying32 binfo rfl (by omega) (by omega) rfl hrow (ad := ⟨wa.heap.size, 0, none⟩) (m := 1) (c' := 1) [.slice A9 m9 c9] rfl rfl (cells_new wa #[.slice A9 m9 c9] 22 (g := wa.heap.size) rfl) (by intro u hu; simp only [List.mem_cons, List.not_mem_nil, or_false] at hu; rw [hu]; rfl) (by omega) hbs ?_
                intro A11 c11 w11 hown hg11 hA11
                have K12 := K11.app 1 rfl hown hg11 hA11
                have s2 : (fun w' : World => w'.cell? ⟨B, 0, none⟩ = some (.pointer (some ⟨h, 0, none⟩)) ∧ w'.cell? ⟨X, 1, none⟩ = some (.int .u32 (xsq : Int))) w11 := ⟨K12.cell 7 0 rfl rfl, K12.cell 0 1 rfl rfl⟩
                clear K11 hrow hown hg11 hA11 hbs s1 s0
                refine hK.out _ _ (fun _ => s2) ?_
                clear hK K
                try simp only [Act.put, List.getElem_toArray, List.getElem_cons_succ, List.getElem_cons_zero, List.setIfInBounds_toArray, List.set_cons_zero, List.set_cons_succ]
                have f9 : w11.frozen? ⟨G, 0, none⟩ = false := K12.frozen 6 0 rfl
                have k9 : w11.cell? ⟨G, 0, none⟩ = some (.slice A ls.length c) := K12.cell 6 0 rfl rfl
                refine wpAnyL_one (i := 9) (by kernel_rfl) rfl (fun K hK => ?_)
                go_simp
                have K13 := K12.set 6 0 rfl (.slice A11 (ls.length + 1) c11)
                clear K12 f9 k9 s2
                generalize World.setCell _ _ _ = w12 at *
                have s3 : (fun w' : World => w'.cell? ⟨B, 0, none⟩ = some (.pointer (some ⟨h, 0, none⟩)) ∧ w'.cell? ⟨X, 1, none⟩ = some (.int .u32 (xsq : Int))) w12 := ⟨K13.cell 7 0 rfl rfl, K13.cell 0 1 rfl rfl⟩
                refine hK.out _ _ (fun _ => s3) ?_
                clear hK K
                try simp only [Act.put, List.getElem_toArray, List.getElem_cons_succ, List.getElem_cons_zero, List.setIfInBounds_toArray, List.set_cons_zero, List.set_cons_succ]
                have f9 : w12.frozen? ⟨G + 1, 0, none⟩ = false := K13.frozen 5 0 rfl
                have k9 : w12.cell? ⟨G + 1, 0, none⟩ = some (.slice (some ⟨ga, 0, none⟩) n' c5) := K13.cell 5 0 rfl rfl
                refine wpAnyL_one (i := 10) (by kernel_rfl) rfl (fun K hK => ?_)
                go_simp
                have K14 := K13.set 5 0 rfl (.slice none 0 0)
                clear K13 f9 k9 s3
                generalize World.setCell _ _ _ = w13 at *
                have s4 : (fun w' : World => w'.cell? ⟨B, 0, none⟩ = some (.pointer (some ⟨h, 0, none⟩)) ∧ w'.cell? ⟨X, 1, none⟩ = some (.int .u32 (xsq : Int))) w13 := ⟨K14.cell 7 0 rfl rfl, K14.cell 0 1 rfl rfl⟩
                refine hK.out _ _ (fun _ => s4) ?_
                clear hK K
                try simp only [Act.put, List.getElem_toArray, List.getElem_cons_succ, List.getElem_cons_zero, List.setIfInBounds_toArray, List.set_cons_zero, List.set_cons_succ]
                have f9 : w13.frozen? ⟨G + 1 + 1, 0, none⟩ = false := K14.frozen 4 0 rfl
                have k9 : w13.cell? ⟨G + 1 + 1, 0, none⟩ = some (.int .u32 (Clast : Int)) := K14.cell 4 0 rfl rfl
                refine wpAnyL_one (i := 11) (by kernel_rfl) rfl (fun K hK => ?_)
                go_simp
                have K15 := K14.set 4 0 rfl (.int .u32 (xsq : Int))
                clear K14 f9 k9 s4
                generalize World.setCell _ _ _ = w14 at *
                have s5 : (fun w' : World => w'.cell? ⟨B, 0, none⟩ = some (.pointer (some ⟨h, 0, none⟩)) ∧ w'.cell? ⟨X, 1, none⟩ = some (.int .u32 (xsq : Int))) w14 := ⟨K15.cell 7 0 rfl rfl, K15.cell 0 1 rfl rfl⟩
                refine hK.out _ _ (fun _ => s5) ?_
                clear hK K
                try simp only [Act.put, List.getElem_toArray, List.getElem_cons_succ, List.getElem_cons_zero, List.setIfInBounds_toArray, List.set_cons_zero, List.set_cons_succ]
                refine wpAnyL_take (i := 12) (v := ?_) rfl (by kernel_rfl) (by kernel_rfl) (by kernel_rfl) (by kernel_rfl) (by kernel_rfl) (fun _ _ _ h => h) (Or.inl ⟨by kernel_rfl, ?_⟩) s5 ?_
                rotate_left
                · rintro w0 ⟨h1_, h2_⟩; go_simp; (try with_reducible rfl)
                try simp only [Act.put, List.getElem_toArray, List.getElem_cons_succ, List.getElem_cons_zero, List.setIfInBounds_toArray, List.set_cons_zero, List.set_cons_succ]
                refine wpAnyL_take (i := 13) (v := ?_) rfl (by kernel_rfl) (by kernel_rfl) (by kernel_rfl) (by kernel_rfl) (by kernel_rfl) (fun _ _ _ h => h) (Or.inl ⟨by kernel_rfl, ?_⟩) s5 ?_
                rotate_left
                · rintro w0 ⟨h1_, h2_⟩; go_simp; (try with_reducible rfl)
                try simp only [Act.put, List.getElem_toArray, List.getElem_cons_succ, List.getElem_cons_zero, List.setIfInBounds_toArray, List.set_cons_zero, List.set_cons_succ]
                have K15 := K15.eq (bl' := (X, 73, #[.int .u32 (xg : Int), .int .u32 (xsq : Int), .int .i64 xp, .int .i64 xq, .slice xA xn xc]) :: scBox h B G Z false tp xsq (.slice none 0 0) (.slice A11 (ls.length + 1) c11) (bl.set i (segB h g ⟨t.first, t.n, t.gen, Cfin, 4294967295⟩))) rfl
                have hi8 : ((X, 73, #[.int .u32 (xg : Int), .int .u32 (xsq : Int), .int .i64 xp, .int .i64 xq, .slice xA xn xc]) :: scBox h B G Z false tp xsq (.slice none 0 0) (.slice A11 (ls.length + 1) c11) (bl.set i (segB h g ⟨t.first, t.n, t.gen, Cfin, 4294967295⟩)))[i + 8]? = some (segB h g ⟨t.first, t.n, t.gen, Cfin, 4294967295⟩) := List.getElem?_set_self hil
                have f9 : w14.frozen? ⟨h, 4, none⟩ = false := K15.frozen (i + 8) 4 hi8
                have k9 : w14.cell? ⟨h, 4, none⟩ = some (.int .i64 (Cfin : Int)) := K15.cell (i + 8) 4 hi8 rfl
                refine wpAnyL_one (i := 14) (by kernel_rfl) rfl (fun K hK => ?_)
                go_simp
                have K16 := (K15.set (i + 8) 4 hi8 (.int .i64 ((pre.length + 1 : Nat) : Int))).eq (bl' := (X, 73, #[.int .u32 (xg : Int), .int .u32 (xsq : Int), .int .i64 xp, .int .i64 xq, .slice xA xn xc]) :: scBox h B G Z false tp xsq (.slice none 0 0) (.slice A11 (ls.length + 1) c11) (bl.set i (segB h g ⟨t.first, t.n, t.gen, pre.length + 1, 4294967295⟩))) (by show _ :: _ :: _ :: _ :: _ :: _ :: _ :: _ :: (bl.set i _).set i _ = _; rw [List.set_set]; rfl)
                clear K15 f9 k9 s5 hi8
                refine hK.out _ _ (fun h => absurd (by simp) h) ?_
                clear hK K
                try simp only [Act.put, List.getElem_toArray, List.getElem_cons_succ, List.getElem_cons_zero, List.setIfInBounds_toArray, List.set_cons_zero, List.set_cons_succ]
                refine wpAnyL_done (by kernel_rfl) ?_ _
                refine tight_normal ?_
                have hlen : ((Cnow ++ [(⟨xg, xsq, xp, xq, xd⟩ : Cl)]).length : Int) = xq := by rw [← HR.out.2.1, List.length_map, HR.out.2.2.2]; exact HFU.out
                have hE := (K16.e.pick (List.Sublist.refl _) (.cons _ (.refl _)) (rd' := ([] : List CEl).map CEl.bel ++ ((ls ++ [(⟨A9, m9, c9, Cl.join (Cnow ++ [⟨xg, xsq, xp, xq, xd⟩])⟩ : BEl)]) ++ ([(⟨xA, xn, xc, xd⟩ : BEl)] ++ rd))) (fun y hy => by
                  simp only [List.map_nil, List.nil_append, List.mem_append, List.mem_cons, List.not_mem_nil, or_false] at hy ⊢
                  rcases hy with (h | h) | h | h
                  · exact .inr (.inr (.inl h))
                  · exact .inl h
                  · exact .inr (.inr (.inr (.inl h)))
                  · exact .inr (.inr (.inr (.inr h))))).nil (ty := 73) 5 (by decide)
                have K17 := K16.to hE
                have HF := Lib.hid (fun a => HS.out.at_.close (Bk := w9.heap.size) (a := a) hlt HS.out.is (C := ⟨Cout ++ [Cl.join (Cnow ++ [⟨xg, xsq, xp, xq, xd⟩])], [], xsq, tp, false, pre.length + 1⟩) (by
                  rw [HD.out.2.1]
                  unfold Sc.step
                  dsimp only
                  rw [if_neg (by decide), if_pos HR.out.1, if_pos hlen, HTP.out.1]) ⟨rfl, by rw [List.map_append, HD.out.1.out]; rfl, fun _ h => (by cases h), HD.out.2.2.seq, HTP.out.2⟩ (xb := [(X, 73, #[.int .u32 (xg : Int), .int .u32 (xsq : Int), .int .i64 xp, .int .i64 xq, .slice xA xn xc])]) (xr := [⟨xA, xn, xc, xd⟩]) (A := A11) (c := c11) (xs := ls ++ [(⟨A9, m9, c9, Cl.join (Cnow ++ [⟨xg, xsq, xp, xq, xd⟩])⟩ : BEl)]) (A2 := none) (c2 := 0) (es := []) (by unfold scRow; rw [List.length_append, List.map_append]; exact K17))
                clear K16 K17 hE hlen
                gi_wp2
                exact HF.out _
              · go_simp
                have K11 := K10.alloc (.cells #[.slice A9 m9 c9] 22)
                have s1 : (fun w' : World => w'.cell? ⟨B, 0, none⟩ = some (.pointer (some ⟨h, 0, none⟩)) ∧ w'.cell? ⟨X, 1, none⟩ = some (.int .u32 (xsq : Int))) _ := ⟨K11.cell 7 0 rfl rfl, K11.cell 0 1 rfl rfl⟩
                refine hK.out _ _ (fun _ => s1) ?_
                clear hK K
                try simp only [Act.put, List.getElem_toArray, List.getElem_cons_succ, List.getElem_cons_zero, List.setIfInBounds_toArray, List.set_cons_zero, List.set_cons_succ]
                have ko : (wa.alloc (.cells #[.slice A9 m9 c9] 22)).cell? ⟨G, 0, none⟩ = some (.slice A ls.length c) := K11.cell 6 0 rfl rfl
                refine wpAnyL_one (i := 1) (by kernel_rfl) rfl (fun K hK => ?_)
                go_simp
                refine hK.out _ _ (fun _ => s1) ?_
                clear hK K
                try simp only [Act.put, List.getElem_toArray, List.getElem_cons_succ, List.getElem_cons_zero, List.setIfInBounds_toArray, List.set_cons_zero, List.set_cons_succ]
                have hrow := K11.e.row 1 rfl
                dsimp only at hrow
                have hbs := K11.e.size
                clear K10 ko
                refine wpAnyL_one (i := 4) (by kernel_rfl) rfl (fun K hK => ?_)
                refine step_appR rfl (.tmp 98) (.tmp 100) 32 rfl 22 _ 1 24 Tryd.underlying32 binfo rfl (by omega) (by omega) rfl hrow (ad := ⟨wa.heap.size, 0, none⟩) (m := 1) (c' := 1) [.slice A9 m9 c9] rfl rfl (cells_new wa #[.slice A9 m9 c9] 22 (g := wa.heap.size) rfl) (by intro u hu; simp only [List.mem_cons, List.not_mem_nil, or_false] at hu; rw [hu]; rfl) (by omega) hbs ?_
                intro A11 c11 w11 hown hg11 hA11
                have K12 := K11.app 1 rfl hown hg11 hA11
                have s2 : (fun w' : World => w'.cell? ⟨B, 0, none⟩ = some (.pointer (some ⟨h, 0, none⟩)) ∧ w'.cell? ⟨X, 1, none⟩ = some (.int .u32 (xsq : Int))) w11 := ⟨K12.cell 7 0 rfl rfl, K12.cell 0 1 rfl rfl⟩
                clear K11 hrow hown hg11 hA11 hbs s1 s0
                refine hK.out _ _ (fun _ => s2) ?_
                clear hK K
                try simp only [Act.put, List.getElem_toArray, List.getElem_cons_succ, List.getElem_cons_zero, List.setIfInBounds_toArray, List.set_cons_zero, List.set_cons_succ]
                have f9 : w11.frozen? ⟨G, 0, none⟩ = false := K12.frozen 6 0 rfl
                have k9 : w11.cell? ⟨G, 0, none⟩ = some (.slice A ls.length c) := K12.cell 6 0 rfl rfl
                refine wpAnyL_one (i := 9) (by kernel_rfl) rfl (fun K hK => ?_)
                go_simp
                have K13 := K12.set 6 0 rfl (.slice A11 (ls.length + 1) c11)
                clear K12 f9 k9 s2
                generalize World.setCell _ _ _ = w12 at *
                have s3 : (fun w' : World => w'.cell? ⟨B, 0, none⟩ = some (.pointer (some ⟨h, 0, none⟩)) ∧ w'.cell? ⟨X, 1, none⟩ = some (.int .u32 (xsq : Int))) w12 := ⟨K13.cell 7 0 rfl rfl, K13.cell 0 1 rfl rfl⟩
                refine hK.out _ _ (fun _ => s3) ?_
                clear hK K
                try simp only [Act.put, List.getElem_toArray, List.getElem_cons_succ, List.getElem_cons_zero, List.setIfInBounds_toArray, List.set_cons_zero, List.set_cons_succ]
                have f9 : w12.frozen? ⟨G + 1, 0, none⟩ = false := K13.frozen 5 0 rfl
                have k9 : w12.cell? ⟨G + 1, 0, none⟩ = some (.slice (some ⟨ga, 0, none⟩) n' c5) := K13.cell 5 0 rfl rfl
                refine wpAnyL_one (i := 10) (by kernel_rfl) rfl (fun K hK => ?_)
                go_simp
                have K14 := K13.set 5 0 rfl (.slice none 0 0)
                clear K13 f9 k9 s3
                generalize World.setCell _ _ _ = w13 at *
                have s4 : (fun w' : World => w'.cell? ⟨B, 0, none⟩ = some (.pointer (some ⟨h, 0, none⟩)) ∧ w'.cell? ⟨X, 1, none⟩ = some (.int .u32 (xsq : Int))) w13 := ⟨K14.cell 7 0 rfl rfl, K14.cell 0 1 rfl rfl⟩
                refine hK.out _ _ (fun _ => s4) ?_
                clear hK K
                try simp only [Act.put, List.getElem_toArray, List.getElem_cons_succ, List.getElem_cons_zero, List.setIfInBounds_toArray, List.set_cons_zero, List.set_cons_succ]
                have f9 : w13.frozen? ⟨G + 1 + 1, 0, none⟩ = false := K14.frozen 4 0 rfl
                have k9 : w13.cell? ⟨G + 1 + 1, 0, none⟩ = some (.int .u32 (Clast : Int)) := K14.cell 4 0 rfl rfl
                refine wpAnyL_one (i := 11) (by kernel_rfl) rfl (fun K hK => ?_)
                go_simp
                have K15 := K14.set 4 0 rfl (.int .u32 (xsq : Int))
                clear K14 f9 k9 s4
                generalize World.setCell _ _ _ = w14 at *
                have s5 : (fun w' : World => w'.cell? ⟨B, 0, none⟩ = some (.pointer (some ⟨h, 0, none⟩)) ∧ w'.cell? ⟨X, 1, none⟩ = some (.int .u32 (xsq : Int))) w14 := ⟨K15.cell 7 0 rfl rfl, K15.cell 0 1 rfl rfl⟩
                refine hK.out _ _ (fun _ => s5) ?_
                clear hK K
                try simp only [Act.put, List.getElem_toArray, List.getElem_cons_succ, List.getElem_cons_zero, List.setIfInBounds_toArray, List.set_cons_zero, List.set_cons_succ]
                refine wpAnyL_take (i := 12) (v := ?_) rfl (by kernel_rfl) (by kernel_rfl) (by kernel_rfl) (by kernel_rfl) (by kernel_rfl) (fun _ _ _ h => h) (Or.inl ⟨by kernel_rfl, ?_⟩) s5 ?_
                rotate_left
                · rintro w0 ⟨h1_, h2_⟩; go_simp; (try with_reducible rfl)
                try simp only [Act.put, List.getElem_toArray, List.getElem_cons_succ, List.getElem_cons_zero, List.setIfInBounds_toArray, List.set_cons_zero, List.set_cons_succ]
                refine wpAnyL_take (i := 13) (v := ?_) rfl (by kernel_rfl) (by kernel_rfl) (by kernel_rfl) (by kernel_rfl) (by kernel_rfl) (fun _ _ _ h => h) (Or.inl ⟨by kernel_rfl, ?_⟩) s5 ?_
                rotate_left
                · rintro w0 ⟨h1_, h2_⟩; go_simp; (try with_reducible rfl)
                try simp only [Act.put, List.getElem_toArray, List.getElem_cons_succ, List.getElem_cons_zero, List.setIfInBounds_toArray, List.set_cons_zero, List.set_cons_succ]
                have K15 := K15.eq (bl' := (X, 73, #[.int .u32 (xg : Int), .int .u32 (xsq : Int), .int .i64 xp, .int .i64 xq, .slice xA xn xc]) :: scBox h B G Z false tp xsq (.slice none 0 0) (.slice A11 (ls.length + 1) c11) (bl.set i (segB h g ⟨t.first, t.n, t.gen, Cfin, 4294967295⟩))) rfl
                have hi8 : ((X, 73, #[.int .u32 (xg : Int), .int .u32 (xsq : Int), .int .i64 xp, .int .i64 xq, .slice xA xn xc]) :: scBox h B G Z false tp xsq (.slice none 0 0) (.slice A11 (ls.length + 1) c11) (bl.set i (segB h g ⟨t.first, t.n, t.gen, Cfin, 4294967295⟩)))[i + 8]? = some (segB h g ⟨t.first, t.n, t.gen, Cfin, 4294967295⟩) := List.getElem?_set_self hil
                have f9 : w14.frozen? ⟨h, 4, none⟩ = false := K15.frozen (i + 8) 4 hi8
                have k9 : w14.cell? ⟨h, 4, none⟩ = some (.int .i64 (Cfin : Int)) := K15.cell (i + 8) 4 hi8 rfl
                refine wpAnyL_one (i := 14) (by kernel_rfl) rfl (fun K hK => ?_)
                go_simp
                have K16 := (K15.set (i + 8) 4 hi8 (.int .i64 ((pre.length + 1 : Nat) : Int))).eq (bl' := (X, 73, #[.int .u32 (xg : Int), .int .u32 (xsq : Int), .int .i64 xp, .int .i64 xq, .slice xA xn xc]) :: scBox h B G Z false tp xsq (.slice none 0 0) (.slice A11 (ls.length + 1) c11) (bl.set i (segB h g ⟨t.first, t.n, t.gen, pre.length + 1, 4294967295⟩))) (by show _ :: _ :: _ :: _ :: _ :: _ :: _ :: _ :: (bl.set i _).set i _ = _; rw [List.set_set]; rfl)
                clear K15 f9 k9 s5 hi8
                refine hK.out _ _ (fun h => absurd (by simp) h) ?_
                clear hK K
                try simp only [Act.put, List.getElem_toArray, List.getElem_cons_succ, List.getElem_cons_zero, List.setIfInBounds_toArray, List.set_cons_zero, List.set_cons_succ]
                refine wpAnyL_done (by kernel_rfl) ?_ _
                refine tight_normal ?_
                have hlen : ((Cnow ++ [(⟨xg, xsq, xp, xq, xd⟩ : Cl)]).length : Int) = xq := by rw [← HR.out.2.1, List.length_map, HR.out.2.2.2]; exact HFU.out
                have hE := (K16.e.pick (List.Sublist.refl _) (.cons _ (.refl _)) (rd' := ([] : List CEl).map CEl.bel ++ ((ls ++ [(⟨A9, m9, c9, Cl.join (Cnow ++ [⟨xg, xsq, xp, xq, xd⟩])⟩ : BEl)]) ++ ([(⟨xA, xn, xc, xd⟩ : BEl)] ++ rd))) (fun y hy => by
                  simp only [List.map_nil, List.nil_append, List.mem_append, List.mem_cons, List.not_mem_nil, or_false] at hy ⊢
                  rcases hy with (h | h) | h | h
                  · exact .inr (.inr (.inl h))
                  · exact .inl h
                  · exact .inr (.inr (.inr (.inl h)))
                  · exact .inr (.inr (.inr (.inr h))))).nil (ty := 73) 5 (by decide)
                have K17 := K16.to hE
                have HF := Lib.hid (fun a => HS.out.at_.close (Bk := w9.heap.size) (a := a) hlt HS.out.is (C := ⟨Cout ++ [Cl.join (Cnow ++ [⟨xg, xsq, xp, xq, xd⟩])], [], xsq, tp, false, pre.length + 1⟩) (by
                  rw [HD.out.2.1]
                  unfold Sc.step
                  dsimp only
                  rw [if_neg (by decide), if_pos HR.out.1, if_pos hlen, HTP.out.1]) ⟨rfl, by rw [List.map_append, HD.out.1.out]; rfl, fun _ h => (by cases h), HD.out.2.2.seq, HTP.out.2⟩ (xb := [(X, 73, #[.int .u32 (xg : Int), .int .u32 (xsq : Int), .int .i64 xp, .int .i64 xq, .slice xA xn xc])]) (xr := [⟨xA, xn, xc, xd⟩]) (A := A11) (c := c11) (xs := ls ++ [(⟨A9, m9, c9, Cl.join (Cnow ++ [⟨xg, xsq, xp, xq, xd⟩])⟩ : BEl)]) (A2 := none) (c2 := 0) (es := []) (by unfold scRow; rw [List.length_append, List.map_append]; exact K17))
                clear K16 K17 hE hlen
                gi_wp2
                exact HF.out _
            · have q1 : ((n' : Int) == xq) = false := by simpa using hfull
              have HF := Lib.hid (fun a => HS.out.at_.close (Bk := w9.heap.size) (a := a) hlt HS.out.is (C := ⟨Cout, Cnow ++ [⟨xg, xsq, xp, xq, xd⟩], Clast, tp, false, Cfin⟩) (by
                rw [HD.out.2.1]
                unfold Sc.step
                dsimp only
                rw [if_neg (by decide), if_pos HR.out.1, if_neg (by rw [← HR.out.2.1, List.length_map, HR.out.2.2.2]; exact hfull), HTP.out.1]) ⟨HR.out.2.1, HD.out.1.out, HR.out.2.2.1, HD.out.1.last, HTP.out.2⟩ (xb := [(X, 73, #[.int .u32 (xg : Int), .int .u32 (xsq : Int), .int .i64 xp, .int .i64 xq, .slice xA xn xc])]) (xr := [⟨xA, xn, xc, xd⟩]) (A := A) (c := c) (xs := ls) (A2 := some ⟨ga, 0, none⟩) (c2 := c5) (es := es') (W' := w7) (by unfold scRow; rw [HR.out.2.2.2]; exact K7))
              clear K7 hfull s0
              gi_wp2
              exact HF.out _
        have HR4 := Lib.hid hrest4
        clear hK4 hrest4 K7
        obtain ⟨m', hm'⟩ : ∃ m' : Nat, n' = m' + 1 := ⟨n' - 1, by omega⟩
        have hwm : IntKind.i64.wrap ((n' : Int) - 1) = (m' : Int) := by rw [IntWalk.i64_in _ (by omega)]; omega
        have hmi : (n' : Int) - 1 = (m' : Int) := by omega
        rw [hmi] at hright
        have hn0 : (0 : Int) < (n' : Int) := by omega
        have hn0' : 0 < n' := by omega
        clear hmi hm' hn512 hn1 HR HS HD HTP
        by_cases c1 : 0 < xq
        case neg =>
          have q1 : decide (0 < xq) = false := decide_eq_false c1
          have e : rt = false := by rw [hright]; simp [c1]
          subst e
          clear hright c1
          refine wpIn_round_late [] (fun w' : World => w'.cell? ⟨X, 0, none⟩ = some (.int .u32 (xg : Int)) ∧ w'.cell? ⟨X, 1, none⟩ = some (.int .u32 (xsq : Int)) ∧ w'.cell? ⟨X, 2, none⟩ = some (.int .i64 xp) ∧ w'.cell? ⟨X, 3, none⟩ = some (.int .i64 xq) ∧ w'.cell? ⟨B, 0, none⟩ = some (.pointer (some ⟨h, 0, none⟩)) ∧ w'.cell? ⟨h, 3, none⟩ = some (.int .u32 (t.gen : Int)) ∧ w'.cell? ⟨G + 1 + 1, 0, none⟩ = some (.int .u32 (Clast : Int)) ∧ w'.cell? ⟨G + 1, 0, none⟩ = some (.slice (some ⟨ga, 0, none⟩) n' c5) ∧ w'.cell? ⟨ga, 1, none⟩ = some (.int .u32 (zs : Int)) ∧ w'.cell? ⟨ga, 3, none⟩ = some (.int .i64 zq)) (by kernel_rfl) (by kernel_rfl) ?_
          rw [hwd]
          clear hwd
          refine wpAnyL_take (i := 0) (v := ?_) rfl (by kernel_rfl) (by kernel_rfl) (by kernel_rfl) (by kernel_rfl) (by kernel_rfl) (fun _ _ _ h => h) (Or.inl ⟨by kernel_rfl, ?_⟩) s0 ?_
          rotate_left
          · rintro w0 ⟨h1_, h2_, h3_, h4_, h5_, h6_, h7_, h8_, h9_, h10_⟩; go_simp; (try with_reducible rfl)
          try simp only [Act.put, List.getElem_toArray, List.getElem_cons_succ, List.getElem_cons_zero, List.setIfInBounds_toArray, List.set_cons_zero, List.set_cons_succ]
          refine wpAnyL_take (i := 1) (v := ?_) rfl (by kernel_rfl) (by kernel_rfl) (by kernel_rfl) (by kernel_rfl) (by kernel_rfl) (fun _ _ _ h => h) (Or.inl ⟨by kernel_rfl, ?_⟩) s0 ?_
          rotate_left
          · rintro w0 ⟨h1_, h2_, h3_, h4_, h5_, h6_, h7_, h8_, h9_, h10_⟩; go_simp; (try with_reducible rfl)
          try simp only [Act.put, List.getElem_toArray, List.getElem_cons_succ, List.getElem_cons_zero, List.setIfInBounds_toArray, List.set_cons_zero, List.set_cons_succ]
          refine wpAnyL_take (i := 2) (v := ?_) rfl (by kernel_rfl) (by kernel_rfl) (by kernel_rfl) (by kernel_rfl) (by kernel_rfl) (fun _ _ _ h => h) (Or.inl ⟨by kernel_rfl, ?_⟩) s0 ?_
          rotate_left
          · rintro w0 ⟨h1_, h2_, h3_, h4_, h5_, h6_, h7_, h8_, h9_, h10_⟩; go_simp; (try with_reducible rfl)
          try simp only [Act.put, List.getElem_toArray, List.getElem_cons_succ, List.getElem_cons_zero, List.setIfInBounds_toArray, List.set_cons_zero, List.set_cons_succ]
          refine wpAnyL_take (i := 3) (v := ?_) rfl (by kernel_rfl) (by kernel_rfl) (by kernel_rfl) (by kernel_rfl) (by kernel_rfl) (fun _ _ _ h => h) (Or.inl ⟨by kernel_rfl, ?_⟩) s0 ?_
          rotate_left
          · rintro w0 ⟨h1_, h2_, h3_, h4_, h5_, h6_, h7_, h8_, h9_, h10_⟩; go_simp; (try with_reducible rfl)
          try simp only [Act.put, List.getElem_toArray, List.getElem_cons_succ, List.getElem_cons_zero, List.setIfInBounds_toArray, List.set_cons_zero, List.set_cons_succ]
          refine wpAnyL_take (i := 4) (v := undef) rfl (by kernel_rfl) (by kernel_rfl) (by kernel_rfl) (by kernel_rfl) (by kernel_rfl) (fun _ _ _ h => h) (Or.inr ⟨by kernel_rfl, rfl⟩) s0 ?_
          try simp only [Act.put, List.getElem_toArray, List.getElem_cons_succ, List.getElem_cons_zero, List.setIfInBounds_toArray, List.set_cons_zero, List.set_cons_succ]
          refine wpAnyL_take (i := 5) (v := undef) rfl (by kernel_rfl) (by kernel_rfl) (by kernel_rfl) (by kernel_rfl) (by kernel_rfl) (fun _ _ _ h => h) (Or.inr ⟨by kernel_rfl, rfl⟩) s0 ?_
          try simp only [Act.put, List.getElem_toArray, List.getElem_cons_succ, List.getElem_cons_zero, List.setIfInBounds_toArray, List.set_cons_zero, List.set_cons_succ]
          refine wpAnyL_take (i := 6) (v := undef) rfl (by kernel_rfl) (by kernel_rfl) (by kernel_rfl) (by kernel_rfl) (by kernel_rfl) (fun _ _ _ h => h) (Or.inr ⟨by kernel_rfl, rfl⟩) s0 ?_
          try simp only [Act.put, List.getElem_toArray, List.getElem_cons_succ, List.getElem_cons_zero, List.setIfInBounds_toArray, List.set_cons_zero, List.set_cons_succ]
          refine wpAnyL_take (i := 7) (v := undef) rfl (by kernel_rfl) (by kernel_rfl) (by kernel_rfl) (by kernel_rfl) (by kernel_rfl) (fun _ _ _ h => h) (Or.inr ⟨by kernel_rfl, rfl⟩) s0 ?_
          try simp only [Act.put, List.getElem_toArray, List.getElem_cons_succ, List.getElem_cons_zero, List.setIfInBounds_toArray, List.set_cons_zero, List.set_cons_succ]
          refine wpAnyL_take (i := 8) (v := undef) rfl (by kernel_rfl) (by kernel_rfl) (by kernel_rfl) (by kernel_rfl) (by kernel_rfl) (fun _ _ _ h => h) (Or.inr ⟨by kernel_rfl, rfl⟩) s0 ?_
          try simp only [Act.put, List.getElem_toArray, List.getElem_cons_succ, List.getElem_cons_zero, List.setIfInBounds_toArray, List.set_cons_zero, List.set_cons_succ]
          refine wpAnyL_take (i := 9) (v := undef) rfl (by kernel_rfl) (by kernel_rfl) (by kernel_rfl) (by kernel_rfl) (by kernel_rfl) (fun _ _ _ h => h) (Or.inr ⟨by kernel_rfl, rfl⟩) s0 ?_
          try simp only [Act.put, List.getElem_toArray, List.getElem_cons_succ, List.getElem_cons_zero, List.setIfInBounds_toArray, List.set_cons_zero, List.set_cons_succ]
          refine wpAnyL_take (i := 10) (v := undef) rfl (by kernel_rfl) (by kernel_rfl) (by kernel_rfl) (by kernel_rfl) (by kernel_rfl) (fun _ _ _ h => h) (Or.inr ⟨by kernel_rfl, rfl⟩) s0 ?_
          try simp only [Act.put, List.getElem_toArray, List.getElem_cons_succ, List.getElem_cons_zero, List.setIfInBounds_toArray, List.set_cons_zero, List.set_cons_succ]
          refine wpAnyL_take (i := 11) (v := ?_) rfl (by kernel_rfl) (by kernel_rfl) (by kernel_rfl) (by kernel_rfl) (by kernel_rfl) (fun _ _ _ h => h) (Or.inl ⟨by kernel_rfl, ?_⟩) s0 ?_
          rotate_left
          · rintro w0 ⟨h1_, h2_, h3_, h4_, h5_, h6_, h7_, h8_, h9_, h10_⟩; go_simp; (try with_reducible rfl)
          try simp only [Act.put, List.getElem_toArray, List.getElem_cons_succ, List.getElem_cons_zero, List.setIfInBounds_toArray, List.set_cons_zero, List.set_cons_succ]
          refine wpAnyL_take (i := 12) (v := ?_) rfl (by kernel_rfl) (by kernel_rfl) (by kernel_rfl) (by kernel_rfl) (by kernel_rfl) (fun _ _ _ h => h) (Or.inl ⟨by kernel_rfl, ?_⟩) s0 ?_
          rotate_left
          · rintro w0 ⟨h1_, h2_, h3_, h4_, h5_, h6_, h7_, h8_, h9_, h10_⟩; go_simp; (try with_reducible rfl)
          try simp only [Act.put, List.getElem_toArray, List.getElem_cons_succ, List.getElem_cons_zero, List.setIfInBounds_toArray, List.set_cons_zero, List.set_cons_succ]
          refine wpAnyL_take (i := 13) (v := undef) rfl (by kernel_rfl) (by kernel_rfl) (by kernel_rfl) (by kernel_rfl) (by kernel_rfl) (fun _ _ _ h => h) (Or.inr ⟨by kernel_rfl, rfl⟩) s0 ?_
          try simp only [Act.put, List.getElem_toArray, List.getElem_cons_succ, List.getElem_cons_zero, List.setIfInBounds_toArray, List.set_cons_zero, List.set_cons_succ]
          refine wpAnyL_take (i := 14) (v := undef) rfl (by kernel_rfl) (by kernel_rfl) (by kernel_rfl) (by kernel_rfl) (by kernel_rfl) (fun _ _ _ h => h) (Or.inr ⟨by kernel_rfl, rfl⟩) s0 ?_
          try simp only [Act.put, List.getElem_toArray, List.getElem_cons_succ, List.getElem_cons_zero, List.setIfInBounds_toArray, List.set_cons_zero, List.set_cons_succ]
          refine wpAnyL_take (i := 15) (v := undef) rfl (by kernel_rfl) (by kernel_rfl) (by kernel_rfl) (by kernel_rfl) (by kernel_rfl) (fun _ _ _ h => h) (Or.inr ⟨by kernel_rfl, rfl⟩) s0 ?_
          try simp only [Act.put, List.getElem_toArray, List.getElem_cons_succ, List.getElem_cons_zero, List.setIfInBounds_toArray, List.set_cons_zero, List.set_cons_succ]
          refine wpAnyL_take (i := 16) (v := undef) rfl (by kernel_rfl) (by kernel_rfl) (by kernel_rfl) (by kernel_rfl) (by kernel_rfl) (fun _ _ _ h => h) (Or.inr ⟨by kernel_rfl, rfl⟩) s0 ?_
          try simp only [Act.put, List.getElem_toArray, List.getElem_cons_succ, List.getElem_cons_zero, List.setIfInBounds_toArray, List.set_cons_zero, List.set_cons_succ]
          refine wpAnyL_take (i := 17) (v := ?_) rfl (by kernel_rfl) (by kernel_rfl) (by kernel_rfl) (by kernel_rfl) (by kernel_rfl) (fun _ _ _ h => h) (Or.inl ⟨by kernel_rfl, ?_⟩) s0 ?_
          rotate_left
          · rintro w0 ⟨h1_, h2_, h3_, h4_, h5_, h6_, h7_, h8_, h9_, h10_⟩; go_simp; (try with_reducible rfl)
          try simp only [Act.put, List.getElem_toArray, List.getElem_cons_succ, List.getElem_cons_zero, List.setIfInBounds_toArray, List.set_cons_zero, List.set_cons_succ]
          refine wpAnyL_take (i := 18) (v := ?_) rfl (by kernel_rfl) (by kernel_rfl) (by kernel_rfl) (by kernel_rfl) (by kernel_rfl) (fun _ _ _ h => h) (Or.inl ⟨by kernel_rfl, ?_⟩) s0 ?_
          rotate_left
          · rintro w0 ⟨h1_, h2_, h3_, h4_, h5_, h6_, h7_, h8_, h9_, h10_⟩; go_simp; (try with_reducible rfl)
          try simp only [Act.put, List.getElem_toArray, List.getElem_cons_succ, List.getElem_cons_zero, List.setIfInBounds_toArray, List.set_cons_zero, List.set_cons_succ]
          refine wpAnyL_take (i := 19) (v := undef) rfl (by kernel_rfl) (by kernel_rfl) (by kernel_rfl) (by kernel_rfl) (by kernel_rfl) (fun _ _ _ h => h) (Or.inr ⟨by kernel_rfl, rfl⟩) s0 ?_
          try simp only [Act.put, List.getElem_toArray, List.getElem_cons_succ, List.getElem_cons_zero, List.setIfInBounds_toArray, List.set_cons_zero, List.set_cons_succ]
          refine wpAnyL_take (i := 20) (v := undef) rfl (by kernel_rfl) (by kernel_rfl) (by kernel_rfl) (by kernel_rfl) (by kernel_rfl) (fun _ _ _ h => h) (Or.inr ⟨by kernel_rfl, rfl⟩) s0 ?_
          try simp only [Act.put, List.getElem_toArray, List.getElem_cons_succ, List.getElem_cons_zero, List.setIfInBounds_toArray, List.set_cons_zero, List.set_cons_succ]
          refine wpAnyL_take (i := 21) (v := undef) rfl (by kernel_rfl) (by kernel_rfl) (by kernel_rfl) (by kernel_rfl) (by kernel_rfl) (fun _ _ _ h => h) (Or.inr ⟨by kernel_rfl, rfl⟩) s0 ?_
          try simp only [Act.put, List.getElem_toArray, List.getElem_cons_succ, List.getElem_cons_zero, List.setIfInBounds_toArray, List.set_cons_zero, List.set_cons_succ]
          refine wpAnyL_take (i := 22) (v := undef) rfl (by kernel_rfl) (by kernel_rfl) (by kernel_rfl) (by kernel_rfl) (by kernel_rfl) (fun _ _ _ h => h) (Or.inr ⟨by kernel_rfl, rfl⟩) s0 ?_
          try simp only [Act.put, List.getElem_toArray, List.getElem_cons_succ, List.getElem_cons_zero, List.setIfInBounds_toArray, List.set_cons_zero, List.set_cons_succ]
          refine wpAnyL_take (i := 23) (v := undef) rfl (by kernel_rfl) (by kernel_rfl) (by kernel_rfl) (by kernel_rfl) (by kernel_rfl) (fun _ _ _ h => h) (Or.inr ⟨by kernel_rfl, rfl⟩) s0 ?_
          try simp only [Act.put, List.getElem_toArray, List.getElem_cons_succ, List.getElem_cons_zero, List.setIfInBounds_toArray, List.set_cons_zero, List.set_cons_succ]
          refine wpAnyL_take (i := 24) (v := undef) rfl (by kernel_rfl) (by kernel_rfl) (by kernel_rfl) (by kernel_rfl) (by kernel_rfl) (fun _ _ _ h => h) (Or.inr ⟨by kernel_rfl, rfl⟩) s0 ?_
          try simp only [Act.put, List.getElem_toArray, List.getElem_cons_succ, List.getElem_cons_zero, List.setIfInBounds_toArray, List.set_cons_zero, List.set_cons_succ]
          refine wpAnyL_take (i := 25) (v := ?_) rfl (by kernel_rfl) (by kernel_rfl) (by kernel_rfl) (by kernel_rfl) (by kernel_rfl) (fun _ _ _ h => h) (Or.inl ⟨by kernel_rfl, ?_⟩) s0 ?_
          rotate_left
          · rintro w0 ⟨h1_, h2_, h3_, h4_, h5_, h6_, h7_, h8_, h9_, h10_⟩; go_simp; (try with_reducible rfl)
          try simp only [Act.put, List.getElem_toArray, List.getElem_cons_succ, List.getElem_cons_zero, List.setIfInBounds_toArray, List.set_cons_zero, List.set_cons_succ]
          refine wpAnyL_take (i := 26) (v := ?_) rfl (by kernel_rfl) (by kernel_rfl) (by kernel_rfl) (by kernel_rfl) (by kernel_rfl) (fun _ _ _ h => h) (Or.inl ⟨by kernel_rfl, ?_⟩) s0 ?_
          rotate_left
          · rintro w0 ⟨h1_, h2_, h3_, h4_, h5_, h6_, h7_, h8_, h9_, h10_⟩; go_simp; (try with_reducible rfl)
          try simp only [Act.put, List.getElem_toArray, List.getElem_cons_succ, List.getElem_cons_zero, List.setIfInBounds_toArray, List.set_cons_zero, List.set_cons_succ]
          refine wpAnyL_take (i := 27) (v := undef) rfl (by kernel_rfl) (by kernel_rfl) (by kernel_rfl) (by kernel_rfl) (by kernel_rfl) (fun _ _ _ h => h) (Or.inr ⟨by kernel_rfl, rfl⟩) s0 ?_
          try simp only [Act.put, List.getElem_toArray, List.getElem_cons_succ, List.getElem_cons_zero, List.setIfInBounds_toArray, List.set_cons_zero, List.set_cons_succ]
          refine wpAnyL_take (i := 28) (v := undef) rfl (by kernel_rfl) (by kernel_rfl) (by kernel_rfl) (by kernel_rfl) (by kernel_rfl) (fun _ _ _ h => h) (Or.inr ⟨by kernel_rfl, rfl⟩) s0 ?_
          try simp only [Act.put, List.getElem_toArray, List.getElem_cons_succ, List.getElem_cons_zero, List.setIfInBounds_toArray, List.set_cons_zero, List.set_cons_succ]
          refine wpAnyL_take (i := 29) (v := undef) rfl (by kernel_rfl) (by kernel_rfl) (by kernel_rfl) (by kernel_rfl) (by kernel_rfl) (fun _ _ _ h => h) (Or.inr ⟨by kernel_rfl, rfl⟩) s0 ?_
          try simp only [Act.put, List.getElem_toArray, List.getElem_cons_succ, List.getElem_cons_zero, List.setIfInBounds_toArray, List.set_cons_zero, List.set_cons_succ]
          refine wpAnyL_take (i := 30) (v := undef) rfl (by kernel_rfl) (by kernel_rfl) (by kernel_rfl) (by kernel_rfl) (by kernel_rfl) (fun _ _ _ h => h) (Or.inr ⟨by kernel_rfl, rfl⟩) s0 ?_
          try simp only [Act.put, List.getElem_toArray, List.getElem_cons_succ, List.getElem_cons_zero, List.setIfInBounds_toArray, List.set_cons_zero, List.set_cons_succ]
          refine wpAnyL_take (i := 31) (v := undef) rfl (by kernel_rfl) (by kernel_rfl) (by kernel_rfl) (by kernel_rfl) (by kernel_rfl) (fun _ _ _ h => h) (Or.inr ⟨by kernel_rfl, rfl⟩) s0 ?_
          try simp only [Act.put, List.getElem_toArray, List.getElem_cons_succ, List.getElem_cons_zero, List.setIfInBounds_toArray, List.set_cons_zero, List.set_cons_succ]
          refine wpAnyL_take (i := 32) (v := undef) rfl (by kernel_rfl) (by kernel_rfl) (by kernel_rfl) (by kernel_rfl) (by kernel_rfl) (fun _ _ _ h => h) (Or.inr ⟨by kernel_rfl, rfl⟩) s0 ?_
          try simp only [Act.put, List.getElem_toArray, List.getElem_cons_succ, List.getElem_cons_zero, List.setIfInBounds_toArray, List.set_cons_zero, List.set_cons_succ]
          refine wpAnyL_take (i := 33) (v := undef) rfl (by kernel_rfl) (by kernel_rfl) (by kernel_rfl) (by kernel_rfl) (by kernel_rfl) (fun _ _ _ h => h) (Or.inr ⟨by kernel_rfl, rfl⟩) s0 ?_
          try simp only [Act.put, List.getElem_toArray, List.getElem_cons_succ, List.getElem_cons_zero, List.setIfInBounds_toArray, List.set_cons_zero, List.set_cons_succ]
          refine wpAnyL_take (i := 34) (v := ?_) rfl (by kernel_rfl) (by kernel_rfl) (by kernel_rfl) (by kernel_rfl) (by kernel_rfl) (fun _ _ _ h => h) (Or.inl ⟨by kernel_rfl, ?_⟩) s0 ?_
          rotate_left
          · rintro w0 ⟨h1_, h2_, h3_, h4_, h5_, h6_, h7_, h8_, h9_, h10_⟩; go_simp; (try with_reducible rfl)
          try simp only [Act.put, List.getElem_toArray, List.getElem_cons_succ, List.getElem_cons_zero, List.setIfInBounds_toArray, List.set_cons_zero, List.set_cons_succ]
          refine wpAnyL_take (i := 35) (v := ?_) rfl (by kernel_rfl) (by kernel_rfl) (by kernel_rfl) (by kernel_rfl) (by kernel_rfl) (fun _ _ _ h => h) (Or.inl ⟨by kernel_rfl, ?_⟩) s0 ?_
          rotate_left
          · rintro w0 ⟨h1_, h2_, h3_, h4_, h5_, h6_, h7_, h8_, h9_, h10_⟩; go_simp; (try with_reducible rfl)
          try simp only [Act.put, List.getElem_toArray, List.getElem_cons_succ, List.getElem_cons_zero, List.setIfInBounds_toArray, List.set_cons_zero, List.set_cons_succ]
          refine wpAnyL_take (i := 36) (v := undef) rfl (by kernel_rfl) (by kernel_rfl) (by kernel_rfl) (by kernel_rfl) (by kernel_rfl) (fun _ _ _ h => h) (Or.inr ⟨by kernel_rfl, rfl⟩) s0 ?_
          try simp only [Act.put, List.getElem_toArray, List.getElem_cons_succ, List.getElem_cons_zero, List.setIfInBounds_toArray, List.set_cons_zero, List.set_cons_succ]
          refine wpAnyL_take (i := 37) (v := undef) rfl (by kernel_rfl) (by kernel_rfl) (by kernel_rfl) (by kernel_rfl) (by kernel_rfl) (fun _ _ _ h => h) (Or.inr ⟨by kernel_rfl, rfl⟩) s0 ?_
          try simp only [Act.put, List.getElem_toArray, List.getElem_cons_succ, List.getElem_cons_zero, List.setIfInBounds_toArray, List.set_cons_zero, List.set_cons_succ]
          refine wpAnyL_take (i := 38) (v := undef) rfl (by kernel_rfl) (by kernel_rfl) (by kernel_rfl) (by kernel_rfl) (by kernel_rfl) (fun _ _ _ h => h) (Or.inr ⟨by kernel_rfl, rfl⟩) s0 ?_
          try simp only [Act.put, List.getElem_toArray, List.getElem_cons_succ, List.getElem_cons_zero, List.setIfInBounds_toArray, List.set_cons_zero, List.set_cons_succ]
          refine wpAnyL_take (i := 39) (v := undef) rfl (by kernel_rfl) (by kernel_rfl) (by kernel_rfl) (by kernel_rfl) (by kernel_rfl) (fun _ _ _ h => h) (Or.inr ⟨by kernel_rfl, rfl⟩) s0 ?_
          try simp only [Act.put, List.getElem_toArray, List.getElem_cons_succ, List.getElem_cons_zero, List.setIfInBounds_toArray, List.set_cons_zero, List.set_cons_succ]
          refine wpAnyL_take (i := 40) (v := undef) rfl (by kernel_rfl) (by kernel_rfl) (by kernel_rfl) (by kernel_rfl) (by kernel_rfl) (fun _ _ _ h => h) (Or.inr ⟨by kernel_rfl, rfl⟩) s0 ?_
          try simp only [Act.put, List.getElem_toArray, List.getElem_cons_succ, List.getElem_cons_zero, List.setIfInBounds_toArray, List.set_cons_zero, List.set_cons_succ]
          refine wpAnyL_take (i := 41) (v := undef) rfl (by kernel_rfl) (by kernel_rfl) (by kernel_rfl) (by kernel_rfl) (by kernel_rfl) (fun _ _ _ h => h) (Or.inr ⟨by kernel_rfl, rfl⟩) s0 ?_
          try simp only [Act.put, List.getElem_toArray, List.getElem_cons_succ, List.getElem_cons_zero, List.setIfInBounds_toArray, List.set_cons_zero, List.set_cons_succ]
          refine wpAnyL_take (i := 42) (v := undef) rfl (by kernel_rfl) (by kernel_rfl) (by kernel_rfl) (by kernel_rfl) (by kernel_rfl) (fun _ _ _ h => h) (Or.inr ⟨by kernel_rfl, rfl⟩) s0 ?_
          try simp only [Act.put, List.getElem_toArray, List.getElem_cons_succ, List.getElem_cons_zero, List.setIfInBounds_toArray, List.set_cons_zero, List.set_cons_succ]
          refine wpAnyL_take (i := 43) (v := ?_) rfl (by kernel_rfl) (by kernel_rfl) (by kernel_rfl) (by kernel_rfl) (by kernel_rfl) (fun _ _ _ h => h) (Or.inl ⟨by kernel_rfl, ?_⟩) s0 ?_
          rotate_left
          · rintro w0 ⟨h1_, h2_, h3_, h4_, h5_, h6_, h7_, h8_, h9_, h10_⟩; go_simp; (try with_reducible rfl)
          try simp only [Act.put, List.getElem_toArray, List.getElem_cons_succ, List.getElem_cons_zero, List.setIfInBounds_toArray, List.set_cons_zero, List.set_cons_succ]
          refine wpAnyL_one (i := 44) (by kernel_rfl) rfl (fun K hK => ?_)
          go_simp
          refine hK.out _ _ (fun _ => s0) ?_
          clear hK K
          try simp only [Act.put, List.getElem_toArray, List.getElem_cons_succ, List.getElem_cons_zero, List.setIfInBounds_toArray, List.set_cons_zero, List.set_cons_succ]
          refine wpAnyL_done (by kernel_rfl) ?_ _
          refine tight_normal ?_
          exact HR4.out _ _ _ _ _ _ _ _ _ _ _ _ _ _ _ _ _ _ _ _ _ _ _ _ _ _ _ _ _ _ _ _ _ _ _ _ _ _ _ _ _ _ _ _ _ _ _ _ _ _ _ _ _ _ _ _ _
        have q1 : decide (0 < xq) = true := decide_eq_true c1
        by_cases c2 : xg = t.gen
        case neg =>
          have q2 : ((xg : Int) == (t.gen : Int)) = false := by simp only [beq_eq_false_iff_ne, ne_eq]; omega
          have e : rt = false := by rw [hright]; simp [c1, c2]
          subst e
          clear hright c1 c2
          refine wpIn_round_late [] (fun w' : World => w'.cell? ⟨X, 0, none⟩ = some (.int .u32 (xg : Int)) ∧ w'.cell? ⟨X, 1, none⟩ = some (.int .u32 (xsq : Int)) ∧ w'.cell? ⟨X, 2, none⟩ = some (.int .i64 xp) ∧ w'.cell? ⟨X, 3, none⟩ = some (.int .i64 xq) ∧ w'.cell? ⟨B, 0, none⟩ = some (.pointer (some ⟨h, 0, none⟩)) ∧ w'.cell? ⟨h, 3, none⟩ = some (.int .u32 (t.gen : Int)) ∧ w'.cell? ⟨G + 1 + 1, 0, none⟩ = some (.int .u32 (Clast : Int)) ∧ w'.cell? ⟨G + 1, 0, none⟩ = some (.slice (some ⟨ga, 0, none⟩) n' c5) ∧ w'.cell? ⟨ga, 1, none⟩ = some (.int .u32 (zs : Int)) ∧ w'.cell? ⟨ga, 3, none⟩ = some (.int .i64 zq)) (by kernel_rfl) (by kernel_rfl) ?_
          rw [hwd]
          clear hwd
          refine wpAnyL_take (i := 0) (v := ?_) rfl (by kernel_rfl) (by kernel_rfl) (by kernel_rfl) (by kernel_rfl) (by kernel_rfl) (fun _ _ _ h => h) (Or.inl ⟨by kernel_rfl, ?_⟩) s0 ?_
          rotate_left
          · rintro w0 ⟨h1_, h2_, h3_, h4_, h5_, h6_, h7_, h8_, h9_, h10_⟩; go_simp; (try with_reducible rfl)
          try simp only [Act.put, List.getElem_toArray, List.getElem_cons_succ, List.getElem_cons_zero, List.setIfInBounds_toArray, List.set_cons_zero, List.set_cons_succ]
          refine wpAnyL_take (i := 1) (v := ?_) rfl (by kernel_rfl) (by kernel_rfl) (by kernel_rfl) (by kernel_rfl) (by kernel_rfl) (fun _ _ _ h => h) (Or.inl ⟨by kernel_rfl, ?_⟩) s0 ?_
          rotate_left
          · rintro w0 ⟨h1_, h2_, h3_, h4_, h5_, h6_, h7_, h8_, h9_, h10_⟩; go_simp; (try with_reducible rfl)
          try simp only [Act.put, List.getElem_toArray, List.getElem_cons_succ, List.getElem_cons_zero, List.setIfInBounds_toArray, List.set_cons_zero, List.set_cons_succ]
          refine wpAnyL_take (i := 2) (v := ?_) rfl (by kernel_rfl) (by kernel_rfl) (by kernel_rfl) (by kernel_rfl) (by kernel_rfl) (fun _ _ _ h => h) (Or.inl ⟨by kernel_rfl, ?_⟩) s0 ?_
          rotate_left
          · rintro w0 ⟨h1_, h2_, h3_, h4_, h5_, h6_, h7_, h8_, h9_, h10_⟩; go_simp; (try with_reducible rfl)
          try simp only [Act.put, List.getElem_toArray, List.getElem_cons_succ, List.getElem_cons_zero, List.setIfInBounds_toArray, List.set_cons_zero, List.set_cons_succ]
          refine wpAnyL_take (i := 3) (v := ?_) rfl (by kernel_rfl) (by kernel_rfl) (by kernel_rfl) (by kernel_rfl) (by kernel_rfl) (fun _ _ _ h => h) (Or.inl ⟨by kernel_rfl, ?_⟩) s0 ?_
          rotate_left
          · rintro w0 ⟨h1_, h2_, h3_, h4_, h5_, h6_, h7_, h8_, h9_, h10_⟩; go_simp; (try with_reducible rfl)
          try simp only [Act.put, List.getElem_toArray, List.getElem_cons_succ, List.getElem_cons_zero, List.setIfInBounds_toArray, List.set_cons_zero, List.set_cons_succ]
          refine wpAnyL_take (i := 4) (v := ?_) rfl (by kernel_rfl) (by kernel_rfl) (by kernel_rfl) (by kernel_rfl) (by kernel_rfl) (fun _ _ _ h => h) (Or.inl ⟨by kernel_rfl, ?_⟩) s0 ?_
          rotate_left
          · rintro w0 ⟨h1_, h2_, h3_, h4_, h5_, h6_, h7_, h8_, h9_, h10_⟩; go_simp; (try with_reducible rfl)
          try simp only [Act.put, List.getElem_toArray, List.getElem_cons_succ, List.getElem_cons_zero, List.setIfInBounds_toArray, List.set_cons_zero, List.set_cons_succ]
          refine wpAnyL_take (i := 5) (v := ?_) rfl (by kernel_rfl) (by kernel_rfl) (by kernel_rfl) (by kernel_rfl) (by kernel_rfl) (fun _ _ _ h => h) (Or.inl ⟨by kernel_rfl, ?_⟩) s0 ?_
          rotate_left
          · rintro w0 ⟨h1_, h2_, h3_, h4_, h5_, h6_, h7_, h8_, h9_, h10_⟩; go_simp; (try with_reducible rfl)
          try simp only [Act.put, List.getElem_toArray, List.getElem_cons_succ, List.getElem_cons_zero, List.setIfInBounds_toArray, List.set_cons_zero, List.set_cons_succ]
          refine wpAnyL_take (i := 6) (v := ?_) rfl (by kernel_rfl) (by kernel_rfl) (by kernel_rfl) (by kernel_rfl) (by kernel_rfl) (fun _ _ _ h => h) (Or.inl ⟨by kernel_rfl, ?_⟩) s0 ?_
          rotate_left
          · rintro w0 ⟨h1_, h2_, h3_, h4_, h5_, h6_, h7_, h8_, h9_, h10_⟩; go_simp; (try with_reducible rfl)
          try simp only [Act.put, List.getElem_toArray, List.getElem_cons_succ, List.getElem_cons_zero, List.setIfInBounds_toArray, List.set_cons_zero, List.set_cons_succ]
          refine wpAnyL_take (i := 7) (v := ?_) rfl (by kernel_rfl) (by kernel_rfl) (by kernel_rfl) (by kernel_rfl) (by kernel_rfl) (fun _ _ _ h => h) (Or.inl ⟨by kernel_rfl, ?_⟩) s0 ?_
          rotate_left
          · rintro w0 ⟨h1_, h2_, h3_, h4_, h5_, h6_, h7_, h8_, h9_, h10_⟩; go_simp; (try with_reducible rfl)
          try simp only [Act.put, List.getElem_toArray, List.getElem_cons_succ, List.getElem_cons_zero, List.setIfInBounds_toArray, List.set_cons_zero, List.set_cons_succ]
          refine wpAnyL_take (i := 8) (v := ?_) rfl (by kernel_rfl) (by kernel_rfl) (by kernel_rfl) (by kernel_rfl) (by kernel_rfl) (fun _ _ _ h => h) (Or.inl ⟨by kernel_rfl, ?_⟩) s0 ?_
          rotate_left
          · rintro w0 ⟨h1_, h2_, h3_, h4_, h5_, h6_, h7_, h8_, h9_, h10_⟩; go_simp; (try with_reducible rfl)
          try simp only [Act.put, List.getElem_toArray, List.getElem_cons_succ, List.getElem_cons_zero, List.setIfInBounds_toArray, List.set_cons_zero, List.set_cons_succ]
          refine wpAnyL_take (i := 9) (v := ?_) rfl (by kernel_rfl) (by kernel_rfl) (by kernel_rfl) (by kernel_rfl) (by kernel_rfl) (fun _ _ _ h => h) (Or.inl ⟨by kernel_rfl, ?_⟩) s0 ?_
          rotate_left
          · rintro w0 ⟨h1_, h2_, h3_, h4_, h5_, h6_, h7_, h8_, h9_, h10_⟩; go_simp; (try with_reducible rfl)
          try simp only [Act.put, List.getElem_toArray, List.getElem_cons_succ, List.getElem_cons_zero, List.setIfInBounds_toArray, List.set_cons_zero, List.set_cons_succ]
          refine wpAnyL_take (i := 10) (v := ?_) rfl (by kernel_rfl) (by kernel_rfl) (by kernel_rfl) (by kernel_rfl) (by kernel_rfl) (fun _ _ _ h => h) (Or.inl ⟨by kernel_rfl, ?_⟩) s0 ?_
          rotate_left
          · rintro w0 ⟨h1_, h2_, h3_, h4_, h5_, h6_, h7_, h8_, h9_, h10_⟩; go_simp; (try with_reducible rfl)
          try simp only [Act.put, List.getElem_toArray, List.getElem_cons_succ, List.getElem_cons_zero, List.setIfInBounds_toArray, List.set_cons_zero, List.set_cons_succ]
          refine wpAnyL_take (i := 11) (v := ?_) rfl (by kernel_rfl) (by kernel_rfl) (by kernel_rfl) (by kernel_rfl) (by kernel_rfl) (fun _ _ _ h => h) (Or.inl ⟨by kernel_rfl, ?_⟩) s0 ?_
          rotate_left
          · rintro w0 ⟨h1_, h2_, h3_, h4_, h5_, h6_, h7_, h8_, h9_, h10_⟩; go_simp; (try with_reducible rfl)
          try simp only [Act.put, List.getElem_toArray, List.getElem_cons_succ, List.getElem_cons_zero, List.setIfInBounds_toArray, List.set_cons_zero, List.set_cons_succ]
          refine wpAnyL_take (i := 12) (v := ?_) rfl (by kernel_rfl) (by kernel_rfl) (by kernel_rfl) (by kernel_rfl) (by kernel_rfl) (fun _ _ _ h => h) (Or.inl ⟨by kernel_rfl, ?_⟩) s0 ?_
          rotate_left
          · rintro w0 ⟨h1_, h2_, h3_, h4_, h5_, h6_, h7_, h8_, h9_, h10_⟩; go_simp; (try with_reducible rfl)
          try simp only [Act.put, List.getElem_toArray, List.getElem_cons_succ, List.getElem_cons_zero, List.setIfInBounds_toArray, List.set_cons_zero, List.set_cons_succ]
          refine wpAnyL_take (i := 13) (v := undef) rfl (by kernel_rfl) (by kernel_rfl) (by kernel_rfl) (by kernel_rfl) (by kernel_rfl) (fun _ _ _ h => h) (Or.inr ⟨by kernel_rfl, rfl⟩) s0 ?_
          try simp only [Act.put, List.getElem_toArray, List.getElem_cons_succ, List.getElem_cons_zero, List.setIfInBounds_toArray, List.set_cons_zero, List.set_cons_succ]
          refine wpAnyL_take (i := 14) (v := undef) rfl (by kernel_rfl) (by kernel_rfl) (by kernel_rfl) (by kernel_rfl) (by kernel_rfl) (fun _ _ _ h => h) (Or.inr ⟨by kernel_rfl, rfl⟩) s0 ?_
          try simp only [Act.put, List.getElem_toArray, List.getElem_cons_succ, List.getElem_cons_zero, List.setIfInBounds_toArray, List.set_cons_zero, List.set_cons_succ]
          refine wpAnyL_take (i := 15) (v := undef) rfl (by kernel_rfl) (by kernel_rfl) (by kernel_rfl) (by kernel_rfl) (by kernel_rfl) (fun _ _ _ h => h) (Or.inr ⟨by kernel_rfl, rfl⟩) s0 ?_
          try simp only [Act.put, List.getElem_toArray, List.getElem_cons_succ, List.getElem_cons_zero, List.setIfInBounds_toArray, List.set_cons_zero, List.set_cons_succ]
          refine wpAnyL_take (i := 16) (v := undef) rfl (by kernel_rfl) (by kernel_rfl) (by kernel_rfl) (by kernel_rfl) (by kernel_rfl) (fun _ _ _ h => h) (Or.inr ⟨by kernel_rfl, rfl⟩) s0 ?_
          try simp only [Act.put, List.getElem_toArray, List.getElem_cons_succ, List.getElem_cons_zero, List.setIfInBounds_toArray, List.set_cons_zero, List.set_cons_succ]
          refine wpAnyL_take (i := 17) (v := ?_) rfl (by kernel_rfl) (by kernel_rfl) (by kernel_rfl) (by kernel_rfl) (by kernel_rfl) (fun _ _ _ h => h) (Or.inl ⟨by kernel_rfl, ?_⟩) s0 ?_
          rotate_left
          · rintro w0 ⟨h1_, h2_, h3_, h4_, h5_, h6_, h7_, h8_, h9_, h10_⟩; go_simp; (try with_reducible rfl)
          try simp only [Act.put, List.getElem_toArray, List.getElem_cons_succ, List.getElem_cons_zero, List.setIfInBounds_toArray, List.set_cons_zero, List.set_cons_succ]
          refine wpAnyL_take (i := 18) (v := ?_) rfl (by kernel_rfl) (by kernel_rfl) (by kernel_rfl) (by kernel_rfl) (by kernel_rfl) (fun _ _ _ h => h) (Or.inl ⟨by kernel_rfl, ?_⟩) s0 ?_
          rotate_left
          · rintro w0 ⟨h1_, h2_, h3_, h4_, h5_, h6_, h7_, h8_, h9_, h10_⟩; go_simp; (try with_reducible rfl)
          try simp only [Act.put, List.getElem_toArray, List.getElem_cons_succ, List.getElem_cons_zero, List.setIfInBounds_toArray, List.set_cons_zero, List.set_cons_succ]
          refine wpAnyL_take (i := 19) (v := undef) rfl (by kernel_rfl) (by kernel_rfl) (by kernel_rfl) (by kernel_rfl) (by kernel_rfl) (fun _ _ _ h => h) (Or.inr ⟨by kernel_rfl, rfl⟩) s0 ?_
          try simp only [Act.put, List.getElem_toArray, List.getElem_cons_succ, List.getElem_cons_zero, List.setIfInBounds_toArray, List.set_cons_zero, List.set_cons_succ]
          refine wpAnyL_take (i := 20) (v := undef) rfl (by kernel_rfl) (by kernel_rfl) (by kernel_rfl) (by kernel_rfl) (by kernel_rfl) (fun _ _ _ h => h) (Or.inr ⟨by kernel_rfl, rfl⟩) s0 ?_
          try simp only [Act.put, List.getElem_toArray, List.getElem_cons_succ, List.getElem_cons_zero, List.setIfInBounds_toArray, List.set_cons_zero, List.set_cons_succ]
          refine wpAnyL_take (i := 21) (v := undef) rfl (by kernel_rfl) (by kernel_rfl) (by kernel_rfl) (by kernel_rfl) (by kernel_rfl) (fun _ _ _ h => h) (Or.inr ⟨by kernel_rfl, rfl⟩) s0 ?_
          try simp only [Act.put, List.getElem_toArray, List.getElem_cons_succ, List.getElem_cons_zero, List.setIfInBounds_toArray, List.set_cons_zero, List.set_cons_succ]
          refine wpAnyL_take (i := 22) (v := undef) rfl (by kernel_rfl) (by kernel_rfl) (by kernel_rfl) (by kernel_rfl) (by kernel_rfl) (fun _ _ _ h => h) (Or.inr ⟨by kernel_rfl, rfl⟩) s0 ?_
          try simp only [Act.put, List.getElem_toArray, List.getElem_cons_succ, List.getElem_cons_zero, List.setIfInBounds_toArray, List.set_cons_zero, List.set_cons_succ]
          refine wpAnyL_take (i := 23) (v := undef) rfl (by kernel_rfl) (by kernel_rfl) (by kernel_rfl) (by kernel_rfl) (by kernel_rfl) (fun _ _ _ h => h) (Or.inr ⟨by kernel_rfl, rfl⟩) s0 ?_
          try simp only [Act.put, List.getElem_toArray, List.getElem_cons_succ, List.getElem_cons_zero, List.setIfInBounds_toArray, List.set_cons_zero, List.set_cons_succ]
          refine wpAnyL_take (i := 24) (v := undef) rfl (by kernel_rfl) (by kernel_rfl) (by kernel_rfl) (by kernel_rfl) (by kernel_rfl) (fun _ _ _ h => h) (Or.inr ⟨by kernel_rfl, rfl⟩) s0 ?_
          try simp only [Act.put, List.getElem_toArray, List.getElem_cons_succ, List.getElem_cons_zero, List.setIfInBounds_toArray, List.set_cons_zero, List.set_cons_succ]
          refine wpAnyL_take (i := 25) (v := ?_) rfl (by kernel_rfl) (by kernel_rfl) (by kernel_rfl) (by kernel_rfl) (by kernel_rfl) (fun _ _ _ h => h) (Or.inl ⟨by kernel_rfl, ?_⟩) s0 ?_
          rotate_left
          · rintro w0 ⟨h1_, h2_, h3_, h4_, h5_, h6_, h7_, h8_, h9_, h10_⟩; go_simp; (try with_reducible rfl)
          try simp only [Act.put, List.getElem_toArray, List.getElem_cons_succ, List.getElem_cons_zero, List.setIfInBounds_toArray, List.set_cons_zero, List.set_cons_succ]
          refine wpAnyL_take (i := 26) (v := ?_) rfl (by kernel_rfl) (by kernel_rfl) (by kernel_rfl) (by kernel_rfl) (by kernel_rfl) (fun _ _ _ h => h) (Or.inl ⟨by kernel_rfl, ?_⟩) s0 ?_
          rotate_left
          · rintro w0 ⟨h1_, h2_, h3_, h4_, h5_, h6_, h7_, h8_, h9_, h10_⟩; go_simp; (try with_reducible rfl)
          try simp only [Act.put, List.getElem_toArray, List.getElem_cons_succ, List.getElem_cons_zero, List.setIfInBounds_toArray, List.set_cons_zero, List.set_cons_succ]
          refine wpAnyL_take (i := 27) (v := undef) rfl (by kernel_rfl) (by kernel_rfl) (by kernel_rfl) (by kernel_rfl) (by kernel_rfl) (fun _ _ _ h => h) (Or.inr ⟨by kernel_rfl, rfl⟩) s0 ?_
          try simp only [Act.put, List.getElem_toArray, List.getElem_cons_succ, List.getElem_cons_zero, List.setIfInBounds_toArray, List.set_cons_zero, List.set_cons_succ]
          refine wpAnyL_take (i := 28) (v := undef) rfl (by kernel_rfl) (by kernel_rfl) (by kernel_rfl) (by kernel_rfl) (by kernel_rfl) (fun _ _ _ h => h) (Or.inr ⟨by kernel_rfl, rfl⟩) s0 ?_
          try simp only [Act.put, List.getElem_toArray, List.getElem_cons_succ, List.getElem_cons_zero, List.setIfInBounds_toArray, List.set_cons_zero, List.set_cons_succ]
          refine wpAnyL_take (i := 29) (v := undef) rfl (by kernel_rfl) (by kernel_rfl) (by kernel_rfl) (by kernel_rfl) (by kernel_rfl) (fun _ _ _ h => h) (Or.inr ⟨by kernel_rfl, rfl⟩) s0 ?_
          try simp only [Act.put, List.getElem_toArray, List.getElem_cons_succ, List.getElem_cons_zero, List.setIfInBounds_toArray, List.set_cons_zero, List.set_cons_succ]
          refine wpAnyL_take (i := 30) (v := undef) rfl (by kernel_rfl) (by kernel_rfl) (by kernel_rfl) (by kernel_rfl) (by kernel_rfl) (fun _ _ _ h => h) (Or.inr ⟨by kernel_rfl, rfl⟩) s0 ?_
          try simp only [Act.put, List.getElem_toArray, List.getElem_cons_succ, List.getElem_cons_zero, List.setIfInBounds_toArray, List.set_cons_zero, List.set_cons_succ]
          refine wpAnyL_take (i := 31) (v := undef) rfl (by kernel_rfl) (by kernel_rfl) (by kernel_rfl) (by kernel_rfl) (by kernel_rfl) (fun _ _ _ h => h) (Or.inr ⟨by kernel_rfl, rfl⟩) s0 ?_
          try simp only [Act.put, List.getElem_toArray, List.getElem_cons_succ, List.getElem_cons_zero, List.setIfInBounds_toArray, List.set_cons_zero, List.set_cons_succ]
          refine wpAnyL_take (i := 32) (v := undef) rfl (by kernel_rfl) (by kernel_rfl) (by kernel_rfl) (by kernel_rfl) (by kernel_rfl) (fun _ _ _ h => h) (Or.inr ⟨by kernel_rfl, rfl⟩) s0 ?_
          try simp only [Act.put, List.getElem_toArray, List.getElem_cons_succ, List.getElem_cons_zero, List.setIfInBounds_toArray, List.set_cons_zero, List.set_cons_succ]
          refine wpAnyL_take (i := 33) (v := undef) rfl (by kernel_rfl) (by kernel_rfl) (by kernel_rfl) (by kernel_rfl) (by kernel_rfl) (fun _ _ _ h => h) (Or.inr ⟨by kernel_rfl, rfl⟩) s0 ?_
          try simp only [Act.put, List.getElem_toArray, List.getElem_cons_succ, List.getElem_cons_zero, List.setIfInBounds_toArray, List.set_cons_zero, List.set_cons_succ]
          refine wpAnyL_take (i := 34) (v := ?_) rfl (by kernel_rfl) (by kernel_rfl) (by kernel_rfl) (by kernel_rfl) (by kernel_rfl) (fun _ _ _ h => h) (Or.inl ⟨by kernel_rfl, ?_⟩) s0 ?_
          rotate_left
          · rintro w0 ⟨h1_, h2_, h3_, h4_, h5_, h6_, h7_, h8_, h9_, h10_⟩; go_simp; (try with_reducible rfl)
          try simp only [Act.put, List.getElem_toArray, List.getElem_cons_succ, List.getElem_cons_zero, List.setIfInBounds_toArray, List.set_cons_zero, List.set_cons_succ]
          refine wpAnyL_take (i := 35) (v := ?_) rfl (by kernel_rfl) (by kernel_rfl) (by kernel_rfl) (by kernel_rfl) (by kernel_rfl) (fun _ _ _ h => h) (Or.inl ⟨by kernel_rfl, ?_⟩) s0 ?_
          rotate_left
          · rintro w0 ⟨h1_, h2_, h3_, h4_, h5_, h6_, h7_, h8_, h9_, h10_⟩; go_simp; (try with_reducible rfl)
          try simp only [Act.put, List.getElem_toArray, List.getElem_cons_succ, List.getElem_cons_zero, List.setIfInBounds_toArray, List.set_cons_zero, List.set_cons_succ]
          refine wpAnyL_take (i := 36) (v := undef) rfl (by kernel_rfl) (by kernel_rfl) (by kernel_rfl) (by kernel_rfl) (by kernel_rfl) (fun _ _ _ h => h) (Or.inr ⟨by kernel_rfl, rfl⟩) s0 ?_
          try simp only [Act.put, List.getElem_toArray, List.getElem_cons_succ, List.getElem_cons_zero, List.setIfInBounds_toArray, List.set_cons_zero, List.set_cons_succ]
          refine wpAnyL_take (i := 37) (v := undef) rfl (by kernel_rfl) (by kernel_rfl) (by kernel_rfl) (by kernel_rfl) (by kernel_rfl) (fun _ _ _ h => h) (Or.inr ⟨by kernel_rfl, rfl⟩) s0 ?_
          try simp only [Act.put, List.getElem_toArray, List.getElem_cons_succ, List.getElem_cons_zero, List.setIfInBounds_toArray, List.set_cons_zero, List.set_cons_succ]
          refine wpAnyL_take (i := 38) (v := undef) rfl (by kernel_rfl) (by kernel_rfl) (by kernel_rfl) (by kernel_rfl) (by kernel_rfl) (fun _ _ _ h => h) (Or.inr ⟨by kernel_rfl, rfl⟩) s0 ?_
          try simp only [Act.put, List.getElem_toArray, List.getElem_cons_succ, List.getElem_cons_zero, List.setIfInBounds_toArray, List.set_cons_zero, List.set_cons_succ]
          refine wpAnyL_take (i := 39) (v := undef) rfl (by kernel_rfl) (by kernel_rfl) (by kernel_rfl) (by kernel_rfl) (by kernel_rfl) (fun _ _ _ h => h) (Or.inr ⟨by kernel_rfl, rfl⟩) s0 ?_
          try simp only [Act.put, List.getElem_toArray, List.getElem_cons_succ, List.getElem_cons_zero, List.setIfInBounds_toArray, List.set_cons_zero, List.set_cons_succ]
          refine wpAnyL_take (i := 40) (v := undef) rfl (by kernel_rfl) (by kernel_rfl) (by kernel_rfl) (by kernel_rfl) (by kernel_rfl) (fun _ _ _ h => h) (Or.inr ⟨by kernel_rfl, rfl⟩) s0 ?_
          try simp only [Act.put, List.getElem_toArray, List.getElem_cons_succ, List.getElem_cons_zero, List.setIfInBounds_toArray, List.set_cons_zero, List.set_cons_succ]
          refine wpAnyL_take (i := 41) (v := undef) rfl (by kernel_rfl) (by kernel_rfl) (by kernel_rfl) (by kernel_rfl) (by kernel_rfl) (fun _ _ _ h => h) (Or.inr ⟨by kernel_rfl, rfl⟩) s0 ?_
          try simp only [Act.put, List.getElem_toArray, List.getElem_cons_succ, List.getElem_cons_zero, List.setIfInBounds_toArray, List.set_cons_zero, List.set_cons_succ]
          refine wpAnyL_take (i := 42) (v := undef) rfl (by kernel_rfl) (by kernel_rfl) (by kernel_rfl) (by kernel_rfl) (by kernel_rfl) (fun _ _ _ h => h) (Or.inr ⟨by kernel_rfl, rfl⟩) s0 ?_
          try simp only [Act.put, List.getElem_toArray, List.getElem_cons_succ, List.getElem_cons_zero, List.setIfInBounds_toArray, List.set_cons_zero, List.set_cons_succ]
          refine wpAnyL_take (i := 43) (v := ?_) rfl (by kernel_rfl) (by kernel_rfl) (by kernel_rfl) (by kernel_rfl) (by kernel_rfl) (fun _ _ _ h => h) (Or.inl ⟨by kernel_rfl, ?_⟩) s0 ?_
          rotate_left
          · rintro w0 ⟨h1_, h2_, h3_, h4_, h5_, h6_, h7_, h8_, h9_, h10_⟩; go_simp; (try with_reducible rfl)
          try simp only [Act.put, List.getElem_toArray, List.getElem_cons_succ, List.getElem_cons_zero, List.setIfInBounds_toArray, List.set_cons_zero, List.set_cons_succ]
          refine wpAnyL_one (i := 44) (by kernel_rfl) rfl (fun K hK => ?_)
          go_simp
          refine hK.out _ _ (fun _ => s0) ?_
          clear hK K
          try simp only [Act.put, List.getElem_toArray, List.getElem_cons_succ, List.getElem_cons_zero, List.setIfInBounds_toArray, List.set_cons_zero, List.set_cons_succ]
          refine wpAnyL_done (by kernel_rfl) ?_ _
          refine tight_normal ?_
          exact HR4.out _ _ _ _ _ _ _ _ _ _ _ _ _ _ _ _ _ _ _ _ _ _ _ _ _ _ _ _ _ _ _ _ _ _ _ _ _ _ _ _ _ _ _ _ _ _ _ _ _ _ _ _ _ _ _ _ _
        have q2 : ((xg : Int) == (t.gen : Int)) = true := by simp only [beq_iff_eq]; omega
        by_cases c3 : Clast < xsq
        case neg =>
          have q3 : decide ((Clast : Int) < (xsq : Int)) = false := decide_eq_false (by omega)
          have e : rt = false := by rw [hright]; simp [c1, c2, c3]
          subst e
          clear hright c1 c2
          refine wpIn_round_late [] (fun w' : World => w'.cell? ⟨X, 0, none⟩ = some (.int .u32 (xg : Int)) ∧ w'.cell? ⟨X, 1, none⟩ = some (.int .u32 (xsq : Int)) ∧ w'.cell? ⟨X, 2, none⟩ = some (.int .i64 xp) ∧ w'.cell? ⟨X, 3, none⟩ = some (.int .i64 xq) ∧ w'.cell? ⟨B, 0, none⟩ = some (.pointer (some ⟨h, 0, none⟩)) ∧ w'.cell? ⟨h, 3, none⟩ = some (.int .u32 (t.gen : Int)) ∧ w'.cell? ⟨G + 1 + 1, 0, none⟩ = some (.int .u32 (Clast : Int)) ∧ w'.cell? ⟨G + 1, 0, none⟩ = some (.slice (some ⟨ga, 0, none⟩) n' c5) ∧ w'.cell? ⟨ga, 1, none⟩ = some (.int .u32 (zs : Int)) ∧ w'.cell? ⟨ga, 3, none⟩ = some (.int .i64 zq)) (by kernel_rfl) (by kernel_rfl) ?_
          rw [hwd]
          clear hwd
          refine wpAnyL_take (i := 0) (v := ?_) rfl (by kernel_rfl) (by kernel_rfl) (by kernel_rfl) (by kernel_rfl) (by kernel_rfl) (fun _ _ _ h => h) (Or.inl ⟨by kernel_rfl, ?_⟩) s0 ?_
          rotate_left
          · rintro w0 ⟨h1_, h2_, h3_, h4_, h5_, h6_, h7_, h8_, h9_, h10_⟩; go_simp; (try with_reducible rfl)
          try simp only [Act.put, List.getElem_toArray, List.getElem_cons_succ, List.getElem_cons_zero, List.setIfInBounds_toArray, List.set_cons_zero, List.set_cons_succ]
          refine wpAnyL_take (i := 1) (v := ?_) rfl (by kernel_rfl) (by kernel_rfl) (by kernel_rfl) (by kernel_rfl) (by kernel_rfl) (fun _ _ _ h => h) (Or.inl ⟨by kernel_rfl, ?_⟩) s0 ?_
          rotate_left
          · rintro w0 ⟨h1_, h2_, h3_, h4_, h5_, h6_, h7_, h8_, h9_, h10_⟩; go_simp; (try with_reducible rfl)
          try simp only [Act.put, List.getElem_toArray, List.getElem_cons_succ, List.getElem_cons_zero, List.setIfInBounds_toArray, List.set_cons_zero, List.set_cons_succ]
          refine wpAnyL_take (i := 2) (v := ?_) rfl (by kernel_rfl) (by kernel_rfl) (by kernel_rfl) (by kernel_rfl) (by kernel_rfl) (fun _ _ _ h => h) (Or.inl ⟨by kernel_rfl, ?_⟩) s0 ?_
          rotate_left
          · rintro w0 ⟨h1_, h2_, h3_, h4_, h5_, h6_, h7_, h8_, h9_, h10_⟩; go_simp; (try with_reducible rfl)
          try simp only [Act.put, List.getElem_toArray, List.getElem_cons_succ, List.getElem_cons_zero, List.setIfInBounds_toArray, List.set_cons_zero, List.set_cons_succ]
          refine wpAnyL_take (i := 3) (v := ?_) rfl (by kernel_rfl) (by kernel_rfl) (by kernel_rfl) (by kernel_rfl) (by kernel_rfl) (fun _ _ _ h => h) (Or.inl ⟨by kernel_rfl, ?_⟩) s0 ?_
          rotate_left
          · rintro w0 ⟨h1_, h2_, h3_, h4_, h5_, h6_, h7_, h8_, h9_, h10_⟩; go_simp; (try with_reducible rfl)
          try simp only [Act.put, List.getElem_toArray, List.getElem_cons_succ, List.getElem_cons_zero, List.setIfInBounds_toArray, List.set_cons_zero, List.set_cons_succ]
          refine wpAnyL_take (i := 4) (v := ?_) rfl (by kernel_rfl) (by kernel_rfl) (by kernel_rfl) (by kernel_rfl) (by kernel_rfl) (fun _ _ _ h => h) (Or.inl ⟨by kernel_rfl, ?_⟩) s0 ?_
          rotate_left
          · rintro w0 ⟨h1_, h2_, h3_, h4_, h5_, h6_, h7_, h8_, h9_, h10_⟩; go_simp; (try with_reducible rfl)
          try simp only [Act.put, List.getElem_toArray, List.getElem_cons_succ, List.getElem_cons_zero, List.setIfInBounds_toArray, List.set_cons_zero, List.set_cons_succ]
          refine wpAnyL_take (i := 5) (v := ?_) rfl (by kernel_rfl) (by kernel_rfl) (by kernel_rfl) (by kernel_rfl) (by kernel_rfl) (fun _ _ _ h => h) (Or.inl ⟨by kernel_rfl, ?_⟩) s0 ?_
          rotate_left
          · rintro w0 ⟨h1_, h2_, h3_, h4_, h5_, h6_, h7_, h8_, h9_, h10_⟩; go_simp; (try with_reducible rfl)
          try simp only [Act.put, List.getElem_toArray, List.getElem_cons_succ, List.getElem_cons_zero, List.setIfInBounds_toArray, List.set_cons_zero, List.set_cons_succ]
          refine wpAnyL_take (i := 6) (v := ?_) rfl (by kernel_rfl) (by kernel_rfl) (by kernel_rfl) (by kernel_rfl) (by kernel_rfl) (fun _ _ _ h => h) (Or.inl ⟨by kernel_rfl, ?_⟩) s0 ?_
          rotate_left
          · rintro w0 ⟨h1_, h2_, h3_, h4_, h5_, h6_, h7_, h8_, h9_, h10_⟩; go_simp; (try with_reducible rfl)
          try simp only [Act.put, List.getElem_toArray, List.getElem_cons_succ, List.getElem_cons_zero, List.setIfInBounds_toArray, List.set_cons_zero, List.set_cons_succ]
          refine wpAnyL_take (i := 7) (v := ?_) rfl (by kernel_rfl) (by kernel_rfl) (by kernel_rfl) (by kernel_rfl) (by kernel_rfl) (fun _ _ _ h => h) (Or.inl ⟨by kernel_rfl, ?_⟩) s0 ?_
          rotate_left
          · rintro w0 ⟨h1_, h2_, h3_, h4_, h5_, h6_, h7_, h8_, h9_, h10_⟩; go_simp; (try with_reducible rfl)
          try simp only [Act.put, List.getElem_toArray, List.getElem_cons_succ, List.getElem_cons_zero, List.setIfInBounds_toArray, List.set_cons_zero, List.set_cons_succ]
          refine wpAnyL_take (i := 8) (v := ?_) rfl (by kernel_rfl) (by kernel_rfl) (by kernel_rfl) (by kernel_rfl) (by kernel_rfl) (fun _ _ _ h => h) (Or.inl ⟨by kernel_rfl, ?_⟩) s0 ?_
          rotate_left
          · rintro w0 ⟨h1_, h2_, h3_, h4_, h5_, h6_, h7_, h8_, h9_, h10_⟩; go_simp; (try with_reducible rfl)
          try simp only [Act.put, List.getElem_toArray, List.getElem_cons_succ, List.getElem_cons_zero, List.setIfInBounds_toArray, List.set_cons_zero, List.set_cons_succ]
          refine wpAnyL_take (i := 9) (v := ?_) rfl (by kernel_rfl) (by kernel_rfl) (by kernel_rfl) (by kernel_rfl) (by kernel_rfl) (fun _ _ _ h => h) (Or.inl ⟨by kernel_rfl, ?_⟩) s0 ?_
          rotate_left
          · rintro w0 ⟨h1_, h2_, h3_, h4_, h5_, h6_, h7_, h8_, h9_, h10_⟩; go_simp; (try with_reducible rfl)
          try simp only [Act.put, List.getElem_toArray, List.getElem_cons_succ, List.getElem_cons_zero, List.setIfInBounds_toArray, List.set_cons_zero, List.set_cons_succ]
          refine wpAnyL_take (i := 10) (v := ?_) rfl (by kernel_rfl) (by kernel_rfl) (by kernel_rfl) (by kernel_rfl) (by kernel_rfl) (fun _ _ _ h => h) (Or.inl ⟨by kernel_rfl, ?_⟩) s0 ?_
          rotate_left
          · rintro w0 ⟨h1_, h2_, h3_, h4_, h5_, h6_, h7_, h8_, h9_, h10_⟩; go_simp; (try with_reducible rfl)
          try simp only [Act.put, List.getElem_toArray, List.getElem_cons_succ, List.getElem_cons_zero, List.setIfInBounds_toArray, List.set_cons_zero, List.set_cons_succ]
          refine wpAnyL_take (i := 11) (v := ?_) rfl (by kernel_rfl) (by kernel_rfl) (by kernel_rfl) (by kernel_rfl) (by kernel_rfl) (fun _ _ _ h => h) (Or.inl ⟨by kernel_rfl, ?_⟩) s0 ?_
          rotate_left
          · rintro w0 ⟨h1_, h2_, h3_, h4_, h5_, h6_, h7_, h8_, h9_, h10_⟩; go_simp; (try with_reducible rfl)
          try simp only [Act.put, List.getElem_toArray, List.getElem_cons_succ, List.getElem_cons_zero, List.setIfInBounds_toArray, List.set_cons_zero, List.set_cons_succ]
          refine wpAnyL_take (i := 12) (v := ?_) rfl (by kernel_rfl) (by kernel_rfl) (by kernel_rfl) (by kernel_rfl) (by kernel_rfl) (fun _ _ _ h => h) (Or.inl ⟨by kernel_rfl, ?_⟩) s0 ?_
          rotate_left
          · rintro w0 ⟨h1_, h2_, h3_, h4_, h5_, h6_, h7_, h8_, h9_, h10_⟩; go_simp; (try with_reducible rfl)
          try simp only [Act.put, List.getElem_toArray, List.getElem_cons_succ, List.getElem_cons_zero, List.setIfInBounds_toArray, List.set_cons_zero, List.set_cons_succ]
          refine wpAnyL_take (i := 13) (v := ?_) rfl (by kernel_rfl) (by kernel_rfl) (by kernel_rfl) (by kernel_rfl) (by kernel_rfl) (fun _ _ _ h => h) (Or.inl ⟨by kernel_rfl, ?_⟩) s0 ?_
          rotate_left
          · rintro w0 ⟨h1_, h2_, h3_, h4_, h5_, h6_, h7_, h8_, h9_, h10_⟩; go_simp; (try with_reducible rfl)
          try simp only [Act.put, List.getElem_toArray, List.getElem_cons_succ, List.getElem_cons_zero, List.setIfInBounds_toArray, List.set_cons_zero, List.set_cons_succ]
          refine wpAnyL_take (i := 14) (v := ?_) rfl (by kernel_rfl) (by kernel_rfl) (by kernel_rfl) (by kernel_rfl) (by kernel_rfl) (fun _ _ _ h => h) (Or.inl ⟨by kernel_rfl, ?_⟩) s0 ?_
          rotate_left
          · rintro w0 ⟨h1_, h2_, h3_, h4_, h5_, h6_, h7_, h8_, h9_, h10_⟩; go_simp; (try with_reducible rfl)
          try simp only [Act.put, List.getElem_toArray, List.getElem_cons_succ, List.getElem_cons_zero, List.setIfInBounds_toArray, List.set_cons_zero, List.set_cons_succ]
          refine wpAnyL_take (i := 15) (v := ?_) rfl (by kernel_rfl) (by kernel_rfl) (by kernel_rfl) (by kernel_rfl) (by kernel_rfl) (fun _ _ _ h => h) (Or.inl ⟨by kernel_rfl, ?_⟩) s0 ?_
          rotate_left
          · rintro w0 ⟨h1_, h2_, h3_, h4_, h5_, h6_, h7_, h8_, h9_, h10_⟩; go_simp; (try with_reducible rfl)
          try simp only [Act.put, List.getElem_toArray, List.getElem_cons_succ, List.getElem_cons_zero, List.setIfInBounds_toArray, List.set_cons_zero, List.set_cons_succ]
          refine wpAnyL_take (i := 16) (v := ?_) rfl (by kernel_rfl) (by kernel_rfl) (by kernel_rfl) (by kernel_rfl) (by kernel_rfl) (fun _ _ _ h => h) (Or.inl ⟨by kernel_rfl, ?_⟩) s0 ?_
          rotate_left
          · rintro w0 ⟨h1_, h2_, h3_, h4_, h5_, h6_, h7_, h8_, h9_, h10_⟩; go_simp; (try with_reducible rfl)
          try simp only [Act.put, List.getElem_toArray, List.getElem_cons_succ, List.getElem_cons_zero, List.setIfInBounds_toArray, List.set_cons_zero, List.set_cons_succ]
          refine wpAnyL_take (i := 17) (v := ?_) rfl (by kernel_rfl) (by kernel_rfl) (by kernel_rfl) (by kernel_rfl) (by kernel_rfl) (fun _ _ _ h => h) (Or.inl ⟨by kernel_rfl, ?_⟩) s0 ?_
          rotate_left
          · rintro w0 ⟨h1_, h2_, h3_, h4_, h5_, h6_, h7_, h8_, h9_, h10_⟩; go_simp; (try with_reducible rfl)
          try simp only [Act.put, List.getElem_toArray, List.getElem_cons_succ, List.getElem_cons_zero, List.setIfInBounds_toArray, List.set_cons_zero, List.set_cons_succ]
          refine wpAnyL_take (i := 18) (v := ?_) rfl (by kernel_rfl) (by kernel_rfl) (by kernel_rfl) (by kernel_rfl) (by kernel_rfl) (fun _ _ _ h => h) (Or.inl ⟨by kernel_rfl, ?_⟩) s0 ?_
          rotate_left
          · rintro w0 ⟨h1_, h2_, h3_, h4_, h5_, h6_, h7_, h8_, h9_, h10_⟩; go_simp; (try with_reducible rfl)
          try simp only [Act.put, List.getElem_toArray, List.getElem_cons_succ, List.getElem_cons_zero, List.setIfInBounds_toArray, List.set_cons_zero, List.set_cons_succ]
          refine wpAnyL_take (i := 19) (v := undef) rfl (by kernel_rfl) (by kernel_rfl) (by kernel_rfl) (by kernel_rfl) (by kernel_rfl) (fun _ _ _ h => h) (Or.inr ⟨by kernel_rfl, rfl⟩) s0 ?_
          try simp only [Act.put, List.getElem_toArray, List.getElem_cons_succ, List.getElem_cons_zero, List.setIfInBounds_toArray, List.set_cons_zero, List.set_cons_succ]
          refine wpAnyL_take (i := 20) (v := undef) rfl (by kernel_rfl) (by kernel_rfl) (by kernel_rfl) (by kernel_rfl) (by kernel_rfl) (fun _ _ _ h => h) (Or.inr ⟨by kernel_rfl, rfl⟩) s0 ?_
          try simp only [Act.put, List.getElem_toArray, List.getElem_cons_succ, List.getElem_cons_zero, List.setIfInBounds_toArray, List.set_cons_zero, List.set_cons_succ]
          refine wpAnyL_take (i := 21) (v := undef) rfl (by kernel_rfl) (by kernel_rfl) (by kernel_rfl) (by kernel_rfl) (by kernel_rfl) (fun _ _ _ h => h) (Or.inr ⟨by kernel_rfl, rfl⟩) s0 ?_
          try simp only [Act.put, List.getElem_toArray, List.getElem_cons_succ, List.getElem_cons_zero, List.setIfInBounds_toArray, List.set_cons_zero, List.set_cons_succ]
          refine wpAnyL_take (i := 22) (v := undef) rfl (by kernel_rfl) (by kernel_rfl) (by kernel_rfl) (by kernel_rfl) (by kernel_rfl) (fun _ _ _ h => h) (Or.inr ⟨by kernel_rfl, rfl⟩) s0 ?_
          try simp only [Act.put, List.getElem_toArray, List.getElem_cons_succ, List.getElem_cons_zero, List.setIfInBounds_toArray, List.set_cons_zero, List.set_cons_succ]
          refine wpAnyL_take (i := 23) (v := undef) rfl (by kernel_rfl) (by kernel_rfl) (by kernel_rfl) (by kernel_rfl) (by kernel_rfl) (fun _ _ _ h => h) (Or.inr ⟨by kernel_rfl, rfl⟩) s0 ?_
          try simp only [Act.put, List.getElem_toArray, List.getElem_cons_succ, List.getElem_cons_zero, List.setIfInBounds_toArray, List.set_cons_zero, List.set_cons_succ]
          refine wpAnyL_take (i := 24) (v := undef) rfl (by kernel_rfl) (by kernel_rfl) (by kernel_rfl) (by kernel_rfl) (by kernel_rfl) (fun _ _ _ h => h) (Or.inr ⟨by kernel_rfl, rfl⟩) s0 ?_
          try simp only [Act.put, List.getElem_toArray, List.getElem_cons_succ, List.getElem_cons_zero, List.setIfInBounds_toArray, List.set_cons_zero, List.set_cons_succ]
          refine wpAnyL_take (i := 25) (v := ?_) rfl (by kernel_rfl) (by kernel_rfl) (by kernel_rfl) (by kernel_rfl) (by kernel_rfl) (fun _ _ _ h => h) (Or.inl ⟨by kernel_rfl, ?_⟩) s0 ?_
          rotate_left
          · rintro w0 ⟨h1_, h2_, h3_, h4_, h5_, h6_, h7_, h8_, h9_, h10_⟩; go_simp; (try with_reducible rfl)
          try simp only [Act.put, List.getElem_toArray, List.getElem_cons_succ, List.getElem_cons_zero, List.setIfInBounds_toArray, List.set_cons_zero, List.set_cons_succ]
          refine wpAnyL_take (i := 26) (v := ?_) rfl (by kernel_rfl) (by kernel_rfl) (by kernel_rfl) (by kernel_rfl) (by kernel_rfl) (fun _ _ _ h => h) (Or.inl ⟨by kernel_rfl, ?_⟩) s0 ?_
          rotate_left
          · rintro w0 ⟨h1_, h2_, h3_, h4_, h5_, h6_, h7_, h8_, h9_, h10_⟩; go_simp; (try with_reducible rfl)
          try simp only [Act.put, List.getElem_toArray, List.getElem_cons_succ, List.getElem_cons_zero, List.setIfInBounds_toArray, List.set_cons_zero, List.set_cons_succ]
          refine wpAnyL_take (i := 27) (v := undef) rfl (by kernel_rfl) (by kernel_rfl) (by kernel_rfl) (by kernel_rfl) (by kernel_rfl) (fun _ _ _ h => h) (Or.inr ⟨by kernel_rfl, rfl⟩) s0 ?_
          try simp only [Act.put, List.getElem_toArray, List.getElem_cons_succ, List.getElem_cons_zero, List.setIfInBounds_toArray, List.set_cons_zero, List.set_cons_succ]
          refine wpAnyL_take (i := 28) (v := undef) rfl (by kernel_rfl) (by kernel_rfl) (by kernel_rfl) (by kernel_rfl) (by kernel_rfl) (fun _ _ _ h => h) (Or.inr ⟨by kernel_rfl, rfl⟩) s0 ?_
          try simp only [Act.put, List.getElem_toArray, List.getElem_cons_succ, List.getElem_cons_zero, List.setIfInBounds_toArray, List.set_cons_zero, List.set_cons_succ]
          refine wpAnyL_take (i := 29) (v := undef) rfl (by kernel_rfl) (by kernel_rfl) (by kernel_rfl) (by kernel_rfl) (by kernel_rfl) (fun _ _ _ h => h) (Or.inr ⟨by kernel_rfl, rfl⟩) s0 ?_
          try simp only [Act.put, List.getElem_toArray, List.getElem_cons_succ, List.getElem_cons_zero, List.setIfInBounds_toArray, List.set_cons_zero, List.set_cons_succ]
          refine wpAnyL_take (i := 30) (v := undef) rfl (by kernel_rfl) (by kernel_rfl) (by kernel_rfl) (by kernel_rfl) (by kernel_rfl) (fun _ _ _ h => h) (Or.inr ⟨by kernel_rfl, rfl⟩) s0 ?_
          try simp only [Act.put, List.getElem_toArray, List.getElem_cons_succ, List.getElem_cons_zero, List.setIfInBounds_toArray, List.set_cons_zero, List.set_cons_succ]
          refine wpAnyL_take (i := 31) (v := undef) rfl (by kernel_rfl) (by kernel_rfl) (by kernel_rfl) (by kernel_rfl) (by kernel_rfl) (fun _ _ _ h => h) (Or.inr ⟨by kernel_rfl, rfl⟩) s0 ?_
          try simp only [Act.put, List.getElem_toArray, List.getElem_cons_succ, List.getElem_cons_zero, List.setIfInBounds_toArray, List.set_cons_zero, List.set_cons_succ]
          refine wpAnyL_take (i := 32) (v := undef) rfl (by kernel_rfl) (by kernel_rfl) (by kernel_rfl) (by kernel_rfl) (by kernel_rfl) (fun _ _ _ h => h) (Or.inr ⟨by kernel_rfl, rfl⟩) s0 ?_
          try simp only [Act.put, List.getElem_toArray, List.getElem_cons_succ, List.getElem_cons_zero, List.setIfInBounds_toArray, List.set_cons_zero, List.set_cons_succ]
          refine wpAnyL_take (i := 33) (v := undef) rfl (by kernel_rfl) (by kernel_rfl) (by kernel_rfl) (by kernel_rfl) (by kernel_rfl) (fun _ _ _ h => h) (Or.inr ⟨by kernel_rfl, rfl⟩) s0 ?_
          try simp only [Act.put, List.getElem_toArray, List.getElem_cons_succ, List.getElem_cons_zero, List.setIfInBounds_toArray, List.set_cons_zero, List.set_cons_succ]
          refine wpAnyL_take (i := 34) (v := ?_) rfl (by kernel_rfl) (by kernel_rfl) (by kernel_rfl) (by kernel_rfl) (by kernel_rfl) (fun _ _ _ h => h) (Or.inl ⟨by kernel_rfl, ?_⟩) s0 ?_
          rotate_left
          · rintro w0 ⟨h1_, h2_, h3_, h4_, h5_, h6_, h7_, h8_, h9_, h10_⟩; go_simp; (try with_reducible rfl)
          try simp only [Act.put, List.getElem_toArray, List.getElem_cons_succ, List.getElem_cons_zero, List.setIfInBounds_toArray, List.set_cons_zero, List.set_cons_succ]
          refine wpAnyL_take (i := 35) (v := ?_) rfl (by kernel_rfl) (by kernel_rfl) (by kernel_rfl) (by kernel_rfl) (by kernel_rfl) (fun _ _ _ h => h) (Or.inl ⟨by kernel_rfl, ?_⟩) s0 ?_
          rotate_left
          · rintro w0 ⟨h1_, h2_, h3_, h4_, h5_, h6_, h7_, h8_, h9_, h10_⟩; go_simp; (try with_reducible rfl)
          try simp only [Act.put, List.getElem_toArray, List.getElem_cons_succ, List.getElem_cons_zero, List.setIfInBounds_toArray, List.set_cons_zero, List.set_cons_succ]
          refine wpAnyL_take (i := 36) (v := undef) rfl (by kernel_rfl) (by kernel_rfl) (by kernel_rfl) (by kernel_rfl) (by kernel_rfl) (fun _ _ _ h => h) (Or.inr ⟨by kernel_rfl, rfl⟩) s0 ?_
          try simp only [Act.put, List.getElem_toArray, List.getElem_cons_succ, List.getElem_cons_zero, List.setIfInBounds_toArray, List.set_cons_zero, List.set_cons_succ]
          refine wpAnyL_take (i := 37) (v := undef) rfl (by kernel_rfl) (by kernel_rfl) (by kernel_rfl) (by kernel_rfl) (by kernel_rfl) (fun _ _ _ h => h) (Or.inr ⟨by kernel_rfl, rfl⟩) s0 ?_
          try simp only [Act.put, List.getElem_toArray, List.getElem_cons_succ, List.getElem_cons_zero, List.setIfInBounds_toArray, List.set_cons_zero, List.set_cons_succ]
          refine wpAnyL_take (i := 38) (v := undef) rfl (by kernel_rfl) (by kernel_rfl) (by kernel_rfl) (by kernel_rfl) (by kernel_rfl) (fun _ _ _ h => h) (Or.inr ⟨by kernel_rfl, rfl⟩) s0 ?_
          try simp only [Act.put, List.getElem_toArray, List.getElem_cons_succ, List.getElem_cons_zero, List.setIfInBounds_toArray, List.set_cons_zero, List.set_cons_succ]
          refine wpAnyL_take (i := 39) (v := undef) rfl (by kernel_rfl) (by kernel_rfl) (by kernel_rfl) (by kernel_rfl) (by kernel_rfl) (fun _ _ _ h => h) (Or.inr ⟨by kernel_rfl, rfl⟩) s0 ?_
          try simp only [Act.put, List.getElem_toArray, List.getElem_cons_succ, List.getElem_cons_zero, List.setIfInBounds_toArray, List.set_cons_zero, List.set_cons_succ]
          refine wpAnyL_take (i := 40) (v := undef) rfl (by kernel_rfl) (by kernel_rfl) (by kernel_rfl) (by kernel_rfl) (by kernel_rfl) (fun _ _ _ h => h) (Or.inr ⟨by kernel_rfl, rfl⟩) s0 ?_
          try simp only [Act.put, List.getElem_toArray, List.getElem_cons_succ, List.getElem_cons_zero, List.setIfInBounds_toArray, List.set_cons_zero, List.set_cons_succ]
          refine wpAnyL_take (i := 41) (v := undef) rfl (by kernel_rfl) (by kernel_rfl) (by kernel_rfl) (by kernel_rfl) (by kernel_rfl) (fun _ _ _ h => h) (Or.inr ⟨by kernel_rfl, rfl⟩) s0 ?_
          try simp only [Act.put, List.getElem_toArray, List.getElem_cons_succ, List.getElem_cons_zero, List.setIfInBounds_toArray, List.set_cons_zero, List.set_cons_succ]
          refine wpAnyL_take (i := 42) (v := undef) rfl (by kernel_rfl) (by kernel_rfl) (by kernel_rfl) (by kernel_rfl) (by kernel_rfl) (fun _ _ _ h => h) (Or.inr ⟨by kernel_rfl, rfl⟩) s0 ?_
          try simp only [Act.put, List.getElem_toArray, List.getElem_cons_succ, List.getElem_cons_zero, List.setIfInBounds_toArray, List.set_cons_zero, List.set_cons_succ]
          refine wpAnyL_take (i := 43) (v := ?_) rfl (by kernel_rfl) (by kernel_rfl) (by kernel_rfl) (by kernel_rfl) (by kernel_rfl) (fun _ _ _ h => h) (Or.inl ⟨by kernel_rfl, ?_⟩) s0 ?_
          rotate_left
          · rintro w0 ⟨h1_, h2_, h3_, h4_, h5_, h6_, h7_, h8_, h9_, h10_⟩; go_simp; (try with_reducible rfl)
          try simp only [Act.put, List.getElem_toArray, List.getElem_cons_succ, List.getElem_cons_zero, List.setIfInBounds_toArray, List.set_cons_zero, List.set_cons_succ]
          refine wpAnyL_one (i := 44) (by kernel_rfl) rfl (fun K hK => ?_)
          go_simp
          refine hK.out _ _ (fun _ => s0) ?_
          clear hK K
          try simp only [Act.put, List.getElem_toArray, List.getElem_cons_succ, List.getElem_cons_zero, List.setIfInBounds_toArray, List.set_cons_zero, List.set_cons_succ]
          refine wpAnyL_done (by kernel_rfl) ?_ _
          refine tight_normal ?_
          exact HR4.out _ _ _ _ _ _ _ _ _ _ _ _ _ _ _ _ _ _ _ _ _ _ _ _ _ _ _ _ _ _ _ _ _ _ _ _ _ _ _ _ _ _ _ _ _ _ _ _ _ _ _ _ _ _ _ _ _
        have q3 : decide ((Clast : Int) < (xsq : Int)) = true := decide_eq_true (by omega)
        by_cases c4 : xp = (m' : Int)
        case neg =>
          have q4 : (xp == (m' : Int)) = false := by simp only [beq_eq_false_iff_ne, ne_eq]; omega
          have e : rt = false := by rw [hright]; simp [c1, c2, c3, c4]
          subst e
          clear hright c1 c2 c4
          refine wpIn_round_late [] (fun w' : World => w'.cell? ⟨X, 0, none⟩ = some (.int .u32 (xg : Int)) ∧ w'.cell? ⟨X, 1, none⟩ = some (.int .u32 (xsq : Int)) ∧ w'.cell? ⟨X, 2, none⟩ = some (.int .i64 xp) ∧ w'.cell? ⟨X, 3, none⟩ = some (.int .i64 xq) ∧ w'.cell? ⟨B, 0, none⟩ = some (.pointer (some ⟨h, 0, none⟩)) ∧ w'.cell? ⟨h, 3, none⟩ = some (.int .u32 (t.gen : Int)) ∧ w'.cell? ⟨G + 1 + 1, 0, none⟩ = some (.int .u32 (Clast : Int)) ∧ w'.cell? ⟨G + 1, 0, none⟩ = some (.slice (some ⟨ga, 0, none⟩) n' c5) ∧ w'.cell? ⟨ga, 1, none⟩ = some (.int .u32 (zs : Int)) ∧ w'.cell? ⟨ga, 3, none⟩ = some (.int .i64 zq)) (by kernel_rfl) (by kernel_rfl) ?_
          rw [hwd]
          clear hwd
          refine wpAnyL_take (i := 0) (v := ?_) rfl (by kernel_rfl) (by kernel_rfl) (by kernel_rfl) (by kernel_rfl) (by kernel_rfl) (fun _ _ _ h => h) (Or.inl ⟨by kernel_rfl, ?_⟩) s0 ?_
          rotate_left
          · rintro w0 ⟨h1_, h2_, h3_, h4_, h5_, h6_, h7_, h8_, h9_, h10_⟩; go_simp; (try with_reducible rfl)
          try simp only [Act.put, List.getElem_toArray, List.getElem_cons_succ, List.getElem_cons_zero, List.setIfInBounds_toArray, List.set_cons_zero, List.set_cons_succ]
          refine wpAnyL_take (i := 1) (v := ?_) rfl (by kernel_rfl) (by kernel_rfl) (by kernel_rfl) (by kernel_rfl) (by kernel_rfl) (fun _ _ _ h => h) (Or.inl ⟨by kernel_rfl, ?_⟩) s0 ?_
          rotate_left
          · rintro w0 ⟨h1_, h2_, h3_, h4_, h5_, h6_, h7_, h8_, h9_, h10_⟩; go_simp; (try with_reducible rfl)
          try simp only [Act.put, List.getElem_toArray, List.getElem_cons_succ, List.getElem_cons_zero, List.setIfInBounds_toArray, List.set_cons_zero, List.set_cons_succ]
          refine wpAnyL_take (i := 2) (v := ?_) rfl (by kernel_rfl) (by kernel_rfl) (by kernel_rfl) (by kernel_rfl) (by kernel_rfl) (fun _ _ _ h => h) (Or.inl ⟨by kernel_rfl, ?_⟩) s0 ?_
          rotate_left
          · rintro w0 ⟨h1_, h2_, h3_, h4_, h5_, h6_, h7_, h8_, h9_, h10_⟩; go_simp; (try with_reducible rfl)
          try simp only [Act.put, List.getElem_toArray, List.getElem_cons_succ, List.getElem_cons_zero, List.setIfInBounds_toArray, List.set_cons_zero, List.set_cons_succ]
          refine wpAnyL_take (i := 3) (v := ?_) rfl (by kernel_rfl) (by kernel_rfl) (by kernel_rfl) (by kernel_rfl) (by kernel_rfl) (fun _ _ _ h => h) (Or.inl ⟨by kernel_rfl, ?_⟩) s0 ?_
          rotate_left
          · rintro w0 ⟨h1_, h2_, h3_, h4_, h5_, h6_, h7_, h8_, h9_, h10_⟩; go_simp; (try with_reducible rfl)
          try simp only [Act.put, List.getElem_toArray, List.getElem_cons_succ, List.getElem_cons_zero, List.setIfInBounds_toArray, List.set_cons_zero, List.set_cons_succ]
          refine wpAnyL_take (i := 4) (v := ?_) rfl (by kernel_rfl) (by kernel_rfl) (by kernel_rfl) (by kernel_rfl) (by kernel_rfl) (fun _ _ _ h => h) (Or.inl ⟨by kernel_rfl, ?_⟩) s0 ?_
          rotate_left
          · rintro w0 ⟨h1_, h2_, h3_, h4_, h5_, h6_, h7_, h8_, h9_, h10_⟩; go_simp; (try with_reducible rfl)
          try simp only [Act.put, List.getElem_toArray, List.getElem_cons_succ, List.getElem_cons_zero, List.setIfInBounds_toArray, List.set_cons_zero, List.set_cons_succ]
          refine wpAnyL_take (i := 5) (v := ?_) rfl (by kernel_rfl) (by kernel_rfl) (by kernel_rfl) (by kernel_rfl) (by kernel_rfl) (fun _ _ _ h => h) (Or.inl ⟨by kernel_rfl, ?_⟩) s0 ?_
          rotate_left
          · rintro w0 ⟨h1_, h2_, h3_, h4_, h5_, h6_, h7_, h8_, h9_, h10_⟩; go_simp; (try with_reducible rfl)
          try simp only [Act.put, List.getElem_toArray, List.getElem_cons_succ, List.getElem_cons_zero, List.setIfInBounds_toArray, List.set_cons_zero, List.set_cons_succ]
          refine wpAnyL_take (i := 6) (v := ?_) rfl (by kernel_rfl) (by kernel_rfl) (by kernel_rfl) (by kernel_rfl) (by kernel_rfl) (fun _ _ _ h => h) (Or.inl ⟨by kernel_rfl, ?_⟩) s0 ?_
          rotate_left
          · rintro w0 ⟨h1_, h2_, h3_, h4_, h5_, h6_, h7_, h8_, h9_, h10_⟩; go_simp; (try with_reducible rfl)
          try simp only [Act.put, List.getElem_toArray, List.getElem_cons_succ, List.getElem_cons_zero, List.setIfInBounds_toArray, List.set_cons_zero, List.set_cons_succ]
          refine wpAnyL_take (i := 7) (v := ?_) rfl (by kernel_rfl) (by kernel_rfl) (by kernel_rfl) (by kernel_rfl) (by kernel_rfl) (fun _ _ _ h => h) (Or.inl ⟨by kernel_rfl, ?_⟩) s0 ?_
          rotate_left
          · rintro w0 ⟨h1_, h2_, h3_, h4_, h5_, h6_, h7_, h8_, h9_, h10_⟩; go_simp; (try with_reducible rfl)
          try simp only [Act.put, List.getElem_toArray, List.getElem_cons_succ, List.getElem_cons_zero, List.setIfInBounds_toArray, List.set_cons_zero, List.set_cons_succ]
          refine wpAnyL_take (i := 8) (v := ?_) rfl (by kernel_rfl) (by kernel_rfl) (by kernel_rfl) (by kernel_rfl) (by kernel_rfl) (fun _ _ _ h => h) (Or.inl ⟨by kernel_rfl, ?_⟩) s0 ?_
          rotate_left
          · rintro w0 ⟨h1_, h2_, h3_, h4_, h5_, h6_, h7_, h8_, h9_, h10_⟩; go_simp; (try with_reducible rfl)
          try simp only [Act.put, List.getElem_toArray, List.getElem_cons_succ, List.getElem_cons_zero, List.setIfInBounds_toArray, List.set_cons_zero, List.set_cons_succ]
          refine wpAnyL_take (i := 9) (v := ?_) rfl (by kernel_rfl) (by kernel_rfl) (by kernel_rfl) (by kernel_rfl) (by kernel_rfl) (fun _ _ _ h => h) (Or.inl ⟨by kernel_rfl, ?_⟩) s0 ?_
          rotate_left
          · rintro w0 ⟨h1_, h2_, h3_, h4_, h5_, h6_, h7_, h8_, h9_, h10_⟩; go_simp; (try with_reducible rfl)
          try simp only [Act.put, List.getElem_toArray, List.getElem_cons_succ, List.getElem_cons_zero, List.setIfInBounds_toArray, List.set_cons_zero, List.set_cons_succ]
          refine wpAnyL_take (i := 10) (v := ?_) rfl (by kernel_rfl) (by kernel_rfl) (by kernel_rfl) (by kernel_rfl) (by kernel_rfl) (fun _ _ _ h => h) (Or.inl ⟨by kernel_rfl, ?_⟩) s0 ?_
          rotate_left
          · rintro w0 ⟨h1_, h2_, h3_, h4_, h5_, h6_, h7_, h8_, h9_, h10_⟩; go_simp; (try with_reducible rfl)
          try simp only [Act.put, List.getElem_toArray, List.getElem_cons_succ, List.getElem_cons_zero, List.setIfInBounds_toArray, List.set_cons_zero, List.set_cons_succ]
          refine wpAnyL_take (i := 11) (v := ?_) rfl (by kernel_rfl) (by kernel_rfl) (by kernel_rfl) (by kernel_rfl) (by kernel_rfl) (fun _ _ _ h => h) (Or.inl ⟨by kernel_rfl, ?_⟩) s0 ?_
          rotate_left
          · rintro w0 ⟨h1_, h2_, h3_, h4_, h5_, h6_, h7_, h8_, h9_, h10_⟩; go_simp; (try with_reducible rfl)
          try simp only [Act.put, List.getElem_toArray, List.getElem_cons_succ, List.getElem_cons_zero, List.setIfInBounds_toArray, List.set_cons_zero, List.set_cons_succ]
          refine wpAnyL_take (i := 12) (v := ?_) rfl (by kernel_rfl) (by kernel_rfl) (by kernel_rfl) (by kernel_rfl) (by kernel_rfl) (fun _ _ _ h => h) (Or.inl ⟨by kernel_rfl, ?_⟩) s0 ?_
          rotate_left
          · rintro w0 ⟨h1_, h2_, h3_, h4_, h5_, h6_, h7_, h8_, h9_, h10_⟩; go_simp; (try with_reducible rfl)
          try simp only [Act.put, List.getElem_toArray, List.getElem_cons_succ, List.getElem_cons_zero, List.setIfInBounds_toArray, List.set_cons_zero, List.set_cons_succ]
          refine wpAnyL_take (i := 13) (v := ?_) rfl (by kernel_rfl) (by kernel_rfl) (by kernel_rfl) (by kernel_rfl) (by kernel_rfl) (fun _ _ _ h => h) (Or.inl ⟨by kernel_rfl, ?_⟩) s0 ?_
          rotate_left
          · rintro w0 ⟨h1_, h2_, h3_, h4_, h5_, h6_, h7_, h8_, h9_, h10_⟩; go_simp; (try with_reducible rfl)
          try simp only [Act.put, List.getElem_toArray, List.getElem_cons_succ, List.getElem_cons_zero, List.setIfInBounds_toArray, List.set_cons_zero, List.set_cons_succ]
          refine wpAnyL_take (i := 14) (v := ?_) rfl (by kernel_rfl) (by kernel_rfl) (by kernel_rfl) (by kernel_rfl) (by kernel_rfl) (fun _ _ _ h => h) (Or.inl ⟨by kernel_rfl, ?_⟩) s0 ?_
          rotate_left
          · rintro w0 ⟨h1_, h2_, h3_, h4_, h5_, h6_, h7_, h8_, h9_, h10_⟩; go_simp; (try with_reducible rfl)
          try simp only [Act.put, List.getElem_toArray, List.getElem_cons_succ, List.getElem_cons_zero, List.setIfInBounds_toArray, List.set_cons_zero, List.set_cons_succ]
          refine wpAnyL_take (i := 15) (v := ?_) rfl (by kernel_rfl) (by kernel_rfl) (by kernel_rfl) (by kernel_rfl) (by kernel_rfl) (fun _ _ _ h => h) (Or.inl ⟨by kernel_rfl, ?_⟩) s0 ?_
          rotate_left
          · rintro w0 ⟨h1_, h2_, h3_, h4_, h5_, h6_, h7_, h8_, h9_, h10_⟩; go_simp; (try with_reducible rfl)
          try simp only [Act.put, List.getElem_toArray, List.getElem_cons_succ, List.getElem_cons_zero, List.setIfInBounds_toArray, List.set_cons_zero, List.set_cons_succ]
          refine wpAnyL_take (i := 16) (v := ?_) rfl (by kernel_rfl) (by kernel_rfl) (by kernel_rfl) (by kernel_rfl) (by kernel_rfl) (fun _ _ _ h => h) (Or.inl ⟨by kernel_rfl, ?_⟩) s0 ?_
          rotate_left
          · rintro w0 ⟨h1_, h2_, h3_, h4_, h5_, h6_, h7_, h8_, h9_, h10_⟩; go_simp; (try with_reducible rfl)
          try simp only [Act.put, List.getElem_toArray, List.getElem_cons_succ, List.getElem_cons_zero, List.setIfInBounds_toArray, List.set_cons_zero, List.set_cons_succ]
          refine wpAnyL_take (i := 17) (v := ?_) rfl (by kernel_rfl) (by kernel_rfl) (by kernel_rfl) (by kernel_rfl) (by kernel_rfl) (fun _ _ _ h => h) (Or.inl ⟨by kernel_rfl, ?_⟩) s0 ?_
          rotate_left
          · rintro w0 ⟨h1_, h2_, h3_, h4_, h5_, h6_, h7_, h8_, h9_, h10_⟩; go_simp; (try with_reducible rfl)
          try simp only [Act.put, List.getElem_toArray, List.getElem_cons_succ, List.getElem_cons_zero, List.setIfInBounds_toArray, List.set_cons_zero, List.set_cons_succ]
          refine wpAnyL_take (i := 18) (v := ?_) rfl (by kernel_rfl) (by kernel_rfl) (by kernel_rfl) (by kernel_rfl) (by kernel_rfl) (fun _ _ _ h => h) (Or.inl ⟨by kernel_rfl, ?_⟩) s0 ?_
          rotate_left
          · rintro w0 ⟨h1_, h2_, h3_, h4_, h5_, h6_, h7_, h8_, h9_, h10_⟩; go_simp; (try with_reducible rfl)
          try simp only [Act.put, List.getElem_toArray, List.getElem_cons_succ, List.getElem_cons_zero, List.setIfInBounds_toArray, List.set_cons_zero, List.set_cons_succ]
          refine wpAnyL_take (i := 19) (v := ?_) rfl (by kernel_rfl) (by kernel_rfl) (by kernel_rfl) (by kernel_rfl) (by kernel_rfl) (fun _ _ _ h => h) (Or.inl ⟨by kernel_rfl, ?_⟩) s0 ?_
          rotate_left
          · rintro w0 ⟨h1_, h2_, h3_, h4_, h5_, h6_, h7_, h8_, h9_, h10_⟩; go_simp; (try with_reducible rfl)
          try simp only [Act.put, List.getElem_toArray, List.getElem_cons_succ, List.getElem_cons_zero, List.setIfInBounds_toArray, List.set_cons_zero, List.set_cons_succ]
          refine wpAnyL_take (i := 20) (v := ?_) rfl (by kernel_rfl) (by kernel_rfl) (by kernel_rfl) (by kernel_rfl) (by kernel_rfl) (fun _ _ _ h => h) (Or.inl ⟨by kernel_rfl, ?_⟩) s0 ?_
          rotate_left
          · rintro w0 ⟨h1_, h2_, h3_, h4_, h5_, h6_, h7_, h8_, h9_, h10_⟩; go_simp; (try with_reducible rfl)
          try simp only [Act.put, List.getElem_toArray, List.getElem_cons_succ, List.getElem_cons_zero, List.setIfInBounds_toArray, List.set_cons_zero, List.set_cons_succ]
          refine wpAnyL_take (i := 21) (v := ?_) rfl (by kernel_rfl) (by kernel_rfl) (by kernel_rfl) (by kernel_rfl) (by kernel_rfl) (fun _ _ _ h => h) (Or.inl ⟨by kernel_rfl, ?_⟩) s0 ?_
          rotate_left
          · rintro w0 ⟨h1_, h2_, h3_, h4_, h5_, h6_, h7_, h8_, h9_, h10_⟩; go_simp; (try with_reducible rfl)
          try simp only [Act.put, List.getElem_toArray, List.getElem_cons_succ, List.getElem_cons_zero, List.setIfInBounds_toArray, List.set_cons_zero, List.set_cons_succ]
          refine wpAnyL_take (i := 22) (v := ?_) rfl (by kernel_rfl) (by kernel_rfl) (by kernel_rfl) (by kernel_rfl) (by kernel_rfl) (fun _ _ _ h => h) (Or.inl ⟨by kernel_rfl, ?_⟩) s0 ?_
          rotate_left
          · rintro w0 ⟨h1_, h2_, h3_, h4_, h5_, h6_, h7_, h8_, h9_, h10_⟩; go_simp; (try with_reducible rfl)
          try simp only [Act.put, List.getElem_toArray, List.getElem_cons_succ, List.getElem_cons_zero, List.setIfInBounds_toArray, List.set_cons_zero, List.set_cons_succ]
          refine wpAnyL_take (i := 23) (v := ?_) rfl (by kernel_rfl) (by kernel_rfl) (by kernel_rfl) (by kernel_rfl) (by kernel_rfl) (fun _ _ _ h => h) (Or.inl ⟨by kernel_rfl, ?_⟩) s0 ?_
          rotate_left
          · rintro w0 ⟨h1_, h2_, h3_, h4_, h5_, h6_, h7_, h8_, h9_, h10_⟩; go_simp; (try with_reducible rfl)
          try simp only [Act.put, List.getElem_toArray, List.getElem_cons_succ, List.getElem_cons_zero, List.setIfInBounds_toArray, List.set_cons_zero, List.set_cons_succ]
          refine wpAnyL_take (i := 24) (v := ?_) rfl (by kernel_rfl) (by kernel_rfl) (by kernel_rfl) (by kernel_rfl) (by kernel_rfl) (fun _ _ _ h => h) (Or.inl ⟨by kernel_rfl, ?_⟩) s0 ?_
          rotate_left
          · rintro w0 ⟨h1_, h2_, h3_, h4_, h5_, h6_, h7_, h8_, h9_, h10_⟩; go_simp; (try with_reducible rfl)
          try simp only [Act.put, List.getElem_toArray, List.getElem_cons_succ, List.getElem_cons_zero, List.setIfInBounds_toArray, List.set_cons_zero, List.set_cons_succ]
          refine wpAnyL_take (i := 25) (v := ?_) rfl (by kernel_rfl) (by kernel_rfl) (by kernel_rfl) (by kernel_rfl) (by kernel_rfl) (fun _ _ _ h => h) (Or.inl ⟨by kernel_rfl, ?_⟩) s0 ?_
          rotate_left
          · rintro w0 ⟨h1_, h2_, h3_, h4_, h5_, h6_, h7_, h8_, h9_, h10_⟩; go_simp; (try with_reducible rfl)
          try simp only [Act.put, List.getElem_toArray, List.getElem_cons_succ, List.getElem_cons_zero, List.setIfInBounds_toArray, List.set_cons_zero, List.set_cons_succ]
          refine wpAnyL_take (i := 26) (v := ?_) rfl (by kernel_rfl) (by kernel_rfl) (by kernel_rfl) (by kernel_rfl) (by kernel_rfl) (fun _ _ _ h => h) (Or.inl ⟨by kernel_rfl, ?_⟩) s0 ?_
          rotate_left
          · rintro w0 ⟨h1_, h2_, h3_, h4_, h5_, h6_, h7_, h8_, h9_, h10_⟩; go_simp; (try with_reducible rfl)
          try simp only [Act.put, List.getElem_toArray, List.getElem_cons_succ, List.getElem_cons_zero, List.setIfInBounds_toArray, List.set_cons_zero, List.set_cons_succ]
          refine wpAnyL_take (i := 27) (v := undef) rfl (by kernel_rfl) (by kernel_rfl) (by kernel_rfl) (by kernel_rfl) (by kernel_rfl) (fun _ _ _ h => h) (Or.inr ⟨by kernel_rfl, rfl⟩) s0 ?_
          try simp only [Act.put, List.getElem_toArray, List.getElem_cons_succ, List.getElem_cons_zero, List.setIfInBounds_toArray, List.set_cons_zero, List.set_cons_succ]
          refine wpAnyL_take (i := 28) (v := undef) rfl (by kernel_rfl) (by kernel_rfl) (by kernel_rfl) (by kernel_rfl) (by kernel_rfl) (fun _ _ _ h => h) (Or.inr ⟨by kernel_rfl, rfl⟩) s0 ?_
          try simp only [Act.put, List.getElem_toArray, List.getElem_cons_succ, List.getElem_cons_zero, List.setIfInBounds_toArray, List.set_cons_zero, List.set_cons_succ]
          refine wpAnyL_take (i := 29) (v := undef) rfl (by kernel_rfl) (by kernel_rfl) (by kernel_rfl) (by kernel_rfl) (by kernel_rfl) (fun _ _ _ h => h) (Or.inr ⟨by kernel_rfl, rfl⟩) s0 ?_
          try simp only [Act.put, List.getElem_toArray, List.getElem_cons_succ, List.getElem_cons_zero, List.setIfInBounds_toArray, List.set_cons_zero, List.set_cons_succ]
          refine wpAnyL_take (i := 30) (v := undef) rfl (by kernel_rfl) (by kernel_rfl) (by kernel_rfl) (by kernel_rfl) (by kernel_rfl) (fun _ _ _ h => h) (Or.inr ⟨by kernel_rfl, rfl⟩) s0 ?_
          try simp only [Act.put, List.getElem_toArray, List.getElem_cons_succ, List.getElem_cons_zero, List.setIfInBounds_toArray, List.set_cons_zero, List.set_cons_succ]
          refine wpAnyL_take (i := 31) (v := undef) rfl (by kernel_rfl) (by kernel_rfl) (by kernel_rfl) (by kernel_rfl) (by kernel_rfl) (fun _ _ _ h => h) (Or.inr ⟨by kernel_rfl, rfl⟩) s0 ?_
          try simp only [Act.put, List.getElem_toArray, List.getElem_cons_succ, List.getElem_cons_zero, List.setIfInBounds_toArray, List.set_cons_zero, List.set_cons_succ]
          refine wpAnyL_take (i := 32) (v := undef) rfl (by kernel_rfl) (by kernel_rfl) (by kernel_rfl) (by kernel_rfl) (by kernel_rfl) (fun _ _ _ h => h) (Or.inr ⟨by kernel_rfl, rfl⟩) s0 ?_
          try simp only [Act.put, List.getElem_toArray, List.getElem_cons_succ, List.getElem_cons_zero, List.setIfInBounds_toArray, List.set_cons_zero, List.set_cons_succ]
          refine wpAnyL_take (i := 33) (v := undef) rfl (by kernel_rfl) (by kernel_rfl) (by kernel_rfl) (by kernel_rfl) (by kernel_rfl) (fun _ _ _ h => h) (Or.inr ⟨by kernel_rfl, rfl⟩) s0 ?_
          try simp only [Act.put, List.getElem_toArray, List.getElem_cons_succ, List.getElem_cons_zero, List.setIfInBounds_toArray, List.set_cons_zero, List.set_cons_succ]
          refine wpAnyL_take (i := 34) (v := ?_) rfl (by kernel_rfl) (by kernel_rfl) (by kernel_rfl) (by kernel_rfl) (by kernel_rfl) (fun _ _ _ h => h) (Or.inl ⟨by kernel_rfl, ?_⟩) s0 ?_
          rotate_left
          · rintro w0 ⟨h1_, h2_, h3_, h4_, h5_, h6_, h7_, h8_, h9_, h10_⟩; go_simp; (try with_reducible rfl)
          try simp only [Act.put, List.getElem_toArray, List.getElem_cons_succ, List.getElem_cons_zero, List.setIfInBounds_toArray, List.set_cons_zero, List.set_cons_succ]
          refine wpAnyL_take (i := 35) (v := ?_) rfl (by kernel_rfl) (by kernel_rfl) (by kernel_rfl) (by kernel_rfl) (by kernel_rfl) (fun _ _ _ h => h) (Or.inl ⟨by kernel_rfl, ?_⟩) s0 ?_
          rotate_left
          · rintro w0 ⟨h1_, h2_, h3_, h4_, h5_, h6_, h7_, h8_, h9_, h10_⟩; go_simp; (try with_reducible rfl)
          try simp only [Act.put, List.getElem_toArray, List.getElem_cons_succ, List.getElem_cons_zero, List.setIfInBounds_toArray, List.set_cons_zero, List.set_cons_succ]
          refine wpAnyL_take (i := 36) (v := undef) rfl (by kernel_rfl) (by kernel_rfl) (by kernel_rfl) (by kernel_rfl) (by kernel_rfl) (fun _ _ _ h => h) (Or.inr ⟨by kernel_rfl, rfl⟩) s0 ?_
          try simp only [Act.put, List.getElem_toArray, List.getElem_cons_succ, List.getElem_cons_zero, List.setIfInBounds_toArray, List.set_cons_zero, List.set_cons_succ]
          refine wpAnyL_take (i := 37) (v := undef) rfl (by kernel_rfl) (by kernel_rfl) (by kernel_rfl) (by kernel_rfl) (by kernel_rfl) (fun _ _ _ h => h) (Or.inr ⟨by kernel_rfl, rfl⟩) s0 ?_
          try simp only [Act.put, List.getElem_toArray, List.getElem_cons_succ, List.getElem_cons_zero, List.setIfInBounds_toArray, List.set_cons_zero, List.set_cons_succ]
          refine wpAnyL_take (i := 38) (v := undef) rfl (by kernel_rfl) (by kernel_rfl) (by kernel_rfl) (by kernel_rfl) (by kernel_rfl) (fun _ _ _ h => h) (Or.inr ⟨by kernel_rfl, rfl⟩) s0 ?_
          try simp only [Act.put, List.getElem_toArray, List.getElem_cons_succ, List.getElem_cons_zero, List.setIfInBounds_toArray, List.set_cons_zero, List.set_cons_succ]
          refine wpAnyL_take (i := 39) (v := undef) rfl (by kernel_rfl) (by kernel_rfl) (by kernel_rfl) (by kernel_rfl) (by kernel_rfl) (fun _ _ _ h => h) (Or.inr ⟨by kernel_rfl, rfl⟩) s0 ?_
          try simp only [Act.put, List.getElem_toArray, List.getElem_cons_succ, List.getElem_cons_zero, List.setIfInBounds_toArray, List.set_cons_zero, List.set_cons_succ]
          refine wpAnyL_take (i := 40) (v := undef) rfl (by kernel_rfl) (by kernel_rfl) (by kernel_rfl) (by kernel_rfl) (by kernel_rfl) (fun _ _ _ h => h) (Or.inr ⟨by kernel_rfl, rfl⟩) s0 ?_
          try simp only [Act.put, List.getElem_toArray, List.getElem_cons_succ, List.getElem_cons_zero, List.setIfInBounds_toArray, List.set_cons_zero, List.set_cons_succ]
          refine wpAnyL_take (i := 41) (v := undef) rfl (by kernel_rfl) (by kernel_rfl) (by kernel_rfl) (by kernel_rfl) (by kernel_rfl) (fun _ _ _ h => h) (Or.inr ⟨by kernel_rfl, rfl⟩) s0 ?_
          try simp only [Act.put, List.getElem_toArray, List.getElem_cons_succ, List.getElem_cons_zero, List.setIfInBounds_toArray, List.set_cons_zero, List.set_cons_succ]
          refine wpAnyL_take (i := 42) (v := undef) rfl (by kernel_rfl) (by kernel_rfl) (by kernel_rfl) (by kernel_rfl) (by kernel_rfl) (fun _ _ _ h => h) (Or.inr ⟨by kernel_rfl, rfl⟩) s0 ?_
          try simp only [Act.put, List.getElem_toArray, List.getElem_cons_succ, List.getElem_cons_zero, List.setIfInBounds_toArray, List.set_cons_zero, List.set_cons_succ]
          refine wpAnyL_take (i := 43) (v := ?_) rfl (by kernel_rfl) (by kernel_rfl) (by kernel_rfl) (by kernel_rfl) (by kernel_rfl) (fun _ _ _ h => h) (Or.inl ⟨by kernel_rfl, ?_⟩) s0 ?_
          rotate_left
          · rintro w0 ⟨h1_, h2_, h3_, h4_, h5_, h6_, h7_, h8_, h9_, h10_⟩; go_simp; (try with_reducible rfl)
          try simp only [Act.put, List.getElem_toArray, List.getElem_cons_succ, List.getElem_cons_zero, List.setIfInBounds_toArray, List.set_cons_zero, List.set_cons_succ]
          refine wpAnyL_one (i := 44) (by kernel_rfl) rfl (fun K hK => ?_)
          go_simp
          refine hK.out _ _ (fun _ => s0) ?_
          clear hK K
          try simp only [Act.put, List.getElem_toArray, List.getElem_cons_succ, List.getElem_cons_zero, List.setIfInBounds_toArray, List.set_cons_zero, List.set_cons_succ]
          refine wpAnyL_done (by kernel_rfl) ?_ _
          refine tight_normal ?_
          exact HR4.out _ _ _ _ _ _ _ _ _ _ _ _ _ _ _ _ _ _ _ _ _ _ _ _ _ _ _ _ _ _ _ _ _ _ _ _ _ _ _ _ _ _ _ _ _ _ _ _ _ _ _ _ _ _ _ _ _
        have q4 : (xp == (m' : Int)) = true := by simp only [beq_iff_eq]; omega
        by_cases c5 : xsq = zs
        case neg =>
          have q5 : ((xsq : Int) == (zs : Int)) = false := by simp only [beq_eq_false_iff_ne, ne_eq]; omega
          have e : rt = false := by rw [hright]; simp [c1, c2, c3, c4, c5]
          subst e
          clear hright c1 c2 c4 c5
          refine wpIn_round_late [] (fun w' : World => w'.cell? ⟨X, 0, none⟩ = some (.int .u32 (xg : Int)) ∧ w'.cell? ⟨X, 1, none⟩ = some (.int .u32 (xsq : Int)) ∧ w'.cell? ⟨X, 2, none⟩ = some (.int .i64 xp) ∧ w'.cell? ⟨X, 3, none⟩ = some (.int .i64 xq) ∧ w'.cell? ⟨B, 0, none⟩ = some (.pointer (some ⟨h, 0, none⟩)) ∧ w'.cell? ⟨h, 3, none⟩ = some (.int .u32 (t.gen : Int)) ∧ w'.cell? ⟨G + 1 + 1, 0, none⟩ = some (.int .u32 (Clast : Int)) ∧ w'.cell? ⟨G + 1, 0, none⟩ = some (.slice (some ⟨ga, 0, none⟩) n' c5) ∧ w'.cell? ⟨ga, 1, none⟩ = some (.int .u32 (zs : Int)) ∧ w'.cell? ⟨ga, 3, none⟩ = some (.int .i64 zq)) (by kernel_rfl) (by kernel_rfl) ?_
          rw [hwd]
          clear hwd
          refine wpAnyL_take (i := 0) (v := ?_) rfl (by kernel_rfl) (by kernel_rfl) (by kernel_rfl) (by kernel_rfl) (by kernel_rfl) (fun _ _ _ h => h) (Or.inl ⟨by kernel_rfl, ?_⟩) s0 ?_
          rotate_left
          · rintro w0 ⟨h1_, h2_, h3_, h4_, h5_, h6_, h7_, h8_, h9_, h10_⟩; go_simp; (try with_reducible rfl)
          try simp only [Act.put, List.getElem_toArray, List.getElem_cons_succ, List.getElem_cons_zero, List.setIfInBounds_toArray, List.set_cons_zero, List.set_cons_succ]
          refine wpAnyL_take (i := 1) (v := ?_) rfl (by kernel_rfl) (by kernel_rfl) (by kernel_rfl) (by kernel_rfl) (by kernel_rfl) (fun _ _ _ h => h) (Or.inl ⟨by kernel_rfl, ?_⟩) s0 ?_
          rotate_left
          · rintro w0 ⟨h1_, h2_, h3_, h4_, h5_, h6_, h7_, h8_, h9_, h10_⟩; go_simp; (try with_reducible rfl)
          try simp only [Act.put, List.getElem_toArray, List.getElem_cons_succ, List.getElem_cons_zero, List.setIfInBounds_toArray, List.set_cons_zero, List.set_cons_succ]
          refine wpAnyL_take (i := 2) (v := ?_) rfl (by kernel_rfl) (by kernel_rfl) (by kernel_rfl) (by kernel_rfl) (by kernel_rfl) (fun _ _ _ h => h) (Or.inl ⟨by kernel_rfl, ?_⟩) s0 ?_
          rotate_left
          · rintro w0 ⟨h1_, h2_, h3_, h4_, h5_, h6_, h7_, h8_, h9_, h10_⟩; go_simp; (try with_reducible rfl)
          try simp only [Act.put, List.getElem_toArray, List.getElem_cons_succ, List.getElem_cons_zero, List.setIfInBounds_toArray, List.set_cons_zero, List.set_cons_succ]
          refine wpAnyL_take (i := 3) (v := ?_) rfl (by kernel_rfl) (by kernel_rfl) (by kernel_rfl) (by kernel_rfl) (by kernel_rfl) (fun _ _ _ h => h) (Or.inl ⟨by kernel_rfl, ?_⟩) s0 ?_
          rotate_left
          · rintro w0 ⟨h1_, h2_, h3_, h4_, h5_, h6_, h7_, h8_, h9_, h10_⟩; go_simp; (try with_reducible rfl)
          try simp only [Act.put, List.getElem_toArray, List.getElem_cons_succ, List.getElem_cons_zero, List.setIfInBounds_toArray, List.set_cons_zero, List.set_cons_succ]
          refine wpAnyL_take (i := 4) (v := ?_) rfl (by kernel_rfl) (by kernel_rfl) (by kernel_rfl) (by kernel_rfl) (by kernel_rfl) (fun _ _ _ h => h) (Or.inl ⟨by kernel_rfl, ?_⟩) s0 ?_
          rotate_left
          · rintro w0 ⟨h1_, h2_, h3_, h4_, h5_, h6_, h7_, h8_, h9_, h10_⟩; go_simp; (try with_reducible rfl)
          try simp only [Act.put, List.getElem_toArray, List.getElem_cons_succ, List.getElem_cons_zero, List.setIfInBounds_toArray, List.set_cons_zero, List.set_cons_succ]
          refine wpAnyL_take (i := 5) (v := ?_) rfl (by kernel_rfl) (by kernel_rfl) (by kernel_rfl) (by kernel_rfl) (by kernel_rfl) (fun _ _ _ h => h) (Or.inl ⟨by kernel_rfl, ?_⟩) s0 ?_
          rotate_left
          · rintro w0 ⟨h1_, h2_, h3_, h4_, h5_, h6_, h7_, h8_, h9_, h10_⟩; go_simp; (try with_reducible rfl)
          try simp only [Act.put, List.getElem_toArray, List.getElem_cons_succ, List.getElem_cons_zero, List.setIfInBounds_toArray, List.set_cons_zero, List.set_cons_succ]
          refine wpAnyL_take (i := 6) (v := ?_) rfl (by kernel_rfl) (by kernel_rfl) (by kernel_rfl) (by kernel_rfl) (by kernel_rfl) (fun _ _ _ h => h) (Or.inl ⟨by kernel_rfl, ?_⟩) s0 ?_
          rotate_left
          · rintro w0 ⟨h1_, h2_, h3_, h4_, h5_, h6_, h7_, h8_, h9_, h10_⟩; go_simp; (try with_reducible rfl)
          try simp only [Act.put, List.getElem_toArray, List.getElem_cons_succ, List.getElem_cons_zero, List.setIfInBounds_toArray, List.set_cons_zero, List.set_cons_succ]
          refine wpAnyL_take (i := 7) (v := ?_) rfl (by kernel_rfl) (by kernel_rfl) (by kernel_rfl) (by kernel_rfl) (by kernel_rfl) (fun _ _ _ h => h) (Or.inl ⟨by kernel_rfl, ?_⟩) s0 ?_
          rotate_left
          · rintro w0 ⟨h1_, h2_, h3_, h4_, h5_, h6_, h7_, h8_, h9_, h10_⟩; go_simp; (try with_reducible rfl)
          try simp only [Act.put, List.getElem_toArray, List.getElem_cons_succ, List.getElem_cons_zero, List.setIfInBounds_toArray, List.set_cons_zero, List.set_cons_succ]
          refine wpAnyL_take (i := 8) (v := ?_) rfl (by kernel_rfl) (by kernel_rfl) (by kernel_rfl) (by kernel_rfl) (by kernel_rfl) (fun _ _ _ h => h) (Or.inl ⟨by kernel_rfl, ?_⟩) s0 ?_
          rotate_left
          · rintro w0 ⟨h1_, h2_, h3_, h4_, h5_, h6_, h7_, h8_, h9_, h10_⟩; go_simp; (try with_reducible rfl)
          try simp only [Act.put, List.getElem_toArray, List.getElem_cons_succ, List.getElem_cons_zero, List.setIfInBounds_toArray, List.set_cons_zero, List.set_cons_succ]
          refine wpAnyL_take (i := 9) (v := ?_) rfl (by kernel_rfl) (by kernel_rfl) (by kernel_rfl) (by kernel_rfl) (by kernel_rfl) (fun _ _ _ h => h) (Or.inl ⟨by kernel_rfl, ?_⟩) s0 ?_
          rotate_left
          · rintro w0 ⟨h1_, h2_, h3_, h4_, h5_, h6_, h7_, h8_, h9_, h10_⟩; go_simp; (try with_reducible rfl)
          try simp only [Act.put, List.getElem_toArray, List.getElem_cons_succ, List.getElem_cons_zero, List.setIfInBounds_toArray, List.set_cons_zero, List.set_cons_succ]
          refine wpAnyL_take (i := 10) (v := ?_) rfl (by kernel_rfl) (by kernel_rfl) (by kernel_rfl) (by kernel_rfl) (by kernel_rfl) (fun _ _ _ h => h) (Or.inl ⟨by kernel_rfl, ?_⟩) s0 ?_
          rotate_left
          · rintro w0 ⟨h1_, h2_, h3_, h4_, h5_, h6_, h7_, h8_, h9_, h10_⟩; go_simp; (try with_reducible rfl)
          try simp only [Act.put, List.getElem_toArray, List.getElem_cons_succ, List.getElem_cons_zero, List.setIfInBounds_toArray, List.set_cons_zero, List.set_cons_succ]
          refine wpAnyL_take (i := 11) (v := ?_) rfl (by kernel_rfl) (by kernel_rfl) (by kernel_rfl) (by kernel_rfl) (by kernel_rfl) (fun _ _ _ h => h) (Or.inl ⟨by kernel_rfl, ?_⟩) s0 ?_
          rotate_left
          · rintro w0 ⟨h1_, h2_, h3_, h4_, h5_, h6_, h7_, h8_, h9_, h10_⟩; go_simp; (try with_reducible rfl)
          try simp only [Act.put, List.getElem_toArray, List.getElem_cons_succ, List.getElem_cons_zero, List.setIfInBounds_toArray, List.set_cons_zero, List.set_cons_succ]
          refine wpAnyL_take (i := 12) (v := ?_) rfl (by kernel_rfl) (by kernel_rfl) (by kernel_rfl) (by kernel_rfl) (by kernel_rfl) (fun _ _ _ h => h) (Or.inl ⟨by kernel_rfl, ?_⟩) s0 ?_
          rotate_left
          · rintro w0 ⟨h1_, h2_, h3_, h4_, h5_, h6_, h7_, h8_, h9_, h10_⟩; go_simp; (try with_reducible rfl)
          try simp only [Act.put, List.getElem_toArray, List.getElem_cons_succ, List.getElem_cons_zero, List.setIfInBounds_toArray, List.set_cons_zero, List.set_cons_succ]
          refine wpAnyL_take (i := 13) (v := ?_) rfl (by kernel_rfl) (by kernel_rfl) (by kernel_rfl) (by kernel_rfl) (by kernel_rfl) (fun _ _ _ h => h) (Or.inl ⟨by kernel_rfl, ?_⟩) s0 ?_
          rotate_left
          · rintro w0 ⟨h1_, h2_, h3_, h4_, h5_, h6_, h7_, h8_, h9_, h10_⟩; go_simp; (try with_reducible rfl)
          try simp only [Act.put, List.getElem_toArray, List.getElem_cons_succ, List.getElem_cons_zero, List.setIfInBounds_toArray, List.set_cons_zero, List.set_cons_succ]
          refine wpAnyL_take (i := 14) (v := ?_) rfl (by kernel_rfl) (by kernel_rfl) (by kernel_rfl) (by kernel_rfl) (by kernel_rfl) (fun _ _ _ h => h) (Or.inl ⟨by kernel_rfl, ?_⟩) s0 ?_
          rotate_left
          · rintro w0 ⟨h1_, h2_, h3_, h4_, h5_, h6_, h7_, h8_, h9_, h10_⟩; go_simp; (try with_reducible rfl)
          try simp only [Act.put, List.getElem_toArray, List.getElem_cons_succ, List.getElem_cons_zero, List.setIfInBounds_toArray, List.set_cons_zero, List.set_cons_succ]
          refine wpAnyL_take (i := 15) (v := ?_) rfl (by kernel_rfl) (by kernel_rfl) (by kernel_rfl) (by kernel_rfl) (by kernel_rfl) (fun _ _ _ h => h) (Or.inl ⟨by kernel_rfl, ?_⟩) s0 ?_
          rotate_left
          · rintro w0 ⟨h1_, h2_, h3_, h4_, h5_, h6_, h7_, h8_, h9_, h10_⟩; go_simp; (try with_reducible rfl)
          try simp only [Act.put, List.getElem_toArray, List.getElem_cons_succ, List.getElem_cons_zero, List.setIfInBounds_toArray, List.set_cons_zero, List.set_cons_succ]
          refine wpAnyL_take (i := 16) (v := ?_) rfl (by kernel_rfl) (by kernel_rfl) (by kernel_rfl) (by kernel_rfl) (by kernel_rfl) (fun _ _ _ h => h) (Or.inl ⟨by kernel_rfl, ?_⟩) s0 ?_
          rotate_left
          · rintro w0 ⟨h1_, h2_, h3_, h4_, h5_, h6_, h7_, h8_, h9_, h10_⟩; go_simp; (try with_reducible rfl)
          try simp only [Act.put, List.getElem_toArray, List.getElem_cons_succ, List.getElem_cons_zero, List.setIfInBounds_toArray, List.set_cons_zero, List.set_cons_succ]
          refine wpAnyL_take (i := 17) (v := ?_) rfl (by kernel_rfl) (by kernel_rfl) (by kernel_rfl) (by kernel_rfl) (by kernel_rfl) (fun _ _ _ h => h) (Or.inl ⟨by kernel_rfl, ?_⟩) s0 ?_
          rotate_left
          · rintro w0 ⟨h1_, h2_, h3_, h4_, h5_, h6_, h7_, h8_, h9_, h10_⟩; go_simp; (try with_reducible rfl)
          try simp only [Act.put, List.getElem_toArray, List.getElem_cons_succ, List.getElem_cons_zero, List.setIfInBounds_toArray, List.set_cons_zero, List.set_cons_succ]
          refine wpAnyL_take (i := 18) (v := ?_) rfl (by kernel_rfl) (by kernel_rfl) (by kernel_rfl) (by kernel_rfl) (by kernel_rfl) (fun _ _ _ h => h) (Or.inl ⟨by kernel_rfl, ?_⟩) s0 ?_
          rotate_left
          · rintro w0 ⟨h1_, h2_, h3_, h4_, h5_, h6_, h7_, h8_, h9_, h10_⟩; go_simp; (try with_reducible rfl)
          try simp only [Act.put, List.getElem_toArray, List.getElem_cons_succ, List.getElem_cons_zero, List.setIfInBounds_toArray, List.set_cons_zero, List.set_cons_succ]
          refine wpAnyL_take (i := 19) (v := ?_) rfl (by kernel_rfl) (by kernel_rfl) (by kernel_rfl) (by kernel_rfl) (by kernel_rfl) (fun _ _ _ h => h) (Or.inl ⟨by kernel_rfl, ?_⟩) s0 ?_
          rotate_left
          · rintro w0 ⟨h1_, h2_, h3_, h4_, h5_, h6_, h7_, h8_, h9_, h10_⟩; go_simp; (try with_reducible rfl)
          try simp only [Act.put, List.getElem_toArray, List.getElem_cons_succ, List.getElem_cons_zero, List.setIfInBounds_toArray, List.set_cons_zero, List.set_cons_succ]
          refine wpAnyL_take (i := 20) (v := ?_) rfl (by kernel_rfl) (by kernel_rfl) (by kernel_rfl) (by kernel_rfl) (by kernel_rfl) (fun _ _ _ h => h) (Or.inl ⟨by kernel_rfl, ?_⟩) s0 ?_
          rotate_left
          · rintro w0 ⟨h1_, h2_, h3_, h4_, h5_, h6_, h7_, h8_, h9_, h10_⟩; go_simp; (try with_reducible rfl)
          try simp only [Act.put, List.getElem_toArray, List.getElem_cons_succ, List.getElem_cons_zero, List.setIfInBounds_toArray, List.set_cons_zero, List.set_cons_succ]
          refine wpAnyL_take (i := 21) (v := ?_) rfl (by kernel_rfl) (by kernel_rfl) (by kernel_rfl) (by kernel_rfl) (by kernel_rfl) (fun _ _ _ h => h) (Or.inl ⟨by kernel_rfl, ?_⟩) s0 ?_
          rotate_left
          · rintro w0 ⟨h1_, h2_, h3_, h4_, h5_, h6_, h7_, h8_, h9_, h10_⟩; go_simp; (try with_reducible rfl)
          try simp only [Act.put, List.getElem_toArray, List.getElem_cons_succ, List.getElem_cons_zero, List.setIfInBounds_toArray, List.set_cons_zero, List.set_cons_succ]
          refine wpAnyL_take (i := 22) (v := ?_) rfl (by kernel_rfl) (by kernel_rfl) (by kernel_rfl) (by kernel_rfl) (by kernel_rfl) (fun _ _ _ h => h) (Or.inl ⟨by kernel_rfl, ?_⟩) s0 ?_
          rotate_left
          · rintro w0 ⟨h1_, h2_, h3_, h4_, h5_, h6_, h7_, h8_, h9_, h10_⟩; go_simp; (try with_reducible rfl)
          try simp only [Act.put, List.getElem_toArray, List.getElem_cons_succ, List.getElem_cons_zero, List.setIfInBounds_toArray, List.set_cons_zero, List.set_cons_succ]
          refine wpAnyL_take (i := 23) (v := ?_) rfl (by kernel_rfl) (by kernel_rfl) (by kernel_rfl) (by kernel_rfl) (by kernel_rfl) (fun _ _ _ h => h) (Or.inl ⟨by kernel_rfl, ?_⟩) s0 ?_
          rotate_left
          · rintro w0 ⟨h1_, h2_, h3_, h4_, h5_, h6_, h7_, h8_, h9_, h10_⟩; go_simp; (try with_reducible rfl)
          try simp only [Act.put, List.getElem_toArray, List.getElem_cons_succ, List.getElem_cons_zero, List.setIfInBounds_toArray, List.set_cons_zero, List.set_cons_succ]
          refine wpAnyL_take (i := 24) (v := ?_) rfl (by kernel_rfl) (by kernel_rfl) (by kernel_rfl) (by kernel_rfl) (by kernel_rfl) (fun _ _ _ h => h) (Or.inl ⟨by kernel_rfl, ?_⟩) s0 ?_
          rotate_left
          · rintro w0 ⟨h1_, h2_, h3_, h4_, h5_, h6_, h7_, h8_, h9_, h10_⟩; go_simp; (try with_reducible rfl)
          try simp only [Act.put, List.getElem_toArray, List.getElem_cons_succ, List.getElem_cons_zero, List.setIfInBounds_toArray, List.set_cons_zero, List.set_cons_succ]
          refine wpAnyL_take (i := 25) (v := ?_) rfl (by kernel_rfl) (by kernel_rfl) (by kernel_rfl) (by kernel_rfl) (by kernel_rfl) (fun _ _ _ h => h) (Or.inl ⟨by kernel_rfl, ?_⟩) s0 ?_
          rotate_left
          · rintro w0 ⟨h1_, h2_, h3_, h4_, h5_, h6_, h7_, h8_, h9_, h10_⟩; go_simp; (try with_reducible rfl)
          try simp only [Act.put, List.getElem_toArray, List.getElem_cons_succ, List.getElem_cons_zero, List.setIfInBounds_toArray, List.set_cons_zero, List.set_cons_succ]
          refine wpAnyL_take (i := 26) (v := ?_) rfl (by kernel_rfl) (by kernel_rfl) (by kernel_rfl) (by kernel_rfl) (by kernel_rfl) (fun _ _ _ h => h) (Or.inl ⟨by kernel_rfl, ?_⟩) s0 ?_
          rotate_left
          · rintro w0 ⟨h1_, h2_, h3_, h4_, h5_, h6_, h7_, h8_, h9_, h10_⟩; go_simp; (try with_reducible rfl)
          try simp only [Act.put, List.getElem_toArray, List.getElem_cons_succ, List.getElem_cons_zero, List.setIfInBounds_toArray, List.set_cons_zero, List.set_cons_succ]
          refine wpAnyL_take (i := 27) (v := ?_) rfl (by kernel_rfl) (by kernel_rfl) (by kernel_rfl) (by kernel_rfl) (by kernel_rfl) (fun _ _ _ h => h) (Or.inl ⟨by kernel_rfl, ?_⟩) s0 ?_
          rotate_left
          · rintro w0 ⟨h1_, h2_, h3_, h4_, h5_, h6_, h7_, h8_, h9_, h10_⟩; go_simp; (try with_reducible rfl)
          try simp only [Act.put, List.getElem_toArray, List.getElem_cons_succ, List.getElem_cons_zero, List.setIfInBounds_toArray, List.set_cons_zero, List.set_cons_succ]
          refine wpAnyL_take (i := 28) (v := ?_) rfl (by kernel_rfl) (by kernel_rfl) (by kernel_rfl) (by kernel_rfl) (by kernel_rfl) (fun _ _ _ h => h) (Or.inl ⟨by kernel_rfl, ?_⟩) s0 ?_
          rotate_left
          · rintro w0 ⟨h1_, h2_, h3_, h4_, h5_, h6_, h7_, h8_, h9_, h10_⟩; go_simp; (try with_reducible rfl)
          try simp only [Act.put, List.getElem_toArray, List.getElem_cons_succ, List.getElem_cons_zero, List.setIfInBounds_toArray, List.set_cons_zero, List.set_cons_succ]
          refine wpAnyL_take (i := 29) (v := ?_) rfl (by kernel_rfl) (by kernel_rfl) (by kernel_rfl) (by kernel_rfl) (by kernel_rfl) (fun _ _ _ h => h) (Or.inl ⟨by kernel_rfl, ?_⟩) s0 ?_
          rotate_left
          · rintro w0 ⟨h1_, h2_, h3_, h4_, h5_, h6_, h7_, h8_, h9_, h10_⟩; go_simp; (try with_reducible rfl)
          try simp only [Act.put, List.getElem_toArray, List.getElem_cons_succ, List.getElem_cons_zero, List.setIfInBounds_toArray, List.set_cons_zero, List.set_cons_succ]
          refine wpAnyL_take (i := 30) (v := ?_) rfl (by kernel_rfl) (by kernel_rfl) (by kernel_rfl) (by kernel_rfl) (by kernel_rfl) (fun _ _ _ h => h) (Or.inl ⟨by kernel_rfl, ?_⟩) s0 ?_
          rotate_left
          · rintro w0 ⟨h1_, h2_, h3_, h4_, h5_, h6_, h7_, h8_, h9_, h10_⟩; go_simp; (try with_reducible rfl)
          try simp only [Act.put, List.getElem_toArray, List.getElem_cons_succ, List.getElem_cons_zero, List.setIfInBounds_toArray, List.set_cons_zero, List.set_cons_succ]
          refine wpAnyL_take (i := 31) (v := ?_) rfl (by kernel_rfl) (by kernel_rfl) (by kernel_rfl) (by kernel_rfl) (by kernel_rfl) (fun _ _ _ h => h) (Or.inl ⟨by kernel_rfl, ?_⟩) s0 ?_
          rotate_left
          · rintro w0 ⟨h1_, h2_, h3_, h4_, h5_, h6_, h7_, h8_, h9_, h10_⟩; go_simp; (try with_reducible rfl)
          try simp only [Act.put, List.getElem_toArray, List.getElem_cons_succ, List.getElem_cons_zero, List.setIfInBounds_toArray, List.set_cons_zero, List.set_cons_succ]
          refine wpAnyL_take (i := 32) (v := ?_) rfl (by kernel_rfl) (by kernel_rfl) (by kernel_rfl) (by kernel_rfl) (by kernel_rfl) (fun _ _ _ h => h) (Or.inl ⟨by kernel_rfl, ?_⟩) s0 ?_
          rotate_left
          · rintro w0 ⟨h1_, h2_, h3_, h4_, h5_, h6_, h7_, h8_, h9_, h10_⟩; go_simp; (try with_reducible rfl)
          try simp only [Act.put, List.getElem_toArray, List.getElem_cons_succ, List.getElem_cons_zero, List.setIfInBounds_toArray, List.set_cons_zero, List.set_cons_succ]
          refine wpAnyL_take (i := 33) (v := ?_) rfl (by kernel_rfl) (by kernel_rfl) (by kernel_rfl) (by kernel_rfl) (by kernel_rfl) (fun _ _ _ h => h) (Or.inl ⟨by kernel_rfl, ?_⟩) s0 ?_
          rotate_left
          · rintro w0 ⟨h1_, h2_, h3_, h4_, h5_, h6_, h7_, h8_, h9_, h10_⟩; go_simp; (try with_reducible rfl)
          try simp only [Act.put, List.getElem_toArray, List.getElem_cons_succ, List.getElem_cons_zero, List.setIfInBounds_toArray, List.set_cons_zero, List.set_cons_succ]
          refine wpAnyL_take (i := 34) (v := ?_) rfl (by kernel_rfl) (by kernel_rfl) (by kernel_rfl) (by kernel_rfl) (by kernel_rfl) (fun _ _ _ h => h) (Or.inl ⟨by kernel_rfl, ?_⟩) s0 ?_
          rotate_left
          · rintro w0 ⟨h1_, h2_, h3_, h4_, h5_, h6_, h7_, h8_, h9_, h10_⟩; go_simp; (try with_reducible rfl)
          try simp only [Act.put, List.getElem_toArray, List.getElem_cons_succ, List.getElem_cons_zero, List.setIfInBounds_toArray, List.set_cons_zero, List.set_cons_succ]
          refine wpAnyL_take (i := 35) (v := ?_) rfl (by kernel_rfl) (by kernel_rfl) (by kernel_rfl) (by kernel_rfl) (by kernel_rfl) (fun _ _ _ h => h) (Or.inl ⟨by kernel_rfl, ?_⟩) s0 ?_
          rotate_left
          · rintro w0 ⟨h1_, h2_, h3_, h4_, h5_, h6_, h7_, h8_, h9_, h10_⟩; go_simp; (try with_reducible rfl)
          try simp only [Act.put, List.getElem_toArray, List.getElem_cons_succ, List.getElem_cons_zero, List.setIfInBounds_toArray, List.set_cons_zero, List.set_cons_succ]
          refine wpAnyL_take (i := 36) (v := undef) rfl (by kernel_rfl) (by kernel_rfl) (by kernel_rfl) (by kernel_rfl) (by kernel_rfl) (fun _ _ _ h => h) (Or.inr ⟨by kernel_rfl, rfl⟩) s0 ?_
          try simp only [Act.put, List.getElem_toArray, List.getElem_cons_succ, List.getElem_cons_zero, List.setIfInBounds_toArray, List.set_cons_zero, List.set_cons_succ]
          refine wpAnyL_take (i := 37) (v := undef) rfl (by kernel_rfl) (by kernel_rfl) (by kernel_rfl) (by kernel_rfl) (by kernel_rfl) (fun _ _ _ h => h) (Or.inr ⟨by kernel_rfl, rfl⟩) s0 ?_
          try simp only [Act.put, List.getElem_toArray, List.getElem_cons_succ, List.getElem_cons_zero, List.setIfInBounds_toArray, List.set_cons_zero, List.set_cons_succ]
          refine wpAnyL_take (i := 38) (v := undef) rfl (by kernel_rfl) (by kernel_rfl) (by kernel_rfl) (by kernel_rfl) (by kernel_rfl) (fun _ _ _ h => h) (Or.inr ⟨by kernel_rfl, rfl⟩) s0 ?_
          try simp only [Act.put, List.getElem_toArray, List.getElem_cons_succ, List.getElem_cons_zero, List.setIfInBounds_toArray, List.set_cons_zero, List.set_cons_succ]
          refine wpAnyL_take (i := 39) (v := undef) rfl (by kernel_rfl) (by kernel_rfl) (by kernel_rfl) (by kernel_rfl) (by kernel_rfl) (fun _ _ _ h => h) (Or.inr ⟨by kernel_rfl, rfl⟩) s0 ?_
          try simp only [Act.put, List.getElem_toArray, List.getElem_cons_succ, List.getElem_cons_zero, List.setIfInBounds_toArray, List.set_cons_zero, List.set_cons_succ]
          refine wpAnyL_take (i := 40) (v := undef) rfl (by kernel_rfl) (by kernel_rfl) (by kernel_rfl) (by kernel_rfl) (by kernel_rfl) (fun _ _ _ h => h) (Or.inr ⟨by kernel_rfl, rfl⟩) s0 ?_
          try simp only [Act.put, List.getElem_toArray, List.getElem_cons_succ, List.getElem_cons_zero, List.setIfInBounds_toArray, List.set_cons_zero, List.set_cons_succ]
          refine wpAnyL_take (i := 41) (v := undef) rfl (by kernel_rfl) (by kernel_rfl) (by kernel_rfl) (by kernel_rfl) (by kernel_rfl) (fun _ _ _ h => h) (Or.inr ⟨by kernel_rfl, rfl⟩) s0 ?_
          try simp only [Act.put, List.getElem_toArray, List.getElem_cons_succ, List.getElem_cons_zero, List.setIfInBounds_toArray, List.set_cons_zero, List.set_cons_succ]
          refine wpAnyL_take (i := 42) (v := undef) rfl (by kernel_rfl) (by kernel_rfl) (by kernel_rfl) (by kernel_rfl) (by kernel_rfl) (fun _ _ _ h => h) (Or.inr ⟨by kernel_rfl, rfl⟩) s0 ?_
          try simp only [Act.put, List.getElem_toArray, List.getElem_cons_succ, List.getElem_cons_zero, List.setIfInBounds_toArray, List.set_cons_zero, List.set_cons_succ]
          refine wpAnyL_take (i := 43) (v := ?_) rfl (by kernel_rfl) (by kernel_rfl) (by kernel_rfl) (by kernel_rfl) (by kernel_rfl) (fun _ _ _ h => h) (Or.inl ⟨by kernel_rfl, ?_⟩) s0 ?_
          rotate_left
          · rintro w0 ⟨h1_, h2_, h3_, h4_, h5_, h6_, h7_, h8_, h9_, h10_⟩; go_simp; (try with_reducible rfl)
          try simp only [Act.put, List.getElem_toArray, List.getElem_cons_succ, List.getElem_cons_zero, List.setIfInBounds_toArray, List.set_cons_zero, List.set_cons_succ]
          refine wpAnyL_one (i := 44) (by kernel_rfl) rfl (fun K hK => ?_)
          go_simp
          refine hK.out _ _ (fun _ => s0) ?_
          clear hK K
          try simp only [Act.put, List.getElem_toArray, List.getElem_cons_succ, List.getElem_cons_zero, List.setIfInBounds_toArray, List.set_cons_zero, List.set_cons_succ]
          refine wpAnyL_done (by kernel_rfl) ?_ _
          refine tight_normal ?_
          exact HR4.out _ _ _ _ _ _ _ _ _ _ _ _ _ _ _ _ _ _ _ _ _ _ _ _ _ _ _ _ _ _ _ _ _ _ _ _ _ _ _ _ _ _ _ _ _ _ _ _ _ _ _ _ _ _ _ _ _
        have q5 : ((xsq : Int) == (zs : Int)) = true := by simp only [beq_iff_eq]; omega
        by_cases c6 : xq = zq
        case neg =>
          have q6 : (xq == zq) = false := by simp only [beq_eq_false_iff_ne, ne_eq]; omega
          have e : rt = false := by rw [hright]; simp [c1, c2, c3, c4, c5, c6]
          subst e
          clear hright c1 c2 c4 c5 c6
          refine wpIn_round_late [] (fun w' : World => w'.cell? ⟨X, 0, none⟩ = some (.int .u32 (xg : Int)) ∧ w'.cell? ⟨X, 1, none⟩ = some (.int .u32 (xsq : Int)) ∧ w'.cell? ⟨X, 2, none⟩ = some (.int .i64 xp) ∧ w'.cell? ⟨X, 3, none⟩ = some (.int .i64 xq) ∧ w'.cell? ⟨B, 0, none⟩ = some (.pointer (some ⟨h, 0, none⟩)) ∧ w'.cell? ⟨h, 3, none⟩ = some (.int .u32 (t.gen : Int)) ∧ w'.cell? ⟨G + 1 + 1, 0, none⟩ = some (.int .u32 (Clast : Int)) ∧ w'.cell? ⟨G + 1, 0, none⟩ = some (.slice (some ⟨ga, 0, none⟩) n' c5) ∧ w'.cell? ⟨ga, 1, none⟩ = some (.int .u32 (zs : Int)) ∧ w'.cell? ⟨ga, 3, none⟩ = some (.int .i64 zq)) (by kernel_rfl) (by kernel_rfl) ?_
          rw [hwd]
          clear hwd
          refine wpAnyL_take (i := 0) (v := ?_) rfl (by kernel_rfl) (by kernel_rfl) (by kernel_rfl) (by kernel_rfl) (by kernel_rfl) (fun _ _ _ h => h) (Or.inl ⟨by kernel_rfl, ?_⟩) s0 ?_
          rotate_left
          · rintro w0 ⟨h1_, h2_, h3_, h4_, h5_, h6_, h7_, h8_, h9_, h10_⟩; go_simp; (try with_reducible rfl)
          try simp only [Act.put, List.getElem_toArray, List.getElem_cons_succ, List.getElem_cons_zero, List.setIfInBounds_toArray, List.set_cons_zero, List.set_cons_succ]
          refine wpAnyL_take (i := 1) (v := ?_) rfl (by kernel_rfl) (by kernel_rfl) (by kernel_rfl) (by kernel_rfl) (by kernel_rfl) (fun _ _ _ h => h) (Or.inl ⟨by kernel_rfl, ?_⟩) s0 ?_
          rotate_left
          · rintro w0 ⟨h1_, h2_, h3_, h4_, h5_, h6_, h7_, h8_, h9_, h10_⟩; go_simp; (try with_reducible rfl)
          try simp only [Act.put, List.getElem_toArray, List.getElem_cons_succ, List.getElem_cons_zero, List.setIfInBounds_toArray, List.set_cons_zero, List.set_cons_succ]
          refine wpAnyL_take (i := 2) (v := ?_) rfl (by kernel_rfl) (by kernel_rfl) (by kernel_rfl) (by kernel_rfl) (by kernel_rfl) (fun _ _ _ h => h) (Or.inl ⟨by kernel_rfl, ?_⟩) s0 ?_
          rotate_left
          · rintro w0 ⟨h1_, h2_, h3_, h4_, h5_, h6_, h7_, h8_, h9_, h10_⟩; go_simp; (try with_reducible rfl)
          try simp only [Act.put, List.getElem_toArray, List.getElem_cons_succ, List.getElem_cons_zero, List.setIfInBounds_toArray, List.set_cons_zero, List.set_cons_succ]
          refine wpAnyL_take (i := 3) (v := ?_) rfl (by kernel_rfl) (by kernel_rfl) (by kernel_rfl) (by kernel_rfl) (by kernel_rfl) (fun _ _ _ h => h) (Or.inl ⟨by kernel_rfl, ?_⟩) s0 ?_
          rotate_left
          · rintro w0 ⟨h1_, h2_, h3_, h4_, h5_, h6_, h7_, h8_, h9_, h10_⟩; go_simp; (try with_reducible rfl)
          try simp only [Act.put, List.getElem_toArray, List.getElem_cons_succ, List.getElem_cons_zero, List.setIfInBounds_toArray, List.set_cons_zero, List.set_cons_succ]
          refine wpAnyL_take (i := 4) (v := ?_) rfl (by kernel_rfl) (by kernel_rfl) (by kernel_rfl) (by kernel_rfl) (by kernel_rfl) (fun _ _ _ h => h) (Or.inl ⟨by kernel_rfl, ?_⟩) s0 ?_
          rotate_left
          · rintro w0 ⟨h1_, h2_, h3_, h4_, h5_, h6_, h7_, h8_, h9_, h10_⟩; go_simp; (try with_reducible rfl)
          try simp only [Act.put, List.getElem_toArray, List.getElem_cons_succ, List.getElem_cons_zero, List.setIfInBounds_toArray, List.set_cons_zero, List.set_cons_succ]
          refine wpAnyL_take (i := 5) (v := ?_) rfl (by kernel_rfl) (by kernel_rfl) (by kernel_rfl) (by kernel_rfl) (by kernel_rfl) (fun _ _ _ h => h) (Or.inl ⟨by kernel_rfl, ?_⟩) s0 ?_
          rotate_left
          · rintro w0 ⟨h1_, h2_, h3_, h4_, h5_, h6_, h7_, h8_, h9_, h10_⟩; go_simp; (try with_reducible rfl)
          try simp only [Act.put, List.getElem_toArray, List.getElem_cons_succ, List.getElem_cons_zero, List.setIfInBounds_toArray, List.set_cons_zero, List.set_cons_succ]
          refine wpAnyL_take (i := 6) (v := ?_) rfl (by kernel_rfl) (by kernel_rfl) (by kernel_rfl) (by kernel_rfl) (by kernel_rfl) (fun _ _ _ h => h) (Or.inl ⟨by kernel_rfl, ?_⟩) s0 ?_
          rotate_left
          · rintro w0 ⟨h1_, h2_, h3_, h4_, h5_, h6_, h7_, h8_, h9_, h10_⟩; go_simp; (try with_reducible rfl)
          try simp only [Act.put, List.getElem_toArray, List.getElem_cons_succ, List.getElem_cons_zero, List.setIfInBounds_toArray, List.set_cons_zero, List.set_cons_succ]
          refine wpAnyL_take (i := 7) (v := ?_) rfl (by kernel_rfl) (by kernel_rfl) (by kernel_rfl) (by kernel_rfl) (by kernel_rfl) (fun _ _ _ h => h) (Or.inl ⟨by kernel_rfl, ?_⟩) s0 ?_
          rotate_left
          · rintro w0 ⟨h1_, h2_, h3_, h4_, h5_, h6_, h7_, h8_, h9_, h10_⟩; go_simp; (try with_reducible rfl)
          try simp only [Act.put, List.getElem_toArray, List.getElem_cons_succ, List.getElem_cons_zero, List.setIfInBounds_toArray, List.set_cons_zero, List.set_cons_succ]
          refine wpAnyL_take (i := 8) (v := ?_) rfl (by kernel_rfl) (by kernel_rfl) (by kernel_rfl) (by kernel_rfl) (by kernel_rfl) (fun _ _ _ h => h) (Or.inl ⟨by kernel_rfl, ?_⟩) s0 ?_
          rotate_left
          · rintro w0 ⟨h1_, h2_, h3_, h4_, h5_, h6_, h7_, h8_, h9_, h10_⟩; go_simp; (try with_reducible rfl)
          try simp only [Act.put, List.getElem_toArray, List.getElem_cons_succ, List.getElem_cons_zero, List.setIfInBounds_toArray, List.set_cons_zero, List.set_cons_succ]
          refine wpAnyL_take (i := 9) (v := ?_) rfl (by kernel_rfl) (by kernel_rfl) (by kernel_rfl) (by kernel_rfl) (by kernel_rfl) (fun _ _ _ h => h) (Or.inl ⟨by kernel_rfl, ?_⟩) s0 ?_
          rotate_left
          · rintro w0 ⟨h1_, h2_, h3_, h4_, h5_, h6_, h7_, h8_, h9_, h10_⟩; go_simp; (try with_reducible rfl)
          try simp only [Act.put, List.getElem_toArray, List.getElem_cons_succ, List.getElem_cons_zero, List.setIfInBounds_toArray, List.set_cons_zero, List.set_cons_succ]
          refine wpAnyL_take (i := 10) (v := ?_) rfl (by kernel_rfl) (by kernel_rfl) (by kernel_rfl) (by kernel_rfl) (by kernel_rfl) (fun _ _ _ h => h) (Or.inl ⟨by kernel_rfl, ?_⟩) s0 ?_
          rotate_left
          · rintro w0 ⟨h1_, h2_, h3_, h4_, h5_, h6_, h7_, h8_, h9_, h10_⟩; go_simp; (try with_reducible rfl)
          try simp only [Act.put, List.getElem_toArray, List.getElem_cons_succ, List.getElem_cons_zero, List.setIfInBounds_toArray, List.set_cons_zero, List.set_cons_succ]
          refine wpAnyL_take (i := 11) (v := ?_) rfl (by kernel_rfl) (by kernel_rfl) (by kernel_rfl) (by kernel_rfl) (by kernel_rfl) (fun _ _ _ h => h) (Or.inl ⟨by kernel_rfl, ?_⟩) s0 ?_
          rotate_left
          · rintro w0 ⟨h1_, h2_, h3_, h4_, h5_, h6_, h7_, h8_, h9_, h10_⟩; go_simp; (try with_reducible rfl)
          try simp only [Act.put, List.getElem_toArray, List.getElem_cons_succ, List.getElem_cons_zero, List.setIfInBounds_toArray, List.set_cons_zero, List.set_cons_succ]
          refine wpAnyL_take (i := 12) (v := ?_) rfl (by kernel_rfl) (by kernel_rfl) (by kernel_rfl) (by kernel_rfl) (by kernel_rfl) (fun _ _ _ h => h) (Or.inl ⟨by kernel_rfl, ?_⟩) s0 ?_
          rotate_left
          · rintro w0 ⟨h1_, h2_, h3_, h4_, h5_, h6_, h7_, h8_, h9_, h10_⟩; go_simp; (try with_reducible rfl)
          try simp only [Act.put, List.getElem_toArray, List.getElem_cons_succ, List.getElem_cons_zero, List.setIfInBounds_toArray, List.set_cons_zero, List.set_cons_succ]
          refine wpAnyL_take (i := 13) (v := ?_) rfl (by kernel_rfl) (by kernel_rfl) (by kernel_rfl) (by kernel_rfl) (by kernel_rfl) (fun _ _ _ h => h) (Or.inl ⟨by kernel_rfl, ?_⟩) s0 ?_
          rotate_left
          · rintro w0 ⟨h1_, h2_, h3_, h4_, h5_, h6_, h7_, h8_, h9_, h10_⟩; go_simp; (try with_reducible rfl)
          try simp only [Act.put, List.getElem_toArray, List.getElem_cons_succ, List.getElem_cons_zero, List.setIfInBounds_toArray, List.set_cons_zero, List.set_cons_succ]
          refine wpAnyL_take (i := 14) (v := ?_) rfl (by kernel_rfl) (by kernel_rfl) (by kernel_rfl) (by kernel_rfl) (by kernel_rfl) (fun _ _ _ h => h) (Or.inl ⟨by kernel_rfl, ?_⟩) s0 ?_
          rotate_left
          · rintro w0 ⟨h1_, h2_, h3_, h4_, h5_, h6_, h7_, h8_, h9_, h10_⟩; go_simp; (try with_reducible rfl)
          try simp only [Act.put, List.getElem_toArray, List.getElem_cons_succ, List.getElem_cons_zero, List.setIfInBounds_toArray, List.set_cons_zero, List.set_cons_succ]
          refine wpAnyL_take (i := 15) (v := ?_) rfl (by kernel_rfl) (by kernel_rfl) (by kernel_rfl) (by kernel_rfl) (by kernel_rfl) (fun _ _ _ h => h) (Or.inl ⟨by kernel_rfl, ?_⟩) s0 ?_
          rotate_left
          · rintro w0 ⟨h1_, h2_, h3_, h4_, h5_, h6_, h7_, h8_, h9_, h10_⟩; go_simp; (try with_reducible rfl)
          try simp only [Act.put, List.getElem_toArray, List.getElem_cons_succ, List.getElem_cons_zero, List.setIfInBounds_toArray, List.set_cons_zero, List.set_cons_succ]
          refine wpAnyL_take (i := 16) (v := ?_) rfl (by kernel_rfl) (by kernel_rfl) (by kernel_rfl) (by kernel_rfl) (by kernel_rfl) (fun _ _ _ h => h) (Or.inl ⟨by kernel_rfl, ?_⟩) s0 ?_
          rotate_left
          · rintro w0 ⟨h1_, h2_, h3_, h4_, h5_, h6_, h7_, h8_, h9_, h10_⟩; go_simp; (try with_reducible rfl)
          try simp only [Act.put, List.getElem_toArray, List.getElem_cons_succ, List.getElem_cons_zero, List.setIfInBounds_toArray, List.set_cons_zero, List.set_cons_succ]
          refine wpAnyL_take (i := 17) (v := ?_) rfl (by kernel_rfl) (by kernel_rfl) (by kernel_rfl) (by kernel_rfl) (by kernel_rfl) (fun _ _ _ h => h) (Or.inl ⟨by kernel_rfl, ?_⟩) s0 ?_
          rotate_left
          · rintro w0 ⟨h1_, h2_, h3_, h4_, h5_, h6_, h7_, h8_, h9_, h10_⟩; go_simp; (try with_reducible rfl)
          try simp only [Act.put, List.getElem_toArray, List.getElem_cons_succ, List.getElem_cons_zero, List.setIfInBounds_toArray, List.set_cons_zero, List.set_cons_succ]
          refine wpAnyL_take (i := 18) (v := ?_) rfl (by kernel_rfl) (by kernel_rfl) (by kernel_rfl) (by kernel_rfl) (by kernel_rfl) (fun _ _ _ h => h) (Or.inl ⟨by kernel_rfl, ?_⟩) s0 ?_
          rotate_left
          · rintro w0 ⟨h1_, h2_, h3_, h4_, h5_, h6_, h7_, h8_, h9_, h10_⟩; go_simp; (try with_reducible rfl)
          try simp only [Act.put, List.getElem_toArray, List.getElem_cons_succ, List.getElem_cons_zero, List.setIfInBounds_toArray, List.set_cons_zero, List.set_cons_succ]
          refine wpAnyL_take (i := 19) (v := ?_) rfl (by kernel_rfl) (by kernel_rfl) (by kernel_rfl) (by kernel_rfl) (by kernel_rfl) (fun _ _ _ h => h) (Or.inl ⟨by kernel_rfl, ?_⟩) s0 ?_
          rotate_left
          · rintro w0 ⟨h1_, h2_, h3_, h4_, h5_, h6_, h7_, h8_, h9_, h10_⟩; go_simp; (try with_reducible rfl)
          try simp only [Act.put, List.getElem_toArray, List.getElem_cons_succ, List.getElem_cons_zero, List.setIfInBounds_toArray, List.set_cons_zero, List.set_cons_succ]
          refine wpAnyL_take (i := 20) (v := ?_) rfl (by kernel_rfl) (by kernel_rfl) (by kernel_rfl) (by kernel_rfl) (by kernel_rfl) (fun _ _ _ h => h) (Or.inl ⟨by kernel_rfl, ?_⟩) s0 ?_
          rotate_left
          · rintro w0 ⟨h1_, h2_, h3_, h4_, h5_, h6_, h7_, h8_, h9_, h10_⟩; go_simp; (try with_reducible rfl)
          try simp only [Act.put, List.getElem_toArray, List.getElem_cons_succ, List.getElem_cons_zero, List.setIfInBounds_toArray, List.set_cons_zero, List.set_cons_succ]
          refine wpAnyL_take (i := 21) (v := ?_) rfl (by kernel_rfl) (by kernel_rfl) (by kernel_rfl) (by kernel_rfl) (by kernel_rfl) (fun _ _ _ h => h) (Or.inl ⟨by kernel_rfl, ?_⟩) s0 ?_
          rotate_left
          · rintro w0 ⟨h1_, h2_, h3_, h4_, h5_, h6_, h7_, h8_, h9_, h10_⟩; go_simp; (try with_reducible rfl)
          try simp only [Act.put, List.getElem_toArray, List.getElem_cons_succ, List.getElem_cons_zero, List.setIfInBounds_toArray, List.set_cons_zero, List.set_cons_succ]
          refine wpAnyL_take (i := 22) (v := ?_) rfl (by kernel_rfl) (by kernel_rfl) (by kernel_rfl) (by kernel_rfl) (by kernel_rfl) (fun _ _ _ h => h) (Or.inl ⟨by kernel_rfl, ?_⟩) s0 ?_
          rotate_left
          · rintro w0 ⟨h1_, h2_, h3_, h4_, h5_, h6_, h7_, h8_, h9_, h10_⟩; go_simp; (try with_reducible rfl)
          try simp only [Act.put, List.getElem_toArray, List.getElem_cons_succ, List.getElem_cons_zero, List.setIfInBounds_toArray, List.set_cons_zero, List.set_cons_succ]
          refine wpAnyL_take (i := 23) (v := ?_) rfl (by kernel_rfl) (by kernel_rfl) (by kernel_rfl) (by kernel_rfl) (by kernel_rfl) (fun _ _ _ h => h) (Or.inl ⟨by kernel_rfl, ?_⟩) s0 ?_
          rotate_left
          · rintro w0 ⟨h1_, h2_, h3_, h4_, h5_, h6_, h7_, h8_, h9_, h10_⟩; go_simp; (try with_reducible rfl)
          try simp only [Act.put, List.getElem_toArray, List.getElem_cons_succ, List.getElem_cons_zero, List.setIfInBounds_toArray, List.set_cons_zero, List.set_cons_succ]
          refine wpAnyL_take (i := 24) (v := ?_) rfl (by kernel_rfl) (by kernel_rfl) (by kernel_rfl) (by kernel_rfl) (by kernel_rfl) (fun _ _ _ h => h) (Or.inl ⟨by kernel_rfl, ?_⟩) s0 ?_
          rotate_left
          · rintro w0 ⟨h1_, h2_, h3_, h4_, h5_, h6_, h7_, h8_, h9_, h10_⟩; go_simp; (try with_reducible rfl)
          try simp only [Act.put, List.getElem_toArray, List.getElem_cons_succ, List.getElem_cons_zero, List.setIfInBounds_toArray, List.set_cons_zero, List.set_cons_succ]
          refine wpAnyL_take (i := 25) (v := ?_) rfl (by kernel_rfl) (by kernel_rfl) (by kernel_rfl) (by kernel_rfl) (by kernel_rfl) (fun _ _ _ h => h) (Or.inl ⟨by kernel_rfl, ?_⟩) s0 ?_
          rotate_left
          · rintro w0 ⟨h1_, h2_, h3_, h4_, h5_, h6_, h7_, h8_, h9_, h10_⟩; go_simp; (try with_reducible rfl)
          try simp only [Act.put, List.getElem_toArray, List.getElem_cons_succ, List.getElem_cons_zero, List.setIfInBounds_toArray, List.set_cons_zero, List.set_cons_succ]
          refine wpAnyL_take (i := 26) (v := ?_) rfl (by kernel_rfl) (by kernel_rfl) (by kernel_rfl) (by kernel_rfl) (by kernel_rfl) (fun _ _ _ h => h) (Or.inl ⟨by kernel_rfl, ?_⟩) s0 ?_
          rotate_left
          · rintro w0 ⟨h1_, h2_, h3_, h4_, h5_, h6_, h7_, h8_, h9_, h10_⟩; go_simp; (try with_reducible rfl)
          try simp only [Act.put, List.getElem_toArray, List.getElem_cons_succ, List.getElem_cons_zero, List.setIfInBounds_toArray, List.set_cons_zero, List.set_cons_succ]
          refine wpAnyL_take (i := 27) (v := ?_) rfl (by kernel_rfl) (by kernel_rfl) (by kernel_rfl) (by kernel_rfl) (by kernel_rfl) (fun _ _ _ h => h) (Or.inl ⟨by kernel_rfl, ?_⟩) s0 ?_
          rotate_left
          · rintro w0 ⟨h1_, h2_, h3_, h4_, h5_, h6_, h7_, h8_, h9_, h10_⟩; go_simp; (try with_reducible rfl)
          try simp only [Act.put, List.getElem_toArray, List.getElem_cons_succ, List.getElem_cons_zero, List.setIfInBounds_toArray, List.set_cons_zero, List.set_cons_succ]
          refine wpAnyL_take (i := 28) (v := ?_) rfl (by kernel_rfl) (by kernel_rfl) (by kernel_rfl) (by kernel_rfl) (by kernel_rfl) (fun _ _ _ h => h) (Or.inl ⟨by kernel_rfl, ?_⟩) s0 ?_
          rotate_left
          · rintro w0 ⟨h1_, h2_, h3_, h4_, h5_, h6_, h7_, h8_, h9_, h10_⟩; go_simp; (try with_reducible rfl)
          try simp only [Act.put, List.getElem_toArray, List.getElem_cons_succ, List.getElem_cons_zero, List.setIfInBounds_toArray, List.set_cons_zero, List.set_cons_succ]
          refine wpAnyL_take (i := 29) (v := ?_) rfl (by kernel_rfl) (by kernel_rfl) (by kernel_rfl) (by kernel_rfl) (by kernel_rfl) (fun _ _ _ h => h) (Or.inl ⟨by kernel_rfl, ?_⟩) s0 ?_
          rotate_left
          · rintro w0 ⟨h1_, h2_, h3_, h4_, h5_, h6_, h7_, h8_, h9_, h10_⟩; go_simp; (try with_reducible rfl)
          try simp only [Act.put, List.getElem_toArray, List.getElem_cons_succ, List.getElem_cons_zero, List.setIfInBounds_toArray, List.set_cons_zero, List.set_cons_succ]
          refine wpAnyL_take (i := 30) (v := ?_) rfl (by kernel_rfl) (by kernel_rfl) (by kernel_rfl) (by kernel_rfl) (by kernel_rfl) (fun _ _ _ h => h) (Or.inl ⟨by kernel_rfl, ?_⟩) s0 ?_
          rotate_left
          · rintro w0 ⟨h1_, h2_, h3_, h4_, h5_, h6_, h7_, h8_, h9_, h10_⟩; go_simp; (try with_reducible rfl)
          try simp only [Act.put, List.getElem_toArray, List.getElem_cons_succ, List.getElem_cons_zero, List.setIfInBounds_toArray, List.set_cons_zero, List.set_cons_succ]
          refine wpAnyL_take (i := 31) (v := ?_) rfl (by kernel_rfl) (by kernel_rfl) (by kernel_rfl) (by kernel_rfl) (by kernel_rfl) (fun _ _ _ h => h) (Or.inl ⟨by kernel_rfl, ?_⟩) s0 ?_
          rotate_left
          · rintro w0 ⟨h1_, h2_, h3_, h4_, h5_, h6_, h7_, h8_, h9_, h10_⟩; go_simp; (try with_reducible rfl)
          try simp only [Act.put, List.getElem_toArray, List.getElem_cons_succ, List.getElem_cons_zero, List.setIfInBounds_toArray, List.set_cons_zero, List.set_cons_succ]
          refine wpAnyL_take (i := 32) (v := ?_) rfl (by kernel_rfl) (by kernel_rfl) (by kernel_rfl) (by kernel_rfl) (by kernel_rfl) (fun _ _ _ h => h) (Or.inl ⟨by kernel_rfl, ?_⟩) s0 ?_
          rotate_left
          · rintro w0 ⟨h1_, h2_, h3_, h4_, h5_, h6_, h7_, h8_, h9_, h10_⟩; go_simp; (try with_reducible rfl)
          try simp only [Act.put, List.getElem_toArray, List.getElem_cons_succ, List.getElem_cons_zero, List.setIfInBounds_toArray, List.set_cons_zero, List.set_cons_succ]
          refine wpAnyL_take (i := 33) (v := ?_) rfl (by kernel_rfl) (by kernel_rfl) (by kernel_rfl) (by kernel_rfl) (by kernel_rfl) (fun _ _ _ h => h) (Or.inl ⟨by kernel_rfl, ?_⟩) s0 ?_
          rotate_left
          · rintro w0 ⟨h1_, h2_, h3_, h4_, h5_, h6_, h7_, h8_, h9_, h10_⟩; go_simp; (try with_reducible rfl)
          try simp only [Act.put, List.getElem_toArray, List.getElem_cons_succ, List.getElem_cons_zero, List.setIfInBounds_toArray, List.set_cons_zero, List.set_cons_succ]
          refine wpAnyL_take (i := 34) (v := ?_) rfl (by kernel_rfl) (by kernel_rfl) (by kernel_rfl) (by kernel_rfl) (by kernel_rfl) (fun _ _ _ h => h) (Or.inl ⟨by kernel_rfl, ?_⟩) s0 ?_
          rotate_left
          · rintro w0 ⟨h1_, h2_, h3_, h4_, h5_, h6_, h7_, h8_, h9_, h10_⟩; go_simp; (try with_reducible rfl)
          try simp only [Act.put, List.getElem_toArray, List.getElem_cons_succ, List.getElem_cons_zero, List.setIfInBounds_toArray, List.set_cons_zero, List.set_cons_succ]
          refine wpAnyL_take (i := 35) (v := ?_) rfl (by kernel_rfl) (by kernel_rfl) (by kernel_rfl) (by kernel_rfl) (by kernel_rfl) (fun _ _ _ h => h) (Or.inl ⟨by kernel_rfl, ?_⟩) s0 ?_
          rotate_left
          · rintro w0 ⟨h1_, h2_, h3_, h4_, h5_, h6_, h7_, h8_, h9_, h10_⟩; go_simp; (try with_reducible rfl)
          try simp only [Act.put, List.getElem_toArray, List.getElem_cons_succ, List.getElem_cons_zero, List.setIfInBounds_toArray, List.set_cons_zero, List.set_cons_succ]
          refine wpAnyL_take (i := 36) (v := ?_) rfl (by kernel_rfl) (by kernel_rfl) (by kernel_rfl) (by kernel_rfl) (by kernel_rfl) (fun _ _ _ h => h) (Or.inl ⟨by kernel_rfl, ?_⟩) s0 ?_
          rotate_left
          · rintro w0 ⟨h1_, h2_, h3_, h4_, h5_, h6_, h7_, h8_, h9_, h10_⟩; go_simp; (try with_reducible rfl)
          try simp only [Act.put, List.getElem_toArray, List.getElem_cons_succ, List.getElem_cons_zero, List.setIfInBounds_toArray, List.set_cons_zero, List.set_cons_succ]
          refine wpAnyL_take (i := 37) (v := ?_) rfl (by kernel_rfl) (by kernel_rfl) (by kernel_rfl) (by kernel_rfl) (by kernel_rfl) (fun _ _ _ h => h) (Or.inl ⟨by kernel_rfl, ?_⟩) s0 ?_
          rotate_left
          · rintro w0 ⟨h1_, h2_, h3_, h4_, h5_, h6_, h7_, h8_, h9_, h10_⟩; go_simp; (try with_reducible rfl)
          try simp only [Act.put, List.getElem_toArray, List.getElem_cons_succ, List.getElem_cons_zero, List.setIfInBounds_toArray, List.set_cons_zero, List.set_cons_succ]
          refine wpAnyL_take (i := 38) (v := ?_) rfl (by kernel_rfl) (by kernel_rfl) (by kernel_rfl) (by kernel_rfl) (by kernel_rfl) (fun _ _ _ h => h) (Or.inl ⟨by kernel_rfl, ?_⟩) s0 ?_
          rotate_left
          · rintro w0 ⟨h1_, h2_, h3_, h4_, h5_, h6_, h7_, h8_, h9_, h10_⟩; go_simp; (try with_reducible rfl)
          try simp only [Act.put, List.getElem_toArray, List.getElem_cons_succ, List.getElem_cons_zero, List.setIfInBounds_toArray, List.set_cons_zero, List.set_cons_succ]
          refine wpAnyL_take (i := 39) (v := ?_) rfl (by kernel_rfl) (by kernel_rfl) (by kernel_rfl) (by kernel_rfl) (by kernel_rfl) (fun _ _ _ h => h) (Or.inl ⟨by kernel_rfl, ?_⟩) s0 ?_
          rotate_left
          · rintro w0 ⟨h1_, h2_, h3_, h4_, h5_, h6_, h7_, h8_, h9_, h10_⟩; go_simp; (try with_reducible rfl)
          try simp only [Act.put, List.getElem_toArray, List.getElem_cons_succ, List.getElem_cons_zero, List.setIfInBounds_toArray, List.set_cons_zero, List.set_cons_succ]
          refine wpAnyL_take (i := 40) (v := ?_) rfl (by kernel_rfl) (by kernel_rfl) (by kernel_rfl) (by kernel_rfl) (by kernel_rfl) (fun _ _ _ h => h) (Or.inl ⟨by kernel_rfl, ?_⟩) s0 ?_
          rotate_left
          · rintro w0 ⟨h1_, h2_, h3_, h4_, h5_, h6_, h7_, h8_, h9_, h10_⟩; go_simp; (try with_reducible rfl)
          try simp only [Act.put, List.getElem_toArray, List.getElem_cons_succ, List.getElem_cons_zero, List.setIfInBounds_toArray, List.set_cons_zero, List.set_cons_succ]
          refine wpAnyL_take (i := 41) (v := ?_) rfl (by kernel_rfl) (by kernel_rfl) (by kernel_rfl) (by kernel_rfl) (by kernel_rfl) (fun _ _ _ h => h) (Or.inl ⟨by kernel_rfl, ?_⟩) s0 ?_
          rotate_left
          · rintro w0 ⟨h1_, h2_, h3_, h4_, h5_, h6_, h7_, h8_, h9_, h10_⟩; go_simp; (try with_reducible rfl)
          try simp only [Act.put, List.getElem_toArray, List.getElem_cons_succ, List.getElem_cons_zero, List.setIfInBounds_toArray, List.set_cons_zero, List.set_cons_succ]
          refine wpAnyL_take (i := 42) (v := ?_) rfl (by kernel_rfl) (by kernel_rfl) (by kernel_rfl) (by kernel_rfl) (by kernel_rfl) (fun _ _ _ h => h) (Or.inl ⟨by kernel_rfl, ?_⟩) s0 ?_
          rotate_left
          · rintro w0 ⟨h1_, h2_, h3_, h4_, h5_, h6_, h7_, h8_, h9_, h10_⟩; go_simp; (try with_reducible rfl)
          try simp only [Act.put, List.getElem_toArray, List.getElem_cons_succ, List.getElem_cons_zero, List.setIfInBounds_toArray, List.set_cons_zero, List.set_cons_succ]
          refine wpAnyL_take (i := 43) (v := ?_) rfl (by kernel_rfl) (by kernel_rfl) (by kernel_rfl) (by kernel_rfl) (by kernel_rfl) (fun _ _ _ h => h) (Or.inl ⟨by kernel_rfl, ?_⟩) s0 ?_
          rotate_left
          · rintro w0 ⟨h1_, h2_, h3_, h4_, h5_, h6_, h7_, h8_, h9_, h10_⟩; go_simp; (try with_reducible rfl)
          try simp only [Act.put, List.getElem_toArray, List.getElem_cons_succ, List.getElem_cons_zero, List.setIfInBounds_toArray, List.set_cons_zero, List.set_cons_succ]
          refine wpAnyL_one (i := 44) (by kernel_rfl) rfl (fun K hK => ?_)
          go_simp
          refine hK.out _ _ (fun _ => s0) ?_
          clear hK K
          try simp only [Act.put, List.getElem_toArray, List.getElem_cons_succ, List.getElem_cons_zero, List.setIfInBounds_toArray, List.set_cons_zero, List.set_cons_succ]
          refine wpAnyL_done (by kernel_rfl) ?_ _
          refine tight_normal ?_
          exact HR4.out _ _ _ _ _ _ _ _ _ _ _ _ _ _ _ _ _ _ _ _ _ _ _ _ _ _ _ _ _ _ _ _ _ _ _ _ _ _ _ _ _ _ _ _ _ _ _ _ _ _ _ _ _ _ _ _ _
        have q6 : (xq == zq) = true := by simp only [beq_iff_eq]; omega
        have e : rt = true := by rw [hright]; simp only [decide_eq_true c1, decide_eq_true c2, decide_eq_true c3, decide_eq_true c4, decide_eq_true c5, decide_eq_true c6]; rfl
        subst e
        clear hright c1 c2 c4 c5 c6
        refine wpIn_round_late [] (fun w' : World => w'.cell? ⟨X, 0, none⟩ = some (.int .u32 (xg : Int)) ∧ w'.cell? ⟨X, 1, none⟩ = some (.int .u32 (xsq : Int)) ∧ w'.cell? ⟨X, 2, none⟩ = some (.int .i64 xp) ∧ w'.cell? ⟨X, 3, none⟩ = some (.int .i64 xq) ∧ w'.cell? ⟨B, 0, none⟩ = some (.pointer (some ⟨h, 0, none⟩)) ∧ w'.cell? ⟨h, 3, none⟩ = some (.int .u32 (t.gen : Int)) ∧ w'.cell? ⟨G + 1 + 1, 0, none⟩ = some (.int .u32 (Clast : Int)) ∧ w'.cell? ⟨G + 1, 0, none⟩ = some (.slice (some ⟨ga, 0, none⟩) n' c5) ∧ w'.cell? ⟨ga, 1, none⟩ = some (.int .u32 (zs : Int)) ∧ w'.cell? ⟨ga, 3, none⟩ = some (.int .i64 zq)) (by kernel_rfl) (by kernel_rfl) ?_
        rw [hwd]
        clear hwd
        refine wpAnyL_take (i := 0) (v := ?_) rfl (by kernel_rfl) (by kernel_rfl) (by kernel_rfl) (by kernel_rfl) (by kernel_rfl) (fun _ _ _ h => h) (Or.inl ⟨by kernel_rfl, ?_⟩) s0 ?_
        rotate_left
        · rintro w0 ⟨h1_, h2_, h3_, h4_, h5_, h6_, h7_, h8_, h9_, h10_⟩; go_simp; (try with_reducible rfl)
        try simp only [Act.put, List.getElem_toArray, List.getElem_cons_succ, List.getElem_cons_zero, List.setIfInBounds_toArray, List.set_cons_zero, List.set_cons_succ]
        refine wpAnyL_take (i := 1) (v := ?_) rfl (by kernel_rfl) (by kernel_rfl) (by kernel_rfl) (by kernel_rfl) (by kernel_rfl) (fun _ _ _ h => h) (Or.inl ⟨by kernel_rfl, ?_⟩) s0 ?_
        rotate_left
        · rintro w0 ⟨h1_, h2_, h3_, h4_, h5_, h6_, h7_, h8_, h9_, h10_⟩; go_simp; (try with_reducible rfl)
        try simp only [Act.put, List.getElem_toArray, List.getElem_cons_succ, List.getElem_cons_zero, List.setIfInBounds_toArray, List.set_cons_zero, List.set_cons_succ]
        refine wpAnyL_take (i := 2) (v := ?_) rfl (by kernel_rfl) (by kernel_rfl) (by kernel_rfl) (by kernel_rfl) (by kernel_rfl) (fun _ _ _ h => h) (Or.inl ⟨by kernel_rfl, ?_⟩) s0 ?_
        rotate_left
        · rintro w0 ⟨h1_, h2_, h3_, h4_, h5_, h6_, h7_, h8_, h9_, h10_⟩; go_simp; (try with_reducible rfl)
        try simp only [Act.put, List.getElem_toArray, List.getElem_cons_succ, List.getElem_cons_zero, List.setIfInBounds_toArray, List.set_cons_zero, List.set_cons_succ]
        refine wpAnyL_take (i := 3) (v := ?_) rfl (by kernel_rfl) (by kernel_rfl) (by kernel_rfl) (by kernel_rfl) (by kernel_rfl) (fun _ _ _ h => h) (Or.inl ⟨by kernel_rfl, ?_⟩) s0 ?_
        rotate_left
        · rintro w0 ⟨h1_, h2_, h3_, h4_, h5_, h6_, h7_, h8_, h9_, h10_⟩; go_simp; (try with_reducible rfl)
        try simp only [Act.put, List.getElem_toArray, List.getElem_cons_succ, List.getElem_cons_zero, List.setIfInBounds_toArray, List.set_cons_zero, List.set_cons_succ]
        refine wpAnyL_take (i := 4) (v := ?_) rfl (by kernel_rfl) (by kernel_rfl) (by kernel_rfl) (by kernel_rfl) (by kernel_rfl) (fun _ _ _ h => h) (Or.inl ⟨by kernel_rfl, ?_⟩) s0 ?_
        rotate_left
        · rintro w0 ⟨h1_, h2_, h3_, h4_, h5_, h6_, h7_, h8_, h9_, h10_⟩; go_simp; (try with_reducible rfl)
        try simp only [Act.put, List.getElem_toArray, List.getElem_cons_succ, List.getElem_cons_zero, List.setIfInBounds_toArray, List.set_cons_zero, List.set_cons_succ]
        refine wpAnyL_take (i := 5) (v := ?_) rfl (by kernel_rfl) (by kernel_rfl) (by kernel_rfl) (by kernel_rfl) (by kernel_rfl) (fun _ _ _ h => h) (Or.inl ⟨by kernel_rfl, ?_⟩) s0 ?_
        rotate_left
        · rintro w0 ⟨h1_, h2_, h3_, h4_, h5_, h6_, h7_, h8_, h9_, h10_⟩; go_simp; (try with_reducible rfl)
        try simp only [Act.put, List.getElem_toArray, List.getElem_cons_succ, List.getElem_cons_zero, List.setIfInBounds_toArray, List.set_cons_zero, List.set_cons_succ]
        refine wpAnyL_take (i := 6) (v := ?_) rfl (by kernel_rfl) (by kernel_rfl) (by kernel_rfl) (by kernel_rfl) (by kernel_rfl) (fun _ _ _ h => h) (Or.inl ⟨by kernel_rfl, ?_⟩) s0 ?_
        rotate_left
        · rintro w0 ⟨h1_, h2_, h3_, h4_, h5_, h6_, h7_, h8_, h9_, h10_⟩; go_simp; (try with_reducible rfl)
        try simp only [Act.put, List.getElem_toArray, List.getElem_cons_succ, List.getElem_cons_zero, List.setIfInBounds_toArray, List.set_cons_zero, List.set_cons_succ]
        refine wpAnyL_take (i := 7) (v := ?_) rfl (by kernel_rfl) (by kernel_rfl) (by kernel_rfl) (by kernel_rfl) (by kernel_rfl) (fun _ _ _ h => h) (Or.inl ⟨by kernel_rfl, ?_⟩) s0 ?_
        rotate_left
        · rintro w0 ⟨h1_, h2_, h3_, h4_, h5_, h6_, h7_, h8_, h9_, h10_⟩; go_simp; (try with_reducible rfl)
        try simp only [Act.put, List.getElem_toArray, List.getElem_cons_succ, List.getElem_cons_zero, List.setIfInBounds_toArray, List.set_cons_zero, List.set_cons_succ]
        refine wpAnyL_take (i := 8) (v := ?_) rfl (by kernel_rfl) (by kernel_rfl) (by kernel_rfl) (by kernel_rfl) (by kernel_rfl) (fun _ _ _ h => h) (Or.inl ⟨by kernel_rfl, ?_⟩) s0 ?_
        rotate_left
        · rintro w0 ⟨h1_, h2_, h3_, h4_, h5_, h6_, h7_, h8_, h9_, h10_⟩; go_simp; (try with_reducible rfl)
        try simp only [Act.put, List.getElem_toArray, List.getElem_cons_succ, List.getElem_cons_zero, List.setIfInBounds_toArray, List.set_cons_zero, List.set_cons_succ]
        refine wpAnyL_take (i := 9) (v := ?_) rfl (by kernel_rfl) (by kernel_rfl) (by kernel_rfl) (by kernel_rfl) (by kernel_rfl) (fun _ _ _ h => h) (Or.inl ⟨by kernel_rfl, ?_⟩) s0 ?_
        rotate_left
        · rintro w0 ⟨h1_, h2_, h3_, h4_, h5_, h6_, h7_, h8_, h9_, h10_⟩; go_simp; (try with_reducible rfl)
        try simp only [Act.put, List.getElem_toArray, List.getElem_cons_succ, List.getElem_cons_zero, List.setIfInBounds_toArray, List.set_cons_zero, List.set_cons_succ]
        refine wpAnyL_take (i := 10) (v := ?_) rfl (by kernel_rfl) (by kernel_rfl) (by kernel_rfl) (by kernel_rfl) (by kernel_rfl) (fun _ _ _ h => h) (Or.inl ⟨by kernel_rfl, ?_⟩) s0 ?_
        rotate_left
        · rintro w0 ⟨h1_, h2_, h3_, h4_, h5_, h6_, h7_, h8_, h9_, h10_⟩; go_simp; (try with_reducible rfl)
        try simp only [Act.put, List.getElem_toArray, List.getElem_cons_succ, List.getElem_cons_zero, List.setIfInBounds_toArray, List.set_cons_zero, List.set_cons_succ]
        refine wpAnyL_take (i := 11) (v := ?_) rfl (by kernel_rfl) (by kernel_rfl) (by kernel_rfl) (by kernel_rfl) (by kernel_rfl) (fun _ _ _ h => h) (Or.inl ⟨by kernel_rfl, ?_⟩) s0 ?_
        rotate_left
        · rintro w0 ⟨h1_, h2_, h3_, h4_, h5_, h6_, h7_, h8_, h9_, h10_⟩; go_simp; (try with_reducible rfl)
        try simp only [Act.put, List.getElem_toArray, List.getElem_cons_succ, List.getElem_cons_zero, List.setIfInBounds_toArray, List.set_cons_zero, List.set_cons_succ]
        refine wpAnyL_take (i := 12) (v := ?_) rfl (by kernel_rfl) (by kernel_rfl) (by kernel_rfl) (by kernel_rfl) (by kernel_rfl) (fun _ _ _ h => h) (Or.inl ⟨by kernel_rfl, ?_⟩) s0 ?_
        rotate_left
        · rintro w0 ⟨h1_, h2_, h3_, h4_, h5_, h6_, h7_, h8_, h9_, h10_⟩; go_simp; (try with_reducible rfl)
        try simp only [Act.put, List.getElem_toArray, List.getElem_cons_succ, List.getElem_cons_zero, List.setIfInBounds_toArray, List.set_cons_zero, List.set_cons_succ]
        refine wpAnyL_take (i := 13) (v := ?_) rfl (by kernel_rfl) (by kernel_rfl) (by kernel_rfl) (by kernel_rfl) (by kernel_rfl) (fun _ _ _ h => h) (Or.inl ⟨by kernel_rfl, ?_⟩) s0 ?_
        rotate_left
        · rintro w0 ⟨h1_, h2_, h3_, h4_, h5_, h6_, h7_, h8_, h9_, h10_⟩; go_simp; (try with_reducible rfl)
        try simp only [Act.put, List.getElem_toArray, List.getElem_cons_succ, List.getElem_cons_zero, List.setIfInBounds_toArray, List.set_cons_zero, List.set_cons_succ]
        refine wpAnyL_take (i := 14) (v := ?_) rfl (by kernel_rfl) (by kernel_rfl) (by kernel_rfl) (by kernel_rfl) (by kernel_rfl) (fun _ _ _ h => h) (Or.inl ⟨by kernel_rfl, ?_⟩) s0 ?_
        rotate_left
        · rintro w0 ⟨h1_, h2_, h3_, h4_, h5_, h6_, h7_, h8_, h9_, h10_⟩; go_simp; (try with_reducible rfl)
        try simp only [Act.put, List.getElem_toArray, List.getElem_cons_succ, List.getElem_cons_zero, List.setIfInBounds_toArray, List.set_cons_zero, List.set_cons_succ]
        refine wpAnyL_take (i := 15) (v := ?_) rfl (by kernel_rfl) (by kernel_rfl) (by kernel_rfl) (by kernel_rfl) (by kernel_rfl) (fun _ _ _ h => h) (Or.inl ⟨by kernel_rfl, ?_⟩) s0 ?_
        rotate_left
        · rintro w0 ⟨h1_, h2_, h3_, h4_, h5_, h6_, h7_, h8_, h9_, h10_⟩; go_simp; (try with_reducible rfl)
        try simp only [Act.put, List.getElem_toArray, List.getElem_cons_succ, List.getElem_cons_zero, List.setIfInBounds_toArray, List.set_cons_zero, List.set_cons_succ]
        refine wpAnyL_take (i := 16) (v := ?_) rfl (by kernel_rfl) (by kernel_rfl) (by kernel_rfl) (by kernel_rfl) (by kernel_rfl) (fun _ _ _ h => h) (Or.inl ⟨by kernel_rfl, ?_⟩) s0 ?_
        rotate_left
        · rintro w0 ⟨h1_, h2_, h3_, h4_, h5_, h6_, h7_, h8_, h9_, h10_⟩; go_simp; (try with_reducible rfl)
        try simp only [Act.put, List.getElem_toArray, List.getElem_cons_succ, List.getElem_cons_zero, List.setIfInBounds_toArray, List.set_cons_zero, List.set_cons_succ]
        refine wpAnyL_take (i := 17) (v := ?_) rfl (by kernel_rfl) (by kernel_rfl) (by kernel_rfl) (by kernel_rfl) (by kernel_rfl) (fun _ _ _ h => h) (Or.inl ⟨by kernel_rfl, ?_⟩) s0 ?_
        rotate_left
        · rintro w0 ⟨h1_, h2_, h3_, h4_, h5_, h6_, h7_, h8_, h9_, h10_⟩; go_simp; (try with_reducible rfl)
        try simp only [Act.put, List.getElem_toArray, List.getElem_cons_succ, List.getElem_cons_zero, List.setIfInBounds_toArray, List.set_cons_zero, List.set_cons_succ]
        refine wpAnyL_take (i := 18) (v := ?_) rfl (by kernel_rfl) (by kernel_rfl) (by kernel_rfl) (by kernel_rfl) (by kernel_rfl) (fun _ _ _ h => h) (Or.inl ⟨by kernel_rfl, ?_⟩) s0 ?_
        rotate_left
        · rintro w0 ⟨h1_, h2_, h3_, h4_, h5_, h6_, h7_, h8_, h9_, h10_⟩; go_simp; (try with_reducible rfl)
        try simp only [Act.put, List.getElem_toArray, List.getElem_cons_succ, List.getElem_cons_zero, List.setIfInBounds_toArray, List.set_cons_zero, List.set_cons_succ]
        refine wpAnyL_take (i := 19) (v := ?_) rfl (by kernel_rfl) (by kernel_rfl) (by kernel_rfl) (by kernel_rfl) (by kernel_rfl) (fun _ _ _ h => h) (Or.inl ⟨by kernel_rfl, ?_⟩) s0 ?_
        rotate_left
        · rintro w0 ⟨h1_, h2_, h3_, h4_, h5_, h6_, h7_, h8_, h9_, h10_⟩; go_simp; (try with_reducible rfl)
        try simp only [Act.put, List.getElem_toArray, List.getElem_cons_succ, List.getElem_cons_zero, List.setIfInBounds_toArray, List.set_cons_zero, List.set_cons_succ]
        refine wpAnyL_take (i := 20) (v := ?_) rfl (by kernel_rfl) (by kernel_rfl) (by kernel_rfl) (by kernel_rfl) (by kernel_rfl) (fun _ _ _ h => h) (Or.inl ⟨by kernel_rfl, ?_⟩) s0 ?_
        rotate_left
        · rintro w0 ⟨h1_, h2_, h3_, h4_, h5_, h6_, h7_, h8_, h9_, h10_⟩; go_simp; (try with_reducible rfl)
        try simp only [Act.put, List.getElem_toArray, List.getElem_cons_succ, List.getElem_cons_zero, List.setIfInBounds_toArray, List.set_cons_zero, List.set_cons_succ]
        refine wpAnyL_take (i := 21) (v := ?_) rfl (by kernel_rfl) (by kernel_rfl) (by kernel_rfl) (by kernel_rfl) (by kernel_rfl) (fun _ _ _ h => h) (Or.inl ⟨by kernel_rfl, ?_⟩) s0 ?_
        rotate_left
        · rintro w0 ⟨h1_, h2_, h3_, h4_, h5_, h6_, h7_, h8_, h9_, h10_⟩; go_simp; (try with_reducible rfl)
        try simp only [Act.put, List.getElem_toArray, List.getElem_cons_succ, List.getElem_cons_zero, List.setIfInBounds_toArray, List.set_cons_zero, List.set_cons_succ]
        refine wpAnyL_take (i := 22) (v := ?_) rfl (by kernel_rfl) (by kernel_rfl) (by kernel_rfl) (by kernel_rfl) (by kernel_rfl) (fun _ _ _ h => h) (Or.inl ⟨by kernel_rfl, ?_⟩) s0 ?_
        rotate_left
        · rintro w0 ⟨h1_, h2_, h3_, h4_, h5_, h6_, h7_, h8_, h9_, h10_⟩; go_simp; (try with_reducible rfl)
        try simp only [Act.put, List.getElem_toArray, List.getElem_cons_succ, List.getElem_cons_zero, List.setIfInBounds_toArray, List.set_cons_zero, List.set_cons_succ]
        refine wpAnyL_take (i := 23) (v := ?_) rfl (by kernel_rfl) (by kernel_rfl) (by kernel_rfl) (by kernel_rfl) (by kernel_rfl) (fun _ _ _ h => h) (Or.inl ⟨by kernel_rfl, ?_⟩) s0 ?_
        rotate_left
        · rintro w0 ⟨h1_, h2_, h3_, h4_, h5_, h6_, h7_, h8_, h9_, h10_⟩; go_simp; (try with_reducible rfl)
        try simp only [Act.put, List.getElem_toArray, List.getElem_cons_succ, List.getElem_cons_zero, List.setIfInBounds_toArray, List.set_cons_zero, List.set_cons_succ]
        refine wpAnyL_take (i := 24) (v := ?_) rfl (by kernel_rfl) (by kernel_rfl) (by kernel_rfl) (by kernel_rfl) (by kernel_rfl) (fun _ _ _ h => h) (Or.inl ⟨by kernel_rfl, ?_⟩) s0 ?_
        rotate_left
        · rintro w0 ⟨h1_, h2_, h3_, h4_, h5_, h6_, h7_, h8_, h9_, h10_⟩; go_simp; (try with_reducible rfl)
        try simp only [Act.put, List.getElem_toArray, List.getElem_cons_succ, List.getElem_cons_zero, List.setIfInBounds_toArray, List.set_cons_zero, List.set_cons_succ]
        refine wpAnyL_take (i := 25) (v := ?_) rfl (by kernel_rfl) (by kernel_rfl) (by kernel_rfl) (by kernel_rfl) (by kernel_rfl) (fun _ _ _ h => h) (Or.inl ⟨by kernel_rfl, ?_⟩) s0 ?_
        rotate_left
        · rintro w0 ⟨h1_, h2_, h3_, h4_, h5_, h6_, h7_, h8_, h9_, h10_⟩; go_simp; (try with_reducible rfl)
        try simp only [Act.put, List.getElem_toArray, List.getElem_cons_succ, List.getElem_cons_zero, List.setIfInBounds_toArray, List.set_cons_zero, List.set_cons_succ]
        refine wpAnyL_take (i := 26) (v := ?_) rfl (by kernel_rfl) (by kernel_rfl) (by kernel_rfl) (by kernel_rfl) (by kernel_rfl) (fun _ _ _ h => h) (Or.inl ⟨by kernel_rfl, ?_⟩) s0 ?_
        rotate_left
        · rintro w0 ⟨h1_, h2_, h3_, h4_, h5_, h6_, h7_, h8_, h9_, h10_⟩; go_simp; (try with_reducible rfl)
        try simp only [Act.put, List.getElem_toArray, List.getElem_cons_succ, List.getElem_cons_zero, List.setIfInBounds_toArray, List.set_cons_zero, List.set_cons_succ]
        refine wpAnyL_take (i := 27) (v := ?_) rfl (by kernel_rfl) (by kernel_rfl) (by kernel_rfl) (by kernel_rfl) (by kernel_rfl) (fun _ _ _ h => h) (Or.inl ⟨by kernel_rfl, ?_⟩) s0 ?_
        rotate_left
        · rintro w0 ⟨h1_, h2_, h3_, h4_, h5_, h6_, h7_, h8_, h9_, h10_⟩; go_simp; (try with_reducible rfl)
        try simp only [Act.put, List.getElem_toArray, List.getElem_cons_succ, List.getElem_cons_zero, List.setIfInBounds_toArray, List.set_cons_zero, List.set_cons_succ]
        refine wpAnyL_take (i := 28) (v := ?_) rfl (by kernel_rfl) (by kernel_rfl) (by kernel_rfl) (by kernel_rfl) (by kernel_rfl) (fun _ _ _ h => h) (Or.inl ⟨by kernel_rfl, ?_⟩) s0 ?_
        rotate_left
        · rintro w0 ⟨h1_, h2_, h3_, h4_, h5_, h6_, h7_, h8_, h9_, h10_⟩; go_simp; (try with_reducible rfl)
        try simp only [Act.put, List.getElem_toArray, List.getElem_cons_succ, List.getElem_cons_zero, List.setIfInBounds_toArray, List.set_cons_zero, List.set_cons_succ]
        refine wpAnyL_take (i := 29) (v := ?_) rfl (by kernel_rfl) (by kernel_rfl) (by kernel_rfl) (by kernel_rfl) (by kernel_rfl) (fun _ _ _ h => h) (Or.inl ⟨by kernel_rfl, ?_⟩) s0 ?_
        rotate_left
        · rintro w0 ⟨h1_, h2_, h3_, h4_, h5_, h6_, h7_, h8_, h9_, h10_⟩; go_simp; (try with_reducible rfl)
        try simp only [Act.put, List.getElem_toArray, List.getElem_cons_succ, List.getElem_cons_zero, List.setIfInBounds_toArray, List.set_cons_zero, List.set_cons_succ]
        refine wpAnyL_take (i := 30) (v := ?_) rfl (by kernel_rfl) (by kernel_rfl) (by kernel_rfl) (by kernel_rfl) (by kernel_rfl) (fun _ _ _ h => h) (Or.inl ⟨by kernel_rfl, ?_⟩) s0 ?_
        rotate_left
        · rintro w0 ⟨h1_, h2_, h3_, h4_, h5_, h6_, h7_, h8_, h9_, h10_⟩; go_simp; (try with_reducible rfl)
        try simp only [Act.put, List.getElem_toArray, List.getElem_cons_succ, List.getElem_cons_zero, List.setIfInBounds_toArray, List.set_cons_zero, List.set_cons_succ]
        refine wpAnyL_take (i := 31) (v := ?_) rfl (by kernel_rfl) (by kernel_rfl) (by kernel_rfl) (by kernel_rfl) (by kernel_rfl) (fun _ _ _ h => h) (Or.inl ⟨by kernel_rfl, ?_⟩) s0 ?_
        rotate_left
        · rintro w0 ⟨h1_, h2_, h3_, h4_, h5_, h6_, h7_, h8_, h9_, h10_⟩; go_simp; (try with_reducible rfl)
        try simp only [Act.put, List.getElem_toArray, List.getElem_cons_succ, List.getElem_cons_zero, List.setIfInBounds_toArray, List.set_cons_zero, List.set_cons_succ]
        refine wpAnyL_take (i := 32) (v := ?_) rfl (by kernel_rfl) (by kernel_rfl) (by kernel_rfl) (by kernel_rfl) (by kernel_rfl) (fun _ _ _ h => h) (Or.inl ⟨by kernel_rfl, ?_⟩) s0 ?_
        rotate_left
        · rintro w0 ⟨h1_, h2_, h3_, h4_, h5_, h6_, h7_, h8_, h9_, h10_⟩; go_simp; (try with_reducible rfl)
        try simp only [Act.put, List.getElem_toArray, List.getElem_cons_succ, List.getElem_cons_zero, List.setIfInBounds_toArray, List.set_cons_zero, List.set_cons_succ]
        refine wpAnyL_take (i := 33) (v := ?_) rfl (by kernel_rfl) (by kernel_rfl) (by kernel_rfl) (by kernel_rfl) (by kernel_rfl) (fun _ _ _ h => h) (Or.inl ⟨by kernel_rfl, ?_⟩) s0 ?_
        rotate_left
        · rintro w0 ⟨h1_, h2_, h3_, h4_, h5_, h6_, h7_, h8_, h9_, h10_⟩; go_simp; (try with_reducible rfl)
        try simp only [Act.put, List.getElem_toArray, List.getElem_cons_succ, List.getElem_cons_zero, List.setIfInBounds_toArray, List.set_cons_zero, List.set_cons_succ]
        refine wpAnyL_take (i := 34) (v := ?_) rfl (by kernel_rfl) (by kernel_rfl) (by kernel_rfl) (by kernel_rfl) (by kernel_rfl) (fun _ _ _ h => h) (Or.inl ⟨by kernel_rfl, ?_⟩) s0 ?_
        rotate_left
        · rintro w0 ⟨h1_, h2_, h3_, h4_, h5_, h6_, h7_, h8_, h9_, h10_⟩; go_simp; (try with_reducible rfl)
        try simp only [Act.put, List.getElem_toArray, List.getElem_cons_succ, List.getElem_cons_zero, List.setIfInBounds_toArray, List.set_cons_zero, List.set_cons_succ]
        refine wpAnyL_take (i := 35) (v := ?_) rfl (by kernel_rfl) (by kernel_rfl) (by kernel_rfl) (by kernel_rfl) (by kernel_rfl) (fun _ _ _ h => h) (Or.inl ⟨by kernel_rfl, ?_⟩) s0 ?_
        rotate_left
        · rintro w0 ⟨h1_, h2_, h3_, h4_, h5_, h6_, h7_, h8_, h9_, h10_⟩; go_simp; (try with_reducible rfl)
        try simp only [Act.put, List.getElem_toArray, List.getElem_cons_succ, List.getElem_cons_zero, List.setIfInBounds_toArray, List.set_cons_zero, List.set_cons_succ]
        refine wpAnyL_take (i := 36) (v := ?_) rfl (by kernel_rfl) (by kernel_rfl) (by kernel_rfl) (by kernel_rfl) (by kernel_rfl) (fun _ _ _ h => h) (Or.inl ⟨by kernel_rfl, ?_⟩) s0 ?_
        rotate_left
        · rintro w0 ⟨h1_, h2_, h3_, h4_, h5_, h6_, h7_, h8_, h9_, h10_⟩; go_simp; (try with_reducible rfl)
        try simp only [Act.put, List.getElem_toArray, List.getElem_cons_succ, List.getElem_cons_zero, List.setIfInBounds_toArray, List.set_cons_zero, List.set_cons_succ]
        refine wpAnyL_take (i := 37) (v := ?_) rfl (by kernel_rfl) (by kernel_rfl) (by kernel_rfl) (by kernel_rfl) (by kernel_rfl) (fun _ _ _ h => h) (Or.inl ⟨by kernel_rfl, ?_⟩) s0 ?_
        rotate_left
        · rintro w0 ⟨h1_, h2_, h3_, h4_, h5_, h6_, h7_, h8_, h9_, h10_⟩; go_simp; (try with_reducible rfl)
        try simp only [Act.put, List.getElem_toArray, List.getElem_cons_succ, List.getElem_cons_zero, List.setIfInBounds_toArray, List.set_cons_zero, List.set_cons_succ]
        refine wpAnyL_take (i := 38) (v := ?_) rfl (by kernel_rfl) (by kernel_rfl) (by kernel_rfl) (by kernel_rfl) (by kernel_rfl) (fun _ _ _ h => h) (Or.inl ⟨by kernel_rfl, ?_⟩) s0 ?_
        rotate_left
        · rintro w0 ⟨h1_, h2_, h3_, h4_, h5_, h6_, h7_, h8_, h9_, h10_⟩; go_simp; (try with_reducible rfl)
        try simp only [Act.put, List.getElem_toArray, List.getElem_cons_succ, List.getElem_cons_zero, List.setIfInBounds_toArray, List.set_cons_zero, List.set_cons_succ]
        refine wpAnyL_take (i := 39) (v := ?_) rfl (by kernel_rfl) (by kernel_rfl) (by kernel_rfl) (by kernel_rfl) (by kernel_rfl) (fun _ _ _ h => h) (Or.inl ⟨by kernel_rfl, ?_⟩) s0 ?_
        rotate_left
        · rintro w0 ⟨h1_, h2_, h3_, h4_, h5_, h6_, h7_, h8_, h9_, h10_⟩; go_simp; (try with_reducible rfl)
        try simp only [Act.put, List.getElem_toArray, List.getElem_cons_succ, List.getElem_cons_zero, List.setIfInBounds_toArray, List.set_cons_zero, List.set_cons_succ]
        refine wpAnyL_take (i := 40) (v := ?_) rfl (by kernel_rfl) (by kernel_rfl) (by kernel_rfl) (by kernel_rfl) (by kernel_rfl) (fun _ _ _ h => h) (Or.inl ⟨by kernel_rfl, ?_⟩) s0 ?_
        rotate_left
        · rintro w0 ⟨h1_, h2_, h3_, h4_, h5_, h6_, h7_, h8_, h9_, h10_⟩; go_simp; (try with_reducible rfl)
        try simp only [Act.put, List.getElem_toArray, List.getElem_cons_succ, List.getElem_cons_zero, List.setIfInBounds_toArray, List.set_cons_zero, List.set_cons_succ]
        refine wpAnyL_take (i := 41) (v := ?_) rfl (by kernel_rfl) (by kernel_rfl) (by kernel_rfl) (by kernel_rfl) (by kernel_rfl) (fun _ _ _ h => h) (Or.inl ⟨by kernel_rfl, ?_⟩) s0 ?_
        rotate_left
        · rintro w0 ⟨h1_, h2_, h3_, h4_, h5_, h6_, h7_, h8_, h9_, h10_⟩; go_simp; (try with_reducible rfl)
        try simp only [Act.put, List.getElem_toArray, List.getElem_cons_succ, List.getElem_cons_zero, List.setIfInBounds_toArray, List.set_cons_zero, List.set_cons_succ]
        refine wpAnyL_take (i := 42) (v := ?_) rfl (by kernel_rfl) (by kernel_rfl) (by kernel_rfl) (by kernel_rfl) (by kernel_rfl) (fun _ _ _ h => h) (Or.inl ⟨by kernel_rfl, ?_⟩) s0 ?_
        rotate_left
        · rintro w0 ⟨h1_, h2_, h3_, h4_, h5_, h6_, h7_, h8_, h9_, h10_⟩; go_simp; (try with_reducible rfl)
        try simp only [Act.put, List.getElem_toArray, List.getElem_cons_succ, List.getElem_cons_zero, List.setIfInBounds_toArray, List.set_cons_zero, List.set_cons_succ]
        refine wpAnyL_take (i := 43) (v := ?_) rfl (by kernel_rfl) (by kernel_rfl) (by kernel_rfl) (by kernel_rfl) (by kernel_rfl) (fun _ _ _ h => h) (Or.inl ⟨by kernel_rfl, ?_⟩) s0 ?_
        rotate_left
        · rintro w0 ⟨h1_, h2_, h3_, h4_, h5_, h6_, h7_, h8_, h9_, h10_⟩; go_simp; (try with_reducible rfl)
        try simp only [Act.put, List.getElem_toArray, List.getElem_cons_succ, List.getElem_cons_zero, List.setIfInBounds_toArray, List.set_cons_zero, List.set_cons_succ]
        refine wpAnyL_one (i := 44) (by kernel_rfl) rfl (fun K hK => ?_)
        go_simp
        refine hK.out _ _ (fun _ => s0) ?_
        clear hK K
        try simp only [Act.put, List.getElem_toArray, List.getElem_cons_succ, List.getElem_cons_zero, List.setIfInBounds_toArray, List.set_cons_zero, List.set_cons_succ]
        refine wpAnyL_done (by kernel_rfl) ?_ _
        refine tight_normal ?_
        exact HR4.out _ _ _ _ _ _ _ _ _ _ _ _ _ _ _ _ _ _ _ _ _ _ _ _ _ _ _ _ _ _ _ _ _ _ _ _ _ _ _ _ _ _ _ _ _ _ _ _ _ _ _ _ _ _ _ _ _
    have HR := Lib.hid hrest
    clear hK1 hrest
    by_cases hp : 0 < xq
    · have q0 : decide (0 < xq) = true := decide_eq_true hp
      have hsq : xsq < 4294967296 := HD.out.2.2.seq
      have hwx : IntKind.u64.wrap (xsq : Int) = (xsq : Int) := by rw [IntKind.wrap_u64]; omega
      have e1 : Sc.topOf Ctop ⟨xg, xsq, xp, xq, xd⟩ = max Ctop xsq := if_pos hp
      by_cases hcm : (Ctop : Int) < (xsq : Int)
      · rw [show max Ctop xsq = xsq by omega] at e1
        have K1' := K0.set 3 0 rfl (.int .u64 (xsq : Int))
        have HK := Lib.hid (And.intro e1 K1')
        clear K0 K1' e1 hp hsq
        gi_wp2
        refine HR.out _ _ _ _ _ _ _ _ _ ?_
        rw [HK.out.1]
        exact HK.out.2
      · rw [show max Ctop xsq = Ctop by omega] at e1
        have hcm2 : (xsq : Int) ≤ (Ctop : Int) := by omega
        have K1' := K0.set 3 0 rfl (.int .u64 (Ctop : Int))
        have HK := Lib.hid (And.intro e1 K1')
        clear K0 K1' e1 hp hsq
        gi_wp2
        refine HR.out _ _ _ _ _ _ _ _ _ ?_
        rw [HK.out.1]
        exact HK.out.2
    · have q0 : decide (0 < xq) = false := decide_eq_false hp
      have e1 : Sc.topOf Ctop ⟨xg, xsq, xp, xq, xd⟩ = Ctop := if_neg hp
      have HK := Lib.hid (And.intro e1 K0)
      clear K0 e1 hp
      gi_wp2
      refine HR.out _ _ _ _ _ _ _ _ _ ?_
      rw [HK.out.1]
      exact HK.out.2
  case done =>
    intro D W xs hD hS hF hK
    have hcs : SegSt.cells s t.first t.n = xs.map fun x => x.2.x := by
      refine List.ext_getElem? fun k => ?_
      rcases Nat.lt_or_ge k t.n with hk | hk
      · rw [SegSt.cells_get hk, List.getElem?_map]
        obtain ⟨y, hy⟩ : ∃ y, xs[k]? = some y := ⟨_, List.getElem?_eq_getElem (by omega)⟩
        rw [hy, Option.map_some, hS.told k y hy]
      · rw [List.getElem?_eq_none (by rw [SegSt.cells_len]; exact hk), List.getElem?_eq_none (by rw [List.length_map]; omega)]
    have hscan : SegSt.scan s t = ({ t with fin := (scSt t.gen xs).fin, top := (scSt t.gen xs).top }, (scSt t.gen xs).out, 0) := by
      unfold SegSt.scan
      rw [if_neg (by rw [hd]; decide), hcs]
      rfl
    obtain ⟨A, c, ls, A2, c2, es, hD2, E⟩ := hS.ex
    generalize scSt t.gen xs = C at *
    have cz : W.cell? ⟨B, 0, none⟩ = some (.pointer (some ⟨h, 0, none⟩)) := E.cell 6 0 rfl rfl
    have ct : W.cell? ⟨G + 1 + 1 + 1, 0, none⟩ = some (.int .u64 (C.top : Int)) := E.cell 2 0 rfl rfl
    have hi8 : ([] ++ scBox h B G Z C.over C.top C.last (.slice A2 es.length c2) (.slice A ls.length c) (bl.set i (segB h g ⟨t.first, t.n, t.gen, C.fin, 4294967295⟩)))[i + 7]? = some (segB h g ⟨t.first, t.n, t.gen, C.fin, 4294967295⟩) := List.getElem?_set_self hil
    have c5 : W.cell? ⟨h, 5, none⟩ = some (.int .u64 ((4294967295 : Nat) : Int)) := E.cell (i + 7) 5 hi8 rfl
    have f5 : W.frozen? ⟨h, 5, none⟩ = false := E.frozen (i + 7) 5 hi8
    have co : (W.setCell ⟨h, 5, none⟩ (.int .u64 (C.top : Int))).cell? ⟨G, 0, none⟩ = some (.slice A ls.length c) := (E.set (i + 7) 5 hi8 (.int .u64 (C.top : Int))).cell 5 0 (by show (_ :: _ :: _ :: _ :: _ :: _ :: _ :: _)[5]? = _; rfl) rfl
    have E2 := E.set (i + 7) 5 hi8 (.int .u64 (C.top : Int))
    have HE := Lib.hid (And.intro E2 (And.intro hD2 (And.intro hscan (And.intro hi8 E))))
    clear E E2 hD2 hscan hi8 hS hcs
    have hDh : D ≠ h := fun e => by
      have hb := HE.out.2.2.2.2.b (i + 7) HE.out.2.2.2.1
      subst e
      rw [hb.is] at hK; cases hK
    have hK2 : (W.setCell ⟨h, 5, none⟩ (.int .u64 (C.top : Int))).heap[D]? = some (.deferred (some [])) := (heap_setCell_other W ⟨h, 5, none⟩ D _ hDh).trans hK
    clear hK hDh
    gi_wp2
    go_wp2_with fail
    rw [Exit.noGoto_ret]
    refine ⟨by simp, .inl ⟨_, _, rfl, run_takeDeferred hK2, ?_⟩⟩
    have hg6 := grownBy_putObj' (W.setCell ⟨h, 5, none⟩ (.int .u64 (C.top : Int))) D (.deferred none)
    have E3 := HE.out.1.own hg6 (fun r e => by cases e; exact ⟨Nat.le_trans E9.size hD, _, hK2, rfl⟩)
    have E3 := E3.setEq (bl' := scBox h B G Z C.over C.top C.last (.slice A2 es.length c2) (.slice A ls.length c) (bl.set i (segB h g ⟨t.first, t.n, t.gen, C.fin, C.top⟩))) (by show _ :: _ :: _ :: _ :: _ :: _ :: _ :: (bl.set i _).set i _ = _; rw [List.set_set]; rfl)
    refine ⟨_, results_tmp2 rfl _ _ _, A, c, ls, by rw [HE.out.2.2.1]; rfl, ?_, by rw [HE.out.2.2.1]; exact HE.out.2.1.out⟩
    rw [HE.out.2.2.1]
    refine E3.pick (.cons _ (.cons _ (.cons _ (.cons _ (.cons _ (.cons _ (.cons _ (.refl _)))))))) (.cons _ (.refl _)) fun y hy => ?_
    exact List.mem_append_right _ hy

end Go.Proofs.YtdlcngmcjidomaaDoor
