/- The law's 'small' and what its laws ask first. No condition but the reach of a slice. -/
import Derived.Test.YtfoeapjlklfjgaaDoorCellL
import Derived.Test.YtfoeapjlklfjgaaDoorLawC
import Derived.Deep.DeepCutAuto
namespace Go.Proofs.YtfoeapjlklfjgaaDoor
set_option linter.unusedSimpArgs false
set_option linter.unusedVariables false
open Go.RowKit Go.Deep

theorem wpList_mkB {w : World} {ops : Array Oper} {rest : List Oper} {o : Oper} {a : Act} {Q : Exit → Act → World → Prop} (hgd : o.guard = none) (l c : Operand) (ho : o.op = Op.makeSlice 23 l c) {kl kc : IntKind} {L C : Int} (n : Nat) (hl : a.eval l = .int kl L) (hc : a.eval c = .int kc C) (hL : L = (n : Int)) (hC : C = (n : Int)) (b3 : n ≤ 281474976710656) (base : Nat) (hbase : base ≤ w.heap.size)
    (h : ∀ w', OwnI w' base .u8 256 5 (some ⟨w.heap.size, 0, none⟩) n n (List.replicate n 0) → w.grownBy w' none → wpList Tryd.prog ops Q rest (a.put o.dst (.slice (some ⟨w.heap.size, 0, none⟩) n n)) w') :
    wpList Tryd.prog ops Q (o :: rest) a w :=
  wpList_mkI w hgd l c 23 ho (lim := 256) (by omega) 5 1 Tryd.underlying23 dinfo_u8 n hl hc hL hC (by omega) (by unfold maxLen; omega) base hbase h
theorem dec_ok1 : Cl.may ⟨1, 2, 1, 2, [0]⟩ = true ∧ Cl.Ok ⟨1, 2, 1, 2, [0]⟩ := ⟨by decide, by decide, by decide, fun x hx => by simp at hx; subst hx; decide⟩
theorem awake_split : Cl.split 1 2 (List.replicate 50 0) = [⟨1, 2, 0, 2, List.replicate 49 0⟩, ⟨1, 2, 1, 2, [0]⟩] := by decide

set_option maxRecDepth 100000 in
set_option maxHeartbeats 6400000 in
theorem cawake_any (w : World) : Calls Tryd.prog 15 #[] w fun e w' => e = .returned (.bool true) ∧ Below w.heap.size w w' := by
  obtain ⟨R, hR⟩ : ∃ R, List.replicate 50 0 = R := ⟨_, rfl⟩
  have hS := awake_split
  have h50 : R.length = 50 := by rw [← hR, List.length_replicate]
  have hq : Cl.need R.length = 2 := by rw [h50]; decide
  have hcd : Cl.splitCode R = 0 := by unfold Cl.splitCode; rw [hq]; rfl
  have hj := Cl.join_split (gen := 1) (seq := 2) (r := R) (by rw [hq]; decide)
  rw [hR] at hS
  have hE := encL_yes dec_ok1.1
  obtain ⟨S, hSS⟩ : ∃ S, Cl.enc ⟨1, 2, 1, 2, [0]⟩ = S := ⟨_, rfl⟩
  have hSl : S.length = 64 := by rw [← hSS]; exact Cl.enc_len (by decide)
  have hD := Cl.dec_enc dec_ok1.2 dec_ok1.1
  rw [hSS] at hE hD
  have HH := Lib.hid (And.intro hR (And.intro hS (And.intro h50 (And.intro hq (And.intro hcd (And.intro hj (And.intro hE (And.intro hSl hD))))))))
  clear hR hS h50 hq hcd hj hE hSS hSl hD
  have E0 := CE.nil_ w
  go_enter Tryd.func15, Tryd.ntmps15
  go_wp2_with (refine wpList_mkB rfl _ _ rfl 50 rfl rfl rfl rfl (by omega) w.heap.size (Nat.le_refl _) ?_; intro w1 ho1 hg1)
  have E1 := (E0.below (below_none (Below.refl _ _) hg1 (Nat.le_refl _))).addI ho1.ints
  rw [HH.out.1] at E1
  clear ho1 hg1 E0
  refine (split_c (gs := 1) (sq := 2) (by decide) (by decide) (E1.i 0 rfl) (by decide) HH.out.2.2.2.1 HH.out.2.2.2.2.1).mono ?_; rintro e w2 ⟨A2, c2, xs, rfl, hx, hs, hb2⟩
  have E2 := (E1.below hb2).addR hx
  have HS := Lib.hid hs
  clear E1 hb2 hx hs
  go_wp2_with fail
  refine (join_c (E2.r 0 rfl) (by decide) HS.out HH.out.2.2.2.2.2.1.1 HH.out.2.2.2.2.2.1.2 HH.out.2.2.1).mono ?_; rintro e w3 ⟨A3, c3, rfl, hi3, hb3⟩
  have E3 := (E2.below hb3)
  clear E2 hb3 hi3
  go_wp2_with fail
  refine (split_c (gs := 1) (sq := 2) (by decide) (by decide) (Ints.nil_ _ .u8 256 none 0) (by decide) (q := 0) (cd := 1) rfl rfl).mono ?_; rintro e w4 ⟨A4, c4, xs4, rfl, hx4, hs4, hb4⟩
  have E4 := (E3.below hb4)
  clear E3 hb4 hx4 hs4
  obtain ⟨b, o, e1, hA2, hbl, hx1, he1, k0, k1, k2, k3, k4⟩ := (E4.r 0 rfl).get (k := 1) (by decide)
  subst hA2
  have hx1 : e1.x = ⟨1, 2, 1, 2, [0]⟩ := by
    have h1 : (xs.map (·.x))[1]? = some e1.x := by rw [List.getElem?_map, hx1]; rfl
    rw [HS.out, HH.out.2.1] at h1
    simpa using h1.symm
  obtain ⟨e1, eA, en, ec⟩ := e1
  dsimp only at hx1
  subst hx1
  have hl1 := he1.len
  dsimp only at k0 k1 k2 k3 k4 hl1
  obtain rfl : 1 = en := by simpa using hl1
  rw [Nat.one_mul] at k0 k1 k2 k3 k4
  simp only [Nat.add_assoc, Nat.reduceAdd] at k0 k1 k2 k3 k4
  have E4 := E4.addI he1.ints
  clear hl1 he1
  go_wp2_with fail
  refine (enc_c (gs := 1) (sq := 2) (pt := 1) (ps := 2) (by decide) (by decide) (by decide) (E4.i 0 rfl) HH.out.2.2.2.2.2.2.1.2 HH.out.2.2.2.2.2.2.1.1 HH.out.2.2.2.2.2.2.2.1).mono ?_; rintro e w5 ⟨A5, c5, rfl, hi5, hb5⟩
  have E5 := (E4.below hb5).addI hi5
  clear E4 hi5 hb5 k0 k1 k2 k3 k4
  go_wp2_with fail
  refine (dec_c (E5.i 0 rfl) (by decide) HH.out.2.2.2.2.2.2.2.2.1 HH.out.2.2.2.2.2.2.2.2.2 (m := 1) rfl).mono ?_; rintro e w6 ⟨A6, c6, rfl, hi6, hb6⟩
  have E6 := ((E5.below hb6).addI hi6).alloc 25 #[.int .u32 1, .int .u32 2, .int .i64 1, .int .i64 2, .slice A6 1 c6] rfl
  clear E5 hi6 hb6
  go_wp2_with fail
  refine (dec_c (Ints.nil_ _ .u8 256 none 0) (by decide) Cl.dec_nil.1 Cl.dec_nil.2 (m := 0) rfl).mono ?_; rintro e w7 ⟨A7, c7, rfl, hi7, hb7⟩
  have E7 := (E6.below hb7).alloc 25 #[.int .u32 0, .int .u32 0, .int .i64 0, .int .i64 0, .slice A7 0 c7] rfl
  clear E6 hi7 hb7
  have k0 := E7.cell 1 0 rfl rfl
  have k1 := E7.cell 1 1 rfl rfl
  have k2 := E7.cell 1 2 rfl rfl
  have k3 := E7.cell 1 3 rfl rfl
  have k4 := E7.cell 1 4 rfl rfl
  go_wp2_with fail
  refine (need_c 393 _ (by decide) (by decide) (q := 0) (by decide)).mono ?_; rintro e w8 ⟨rfl, rfl⟩
  go_wp2_with fail
  refine (may_c 1 2 1 2 A6 1 c6 _ (by decide) (r := true) (by decide)).mono ?_; rintro e w9 ⟨rfl, hb9⟩
  have E9 := E7.below hb9
  clear k0 k1 k2 k3 k4 E7 hb9
  go_wp2_with fail
  go_ret
  exact ⟨rfl, E9.bel⟩
end Go.Proofs.YtfoeapjlklfjgaaDoor
