/- What is written of a whole number is read as it: plain mathematics. No condition. -/
import Derived.Test.YticjhlbmdjijnaaGreatDoorG8
namespace Go.Proofs.YticjhlbmdjijnaaGreatDoor

theorem le4_app (l R : List Nat) (p : Nat) (h : p + 4 ≤ l.length) : le4 (l ++ R) p = le4 l p := by
  unfold le4
  rw [List.getElem?_append_left (by omega), List.getElem?_append_left (by omega), List.getElem?_append_left (by omega), List.getElem?_append_left (by omega)]
theorem cnt_app (l R : List Nat) (h : 2 ≤ l.length) : cnt (l ++ R) = cnt l := by
  unfold cnt
  rw [List.getElem?_append_left (by omega), List.getElem?_append_left (by omega)]
theorem enc_app (v : Nat) (h : (lmb v).length ≤ 4096) (R : List Nat) :
    ReadOk (enc (lmb v) ++ R) ∧ cnt (enc (lmb v) ++ R) = (lmb v).length ∧ limbsAt (enc (lmb v) ++ R) (lmb v).length = lmb v ∧ (enc (lmb v) ++ R).drop (2 + 4 * (lmb v).length) = R := by
  obtain ⟨h1, h2, h3, h4, h5⟩ := enc_reads v h
  have hc : cnt (enc (lmb v) ++ R) = (lmb v).length := by rw [cnt_app _ _ (by omega), h2]
  refine ⟨⟨by rw [List.length_append]; omega, by omega, by rw [hc, List.length_append]; omega, ?_⟩, hc, ?_, ?_⟩
  · rw [hc]
    rcases Nat.eq_zero_or_pos (lmb v).length with h0 | h0
    · exact .inl h0
    · refine .inr ?_
      rw [le4_app _ _ _ (by omega), ← h2]
      rcases h1.top with h6 | h6
      · omega
      · exact h6
  · refine Eq.trans ?_ h3
    unfold limbsAt
    refine List.map_congr_left fun i hi => ?_
    have := List.mem_range.1 hi
    exact le4_app _ _ _ (by omega)
  · rw [← h5, List.drop_left]
theorem zenc_is (z : Int) (h : (lmb z.natAbs).length ≤ 4096) : zenc z = (if z < 0 then 1 else 0) :: enc (lmb z.natAbs) := by
  unfold zenc
  rw [if_neg (fun e => by have := (enc_reads z.natAbs h).2.2.2.2; rw [e] at this; simp at this; omega)]
theorem zenc_app (z : Int) (h : (lmb z.natAbs).length ≤ 4096) (R : List Nat) : ZBytes (zenc z ++ R) ∧ zbv (zenc z ++ R) = z ∧ zbl (zenc z ++ R) = R := by
  obtain ⟨h1, h2, h3, h4⟩ := enc_app z.natAbs h R
  rw [zenc_is z h]
  have hd : (((if z < 0 then 1 else 0) :: enc (lmb z.natAbs)) ++ R).drop 1 = enc (lmb z.natAbs) ++ R := rfl
  have h0 : (((if z < 0 then 1 else 0) :: enc (lmb z.natAbs)) ++ R)[0]? = some (if z < 0 then 1 else 0) := rfl
  refine ⟨⟨?_, by rw [hd]; exact h1, ?_⟩, ?_, ?_⟩
  · rw [h0]
    by_cases hz : z < 0
    · rw [if_pos hz]; exact .inr rfl
    · rw [if_neg hz]; exact .inl rfl
  · rw [h0, hd, h2]
    rintro ⟨e1, e2⟩
    have : z.natAbs = 0 := (Num.dig_eq_nil (b := 4294967296) (by decide) z.natAbs).1 (List.eq_nil_of_length_eq_zero e2)
    rw [if_neg (by omega)] at e1
    cases e1
  · unfold zbv
    rw [h0, hd, h2, h3, vl_lmb]
    have : decide (some (if z < 0 then 1 else 0) = some 1) = decide (z < 0) := by
      by_cases hz : z < 0
      · rw [if_pos hz, decide_eq_true hz]; rfl
      · rw [if_neg hz, decide_eq_false hz]; rfl
    rw [this]
    exact zv_of z
  · unfold zbl
    rw [hd, h2, h4]
theorem zenc_all (z : Int) (h : (lmb z.natAbs).length ≤ 4096) (R : List Nat) : zrok (zenc z ++ R) = true ∧ zrv (zenc z ++ R) = z ∧ zrl (zenc z ++ R) = R := by
  obtain ⟨h1, h2, h3⟩ := zenc_app z h R
  exact ⟨zrok_yes h1, by rw [zrv_yes h1, h2], by rw [zrl_yes h1, h3]⟩
theorem zenc_len (z : Int) (h : (lmb z.natAbs).length ≤ 4096) : (zenc z).length = 3 + 4 * (lmb z.natAbs).length := by
  rw [zenc_is z h, List.length_cons, (enc_reads z.natAbs h).2.2.2.2]; omega
theorem ztx_all (z : Int) (k : Nat) (h : z.natAbs < 10 ^ (k + 1)) (hk : k < 39999) : zok (ztx z) = true ∧ zpv (ztx z) = z ∧ (∀ x ∈ ztx z, x < 256) ∧ (ztx z).length ≤ k + 2 := by
  have hr := reads_dec z.natAbs k h (by omega)
  obtain ⟨d1, d2, d3, d4⟩ := dec_decTxt z.natAbs
  have hl := decTxt_len k z.natAbs h
  by_cases hz : z < 0
  · rw [ztx_neg hz]
    have hb : bod (45 :: decTxt z.natAbs) = decTxt z.natAbs := by unfold bod; exact if_pos rfl
    have hq : ZReads (45 :: decTxt z.natAbs) := ⟨by rw [hb]; exact hr, fun ⟨_, e⟩ => by rw [hb, d1] at e; omega⟩
    refine ⟨zok_yes hq, ?_, ?_, by rw [List.length_cons]; omega⟩
    · rw [zpv_yes hq]
      unfold zdec
      rw [hb, d1, show decide ((45 :: decTxt z.natAbs)[0]? = some 45) = true from rfl, zv_true]
      omega
    · intro x hx
      rcases List.mem_cons.1 hx with rfl | hx
      · decide
      · exact digs_lt d2 x hx
  · rw [ztx_pos hz]
    have h0 : (decTxt z.natAbs)[0]? ≠ some 45 := by
      intro e
      have := d2 45 (List.mem_of_getElem? e)
      omega
    have hb : bod (decTxt z.natAbs) = decTxt z.natAbs := by unfold bod; rw [if_neg h0]
    have hq : ZReads (decTxt z.natAbs) := ⟨by rw [hb]; exact hr, fun ⟨e, _⟩ => h0 e⟩
    refine ⟨zok_yes hq, ?_, fun x hx => digs_lt d2 x hx, by omega⟩
    rw [zpv_yes hq]
    unfold zdec
    rw [hb, d1, decide_eq_false h0, zv_false]
    omega
end Go.Proofs.YticjhlbmdjijnaaGreatDoor
