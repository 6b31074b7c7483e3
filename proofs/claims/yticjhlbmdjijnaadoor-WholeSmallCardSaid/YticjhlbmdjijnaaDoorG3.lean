/- Texts of several parts in one: NatF, Round, NatG. Each says what it proves; no condition but those named there. -/
import Derived.Test.YticjhlbmdjijnaaDoorG1
import Derived.RangeFuncNested
import Derived.RangeFuncBound
import Derived.RangeFuncCalls
import Derived.RangeFuncLeaves
import Derived.RangeFuncBox
import Derived.Shelf.Abstract
import Derived.Shelf.RegionOpen
import Derived.OwnWalkIn
import Derived.TacticsInMore
import Derived.LoopNIn
import Derived.LoopIn
import Derived.OrdersHeld
import Derived.Deep.RegionHeld3
/- slices.Backward at a row of limbs, as a sequence that is ranged over; the contract of nat.small. -/
namespace Go.Proofs.YticjhlbmdjijnaaDoor
open Go.RowKit Go.Shelf
attribute [local go_sem] Oper.semAt_some

/-- A limb with its place, as Backward hands it over. -/
abbrev LimbAt (len : Nat) : Type := { p : Nat × Nat // p.1 < len ∧ p.2 < 4294967296 }
/-- What a round must keep: the box in which the slice lies, and the limbs. -/
structure RsB (Bs b off len cap : Nat) (zs : List Nat) (W : World) : Prop where
  box : W.cell? ⟨Bs, 0, none⟩ = some (.slice (some ⟨b, off, none⟩) len cap)
  at_ : ∀ (j x : Nat), zs[j]? = some x → W.cell? ⟨b, off + j, none⟩ = some (.int .u32 (x : Int))
/-- The places from the end down, with their limbs. -/
def downs (zs : List Nat) (k : Nat) : List (Nat × Nat) := (List.range k).map fun j => (zs.length - 1 - j, zs[zs.length - 1 - j]?.getD 0)
theorem downs_succ (zs : List Nat) (k : Nat) : downs zs (k + 1) = downs zs k ++ [(zs.length - 1 - k, zs[zs.length - 1 - k]?.getD 0)] := by simp [downs, List.range_succ]
theorem downs_len (zs : List Nat) (k : Nat) : (downs zs k).length = k := by simp [downs]

set_option maxRecDepth 100000 in
set_option maxHeartbeats 1600000 in
theorem back1_in (F : Fence) (n : Nat) (hf : F.fn 72) (hro : F.round = none) (hn : 1 ≤ n) (l Bs b off len cap : Nat) (zs : List Nat) (hz : zs.length = len) (hzl : ∀ x ∈ zs, x < 4294967296) (hreach : len ≤ 1099511627776) (J Jx : List (LimbAt len) → World → Prop)
    (hY : ∀ pre x W, J pre W → pre.length < len → YieldAt F (n - 1) Tryd.prog l #[.int .i64 (x.1.1 : Int), .int .u32 (x.1.2 : Int)] W fun e W' =>
      (e = .returned (.bool true) ∧ J (pre ++ [x]) W' ∧ (RsB Bs b off len cap zs W → RsB Bs b off len cap zs W')) ∨ (e = .returned (.bool false) ∧ Jx (pre ++ [x]) W'))
    (W : World) (hR : RsB Bs b off len cap zs W) (h0 : J [] W) :
    CallsIn F n Tryd.prog 72 #[.func (.yield l) #[] #[], .pointer (some ⟨Bs, 0, none⟩)] W fun e W' => (∃ v, e = .returned v) ∧
      ((∃ ys, ys.map Subtype.val = downs zs len ∧ J ys W') ∨ (∃ pre, True ∧ Jx pre W')) := by
  have hbox := hR.box
  refine callsIn_of_wp Tryd.func72 rfl hf ?_ hro
  simp only [Tryd.ntmps72, List.size_toArray, List.length_cons, List.length_nil, Nat.reduceAdd, Nat.reduceSub, Array.replicate_succ, Array.replicate_zero, List.push_toArray, List.append_toArray, List.nil_append, List.cons_append]
  gi_wp2
  gi_loopw [3] (fun i wr => ∃ (k : Nat) (pre : List (LimbAt len)), k ≤ len ∧ i = .int .i64 ((len : Int) - 1 - k) ∧ pre.map Subtype.val = downs zs k ∧ J pre wr ∧ RsB Bs b off len cap zs wr)
    (fun i _ => ((intOf i) + 1).toNat)
  case atStart => exact ⟨0, [], Nat.zero_le _, by simp, rfl, h0, hR⟩
  case round =>
    obtain ⟨k, pre, hk, rfl, hp, hJs, hRs⟩ := hrel
    by_cases hlt : k < len
    · have hl : pre.length = k := by rw [← downs_len zs k, ← hp, List.length_map]
      have e1 : (len : Int) - 1 - k = ((len - 1 - k : Nat) : Int) := by omega
      rw [e1]
      obtain ⟨x, hx⟩ : ∃ x, zs[len - 1 - k]? = some x := ⟨_, List.getElem?_eq_getElem (by omega)⟩
      have hxl := hzl x (List.mem_of_getElem? hx)
      have hcx := hRs.at_ _ x hx
      have hbx := hRs.box
      have hdn : downs zs (k + 1) = downs zs k ++ [(len - 1 - k, x)] := by rw [downs_succ, hz, hx]; rfl
      obtain ⟨j, hj⟩ : ∃ j, len - 1 - k = j := ⟨_, rfl⟩
      rw [hj] at hcx hdn hx ⊢
      have hjl : j < len := by omega
      obtain ⟨fn, tmps, assign, body, hy, hRd⟩ := hY pre ⟨(j, x), hjl, hxl⟩ wr hJs (by omega)
      dsimp only at hy
      have e2 : (j : Int) - 1 = (len : Int) - 1 - ((k + 1 : Nat) : Int) := by omega
      have HE := Lib.hid e2
      have HD := Lib.hid hdn
      have HP := Lib.hid hp
      have HK : Hid (RsB Bs b off len cap zs wr) := hRs
      clear e1 e2 hdn hp hj hx hRs
      gi_wp2
      refine hRd.mono ?_
      rintro e W3 (⟨rfl, hJ3, hk3⟩ | ⟨rfl, hJx3⟩)
      · have hk4 := hk3 HK.out
        have HK4 : Hid (RsB Bs b off len cap zs W3) := hk4
        clear hk3 hk4
        gi_wp2
        go_roundw
        case rel => exact ⟨k + 1, pre ++ [⟨(j, x), hjl, hxl⟩], by omega, by rw [HE.out], by rw [HD.out, List.map_append, HP.out]; rfl, hJ3, HK4.out⟩
        case measure => simp [intOf]
      · gi_wp2
        refine bodyPost_ret (results_none rfl _ _ _) rfl ?_
        exact ⟨⟨_, rfl⟩, .inr ⟨_, trivial, hJx3⟩⟩
    · obtain rfl : k = len := by omega
      gi_wp2
      go_end0
      exact ⟨⟨_, rfl⟩, .inl ⟨_, hp, hJs⟩⟩
theorem back_in (F : Fence) (n : Nat) (hf : F.fn 56) (hro : F.round = none) (a : Option Addr) (len cap : Nat) (w : World) :
    CallsIn F n Tryd.prog 56 #[.slice a len cap] w fun e w' => e = .returned (.func (.func 72) #[] #[.pointer (some ⟨w.heap.size, 0, none⟩)]) ∧ w' = w.alloc (.cells #[.slice a len cap] 22) := by
  refine callsIn_of_wp Tryd.func56 rfl hf ?_ hro
  simp only [Tryd.ntmps56, List.size_toArray, List.length_cons, List.length_nil, Nat.reduceAdd, Nat.reduceSub, Array.replicate_succ, Array.replicate_zero, List.push_toArray, List.append_toArray, List.nil_append, List.cons_append]
  gi_wp2
  go_ret
  exact ⟨rfl, rfl⟩
theorem back_stops (F : Fence) (n : Nat) (hf : F.fn 72) (hro : F.round = none) (hn : 1 ≤ n) (Bs b off len cap : Nat) (zs : List Nat) (hz : zs.length = len) (hzl : ∀ x ∈ zs, x < 4294967296) (hreach : len ≤ 1099511627776) (w : World) (hBs : Bs < w.heap.size) (hb : b < w.heap.size)
    (hR : RsB Bs b off len cap zs w) :
    SeqStopsK F n Tryd.prog 72 #[.pointer (some ⟨Bs, 0, none⟩)] (fun x : LimbAt len => #[.int .i64 (x.1.1 : Int), .int .u32 (x.1.2 : Int)])
      (fun A B => RsB Bs b off len cap zs A → RsB Bs b off len cap zs B) (fun ys => ys.map Subtype.val = downs zs len) (fun _ => True) len w := fun l J Jx W hW _ _ hY h0 =>
  back1_in F n hf hro hn l Bs b off len cap zs hz hzl hreach J Jx hY W ⟨(hW.cell (p := ⟨Bs, 0, none⟩) hBs).trans hR.box, fun j x hx => (hW.cell (p := ⟨b, off + j, none⟩) hb).trans (hR.at_ j x hx)⟩ h0
end Go.Proofs.YticjhlbmdjijnaaDoor

/- A region that draws its order within a round of a range over a function, at the wide fence: the lone laws serve. No condition. -/
namespace Go.Proofs.YticjhlbmdjijnaaDoor
open Go.RowKit Go.Shelf

/-- Q, but 'False' at a panic, and where the run lets out. -/
def Tight (Q : Exit → Act → World → Prop) : Exit → Act → World → Prop
  | .outgrown, _, _ => False
  | .panic _, _, _ => False
  | e, a, w => Q e a w

section
variable {l n : Nat} {P : Program} {ops : Array Oper} {Q : Exit → Act → World → Prop} {md : Region.Mode}
theorem wpOpIn_of_op (hnd : ∀ (i : Nat) (o : Oper), ops[i]? = some o → ∀ c, o.op ≠ .defer c)
    {i : Nat} {K K' : Act → World → Prop} {a : Act} {w : World} (hK : ∀ a w, K a w → K' a w) (h : wpOp P ops (Tight Q) i K a w) : wpOpIn (Fence.wide.inRound l) n P ops Q i K' a w := by
  unfold wpOp at h
  unfold wpOpIn
  cases ho : ops[i]? with
  | none => rw [ho] at h; exact hK _ _ h
  | some o =>
    rw [ho] at h
    simp only at h ⊢
    by_cases hw : Region.wanted o (yielded ops a.tmps) = true
    · rw [if_pos hw] at h ⊢
      rcases h with h | ⟨_, a', w', h⟩
      · refine ⟨fun _ _ => trivial, ?_⟩
        unfold Oper.wp at h
        rw [Fence.inRound_round, Oper.semAt_some l _ _ (hnd i o ho)]
        generalize (execOp a.eval o).run P w = r at *
        cases r with
        | ok x w' =>
          cases x <;> simp only [Oper.upon, Oper.uponIn] at h ⊢
          case value => exact hK _ _ h
          case skip => exact hK _ _ h
          case defer => exact hK _ _ h
          case enter f args =>
            refine ⟨(fun hd => by cases hd), ?_⟩
            refine (CallsIn.inRound l (callsIn_wide.2 h)).mono ?_
            intro e w'' he
            cases e with
            | returned v => exact hK _ _ he
            | panicked c => exact (he : False).elim
            | outgrown => obtain ⟨_, _, hf⟩ := he; exact hf.elim
          case row row args => exact ⟨(fun hd => by cases hd), fun c cs _ => let ⟨v, w', r, s⟩ := h c cs; ⟨v, w', hK _ _ r, stepsIn_wide.2 s⟩⟩
        | halt x w' => cases x <;> simp only [Oper.upon, Oper.uponIn] at h ⊢ <;> exact (h : False).elim
      · exact h.elim
    · rw [if_neg hw] at h ⊢
      exact ⟨fun _ _ => trivial, hK _ _ h⟩
theorem wpAnyIn_of_any (hnd : ∀ (i : Nat) (o : Oper), ops[i]? = some o → ∀ c, o.op ≠ .defer c) :
    ∀ (fuel : Nat) (listed : Array Bool) (a : Act) (w : World), wpAny P md ops (Tight Q) fuel listed a w → wpAnyIn (Fence.wide.inRound l) n P md ops Q fuel listed a w
  | 0, _, _, _, h => ⟨h.1, h.2⟩
  | fuel + 1, _, _, _, h => ⟨fun hr => h.1 hr, fun i hi => wpOpIn_of_op hnd (fun a w => wpAnyIn_of_any hnd fuel _ a w) (h.2 i hi)⟩
/-- The beginning, within a round: from the world behind the draw. -/
theorem wpIn_round_held {l n : Nat} {P : Program} {id : Nat} {L : List Oper} {Q : Exit → Act → World → Prop} {a : Act} {w : World} (S : World → Prop) (hm : P.follows .mixedOrders = true) (hnd : L.all (fun o => match o.op with | .defer _ => false | _ => true) = true) (hS : S w.drew)
    (h : S w.drew → wpAnyH P .any L.toArray (Tight Q) S L.toArray.size (Array.replicate L.toArray.size false) a w.drew) : (Code.region id L.toArray true).wpIn (Fence.wide.inRound l) n P Q a w :=
  wpIn_region_any hm (wpAnyIn_of_any (fun i o ho c hc => by
    have h1 : o ∈ L := by simpa using Array.mem_of_getElem? ho
    have h2 := List.all_eq_true.1 hnd o h1
    rw [hc] at h2
    cases h2) _ _ _ _ (wpAny_of_held _ _ _ _ (h hS)))
end
end Go.Proofs.YticjhlbmdjijnaaDoor

/- The contract of nat.small. -/
namespace Go.Proofs.YticjhlbmdjijnaaDoor
open Go.RowKit Go.Shelf
attribute [local go_sem] Oper.semAt_some

/-- One round: the quotient's limb is laid, the rest goes on. -/
def dstep (d : Nat) (s : List Nat × Nat) (p : Nat × Nat) : List Nat × Nat := (s.1.set p.1 ((s.2 * 4294967296 + p.2) / d), (s.2 * 4294967296 + p.2) % d)
theorem dsteps (zs : List Nat) (d : Nat) (hd : 0 < d) : ∀ k, k ≤ zs.length → ∃ o r, (downs zs k).foldl (dstep d) (List.replicate zs.length 0, 0) = (o, r) ∧ o.length = zs.length ∧ r < d ∧ vl (zs.drop (zs.length - k)) = d * vl (o.drop (zs.length - k)) + r
  | 0, _ => ⟨_, _, rfl, by simp, hd, by simp [vl, Num.val]⟩
  | k + 1, hk => by
    obtain ⟨o, r, hf, hl, hr, hv⟩ := dsteps zs d hd k (by omega)
    obtain ⟨x, hx⟩ : ∃ x, zs[zs.length - 1 - k]? = some x := ⟨_, List.getElem?_eq_getElem (by omega)⟩
    refine ⟨_, _, by rw [downs_succ, List.foldl_append, hf]; rfl, by simp [hl], Nat.mod_lt _ hd, ?_⟩
    have e : zs.length - (k + 1) = zs.length - 1 - k := by omega
    have e2 : zs.length - k = zs.length - 1 - k + 1 := by omega
    rw [e2] at hv
    have h1 := Num.val_drop_pred 4294967296 hx
    have h2 : vl ((o.set (zs.length - 1 - k) ((r * 4294967296 + x) / d)).drop (zs.length - 1 - k)) = (r * 4294967296 + x) / d + 4294967296 * vl (o.drop (zs.length - 1 - k + 1)) := by
      have := Num.val_drop_pred (l := o.set (zs.length - 1 - k) ((r * 4294967296 + x) / d)) (k := zs.length - 1 - k) (x := (r * 4294967296 + x) / d) 4294967296 (List.getElem?_set_self (by rw [hl]; have := (List.getElem?_eq_some_iff.1 hx).1; exact this))
      rw [show (o.set (zs.length - 1 - k) ((r * 4294967296 + x) / d)).drop (zs.length - 1 - k + 1) = o.drop (zs.length - 1 - k + 1) from List.drop_set_of_lt (by omega)] at this
      exact this
    simp only [hx, Option.getD_some]
    rw [e, h2]
    have h3 := Nat.div_add_mod (r * 4294967296 + x) d
    have h4 : vl (zs.drop (zs.length - 1 - k)) = x + 4294967296 * (d * vl (o.drop (zs.length - 1 - k + 1)) + r) := by rw [← hv]; exact h1
    rw [h4]
    rw [Nat.mul_add, Nat.mul_add, Nat.mul_left_comm]
    omega
theorem dfin (zs : List Nat) (d : Nat) (hd : 0 < d) (o : List Nat) (r : Nat) (h : (downs zs zs.length).foldl (dstep d) (List.replicate zs.length 0, 0) = (o, r)) : vl o = vl zs / d ∧ r = vl zs % d := by
  obtain ⟨o', r', hf, _, hr, hv⟩ := dsteps zs d hd zs.length (Nat.le_refl _)
  rw [hf] at h
  cases h
  rw [Nat.sub_self, List.drop_zero, List.drop_zero] at hv
  rw [hv]
  exact ⟨by rw [Nat.mul_add_div hd, Nat.div_eq_of_lt hr, Nat.add_zero], by rw [Nat.mul_add_mod, Nat.mod_eq_of_lt hr]⟩

set_option maxRecDepth 100000 in
set_option maxHeartbeats 1600000 in
theorem small_any (A : Option Addr) (n c : Nat) (l : List Nat) (w : World) (hr : Lim w A n c l) (hn : n ≤ 1099511627776) (h0 : 0 < n) (d : Nat) (hd : 0 < d) (hdl : d < 4294967296) :
    Calls Tryd.prog 40 #[.slice A n c, .int .u32 d] w fun e w' => ∃ A2 m, e = .returned (.tuple #[.slice A2 m m, .int .u32 ((vl l % d : Nat) : Int)]) ∧ m ≤ n ∧ OwnL w' w.heap.size A2 m m (lmb (vl l / d)) ∧ Below w.heap.size w w' := by
  refine (callsIn_wide (n := 3)).1 ?_
  refine callsIn_of_wp_marks Tryd.func40 rfl trivial ?_ rfl
  simp only [Tryd.ntmps40, List.size_toArray, List.length_cons, List.length_nil, Nat.reduceAdd, Nat.reduceSub, Array.replicate_succ, Array.replicate_zero, List.push_toArray, List.append_toArray, List.nil_append, List.cons_append]
  refine wpIn_wide.2 ?_
  go_wp2_with (first
    | (refine wpList_mkL rfl _ _ rfl n rfl rfl rfl rfl (by omega) w.heap.size (by simp) ?_; intro w2 hown hg2)
    | (go_at_call 56; refine (callsIn_wide.1 (back_in Fence.wide 2 trivial rfl _ _ _ _)).mono ?_; rintro e w3 ⟨rfl, rfl⟩))
  have S2 := (hown.lt_ _ rfl).2
  simp only [World.size_alloc] at hown S2
  have bD2 : Blk w2 w.heap.size 43 #[.int .u32 (d : Int)] := (Blk.new w 43 #[.int .u32 (d : Int)]).grown hg2 (by simp)
  have hB2 : Below w.heap.size w w2 := below_none ((Below.refl _ _).alloc (Nat.le_refl _) _) hg2 (by simp)
  obtain ⟨b, off, rfl, hb, hcells⟩ := hr.rd.at_ h0
  have bO := ((Blk.new w2 22 #[.slice (some ⟨w.heap.size + 1, 0, none⟩) n n]).alloc (.cells #[.int .u32 0] 43)).alloc (.cells #[.slice (some ⟨b, off, none⟩) n c] 22)
  have bR := (Blk.new (w2.alloc (.cells #[.slice (some ⟨w.heap.size + 1, 0, none⟩) n n] 22)) 43 #[.int .u32 0]).alloc (.cells #[.slice (some ⟨b, off, none⟩) n c] 22)
  have bB := Blk.new ((w2.alloc (.cells #[.slice (some ⟨w.heap.size + 1, 0, none⟩) n n] 22)).alloc (.cells #[.int .u32 0] 43)) 22 #[.slice (some ⟨b, off, none⟩) n c]
  have bD := ((bD2.alloc (.cells #[.slice (some ⟨w.heap.size + 1, 0, none⟩) n n] 22)).alloc (.cells #[.int .u32 0] 43)).alloc (.cells #[.slice (some ⟨b, off, none⟩) n c] 22)
  have hB := ((hB2.alloc hB2.size (.cells #[.slice (some ⟨w.heap.size + 1, 0, none⟩) n n] 22)).alloc (by simp; omega) (.cells #[.int .u32 0] 43)).alloc (by simp; omega) (.cells #[.slice (some ⟨b, off, none⟩) n c] 22)
  have hown0 := ((hown.alloc (.cells #[.slice (some ⟨w.heap.size + 1, 0, none⟩) n n] 22)).alloc (.cells #[.int .u32 0] 43)).alloc (.cells #[.slice (some ⟨b, off, none⟩) n c] 22)
  have hsz : (((w2.alloc (.cells #[.slice (some ⟨w.heap.size + 1, 0, none⟩) n n] 22)).alloc (.cells #[.int .u32 0] 43)).alloc (.cells #[.slice (some ⟨b, off, none⟩) n c] 22)).heap.size = w2.heap.size + 3 := by simp
  rw [World.size_alloc] at bR bB
  rw [World.size_alloc] at bB
  generalize (((w2.alloc (.cells #[.slice (some ⟨w.heap.size + 1, 0, none⟩) n n] 22)).alloc (.cells #[.int .u32 0] 43)).alloc (.cells #[.slice (some ⟨b, off, none⟩) n c] 22)) = W0 at *
  have hlen := hr.len
  have hRs : RsB (w2.heap.size + 1 + 1) b off n c l W0 := ⟨bB.cell 0, fun j x hx => (hB.cell (p := ⟨b, off + j, none⟩) hb).trans (hcells j _ (by rw [List.getElem?_map, hx]; rfl))⟩
  refine (wpIn_wide (n := 3)).1 ?_
  refine wpIn_rangeFunc_ownG (F := Fence.wide) rfl (by omega) (gf := 72) (lb := #[.pointer (some ⟨w2.heap.size + 1 + 1, 0, none⟩)]) rfl trivial (enters_of Tryd.func72 (by kernel_rfl) rfl)
    (back_stops Fence.wide (3 - 1) trivial rfl (by omega) (w2.heap.size + 1 + 1) b off n c l hlen hr.lt hn W0 (by omega) (by omega) hRs) (fun h k x => k (h x)) ?hKb (Below.refl _ _) (fun _ => rfl)
    (fun pre W => (∃ o r, (pre.map Subtype.val).foldl (dstep d) (List.replicate n 0, 0) = (o, r) ∧ r < d ∧ OwnL W w.heap.size (some ⟨w.heap.size + 1, 0, none⟩) n n o ∧ Blk W (w2.heap.size + 1) 43 #[.int .u32 (r : Int)] ∧
      Blk W w2.heap.size 22 #[.slice (some ⟨w.heap.size + 1, 0, none⟩) n n] ∧ Blk W w.heap.size 43 #[.int .u32 (d : Int)]) ∧ Below w.heap.size w W)
    (fun _ _ _ => False) ?hI (fun _ _ _ _ _ hs _ _ => hs) ⟨⟨_, _, rfl, hd, hown0, bR, bO, bD⟩, hB⟩
    (fun x => { tmps := #[.slice (some ⟨b, off, none⟩) n c, .int .u32 (d : Int), undef, .pointer (some ⟨w.heap.size, 0, none⟩), .slice none 0 0, .int .u32 0, .pointer (some ⟨w2.heap.size, 0, none⟩), .pointer (some ⟨w2.heap.size + 1, 0, none⟩), .int .i64 (x.1.1 : Int), .int .u32 (x.1.2 : Int), .slice (some ⟨b, off, none⟩) n c, .int .i64 (n : Int), .slice (some ⟨w.heap.size + 1, 0, none⟩) n n, .slice (some ⟨b, off, none⟩) n c, .func (.func 72) #[] #[.pointer (some ⟨w2.heap.size + 1 + 1, 0, none⟩)], .int .i64 (x.1.1 : Int), .int .u32 (x.1.2 : Int), undef, undef, undef, undef, undef, undef, undef, undef, undef, undef, undef, undef, undef], defers := [] }) ?assign ?body ?done ?stop
  case hKb =>
    intro W k o o' hk ho hc hw hR
    exact ⟨cell_kept hR.box (grownBy_putObj' W k o') (fun r e => by cases e; exact ⟨o, ho, hc⟩), fun j x hx => cell_kept (hR.at_ j x hx) (grownBy_putObj' W k o') (fun r e => by cases e; exact ⟨o, ho, hc⟩)⟩
  case hI =>
    rintro pre W W' row ⟨⟨o, r, hf, hrd, ho, hR, hO, hD⟩, hBl⟩ hg hrow
    have hne : ∀ g, g < W0.heap.size → some g ≠ row := fun g hg' e => by have := (hrow g e.symm).1; omega
    exact ⟨⟨o, r, hf, hrd, ho.kept hg (fun ad e => by cases e; exact hne _ (show w.heap.size + 1 < _ by omega)), hR.grown hg (hne _ (by omega)), hO.grown hg (hne _ (by omega)), hD.grown hg (hne _ (by omega))⟩, hBl.grown hg hBl.size (fun k e => by have := (hrow k e).1; omega)⟩
  case assign =>
    intro l x W K hK
    gi_wp2
    exact hK
  case body =>
    rintro lp pre ⟨⟨j, y⟩, hj, hy⟩ W ⟨⟨o, r, hf, hrd, ho, hR, hO, hD⟩, hBl⟩ _
    have cR : W.cell? ⟨w2.heap.size + 1, 0, none⟩ = some (.int .u32 (r : Int)) := hR.cell 0
    have fR := hR.frozen 0
    have cO : W.cell? ⟨w2.heap.size, 0, none⟩ = some (.slice (some ⟨w.heap.size + 1, 0, none⟩) n n) := hO.cell 0
    have cD : W.cell? ⟨w.heap.size, 0, none⟩ = some (.int .u32 (d : Int)) := hD.cell 0
    obtain ⟨g, z, he, _, _, _, _, hco, hf0⟩ := ho.get (k := j) hj
    cases he
    have jn : (j : Int) < n := by have : j < n := hj; omega
    gi_wp2
    refine wpIn_round_held (fun w' => w'.cell? ⟨w2.heap.size, 0, none⟩ = some (.slice (some ⟨w.heap.size + 1, 0, none⟩) n n) ∧ w'.cell? ⟨w.heap.size, 0, none⟩ = some (.int .u32 (d : Int))) (by kernel_rfl) (by kernel_rfl) ⟨cO, cD⟩ (fun hS => ?_)
    refine wpAnyH_take (i := 0) (v := .slice (some ⟨w.heap.size + 1, 0, none⟩) n n) rfl (by kernel_rfl) (by kernel_rfl) (by kernel_rfl) (fun _ _ _ h => h.elim) (Or.inl ⟨by rfl, by intro w hSw; go_simp⟩) hS ?_
    dsimp only [Act.put, List.setIfInBounds_toArray, List.set]
    refine wpAnyH_take (i := 1) (v := .int .i64 (j : Int)) rfl (by kernel_rfl) (by kernel_rfl) (by kernel_rfl) (fun _ _ _ h => h.elim) (Or.inl ⟨by rfl, by intro w hSw; go_simp⟩) hS ?_
    dsimp only [Act.put, List.setIfInBounds_toArray, List.set]
    refine wpAnyH_take (i := 3) (v := .int .u32 (y : Int)) rfl (by kernel_rfl) (by kernel_rfl) (by kernel_rfl) (fun _ _ _ h => h.elim) (Or.inl ⟨by rfl, by intro w hSw; go_simp⟩) hS ?_
    dsimp only [Act.put, List.setIfInBounds_toArray, List.set]
    refine wpAnyH_take (i := 4) (v := .int .u32 (d : Int)) rfl (by kernel_rfl) (by kernel_rfl) (by kernel_rfl) (fun _ _ _ h => h.elim) (Or.inl ⟨by rfl, by intro w hSw; go_simp⟩) hS ?_
    dsimp only [Act.put, List.setIfInBounds_toArray, List.set]
    refine wpAnyH_ready (rs := [2]) (by kernel_rfl) (by simp) ?_
    refine AllReadyH.cons rfl (fun K hK => ?_) AllReadyH.nil
    go_simp
    refine hK.out _ _ hS (fun _ => ?_)
    clear hK K
    obtain ⟨q, hq⟩ : ∃ q, (r * 4294967296 + y) / d = q := ⟨_, rfl⟩
    obtain ⟨u, hu⟩ : ∃ u, (r * 4294967296 + y) % d = u := ⟨_, rfl⟩
    have hul : u < d := by rw [← hu]; exact Nat.mod_lt _ hd
    have hqu : r * 4294967296 + y = d * q + u := by rw [← hq, ← hu]; exact (Nat.div_add_mod _ _).symm
    have hql : q < 4294967296 := by
      rw [← hq, Nat.div_lt_iff_lt_mul hd]
      have := Nat.mul_le_mul_right 4294967296 hrd
      have hy' : y < 4294967296 := hy
      rw [Nat.mul_comm 4294967296 d]
      omega
    refine wpAnyH_ready (rs := [5]) (by kernel_rfl) (by simp) ?_
    refine AllReadyH.cons rfl (fun K hK => ?_) AllReadyH.nil
    go_simp
    refine (div32_any r y d q u _ hy hdl hrd hul hqu).mono ?_
    rintro e w5 ⟨rfl, k5, rfl⟩
    refine hK.out _ _ hS (fun hS5 => ?_)
    clear hK K
    refine wpAnyH_take (i := 6) (v := .tuple #[.int .u32 (q : Int), .int .u32 (u : Int)]) rfl (by kernel_rfl) (by kernel_rfl) (by kernel_rfl) (fun _ _ _ h => h.elim) (Or.inl ⟨by rfl, by intro w hSw; go_simp⟩) hS5 ?_
    dsimp only [Act.put, List.setIfInBounds_toArray, List.set]
    refine wpAnyH_take (i := 7) (v := .int .u32 (q : Int)) rfl (by kernel_rfl) (by kernel_rfl) (by kernel_rfl) (fun _ _ _ h => h.elim) (Or.inl ⟨by rfl, by intro w hSw; go_simp⟩) hS5 ?_
    dsimp only [Act.put, List.setIfInBounds_toArray, List.set]
    refine wpAnyH_take (i := 8) (v := .int .u32 (u : Int)) rfl (by kernel_rfl) (by kernel_rfl) (by kernel_rfl) (fun _ _ _ h => h.elim) (Or.inl ⟨by rfl, by intro w hSw; go_simp⟩) hS5 ?_
    dsimp only [Act.put, List.setIfInBounds_toArray, List.set]
    refine wpAnyH_take (i := 9) (v := .pointer (some ⟨w.heap.size + 1, j, none⟩)) rfl (by kernel_rfl) (by kernel_rfl) (by kernel_rfl) (fun _ _ _ h => h.elim) (Or.inl ⟨by rfl, by intro w hSw; go_simp⟩) hS5 ?_
    dsimp only [Act.put, List.setIfInBounds_toArray, List.set]
    refine wpAnyH_ready (rs := [10]) (by kernel_rfl) (by simp) ?_
    refine AllReadyH.cons rfl (fun K hK => ?_) AllReadyH.nil
    go_simp
    have cO6 : ((W.drewN (1 + k5)).setCell ⟨w.heap.size + 1, j, none⟩ (.int .u32 (q : Int))).cell? ⟨w2.heap.size, 0, none⟩ = some (.slice (some ⟨w.heap.size + 1, 0, none⟩) n n) :=
      (World.cell?_setCell_other _ _ _ _ (by intro e; have := congrArg Addr.block e; simp at this; omega)).trans cO
    have cD6 : ((W.drewN (1 + k5)).setCell ⟨w.heap.size + 1, j, none⟩ (.int .u32 (q : Int))).cell? ⟨w.heap.size, 0, none⟩ = some (.int .u32 (d : Int)) :=
      (World.cell?_setCell_other _ _ _ _ (by intro e; have := congrArg Addr.block e; simp at this)).trans cD
    have cR6 : ((W.drewN (1 + k5)).setCell ⟨w.heap.size + 1, j, none⟩ (.int .u32 (q : Int))).cell? ⟨w2.heap.size + 1, 0, none⟩ = some (.int .u32 (r : Int)) :=
      (World.cell?_setCell_other _ _ _ _ (by intro e; have := congrArg Addr.block e; simp at this; omega)).trans cR
    refine hK.out _ _ ⟨cO6, cD6⟩ (fun _ => ?_)
    clear hK K
    refine wpAnyH_ready (rs := [11]) (by kernel_rfl) (by simp) ?_
    refine AllReadyH.cons rfl (fun K hK => ?_) AllReadyH.nil
    go_simp
    refine hK.out _ _ ⟨(World.cell?_setCell_other _ _ _ _ (by intro e; have := congrArg Addr.block e; simp at this)).trans cO6, (World.cell?_setCell_other _ _ _ _ (by intro e; have := congrArg Addr.block e; simp at this; omega)).trans cD6⟩ (fun _ => ?_)
    clear hK K
    refine wpAnyH_done (by kernel_rfl) ?_ _
    show Exit.inBlock 1 _ .normal _ _
    gi_wp2
    have KO : KeepsOthers W (W.drewN (1 + k5)) := ⟨Nat.le_refl _, fun _ _ h _ => h⟩
    refine ⟨((KO.trans (KeepsOthers.setCell _ _ _)).trans (KeepsOthers.setCell _ _ _)).from _, fun hx => ⟨?_, fun i x hix => ?_⟩, ⟨o.set j q, u, ?_, hul, ?_, ?_, ?_, ?_⟩, ?_⟩
    · refine (World.cell?_setCell_other _ _ _ _ (by intro e; have := congrArg Addr.block e; simp at this)).trans ((World.cell?_setCell_other _ _ _ _ (by intro e; have := congrArg Addr.block e; simp at this; omega)).trans hx.box)
    · refine (World.cell?_setCell_other _ _ _ _ (by intro e; have := congrArg Addr.block e; simp at this; omega)).trans ((World.cell?_setCell_other _ _ _ _ (by intro e; have := congrArg Addr.block e; simp at this; omega)).trans (hx.at_ i x hix))
    · rw [List.map_append, List.foldl_append, hf]
      show dstep d (o, r) (j, y) = _
      unfold dstep
      rw [hq, hu]
    · exact ((ho.drewN _).stored j q hql).setCell (fun ad e => by cases e; show w.heap.size + 1 ≠ w2.heap.size + 1; omega) _
    · exact ((hR.drewN _).far (p := ⟨w.heap.size + 1, j, none⟩) (by show w2.heap.size + 1 ≠ w.heap.size + 1; omega) _).set_ 0 _
    · exact ((hO.drewN _).far (p := ⟨w.heap.size + 1, j, none⟩) (by show w2.heap.size ≠ w.heap.size + 1; omega) _).far (p := ⟨w2.heap.size + 1, 0, none⟩) (by show w2.heap.size ≠ w2.heap.size + 1; omega) _
    · exact ((hD.drewN _).far (p := ⟨w.heap.size + 1, j, none⟩) (by show w.heap.size ≠ w.heap.size + 1; omega) _).far (p := ⟨w2.heap.size + 1, 0, none⟩) (by show w.heap.size ≠ w2.heap.size + 1; omega) _
    · have hB1 : Below w.heap.size w (W.drewN (1 + k5)) := ⟨hBl.os, hBl.tape, hBl.output, hBl.size, hBl.block⟩
      exact (hB1.setCell (p := ⟨w.heap.size + 1, j, none⟩) (Nat.le_succ _) _).setCell (p := ⟨w2.heap.size + 1, 0, none⟩) (by show w.heap.size ≤ w2.heap.size + 1; omega) _
  case done =>
    rintro D ys W hDs hys ⟨⟨o, r, hf, hrd, ho, hR, hO, hD⟩, hBl⟩ hK
    rw [hys, ← hlen] at hf
    obtain ⟨hvo, hvr⟩ := dfin l d hd o r hf
    have HO := Lib.hid hvo
    have HR := Lib.hid hvr
    have cR : W.cell? ⟨w2.heap.size + 1, 0, none⟩ = some (.int .u32 (r : Int)) := hR.cell 0
    have cO : W.cell? ⟨w2.heap.size, 0, none⟩ = some (.slice (some ⟨w.heap.size + 1, 0, none⟩) n n) := hO.cell 0
    clear hvo hvr hf hys
    gi_wp2
    have l1 : w2.heap.size < W.heap.size := hO.lt
    have l2 : w2.heap.size + 1 < W.heap.size := hR.lt
    have lD := (Array.getElem?_eq_some_iff.1 hK).1
    go_wp2_with fail
    go_region_held3 (fun w' => w'.cell? ⟨w2.heap.size, 0, none⟩ = some (.slice (some ⟨w.heap.size + 1, 0, none⟩) n n) ∧ w'.cell? ⟨w2.heap.size + 1, 0, none⟩ = some (.int .u32 (r : Int)))
      (first | exact ⟨cO, cR⟩ | exact ⟨(hB6.cell (p := ⟨w2.heap.size, 0, none⟩) l1).trans cO, (hB6.cell (p := ⟨w2.heap.size + 1, 0, none⟩) l2).trans cR⟩)
      ((first | (go_at_call 39; refine (trim_any (some ⟨w.heap.size + 1, 0, none⟩) n n o _ ?_ hn).mono ?_; (exact ho.ints.drew); rintro e w6 ⟨A2, m, rfl, hm, hO2, hB6⟩)))
    go_wp2_with fail
    rw [HO.out] at hO2
    have hK6 : w6.heap[D]? = some (.deferred (some [])) := (hB6.block D lD).trans hK
    have hg6 := grownBy_putObj' w6 D (.deferred none)
    refine ⟨by simp, .inl ⟨_, _, rfl, run_takeDeferred hK6, ?_⟩⟩
    refine ⟨_, results_tmp2 rfl _ _ _, A2, m, by rw [← HR.out]; rfl, hm, (hO2.kept hg6 (fun ad e h => ?_)).mono hBl.size, ?_⟩
    · have h1 := (hO2.lt_ ad e).1
      have h2 : ad.block = D := by injection h
      have h3 : W.drew.heap.size = W.heap.size := rfl
      omega
    · have hB7 : Below w.heap.size w w6 := below_step (w := W.drew) (hBl.drew) hB6 hBl.size
      exact hB7.grown hg6 hB7.size (fun k e => by have := hBl.size; cases e; omega)
  case stop =>
    rintro D c pre W _ _ h _
    exact h.elim
end Go.Proofs.YticjhlbmdjijnaaDoor
