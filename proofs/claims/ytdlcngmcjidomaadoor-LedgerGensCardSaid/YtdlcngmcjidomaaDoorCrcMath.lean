/- The plain law of the sum: the shift register on natural numbers is linear and, on numbers of 32 bits, without a kernel. No condition. -/
namespace Go.Proofs.YtdlcngmcjidomaaDoor
namespace Crc

def poly : Nat := 3988292384
/-- One step of the register. -/
def cstep (y : Nat) : Nat := (y / 2) ^^^ (poly * (y % 2))
def citer : Nat → Nat → Nat
  | 0, y => y
  | m + 1, y => citer m (cstep y)

theorem cstep_even (y : Nat) (h : y % 2 = 0) : cstep y = y / 2 := by simp [cstep, h]
theorem cstep_odd (y : Nat) (h : y % 2 = 1) : cstep y = (y / 2) ^^^ poly := by simp [cstep, h]
theorem cstep_two (y : Nat) : cstep (2 * y) = y := by rw [cstep_even _ (by omega)]; omega
theorem cstep_zero : cstep 0 = 0 := rfl
theorem xor_mod2 (a b : Nat) : (a ^^^ b) % 2 = (a % 2 + b % 2) % 2 := by
  have h := Nat.testBit_xor a b 0
  simp only [Nat.testBit_zero] at h
  rcases Nat.mod_two_eq_zero_or_one a with ha | ha <;> rcases Nat.mod_two_eq_zero_or_one b with hb | hb <;>
    rcases Nat.mod_two_eq_zero_or_one (a ^^^ b) with hc | hc <;> simp [ha, hb, hc] at h ⊢
theorem xor_div2 (a b : Nat) : (a ^^^ b) / 2 = (a / 2) ^^^ (b / 2) := by
  apply Nat.eq_of_testBit_eq
  intro i
  simp only [Nat.testBit_div_two, Nat.testBit_xor]
theorem xor_lc (a b c : Nat) : a ^^^ (b ^^^ c) = b ^^^ (a ^^^ c) := by
  rw [← Nat.xor_assoc, Nat.xor_comm a b, Nat.xor_assoc]
theorem cstep_xor (a b : Nat) : cstep (a ^^^ b) = cstep a ^^^ cstep b := by
  unfold cstep
  rw [xor_mod2, xor_div2]
  rcases Nat.mod_two_eq_zero_or_one a with ha | ha <;> rcases Nat.mod_two_eq_zero_or_one b with hb | hb <;> simp only [ha, hb] <;> simp
  · exact Nat.xor_assoc _ _ _
  · rw [Nat.xor_assoc, Nat.xor_assoc, Nat.xor_comm (b / 2)]
  · rw [Nat.xor_assoc, xor_lc poly, Nat.xor_self, Nat.xor_zero]
theorem citer_xor (m : Nat) : ∀ a b, citer m (a ^^^ b) = citer m a ^^^ citer m b := by
  induction m with
  | zero => intro a b; rfl
  | succ m ih => intro a b; simp only [citer, cstep_xor, ih]
theorem citer_zero (m : Nat) : citer m 0 = 0 := by
  induction m with
  | zero => rfl
  | succ m ih => simpa [citer, cstep_zero] using ih
theorem citer_add (m : Nat) : ∀ n y, citer (m + n) y = citer n (citer m y) := by
  induction m with
  | zero => intro n y; simp [citer]
  | succ m ih => intro n y; rw [show m + 1 + n = (m + n) + 1 from by omega]; simp only [citer]; exact ih n _
theorem citer_succ (m y : Nat) : citer (m + 1) y = cstep (citer m y) := by rw [citer_add m 1]; rfl
theorem citer_pow (m : Nat) : ∀ y, citer m (2 ^ m * y) = y := by
  induction m with
  | zero => intro y; simp [citer]
  | succ m ih =>
    intro y
    rw [citer, show 2 ^ (m + 1) * y = 2 * (2 ^ m * y) from by rw [Nat.pow_succ, Nat.mul_comm (2 ^ m) 2, Nat.mul_assoc], cstep_two]
    exact ih y
theorem poly_lt : poly < 2 ^ 32 := by decide
theorem cstep_lt (y : Nat) (h : y < 2 ^ 32) : cstep y < 2 ^ 32 := by
  unfold cstep
  refine Nat.xor_lt_two_pow (by omega) ?_
  rcases Nat.mod_two_eq_zero_or_one y with hy | hy <;> rw [hy] <;> simp [poly]
theorem citer_lt (m : Nat) : ∀ y, y < 2 ^ 32 → citer m y < 2 ^ 32 := by
  induction m with
  | zero => intro y h; exact h
  | succ m ih => intro y h; exact ih _ (cstep_lt y h)
theorem xor_eq_zero {a b : Nat} (h : a ^^^ b = 0) : a = b := by
  have := congrArg (· ^^^ b) h
  simpa [Nat.xor_assoc] using this
theorem cstep_ne (y : Nat) (h : y < 2 ^ 32) (h0 : y ≠ 0) : cstep y ≠ 0 := by
  rcases Nat.mod_two_eq_zero_or_one y with hy | hy
  · rw [cstep_even _ hy]; omega
  · rw [cstep_odd _ hy]
    intro e
    have := xor_eq_zero e
    unfold poly at this
    omega
theorem citer_ne (m : Nat) : ∀ y, y < 2 ^ 32 → y ≠ 0 → citer m y ≠ 0 := by
  induction m with
  | zero => intro y _ h; exact h
  | succ m ih => intro y h h0; exact ih _ (cstep_lt y h) (cstep_ne y h h0)

/-- Bytes as a number, the least first. -/
def num : List Nat → Nat
  | [] => 0
  | c :: l => c + 256 * num l
theorem low_xor (c r : Nat) (h : c < 256) : c + 256 * r = c ^^^ (256 * r) := by
  apply Nat.eq_of_testBit_eq
  intro i
  rw [Nat.testBit_xor, show (256 : Nat) = 2 ^ 8 from rfl, Nat.add_comm, Nat.testBit_two_pow_mul_add _ (by simpa using h), Nat.testBit_two_pow_mul]
  by_cases hi : i < 8
  · simp [hi, show ¬ 8 ≤ i from by omega]
  · have : c.testBit i = false := Nat.testBit_lt_two_pow (Nat.lt_of_lt_of_le h (by rw [show (256 : Nat) = 2 ^ 8 from rfl]; exact Nat.pow_le_pow_right (by decide) (by omega)))
    simp [hi, this]
    omega
/-- The register behind bytes, a byte at a time. -/
def reg : Nat → List Nat → Nat
  | x, [] => x
  | x, c :: l => reg (citer 8 (x ^^^ c)) l
theorem reg_num (l : List Nat) : ∀ x, (∀ c ∈ l, c < 256) → reg x l = citer (8 * l.length) (x ^^^ num l) := by
  induction l with
  | nil => intro x _; simp [reg, num, citer]
  | cons c l ih =>
    intro x h
    rw [reg, ih _ (fun d hd => h d (List.mem_cons_of_mem _ hd)), num, low_xor c _ (h c (List.mem_cons_self ..)), ← Nat.xor_assoc, List.length_cons,
      show 8 * (l.length + 1) = 8 + 8 * l.length from by omega, citer_add, citer_xor 8 (x ^^^ c), show (256 : Nat) = 2 ^ 8 from rfl, citer_pow]
theorem reg_lt (l : List Nat) : ∀ x, x < 2 ^ 32 → (∀ c ∈ l, c < 256) → reg x l < 2 ^ 32 := by
  induction l with
  | nil => intro x h _; exact h
  | cons c l ih =>
    intro x h hl
    refine ih _ (citer_lt 8 _ (Nat.xor_lt_two_pow h ?_)) (fun d hd => hl d (List.mem_cons_of_mem _ hd))
    have := hl c (List.mem_cons_self ..)
    omega
theorem reg_append (l m : List Nat) : ∀ x, reg x (l ++ m) = reg (reg x l) m := by
  induction l with
  | nil => intro x; rfl
  | cons c l ih => intro x; exact ih _

def tab (k : Nat) : Nat := citer 8 k
theorem tab_lt (k : Nat) (h : k < 256) : tab k < 2 ^ 32 := citer_lt 8 k (by omega)
/-- A byte at a time, by the table. -/
theorem reg_step (x c : Nat) : citer 8 (x ^^^ c) = (x / 256) ^^^ tab ((x % 256) ^^^ c) := by
  have e : x ^^^ c = ((x % 256) ^^^ c) ^^^ (256 * (x / 256)) := by
    have h := low_xor (x % 256) (x / 256) (by omega)
    have hx : x % 256 + 256 * (x / 256) = x := by omega
    rw [hx] at h
    rw [Nat.xor_assoc, Nat.xor_comm c, ← Nat.xor_assoc, ← h]
  rw [e, citer_xor, show (256 : Nat) = 2 ^ 8 from rfl, citer_pow, Nat.xor_comm]
  rfl

def sum (l : List Nat) : Nat := 4294967295 - reg 4294967295 l
theorem sum_lt (l : List Nat) : sum l < 2 ^ 32 := by unfold sum; omega

/-- What the registers of two rows of one length have between them. -/
theorem reg_diff (a b : List Nat) (x : Nat) (ha : ∀ c ∈ a, c < 256) (hb : ∀ c ∈ b, c < 256) (hl : a.length = b.length) :
    reg x a ^^^ reg x b = citer (8 * a.length) (num a ^^^ num b) := by
  rw [reg_num a x ha, reg_num b x hb, ← hl, ← citer_xor]
  congr 1
  rw [Nat.xor_assoc, xor_lc (num a), ← Nat.xor_assoc, Nat.xor_self, Nat.zero_xor]
theorem sum_inj (a b : List Nat) (ha : ∀ c ∈ a, c < 256) (hb : ∀ c ∈ b, c < 256) : sum a = sum b ↔ reg 4294967295 a = reg 4294967295 b := by
  have h1 := reg_lt a 4294967295 (by decide) ha
  have h2 := reg_lt b 4294967295 (by decide) hb
  unfold sum
  omega
/-- Rows that differ in a window of 32 bits have unlike sums. -/
theorem sum_window (a b : List Nat) (ha : ∀ c ∈ a, c < 256) (hb : ∀ c ∈ b, c < 256) (hl : a.length = b.length) (k d : Nat)
    (hd : d < 2 ^ 32) (h0 : d ≠ 0) (hk : k ≤ 8 * a.length) (he : num a ^^^ num b = 2 ^ k * d) : sum a ≠ sum b := by
  rw [Ne, sum_inj a b ha hb]
  intro e
  have h := reg_diff a b 4294967295 ha hb hl
  rw [e, Nat.xor_self, he, show 8 * a.length = k + (8 * a.length - k) from by omega, citer_add, citer_pow] at h
  exact citer_ne _ d hd h0 h.symm
theorem num_append (l m : List Nat) : num (l ++ m) = num l + 2 ^ (8 * l.length) * num m := by
  induction l with
  | nil => simp [num]
  | cons c l ih =>
    simp only [List.cons_append, num, ih, List.length_cons]
    rw [Nat.mul_add, ← Nat.mul_assoc, show (256 : Nat) * 2 ^ (8 * l.length) = 2 ^ (8 * (l.length + 1)) from by
      rw [Nat.mul_add, Nat.pow_add, Nat.mul_comm]]
    omega
theorem num_lt (l : List Nat) (h : ∀ c ∈ l, c < 256) : num l < 2 ^ (8 * l.length) := by
  induction l with
  | nil => simp [num]
  | cons c l ih =>
    have h1 := ih (fun d hd => h d (List.mem_cons_of_mem _ hd))
    have h2 := h c (List.mem_cons_self ..)
    simp only [num, List.length_cons]
    rw [show 8 * (l.length + 1) = 8 * l.length + 8 from by omega, Nat.pow_add]
    omega
theorem add_xor (n x y : Nat) (h : x < 2 ^ n) : x + 2 ^ n * y = x ^^^ (2 ^ n * y) := by
  apply Nat.eq_of_testBit_eq
  intro i
  rw [Nat.testBit_xor, Nat.add_comm, Nat.testBit_two_pow_mul_add _ h, Nat.testBit_two_pow_mul]
  by_cases hi : i < n
  · simp [hi, show ¬ n ≤ i from by omega]
  · have : x.testBit i = false := Nat.testBit_lt_two_pow (Nat.lt_of_lt_of_le h (Nat.pow_le_pow_right (by decide) (by omega)))
    simp [hi, this]
    omega
theorem mul_xor (n x y : Nat) : 2 ^ n * x ^^^ 2 ^ n * y = 2 ^ n * (x ^^^ y) := by
  apply Nat.eq_of_testBit_eq
  intro i
  rw [Nat.testBit_xor, Nat.testBit_two_pow_mul, Nat.testBit_two_pow_mul, Nat.testBit_two_pow_mul, Nat.testBit_xor]
  by_cases hi : n ≤ i <;> simp [hi]
/-- Bytes in the middle alone are turned. -/
theorem num_mid (p a b q : List Nat) (hp : ∀ c ∈ p, c < 256) (ha : ∀ c ∈ a, c < 256) (hb : ∀ c ∈ b, c < 256) (hl : a.length = b.length) :
    num (p ++ a ++ q) ^^^ num (p ++ b ++ q) = 2 ^ (8 * p.length) * (num a ^^^ num b) := by
  rw [List.append_assoc, List.append_assoc, num_append, num_append p, num_append a, num_append b, ← hl, add_xor _ _ _ (num_lt p hp), add_xor _ _ _ (num_lt p hp),
    add_xor _ _ _ (num_lt a ha), add_xor _ (num b) _ (by rw [hl]; exact num_lt b hb)]
  rw [Nat.xor_assoc, xor_lc (2 ^ (8 * p.length) * _) (num p), ← Nat.xor_assoc, Nat.xor_self, Nat.zero_xor, mul_xor]
  congr 1
  rw [Nat.xor_assoc, xor_lc (2 ^ (8 * a.length) * num q), Nat.xor_self, Nat.xor_zero]
theorem num_inj (a : List Nat) : ∀ b : List Nat, (∀ c ∈ a, c < 256) → (∀ c ∈ b, c < 256) → a.length = b.length → num a = num b → a = b := by
  induction a with
  | nil => intro b _ _ hl _; exact (List.eq_nil_of_length_eq_zero hl.symm).symm
  | cons c a ih =>
    intro b ha hb hl h
    cases b with
    | nil => simp at hl
    | cons d b =>
      simp only [num] at h
      have h1 := ha c (List.mem_cons_self ..)
      have h2 := hb d (List.mem_cons_self ..)
      rw [show c = d from by omega, ih b (fun e he => ha e (List.mem_cons_of_mem _ he)) (fun e he => hb e (List.mem_cons_of_mem _ he)) (by simpa using hl) (by omega)]
theorem sum_mid (p a b q : List Nat) (hp : ∀ c ∈ p, c < 256) (ha : ∀ c ∈ a, c < 256) (hb : ∀ c ∈ b, c < 256) (hq : ∀ c ∈ q, c < 256) (hl : a.length = b.length) (h4 : a.length ≤ 4) (hne : a ≠ b) :
    sum (p ++ a ++ q) ≠ sum (p ++ b ++ q) := by
  have hall : ∀ m : List Nat, (∀ c ∈ m, c < 256) → ∀ c ∈ p ++ m ++ q, c < 256 := fun m hm c hc => by
    simp only [List.mem_append] at hc
    rcases hc with (hc | hc) | hc
    · exact hp c hc
    · exact hm c hc
    · exact hq c hc
  have hlt : 2 ^ (8 * a.length) ≤ 2 ^ 32 := Nat.pow_le_pow_right (by decide) (by omega)
  refine sum_window _ _ (hall a ha) (hall b hb) (by simp [hl]) (8 * p.length) (num a ^^^ num b) ?_ ?_ (by simp; omega) (num_mid p a b q hp ha hb hl)
  · exact Nat.xor_lt_two_pow (Nat.lt_of_lt_of_le (num_lt a ha) hlt) (Nat.lt_of_lt_of_le (by have := num_lt b hb; rwa [← hl] at this) hlt)
  · intro e
    exact hne (num_inj a b ha hb hl (xor_eq_zero e))
end Crc
end Go.Proofs.YtdlcngmcjidomaaDoor
