/- The register of the check sum over bits and bytes, in plain Lean: no program. -/
namespace Go.Proofs.Ytdecoenollejiaa.CrcMath

/-- One step of the register, no bit fed. -/
def T (x : BitVec 16) : BitVec 16 := if x.msb then (x <<< 1) ^^^ 0x1021#16 else x <<< 1

theorem T_xor (a b : BitVec 16) : T (a ^^^ b) = T a ^^^ T b := by
  unfold T
  rw [BitVec.msb_xor]
  cases ha : a.msb <;> cases hb : b.msb
  · simp [BitVec.shiftLeft_xor_distrib]
  · simp [BitVec.shiftLeft_xor_distrib]; ac_rfl
  · simp [BitVec.shiftLeft_xor_distrib]; ac_rfl
  · simp only [BitVec.shiftLeft_xor_distrib, if_true]
    rw [if_neg (by simp)]
    have e : a <<< 1 ^^^ 4129#16 ^^^ (b <<< 1 ^^^ 4129#16) = (a <<< 1 ^^^ b <<< 1) ^^^ (4129#16 ^^^ 4129#16) := by ac_rfl
    rw [e, BitVec.xor_self]
    simp

theorem T_zero : T 0#16 = 0#16 := by decide

theorem shl_one_eq_zero {x : BitVec 16} (h : x <<< 1 = 0#16) (hm : x.msb = false) : x = 0#16 := by
  apply BitVec.eq_of_getLsbD_eq
  intro i hi
  by_cases h15 : i = 15
  · subst h15
    simpa [BitVec.msb_eq_getLsbD_last] using hm
  · have := congrArg (fun y : BitVec 16 => y.getLsbD (i + 1)) h
    simp only [BitVec.getLsbD_shiftLeft] at this
    have e : (decide (i + 1 < 16) && !decide (i + 1 < 1) && x.getLsbD (i + 1 - 1)) = x.getLsbD i := by
      have : i + 1 < 16 := by omega
      simp [this]
    rw [e] at this
    simpa using this

theorem T_inj0 {x : BitVec 16} (h : T x = 0#16) : x = 0#16 := by
  unfold T at h
  cases hm : x.msb
  · rw [hm] at h
    exact shl_one_eq_zero (by simpa using h) hm
  · rw [hm] at h
    simp only [if_true] at h
    have := congrArg (fun y : BitVec 16 => y.getLsbD 0) h
    simp at this

theorem xor_eq_zero {a b : BitVec 16} (h : a ^^^ b = 0#16) : a = b := by
  have : (a ^^^ b) ^^^ b = 0#16 ^^^ b := by rw [h]
  simpa [BitVec.xor_assoc] using this

theorem T_inj {a b : BitVec 16} (h : T a = T b) : a = b := by
  apply xor_eq_zero
  apply T_inj0
  rw [T_xor, h, BitVec.xor_self]

/-- n steps. -/
def Tn : Nat → BitVec 16 → BitVec 16
  | 0, x => x
  | n + 1, x => Tn n (T x)

theorem Tn_succ' (n : Nat) (x : BitVec 16) : Tn (n + 1) x = T (Tn n x) := by
  induction n generalizing x with
  | zero => rfl
  | succ n ih => exact ih (T x)

theorem Tn_xor (n : Nat) (a b : BitVec 16) : Tn n (a ^^^ b) = Tn n a ^^^ Tn n b := by
  induction n generalizing a b with
  | zero => rfl
  | succ n ih => simp only [Tn]; rw [T_xor, ih]

theorem Tn_zero (n : Nat) : Tn n 0#16 = 0#16 := by
  induction n with
  | zero => rfl
  | succ n ih => simp only [Tn]; rw [T_zero, ih]

theorem Tn_inj {n : Nat} {a b : BitVec 16} (h : Tn n a = Tn n b) : a = b := by
  induction n generalizing a b with
  | zero => exact h
  | succ n ih => exact T_inj (ih h)

/-- A byte, at the top. -/
def top (c : UInt8) : BitVec 16 := BitVec.ofNat 16 (c.toNat * 256)

/-- One byte fed. -/
def byte (x : BitVec 16) (c : UInt8) : BitVec 16 := Tn 8 (x ^^^ top c)

/-- The sum, gone on from x. -/
def more (x : BitVec 16) (l : List UInt8) : BitVec 16 := l.foldl byte x

theorem more_nil (x : BitVec 16) : more x [] = x := rfl
theorem more_cons (x : BitVec 16) (c : UInt8) (l : List UInt8) : more x (c :: l) = more (byte x c) l := rfl
theorem more_append (x : BitVec 16) (l m : List UInt8) : more x (l ++ m) = more (more x l) m := by
  unfold more; rw [List.foldl_append]

theorem byte_inj {a b : BitVec 16} {c : UInt8} (h : byte a c = byte b c) : a = b := by
  have := Tn_inj h
  have h2 : (a ^^^ top c) ^^^ top c = (b ^^^ top c) ^^^ top c := by rw [this]
  simpa [BitVec.xor_assoc] using h2

theorem more_inj {a b : BitVec 16} (l : List UInt8) (h : more a l = more b l) : a = b := by
  induction l generalizing a b with
  | nil => exact h
  | cons c l ih => exact byte_inj (ih h)

/-- One bit fed. -/
def bit (x : BitVec 16) (b : Bool) : BitVec 16 := T (x ^^^ (if b then 0x8000#16 else 0#16))

theorem bit_xor (x y : BitVec 16) (b c : Bool) : bit (x ^^^ y) (b ^^ c) = bit x b ^^^ bit y c := by
  unfold bit
  rw [← T_xor]
  congr 1
  cases b <;> cases c <;> simp
  · ac_rfl
  · ac_rfl
  · have : x ^^^ 32768#16 ^^^ (y ^^^ 32768#16) = (x ^^^ y) ^^^ (32768#16 ^^^ 32768#16) := by ac_rfl
    rw [this]; simp

/-- n bits of a stream fed. -/
def feed (f : Nat → Bool) (x : BitVec 16) : Nat → BitVec 16
  | 0 => x
  | n + 1 => bit (feed f x n) (f n)

theorem feed_xor (f g : Nat → Bool) (x y : BitVec 16) (n : Nat) : feed (fun i => f i ^^ g i) (x ^^^ y) n = feed f x n ^^^ feed g y n := by
  induction n with
  | zero => rfl
  | succ n ih => simp only [feed]; rw [ih, bit_xor]

theorem feed_congr {f g : Nat → Bool} (x : BitVec 16) (n : Nat) (h : ∀ i, i < n → f i = g i) : feed f x n = feed g x n := by
  induction n with
  | zero => rfl
  | succ n ih => simp only [feed]; rw [ih (fun i hi => h i (by omega)), h n (by omega)]

theorem feed_zero (x : BitVec 16) (f : Nat → Bool) (m n : Nat) (h : ∀ i, m ≤ i → i < m + n → f i = false) : feed f x (m + n) = Tn n (feed f x m) := by
  induction n with
  | zero => rfl
  | succ n ih =>
    rw [show m + (n + 1) = (m + n) + 1 from rfl, feed, ih (fun i hi hj => h i hi (by omega)), h (m + n) (by omega) (by omega), Tn_succ']
    unfold bit
    simp

theorem top_shift : ∀ m, m < 16 → Tn m (0x8000#16 >>> m) = 0x8000#16 := by decide +kernel

/-- What m bits of a stream leave, moved to the top. -/
def load (f : Nat → Bool) (at_ : Nat) : Nat → BitVec 16
  | 0 => 0#16
  | m + 1 => load f at_ m ^^^ (if f (at_ + m) then 0x8000#16 >>> m else 0#16)

theorem feed_run (f : Nat → Bool) (x : BitVec 16) (at_ m : Nat) (hm : m ≤ 16) : feed f x (at_ + m) = Tn m (feed f x at_ ^^^ load f at_ m) := by
  induction m with
  | zero => simp [load, Tn]
  | succ m ih =>
    rw [show at_ + (m + 1) = (at_ + m) + 1 from rfl, feed, ih (by omega), Tn_succ', load, ← BitVec.xor_assoc, Tn_xor m (feed f x at_ ^^^ load f at_ m)]
    unfold bit
    cases hf : f (at_ + m)
    · simp [Tn_zero]
    · simp only [if_true]; rw [top_shift m (by omega)]

theorem feed_load (f : Nat → Bool) (at_ m : Nat) (h : feed f 0#16 at_ = 0#16) (hm : m ≤ 16) : feed f 0#16 (at_ + m) = Tn m (load f at_ m) := by
  rw [feed_run f 0#16 at_ m hm, h, BitVec.zero_xor]

theorem load_bit (f : Nat → Bool) (at_ m : Nat) (hm : m ≤ 16) : ∀ i, i < 16 → (load f at_ m).getLsbD (15 - i) = (decide (i < m) && f (at_ + i)) := by
  induction m with
  | zero => intro i hi; simp [load]
  | succ m ih =>
    intro i hi
    rw [load, BitVec.getLsbD_xor, ih (by omega) i hi]
    by_cases hf : f (at_ + m) = true
    · rw [if_pos hf]
      have e : (0x8000#16 >>> m).getLsbD (15 - i) = decide (i = m) := by
        rw [BitVec.getLsbD_ushiftRight]
        have h8 : ∀ j, (0x8000#16).getLsbD j = decide (j = 15) := by
          intro j
          have e8 : (0x8000#16 : BitVec 16) = BitVec.twoPow 16 15 := by decide
          rw [e8, BitVec.getLsbD_twoPow]
          by_cases hj : j = 15
          · simp [hj]
          · simp [hj, Ne.symm hj]
        rw [h8]
        rw [decide_eq_decide]
        omega
      rw [e]
      by_cases hi2 : i = m
      · subst hi2; simp [hf]
      · by_cases h3 : i < m
        · have : i < m + 1 := by omega
          simp [h3, hi2, this]
        · have : ¬ i < m + 1 := by omega
          simp [h3, hi2, this]
    · rw [if_neg hf]
      by_cases hi2 : i = m
      · subst hi2
        have : f (at_ + i) = false := by simpa using hf
        simp [this]
      · by_cases h3 : i < m
        · have : i < m + 1 := by omega
          simp [h3, this]
        · have : ¬ i < m + 1 := by omega
          simp [h3, this]

/-- WHAT IS TURNED WITHIN 16 BITS IN A ROW LEAVES SOMETHING. -/
theorem burst (f : Nat → Bool) (at_ n : Nat) (hlow : ∀ i, i < at_ → f i = false) (hup : ∀ i, at_ + 16 ≤ i → f i = false) (hn : ∃ i, i < n ∧ f i = true) : feed f 0#16 n ≠ 0#16 := by
  intro h0
  obtain ⟨j, hj, hfj⟩ := hn
  have ha : at_ ≤ j := by
    apply Nat.le_of_not_lt
    intro hlt
    rw [hlow j hlt] at hfj
    cases hfj
  have hb : j < at_ + 16 := by
    apply Nat.lt_of_not_le
    intro hle
    rw [hup j hle] at hfj
    cases hfj
  have hs : feed f 0#16 at_ = 0#16 := by
    have := feed_zero 0#16 f 0 at_ (fun i _ hi => hlow i (by omega))
    rw [Nat.zero_add] at this
    rw [this]
    exact Tn_zero _
  -- stop at m = min (n - at) 16
  have key : ∃ m, m ≤ 16 ∧ j < at_ + m ∧ feed f 0#16 (at_ + m) = 0#16 := by
    by_cases hle : n ≤ at_ + 16
    · refine ⟨n - at_, by omega, by omega, ?_⟩
      rw [show at_ + (n - at_) = n by omega]
      exact h0
    · refine ⟨16, by omega, by omega, ?_⟩
      have := feed_zero 0#16 f (at_ + 16) (n - (at_ + 16)) (fun i hi _ => hup i hi)
      rw [show at_ + 16 + (n - (at_ + 16)) = n by omega, h0] at this
      exact (Tn_inj (n := n - (at_ + 16)) (by rw [← this, Tn_zero]))
  obtain ⟨m, hm, hjm, h2⟩ := key
  rw [feed_load f at_ m hs hm] at h2
  have h3 : load f at_ m = 0#16 := Tn_inj (n := m) (by rw [h2, Tn_zero])
  have h4 := load_bit f at_ m hm (j - at_) (by omega)
  rw [h3] at h4
  have : j - at_ < m := by omega
  simp [this] at h4
  rw [show at_ + (j - at_) = j by omega, hfj] at h4
  cases h4

/-- Bit i of a list of bytes, the highest first. -/
def bits (l : List UInt8) (i : Nat) : Bool := (l.getD (i / 8) 0).toNat.testBit (7 - i % 8)

theorem top_getLsbD (c : UInt8) (i : Nat) (hi : i < 16) : (top c).getLsbD (15 - i) = (decide (i < 8) && c.toNat.testBit (7 - i)) := by
  unfold top
  rw [BitVec.getLsbD_ofNat, show c.toNat * 256 = c.toNat * 2 ^ 8 from rfl, Nat.testBit_mul_two_pow]
  have h16 : decide (15 - i < 16) = true := by simp; omega
  rw [h16, Bool.true_and]
  by_cases h : i < 8
  · have h1 : 8 ≤ 15 - i := by omega
    have h2 : 15 - i - 8 = 7 - i := by omega
    simp [h, h1, h2]
  · have h1 : ¬ 8 ≤ 15 - i := by omega
    simp [h, h1]

theorem load_byte (f : Nat → Bool) (m : Nat) (c : UInt8) (h : ∀ i, i < 8 → f (m + i) = c.toNat.testBit (7 - i)) : load f m 8 = top c := by
  apply BitVec.eq_of_getLsbD_eq
  intro j hj
  have e : j = 15 - (15 - j) := by omega
  rw [e, load_bit f m 8 (by omega) (15 - j) (by omega), top_getLsbD c (15 - j) (by omega)]
  by_cases h8 : 15 - j < 8
  · rw [h _ h8]
  · simp [h8]

theorem more_feed_aux (f : Nat → Bool) (x : BitVec 16) : ∀ (l : List UInt8) (m : Nat), (∀ i, i < 8 * l.length → f (m + i) = bits l i) → more (feed f x m) l = feed f x (m + 8 * l.length)
  | [], m, _ => rfl
  | c :: l, m, h => by
    have h1 : load f m 8 = top c := load_byte f m c fun i hi => by
      rw [h i (by simp; omega)]
      unfold bits
      rw [show i / 8 = 0 by omega, show i % 8 = i by omega]
      rfl
    have h2 := more_feed_aux f x l (m + 8) fun i hi => by
      rw [Nat.add_assoc, h (8 + i) (by simp; omega)]
      unfold bits
      rw [show (8 + i) / 8 = i / 8 + 1 by omega, show (8 + i) % 8 = i % 8 by omega]
      rfl
    rw [more_cons]
    have h3 : byte (feed f x m) c = feed f x (m + 8) := by
      rw [feed_run f x m 8 (by omega), h1]
      rfl
    rw [h3, h2]
    congr 1
    simp
    omega

/-- THE SUM, BIT BY BIT. -/
theorem more_feed (x : BitVec 16) (l : List UInt8) : more x l = feed (bits l) x (8 * l.length) := by
  have := more_feed_aux (bits l) x l 0 fun i _ => by rw [Nat.zero_add]
  rw [Nat.zero_add] at this
  exact this

/-- TWO TEXTS OF ONE LENGTH THAT ARE UNLIKE WITHIN 16 BITS IN A ROW HAVE UNLIKE SUMS. -/
theorem more_burst (x : BitVec 16) (l m : List UInt8) (hl : l.length = m.length) (at_ : Nat) (hlow : ∀ i, i < at_ → bits l i = bits m i) (hup : ∀ i, at_ + 16 ≤ i → bits l i = bits m i) (hn : ∃ i, i < 8 * l.length ∧ bits l i ≠ bits m i) : more x l ≠ more x m := by
  intro h
  rw [more_feed, more_feed, ← hl] at h
  have h1 := feed_xor (bits l) (bits m) x x (8 * l.length)
  rw [h, BitVec.xor_self, BitVec.xor_self] at h1
  refine burst (fun i => bits l i ^^ bits m i) at_ (8 * l.length) ?_ ?_ ?_ h1
  · intro i hi; simp [hlow i hi]
  · intro i hi; simp [hup i hi]
  · obtain ⟨i, hi, hne⟩ := hn
    refine ⟨i, hi, ?_⟩
    cases ha : bits l i <;> cases hb : bits m i <;> simp_all

/-- WHAT IS SEALED IS RIGHT. -/
theorem more_seal (x : BitVec 16) (a b : UInt8) (h : x = BitVec.ofNat 16 (a.toNat * 256 + b.toNat)) : more x [a, b] = 0#16 := by
  have e : x = top a ^^^ BitVec.ofNat 16 b.toNat := by
    rw [h]
    unfold top
    apply BitVec.eq_of_toNat_eq
    rw [BitVec.toNat_xor]
    have ha := a.toNat_lt
    have hb := b.toNat_lt
    simp only [BitVec.toNat_ofNat]
    rw [Nat.mod_eq_of_lt (by omega), Nat.mod_eq_of_lt (by omega), Nat.mod_eq_of_lt (by omega)]
    have := Nat.two_pow_add_eq_or_of_lt (i := 8) (b := b.toNat) (by omega) a.toNat
    apply Nat.eq_of_testBit_eq
    intro i
    rw [Nat.testBit_xor]
    rw [show a.toNat * 256 + b.toNat = 2 ^ 8 * a.toNat + b.toNat by omega, this, Nat.testBit_or, show a.toNat * 256 = 2 ^ 8 * a.toNat by omega, Nat.testBit_two_pow_mul]
    by_cases h8 : 8 ≤ i
    · have : b.toNat.testBit i = false := Nat.testBit_lt_two_pow (Nat.lt_of_lt_of_le (by omega : b.toNat < 2 ^ 8) (Nat.pow_le_pow_right (by decide) h8))
      simp [this]
    · simp [h8]
  have low : ∀ n : Nat, n < 256 → Tn 8 (BitVec.ofNat 16 n) = BitVec.ofNat 16 (n * 256) := by decide +kernel
  show byte (byte x a) b = 0#16
  unfold byte
  rw [e]
  have : top a ^^^ BitVec.ofNat 16 b.toNat ^^^ top a = BitVec.ofNat 16 b.toNat ^^^ (top a ^^^ top a) := by ac_rfl
  rw [this, BitVec.xor_self, BitVec.xor_zero, low _ b.toNat_lt]
  show Tn 8 (top b ^^^ top b) = _
  rw [BitVec.xor_self, Tn_zero]

/-- AND NOTHING ELSE IS. -/
theorem more_seal_iff (x : BitVec 16) (a b : UInt8) : more x [a, b] = 0#16 ↔ x = BitVec.ofNat 16 (a.toNat * 256 + b.toNat) := by
  constructor
  · intro h
    have h2 := more_seal (BitVec.ofNat 16 (a.toNat * 256 + b.toNat)) a b rfl
    exact more_inj [a, b] (h.trans h2.symm)
  · exact more_seal x a b

/-- Sums of texts of one length go together. -/
theorem more_xor (x y : BitVec 16) : ∀ (l m : List UInt8), l.length = m.length → more (x ^^^ y) (List.zipWith (· ^^^ ·) l m) = more x l ^^^ more y m
  | [], [], _ => rfl
  | a :: l, b :: m, h => by
    have ht : top (a ^^^ b) = top a ^^^ top b := by
      apply BitVec.eq_of_getLsbD_eq
      intro j hj
      have e : j = 15 - (15 - j) := by omega
      rw [BitVec.getLsbD_xor, e, top_getLsbD _ _ (by omega), top_getLsbD _ _ (by omega), top_getLsbD _ _ (by omega)]
      rw [UInt8.toNat_xor, Nat.testBit_xor]
      cases decide (15 - j < 8) <;> simp
    have hb : byte (x ^^^ y) (a ^^^ b) = byte x a ^^^ byte y b := by
      unfold byte
      rw [← Tn_xor, ht]
      congr 1
      ac_rfl
    show more (byte (x ^^^ y) (a ^^^ b)) (List.zipWith (· ^^^ ·) l m) = _
    rw [hb, more_xor (byte x a) (byte y b) l m (by simpa using h)]
    rfl

end Go.Proofs.Ytdecoenollejiaa.CrcMath
