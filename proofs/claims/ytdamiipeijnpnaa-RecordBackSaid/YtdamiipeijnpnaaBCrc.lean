/- The sum of bytes, in bits: a byte's step is linear and loses nothing. -/
import Derived.Test.YtdamiipeijnpnaaGMore
namespace Go.Proofs.Ytdamiipeijnpnaa.Q
open Go.RowKit Go.Proofs.YtdamiipeijnpnaaW.PrintWords Go.Proofs.YtdamiipeijnpnaaW.PrintLast Go.Proofs.YtdamiipeijnpnaaW.PrintMore
set_option linter.unusedVariables false

/-- A word of 32 bits as a whole number. -/
def U (x : BitVec 32) : Int := (x.toNat : Int)
def poly : BitVec 32 := 0xedb88320#32
/-- One bit's step. -/
def step1 (x : BitVec 32) : BitVec 32 := (x >>> 1) ^^^ (if x.getLsbD 0 = true then poly else 0#32)
/-- n bits' steps. -/
def stepN : Nat → BitVec 32 → BitVec 32
  | 0, x => x
  | n + 1, x => step1 (stepN n x)
def L8 (x : BitVec 32) : BitVec 32 := stepN 8 x

theorem U_lo (x : BitVec 32) : 0 ≤ U x := by unfold U; omega
theorem U_hi (x : BitVec 32) : U x < 4294967296 := by have := x.isLt; unfold U; omega
theorem U_inj {x y : BitVec 32} (h : U x = U y) : x = y := by
  unfold U at h
  exact BitVec.eq_of_toNat_eq (by omega)
theorem ofInt_U (x : BitVec 32) : BitVec.ofInt 32 (U x) = x := by
  unfold U
  rw [BitVec.ofInt_natCast, BitVec.ofNat_toNat, BitVec.setWidth_eq]
theorem U_ofInt {a : Int} (h0 : 0 ≤ a) (h1 : a < 4294967296) : U (BitVec.ofInt 32 a) = a := by
  obtain ⟨n, rfl⟩ := Int.eq_ofNat_of_zero_le h0
  unfold U
  rw [BitVec.ofInt_natCast, BitVec.toNat_ofNat, Nat.mod_eq_of_lt (by omega)]
theorem wrap_U (x : BitVec 32) : IntKind.u32.wrap (x.toNat : Int) = U x := by
  have := x.isLt
  have h : IntKind.u32.wrap (x.toNat : Int) = (x.toNat : Int) % 4294967296 := by simp [IntKind.wrap, IntKind.bits, IntKind.signed]
  rw [h]
  unfold U
  omega
theorem xor_U (x y : BitVec 32) : Go.bits .xor .u32 (U x) (U y) = U (x ^^^ y) := by
  show IntKind.u32.wrap ((BitVec.ofInt 32 (U x) ^^^ BitVec.ofInt 32 (U y)).toNat : Int) = _
  rw [ofInt_U, ofInt_U, wrap_U]
theorem and_U (x y : BitVec 32) : Go.bits .and .u32 (U x) (U y) = U (x &&& y) := by
  show IntKind.u32.wrap ((BitVec.ofInt 32 (U x) &&& BitVec.ofInt 32 (U y)).toNat : Int) = _
  rw [ofInt_U, ofInt_U, wrap_U]
theorem or_U (x y : BitVec 32) : Go.bits .or .u32 (U x) (U y) = U (x ||| y) := by
  show IntKind.u32.wrap ((BitVec.ofInt 32 (U x) ||| BitVec.ofInt 32 (U y)).toNat : Int) = _
  rw [ofInt_U, ofInt_U, wrap_U]
theorem shr_U (x : BitVec 32) (k : Nat) : U (x >>> k) = U x / ((2 ^ k : Nat) : Int) := by
  unfold U
  rw [BitVec.toNat_ushiftRight, Nat.shiftRight_eq_div_pow]
  rfl
theorem div_U (x : BitVec 32) (k : Nat) (m : Int) (h : ((2 ^ k : Nat) : Int) = m) : U x / m = U (x >>> k) := by
  subst h
  exact (shr_U x k).symm
theorem xor_not_self (x : BitVec 32) : x ^^^ ~~~ x = BitVec.allOnes 32 := by
  apply BitVec.eq_of_getLsbD_eq
  intro i hi
  rw [BitVec.getLsbD_xor, BitVec.getLsbD_not, BitVec.getLsbD_allOnes]
  cases x.getLsbD i <;> simp [hi]
theorem bit0_U (x : BitVec 32) : U (x &&& 1#32) = if x.getLsbD 0 = true then 1 else 0 := by
  unfold U
  have h : (x &&& 1#32).toNat = x.toNat % 2 := by rw [BitVec.toNat_and]; exact Nat.and_one_is_mod _
  rw [h]
  have h2 : x.getLsbD 0 = decide (x.toNat % 2 = 1) := by
    rw [BitVec.getLsbD, Nat.testBit_zero]
  rw [h2]
  by_cases hc : x.toNat % 2 = 1
  · simp [hc]
  · simp [hc]; omega
theorem cstep_U (x : BitVec 32) : cstep (U x) = U (step1 x) := by
  unfold cstep step1
  have h1 : (1 : Int) = U 1#32 := rfl
  rw [h1, and_U, bit0_U, div_U x 1 2 rfl]
  by_cases hc : x.getLsbD 0 = true
  · rw [if_pos hc, if_pos hc, show (3988292384 * 1 : Int) % 4294967296 = U poly from rfl, xor_U]
  · rw [if_neg hc, if_neg hc, show (3988292384 * 0 : Int) % 4294967296 = U 0#32 from rfl, xor_U]
theorem csteps_U (x : BitVec 32) : ∀ n, csteps n (U x) = U (stepN n x)
  | 0 => rfl
  | n + 1 => by
    show cstep (csteps n (U x)) = _
    rw [csteps_U x n, cstep_U]
    rfl

theorem step1_xor (x y : BitVec 32) : step1 (x ^^^ y) = step1 x ^^^ step1 y := by
  unfold step1
  rw [BitVec.ushiftRight_xor_distrib, BitVec.getLsbD_xor]
  cases x.getLsbD 0 <;> cases y.getLsbD 0 <;> simp
  · rw [BitVec.xor_assoc]
  · rw [BitVec.xor_assoc, BitVec.xor_assoc, BitVec.xor_comm poly]
  · rw [BitVec.xor_assoc (x >>> 1) poly, ← BitVec.xor_assoc poly, BitVec.xor_comm poly (y >>> 1), BitVec.xor_assoc, BitVec.xor_self, BitVec.xor_zero]
theorem stepN_xor (x y : BitVec 32) : ∀ n, stepN n (x ^^^ y) = stepN n x ^^^ stepN n y
  | 0 => rfl
  | n + 1 => by
    show step1 (stepN n (x ^^^ y)) = _
    rw [stepN_xor x y n, step1_xor]
    rfl
theorem L8_xor (x y : BitVec 32) : L8 (x ^^^ y) = L8 x ^^^ L8 y := stepN_xor x y 8
theorem stepN_shr (x : BitVec 32) : ∀ n, (∀ i, i < n → x.getLsbD i = false) → stepN n x = x >>> n
  | 0, _ => by simp [stepN]
  | n + 1, h => by
    show step1 (stepN n x) = _
    rw [stepN_shr x n (fun i hi => h i (by omega))]
    unfold step1
    rw [BitVec.getLsbD_ushiftRight, Nat.add_zero, h n (by omega)]
    simp [BitVec.shiftRight_add]
theorem L8_high (x : BitVec 32) : L8 ((x >>> 8) <<< 8) = x >>> 8 := by
  unfold L8
  rw [stepN_shr _ 8 (fun i hi => by simp; omega)]
  apply BitVec.eq_of_getLsbD_eq
  intro i hi
  simp
  intro h
  by_cases h24 : i < 24
  · omega
  · have := BitVec.getLsbD_of_ge x (8 + i) (by omega)
    rw [this] at h
    cases h
theorem split8 (x : BitVec 32) : x = ((x >>> 8) <<< 8) ^^^ (x &&& 255#32) := by
  apply BitVec.eq_of_getLsbD_eq
  intro i hi
  have h255 : (255#32).getLsbD i = decide (i < 8) := by
    rw [BitVec.getLsbD_ofNat]
    have : Nat.testBit 255 i = decide (i < 8) := Nat.testBit_two_pow_sub_one 8 i
    rw [this]
    simp [hi]
  simp only [BitVec.getLsbD_xor, BitVec.getLsbD_and, BitVec.getLsbD_shiftLeft, BitVec.getLsbD_ushiftRight, h255]
  by_cases h : i < 8
  · simp [h]
  · simp [h, hi, show 8 + (i - 8) = i by omega]
theorem L8_split (x : BitVec 32) : L8 x = (x >>> 8) ^^^ L8 (x &&& 255#32) := by
  conv => lhs; rw [split8 x, L8_xor, L8_high]

theorem step1_inj {x y : BitVec 32} (h : step1 x = step1 y) : x = y := by
  have b31 : ∀ z : BitVec 32, (step1 z).getLsbD 31 = z.getLsbD 0 := by
    intro z
    unfold step1
    rw [BitVec.getLsbD_xor, BitVec.getLsbD_ushiftRight]
    have : z.getLsbD (1 + 31) = false := BitVec.getLsbD_of_ge z _ (by omega)
    rw [this]
    cases z.getLsbD 0 <;> rfl
  have h0 : x.getLsbD 0 = y.getLsbD 0 := by rw [← b31 x, ← b31 y, h]
  have hs : x >>> 1 = y >>> 1 := by
    unfold step1 at h
    rw [h0] at h
    have := congrArg (· ^^^ (if y.getLsbD 0 = true then poly else 0#32)) h
    simpa [BitVec.xor_assoc] using this
  apply BitVec.eq_of_getLsbD_eq
  intro i hi
  by_cases hz : i = 0
  · rw [hz, h0]
  · have := congrArg (fun z : BitVec 32 => z.getLsbD (i - 1)) hs
    simp only [BitVec.getLsbD_ushiftRight] at this
    rwa [show 1 + (i - 1) = i by omega] at this
theorem stepN_inj {x y : BitVec 32} : ∀ n, stepN n x = stepN n y → x = y
  | 0, h => h
  | n + 1, h => stepN_inj n (step1_inj h)
theorem L8_inj {x y : BitVec 32} (h : L8 x = L8 y) : x = y := stepN_inj 8 h

/-- A byte. -/
def IsByte (c : Int) : Prop := 0 ≤ c ∧ c ≤ 255
def B (c : Int) : BitVec 32 := BitVec.ofInt 32 c
theorem U_B {c : Int} (h : IsByte c) : U (B c) = c := U_ofInt h.1 (by have := h.2; omega)
theorem B_inj {c d : Int} (hc : IsByte c) (hd : IsByte d) (h : B c = B d) : c = d := by rw [← U_B hc, ← U_B hd, h]
theorem tabAt_U (x : BitVec 32) {c : Int} (h : IsByte c) : tabAt (U x) c = U ((x ^^^ B c) &&& 255#32) := by
  obtain ⟨n, rfl⟩ := Int.eq_ofNat_of_zero_le h.1
  have hn : n < 256 := by have := h.2; omega
  have h1 : U x % 256 = ((x.toNat % 256 : Nat) : Int) := by unfold U; omega
  unfold tabAt
  rw [h1]
  show IntKind.u8.wrap ((BitVec.ofInt 8 ((x.toNat % 256 : Nat) : Int) ^^^ BitVec.ofInt 8 (n : Int)).toNat : Int) = _
  have h2 : (BitVec.ofInt 8 ((x.toNat % 256 : Nat) : Int) ^^^ BitVec.ofInt 8 (n : Int)).toNat = (x.toNat % 256) ^^^ n := by
    rw [BitVec.toNat_xor, BitVec.ofInt_natCast, BitVec.ofInt_natCast, BitVec.toNat_ofNat, BitVec.toNat_ofNat, Nat.mod_eq_of_lt (by omega : x.toNat % 256 < 2 ^ 8), Nat.mod_eq_of_lt (by omega : n < 2 ^ 8)]
  have h3 : ((x ^^^ B (n : Int)) &&& 255#32).toNat = (x.toNat % 256) ^^^ n := by
    rw [BitVec.toNat_and, BitVec.toNat_xor]
    have hb : (B (n : Int)).toNat = n := by
      unfold B
      rw [BitVec.ofInt_natCast, BitVec.toNat_ofNat, Nat.mod_eq_of_lt (by omega)]
    rw [hb]
    have : (255#32).toNat = 2 ^ 8 - 1 := rfl
    rw [this, Nat.and_two_pow_sub_one_eq_mod, Nat.xor_mod_two_pow, Nat.mod_eq_of_lt (by omega : n < 2 ^ 8)]
  have h4 : (x.toNat % 256) ^^^ n < 2 ^ 8 := Nat.xor_lt_two_pow (by omega) (by omega)
  rw [h2]
  have h5 : IntKind.u8.wrap (((x.toNat % 256) ^^^ n : Nat) : Int) = (((x.toNat % 256) ^^^ n : Nat) : Int) % 256 := by simp [IntKind.wrap, IntKind.bits, IntKind.signed]
  rw [h5]
  unfold U
  rw [h3]
  omega
theorem shr8_B {c : Int} (h : IsByte c) : (B c) >>> 8 = 0#32 := by
  apply BitVec.eq_of_toNat_eq
  have h1 := U_B h
  unfold U at h1
  have := h.2
  rw [BitVec.toNat_ushiftRight, Nat.shiftRight_eq_div_pow]
  show (B c).toNat / 256 = 0
  omega
theorem crcStep_U (x : BitVec 32) {c : Int} (h : IsByte c) : crcStep (U x) c = U (L8 (x ^^^ B c)) := by
  unfold crcStep
  rw [tabAt_U x h, csteps_U, div_U x 8 256 rfl, xor_U]
  congr 1
  rw [L8_split (x ^^^ B c), BitVec.ushiftRight_xor_distrib, shr8_B h, BitVec.xor_zero]
  rfl
/-- The sum's word behind bytes. -/
def fold (x : BitVec 32) (l : List Int) : BitVec 32 := l.foldl (fun x c => L8 (x ^^^ B c)) x
theorem crcFold_U : ∀ (l : List Int) (x : BitVec 32), (∀ c ∈ l, IsByte c) → crcFold (U x) l = U (fold x l)
  | [], x, _ => rfl
  | c :: l, x, h => by
    show crcFold (crcStep (U x) c) l = U (fold (L8 (x ^^^ B c)) l)
    rw [crcStep_U x (h c (by simp)), crcFold_U l _ (fun d hd => h d (by simp [hd]))]
theorem flip_U (x : BitVec 32) : flip32 (U x) = U (~~~x) := by
  have h : (IntKind.u32.max : Int) = U (BitVec.allOnes 32) := rfl
  unfold flip32
  rw [h, xor_U, BitVec.allOnes_xor]
theorem fold_append (x : BitVec 32) (l m : List Int) : fold x (l ++ m) = fold (fold x l) m := by unfold fold; rw [List.foldl_append]
theorem fold_inj : ∀ (l : List Int) {x y : BitVec 32}, fold x l = fold y l → x = y
  | [], x, y, h => h
  | c :: l, x, y, h => by
    have h1 := fold_inj l (x := L8 (x ^^^ B c)) (y := L8 (y ^^^ B c)) h
    have h2 := L8_inj h1
    have h3 := congrArg (· ^^^ B c) h2
    simpa [BitVec.xor_assoc] using h3
/-- The sum of bytes, as a word. -/
def crc (l : List Int) : BitVec 32 := ~~~ (fold (BitVec.allOnes 32) l)
theorem more_U (x : BitVec 32) {l : List Int} (h : ∀ c ∈ l, IsByte c) : sum_More.f (U x) l = some (U (~~~ (fold (~~~ x) l))) := by
  unfold sum_More.f
  rw [flip_U, crcFold_U l _ h, flip_U]
theorem more_zero {l : List Int} (h : ∀ c ∈ l, IsByte c) : sum_More.f 0 l = some (U (crc l)) := by
  rw [show (0 : Int) = U 0#32 from rfl, more_U _ h]
  rfl
theorem not_inj {x y : BitVec 32} (h : ~~~ x = ~~~ y) : x = y := by
  have := congrArg (fun z => ~~~ z) h
  simpa using this
theorem crc_inj_at {l m : List Int} {c d : Int} (hc : IsByte c) (hd : IsByte d) (h : crc (l ++ c :: m) = crc (l ++ d :: m)) : c = d := by
  have h1 := not_inj h
  rw [fold_append, fold_append] at h1
  have h2 := L8_inj (fold_inj m (x := L8 (fold _ l ^^^ B c)) (y := L8 (fold _ l ^^^ B d)) h1)
  have h3 := congrArg (fold (BitVec.allOnes 32) l ^^^ ·) h2
  simp only [← BitVec.xor_assoc, BitVec.xor_self, BitVec.zero_xor] at h3
  exact B_inj hc hd h3

/-- The four bytes of a word, the lowest first. -/
def le4 (s : Int) : List Int := [s % 256, (s / 256) % 256, (s / 65536) % 256, (s / 16777216) % 256]
theorem B_low (x : BitVec 32) : B (U x % 256) = x &&& 255#32 := by
  apply BitVec.eq_of_toNat_eq
  unfold B
  rw [show U x % 256 = ((x.toNat % 256 : Nat) : Int) by unfold U; omega, BitVec.ofInt_natCast, BitVec.toNat_ofNat, Nat.mod_eq_of_lt (by omega), BitVec.toNat_and]
  have : (255#32).toNat = 2 ^ 8 - 1 := rfl
  rw [this, Nat.and_two_pow_sub_one_eq_mod]
theorem low_step (s D : BitVec 32) : L8 (s ^^^ (D &&& 255#32)) ^^^ (D >>> 8) = L8 (s ^^^ D) := by
  conv => rhs; rw [split8 D, BitVec.xor_comm ((D >>> 8) <<< 8), ← BitVec.xor_assoc, L8_xor _ ((D >>> 8) <<< 8), L8_high]
theorem fold_le4 (s D : BitVec 32) : fold s (le4 (U D)) = L8 (L8 (L8 (L8 (s ^^^ D)))) := by
  have e0 : U D / (256 : Int) = U (D >>> 8) := div_U D 8 256 rfl
  have e1 : U D / (65536 : Int) = U (D >>> 16) := div_U D 16 65536 rfl
  have e2 : U D / (16777216 : Int) = U (D >>> 24) := div_U D 24 16777216 rfl
  show L8 (L8 (L8 (L8 (s ^^^ B (U D % 256)) ^^^ B (U D / 256 % 256)) ^^^ B (U D / 65536 % 256)) ^^^ B (U D / 16777216 % 256)) = _
  rw [e0, e1, e2, B_low, B_low, B_low, B_low]
  have s1 := low_step s D
  generalize L8 (s ^^^ (D &&& 255#32)) = a at *
  have s2 := low_step a (D >>> 8)
  rw [s1, ← BitVec.shiftRight_add] at s2
  generalize L8 (a ^^^ (D >>> 8 &&& 255#32)) = b at *
  have s3 := low_step b (D >>> 16)
  rw [s2, ← BitVec.shiftRight_add] at s3
  generalize L8 (b ^^^ (D >>> 16 &&& 255#32)) = c at *
  have s4 := low_step c (D >>> 24)
  rw [s3, ← BitVec.shiftRight_add] at s4
  have : D >>> (24 + 8) = 0#32 := by
    apply BitVec.eq_of_getLsbD_eq
    intro i hi
    simp
  rw [this, BitVec.xor_zero] at s4
  exact s4
theorem crc_residue (l : List Int) : crc (l ++ le4 (U (crc l))) = 0x2144df1c#32 := by
  unfold crc
  rw [fold_append, fold_le4, xor_not_self]
  decide +kernel
theorem le4_bytes (s : Int) : ∀ c ∈ le4 s, IsByte c := by
  intro c hc
  simp only [le4, List.mem_cons, List.not_mem_nil, or_false] at hc
  unfold IsByte
  rcases hc with rfl | rfl | rfl | rfl <;> omega
end Go.Proofs.Ytdamiipeijnpnaa.Q
