/- SHA-256 over lists of bytes: plain definitions, and that the two ways of turning a word are one. -/
import Derived.Laws.BitsLemmas
import Derived.Laws.Entries
namespace Go.Proofs.YtbimboibllboeaaDoor.Sha
open Go
abbrev W := BitVec 32
def rotr (x : W) (n : Nat) : W := x <<< (32 - n) ||| x >>> n
def tstep (x : W) : W := x / 2 + x % 2 * 2147483648
def turnN : Nat → W → W
  | 0, x => x
  | n + 1, x => tstep (turnN n x)
theorem rotr_bit (x : W) (n i : Nat) (hn : n ≤ 32) (hi : i < 32) : (rotr x n).getLsbD i = x.getLsbD ((i + n) % 32) := by
  unfold rotr
  rw [BitVec.getLsbD_or, BitVec.getLsbD_shiftLeft, BitVec.getLsbD_ushiftRight]
  by_cases h : i + n < 32
  · rw [Nat.mod_eq_of_lt h, Nat.add_comm n i]
    have : ¬ (32 - n ≤ i) := by omega
    simp [hi, show i < 32 - n by omega]
  · rw [show (i + n) % 32 = i - (32 - n) by omega, BitVec.getLsbD_of_ge x (n + i) (by omega)]
    simp [hi, show ¬ (i < 32 - n) by omega]
theorem tstep_eq (x : W) : tstep x = rotr x 1 := by
  unfold tstep rotr
  have h2 : x >>> 1 = x / (2 : BitVec 32) := by
    apply BitVec.eq_of_toNat_eq
    rw [BitVec.toNat_ushiftRight, BitVec.toNat_udiv, Nat.shiftRight_eq_div_pow]; rfl
  have h3 : x <<< 31 = x % (2 : BitVec 32) * (2147483648 : BitVec 32) := by
    apply BitVec.eq_of_toNat_eq
    rw [BitVec.toNat_shiftLeft, BitVec.toNat_mul, BitVec.toNat_umod, Nat.shiftLeft_eq]
    show x.toNat * 2 ^ 31 % 2 ^ 32 = x.toNat % 2 * 2147483648 % 2 ^ 32
    omega
  have h4 : (x % (2 : BitVec 32) * (2147483648 : BitVec 32)) &&& (x / (2 : BitVec 32)) = 0#32 := by
    rw [← h2, ← h3]
    apply BitVec.eq_of_getLsbD_eq
    intro i hi
    rw [BitVec.getLsbD_and, BitVec.getLsbD_shiftLeft, BitVec.getLsbD_ushiftRight]
    by_cases h : i < 31
    · simp [h]
    · rw [BitVec.getLsbD_of_ge x (1 + i) (by omega)]; simp
  show x / (2 : BitVec 32) + x % (2 : BitVec 32) * (2147483648 : BitVec 32) = x <<< 31 ||| x >>> 1
  rw [h2, h3, ← BitVec.add_eq_or_of_and_eq_zero _ _ h4, BitVec.add_comm]
theorem turnN_bit (n : Nat) (x : W) (i : Nat) (hi : i < 32) : (turnN n x).getLsbD i = x.getLsbD ((i + n) % 32) := by
  induction n generalizing i with
  | zero => rw [Nat.add_zero, Nat.mod_eq_of_lt hi]; rfl
  | succ n ih =>
    show (tstep (turnN n x)).getLsbD i = _
    rw [tstep_eq, rotr_bit _ 1 i (by omega) hi, ih _ (Nat.mod_lt _ (by omega))]
    congr 1
    omega
theorem turn_rotr (n : Nat) (hn : n ≤ 32) (x : W) : turnN n x = rotr x n := by
  apply BitVec.eq_of_getLsbD_eq
  intro i hi
  rw [turnN_bit n x i hi, rotr_bit x n i hn hi]
theorem shr_div (x : W) (k : Nat) (m : W) (h : m.toNat = 2 ^ k) : x >>> k = x / m := by
  apply BitVec.eq_of_toNat_eq
  rw [BitVec.toNat_ushiftRight, BitVec.toNat_udiv, Nat.shiftRight_eq_div_pow, h]
/-- A byte put behind a word. -/
def cat8 (x : W) (c : UInt8) : W := x <<< 8 ||| BitVec.ofNat 32 c.toNat
theorem cat8_eq (x : W) (c : UInt8) : cat8 x c = x * 256 + BitVec.ofNat 32 c.toNat := by
  unfold cat8
  have h1 : x * (256 : BitVec 32) = x <<< 8 := by
    apply BitVec.eq_of_toNat_eq
    rw [BitVec.toNat_shiftLeft, BitVec.toNat_mul, Nat.shiftLeft_eq]; rfl
  have h4 : x <<< 8 &&& BitVec.ofNat 32 c.toNat = 0#32 := by
    apply BitVec.eq_of_getLsbD_eq
    intro i hi
    rw [BitVec.getLsbD_and, BitVec.getLsbD_shiftLeft, BitVec.getLsbD_ofNat]
    by_cases h : i < 8
    · simp [h]
    · have : c.toNat.testBit i = false := Nat.testBit_lt_two_pow (Nat.lt_of_lt_of_le c.toNat_lt (Nat.pow_le_pow_right (by omega) (by omega)))
      simp [this]
  rw [h1, BitVec.add_eq_or_of_and_eq_zero _ _ h4]
theorem not_sub (x : W) : ~~~x = 4294967295 - x := by
  apply BitVec.eq_of_toNat_eq
  rw [BitVec.toNat_not, BitVec.toNat_sub]
  have := x.isLt
  show 2 ^ 32 - 1 - x.toNat = (2 ^ 32 - x.toNat + 4294967295) % 2 ^ 32
  omega
def K : List W := [0x428a2f98, 0x71374491, 0xb5c0fbcf, 0xe9b5dba5, 0x3956c25b, 0x59f111f1, 0x923f82a4, 0xab1c5ed5,
  0xd807aa98, 0x12835b01, 0x243185be, 0x550c7dc3, 0x72be5d74, 0x80deb1fe, 0x9bdc06a7, 0xc19bf174,
  0xe49b69c1, 0xefbe4786, 0x0fc19dc6, 0x240ca1cc, 0x2de92c6f, 0x4a7484aa, 0x5cb0a9dc, 0x76f988da,
  0x983e5152, 0xa831c66d, 0xb00327c8, 0xbf597fc7, 0xc6e00bf3, 0xd5a79147, 0x06ca6351, 0x14292967,
  0x27b70a85, 0x2e1b2138, 0x4d2c6dfc, 0x53380d13, 0x650a7354, 0x766a0abb, 0x81c2c92e, 0x92722c85,
  0xa2bfe8a1, 0xa81a664b, 0xc24b8b70, 0xc76c51a3, 0xd192e819, 0xd6990624, 0xf40e3585, 0x106aa070,
  0x19a4c116, 0x1e376c08, 0x2748774c, 0x34b0bcb5, 0x391c0cb3, 0x4ed8aa4a, 0x5b9cca4f, 0x682e6ff3,
  0x748f82ee, 0x78a5636f, 0x84c87814, 0x8cc70208, 0x90befffa, 0xa4506ceb, 0xbef9a3f7, 0xc67178f2]
def H0 : List W := [0x6a09e667, 0xbb67ae85, 0x3c6ef372, 0xa54ff53a, 0x510e527f, 0x9b05688c, 0x1f83d9ab, 0x5be0cd19]
def s0 (x : W) : W := rotr x 7 ^^^ rotr x 18 ^^^ x >>> 3
def s1 (x : W) : W := rotr x 17 ^^^ rotr x 19 ^^^ x >>> 10
def word (b : List UInt8) (i : Nat) : Nat → W
  | 0 => 0
  | k + 1 => cat8 (word b i k) (b.getD (4 * i + k) 0)
/-- The first words of a block. -/
def nextW (b : List UInt8) (l : List W) : W :=
  if l.length < 16 then word b l.length 4 else l.getD (l.length - 16) 0 + s0 (l.getD (l.length - 15) 0) + l.getD (l.length - 7) 0 + s1 (l.getD (l.length - 2) 0)
def wl (b : List UInt8) : Nat → List W
  | 0 => []
  | n + 1 => wl b n ++ [nextW b (wl b n)]
theorem wl_length (b : List UInt8) (n : Nat) : (wl b n).length = n := by
  induction n with
  | zero => rfl
  | succ n ih => simp [wl, ih]
structure St where
  (a b c d e f g h : W)
def St.list (s : St) : List W := [s.a, s.b, s.c, s.d, s.e, s.f, s.g, s.h]
def rnd (k x : W) (s : St) : St :=
  let one := s.h + (rotr s.e 6 ^^^ rotr s.e 11 ^^^ rotr s.e 25) + (s.e &&& s.f ^^^ ~~~s.e &&& s.g) + k + x
  let two := (rotr s.a 2 ^^^ rotr s.a 13 ^^^ rotr s.a 22) + (s.a &&& s.b ^^^ s.a &&& s.c ^^^ s.b &&& s.c)
  ⟨one + two, s.a, s.b, s.c, s.d + one, s.e, s.f, s.g⟩
def rnds (w : List W) (s : St) : Nat → St
  | 0 => s
  | n + 1 => rnd (K.getD n 0) (w.getD n 0) (rnds w s n)
def St.add (s t : St) : St := ⟨s.a + t.a, s.b + t.b, s.c + t.c, s.d + t.d, s.e + t.e, s.f + t.f, s.g + t.g, s.h + t.h⟩
def mix (h : St) (b : List UInt8) : St := h.add (rnds (wl b 64) h 64)
def I0 : St := ⟨0x6a09e667, 0xbb67ae85, 0x3c6ef372, 0xa54ff53a, 0x510e527f, 0x9b05688c, 0x1f83d9ab, 0x5be0cd19⟩
/-- Behind the first q blocks of a text. -/
def hs (l : List UInt8) : Nat → St
  | 0 => I0
  | q + 1 => mix (hs l q) ((l.drop (64 * q)).take 64)
theorem hs_append (l m : List UInt8) (q : Nat) (h : 64 * q ≤ l.length) : hs (l ++ m) q = hs l q := by
  induction q with
  | zero => rfl
  | succ q ih =>
    rw [hs, hs, ih (by omega)]
    congr 1
    rw [List.drop_append_of_le_length (by omega), List.take_append_of_le_length (by rw [List.length_drop]; omega)]
def zeros (n : Nat) : List UInt8 := List.replicate ((119 - n % 64) % 64) 0
def len8 (n : Nat) : List UInt8 := [UInt8.ofNat (n * 8 / 2 ^ 56), UInt8.ofNat (n * 8 / 2 ^ 48), UInt8.ofNat (n * 8 / 2 ^ 40), UInt8.ofNat (n * 8 / 2 ^ 32), UInt8.ofNat (n * 8 / 2 ^ 24), UInt8.ofNat (n * 8 / 2 ^ 16), UInt8.ofNat (n * 8 / 2 ^ 8), UInt8.ofNat (n * 8)]
def padded (l : List UInt8) : List UInt8 := l ++ [128] ++ zeros l.length ++ len8 l.length
theorem padded_length (l : List UInt8) : (padded l).length % 64 = 0 := by
  simp [padded, zeros, len8]
  omega
def be (x : W) : List UInt8 := [UInt8.ofNat (x >>> 24).toNat, UInt8.ofNat (x >>> 16).toNat, UInt8.ofNat (x >>> 8).toNat, UInt8.ofNat x.toNat]
def digest (l : List UInt8) : List UInt8 := (hs (padded l) ((padded l).length / 64)).list.flatMap be
theorem digest_length (l : List UInt8) : (digest l).length = 32 := by simp [digest, St.list, be]
end Go.Proofs.YtbimboibllboeaaDoor.Sha
