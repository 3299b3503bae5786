/- What single operations come to: numbers, bools, texts. -/
import Derived.Test.YtnneoipoaoefkaaEng
import Derived.Laws.BitsLemmas
import Derived.Laws.Entries
import Derived.Laws.Strings
import Derived.Lib.Strings
namespace Go.Proofs.Ytnneoipoaoefkaa.Eng
open Go Go.RowKit
set_option linter.unusedVariables false
set_option linter.unusedSimpArgs false

abbrev iV (n : Int) : Value := .int .i64 n
abbrev bV (b : Bool) : Value := .bool b
abbrev sV (s : ByteArray) : Value := .string s
abbrev u8V (c : UInt8) : Value := .int .u8 (c.toNat : Int)
abbrev u32V (x : BitVec 32) : Value := .int .u32 (x.toNat : Int)
abbrev u64V (x : BitVec 64) : Value := .int .u64 (x.toNat : Int)
def InI (z : Int) : Prop := -9223372036854775808 ≤ z ∧ z ≤ 9223372036854775807
theorem wrap_i64 {z : Int} (h : -9223372036854775808 ≤ z ∧ z ≤ 9223372036854775807) : IntKind.i64.wrap z = z := by
  rw [IntKind.wrap_i64]; omega
theorem u8_lt (c : UInt8) : c.toNat < 256 := c.toNat_lt
/-- The byte of a text at a place. -/
def at8 (s : ByteArray) (k : Nat) : UInt8 := s.data.toList.getD k 0
theorem at8_get (s : ByteArray) (k : Nat) (h : k < s.size) : s[k]? = some (at8 s k) := by
  have h' : k < s.data.size := h
  rw [getElem?_pos s k h]
  unfold at8
  rw [List.getD_eq_getElem?_getD, List.getElem?_eq_getElem (by simpa using h')]
  rfl
section
variable {P : Program} {ρ : Operand → Value} {w w' : World} {dst : Option Tmp} {ty : TypeId} {pos : String} {aft : Array Edge} {g : Option (Nat × Bool)}
theorem Run.of (o : Oper) {v : Value} (h : (execOp ρ o).run P w = .ok (.value v) w') : Run P ρ o w v w' := .inl h
theorem r_move {x : Operand} {v : Value} (hx : ρ x = v) : Run P ρ ⟨dst, .move x, ty, pos, aft, g⟩ w v w := by left; simp [execOp, hx]
theorem r_assign {x : Operand} {v : Value} (hx : ρ x = v) : Run P ρ ⟨dst, .assign x, ty, pos, aft, g⟩ w v w := by left; simp [execOp, hx]
theorem r_pick_t {c x y : Operand} {t : Bool} {v : Value} (hc : ρ c = .bool t) (ht : t = true) (hx : ρ x = v) : Run P ρ ⟨dst, .pick c x y, ty, pos, aft, g⟩ w v w := by left; simp [execOp, hc, ht, hx, asBool]
theorem r_pick_f {c x y : Operand} {t : Bool} {v : Value} (hc : ρ c = .bool t) (ht : t = false) (hy : ρ y = v) : Run P ρ ⟨dst, .pick c x y, ty, pos, aft, g⟩ w v w := by left; simp [execOp, hc, ht, hy, asBool]
theorem r_extract {x : Operand} {vs : Array Value} {i : Nat} {v : Value} (hx : ρ x = .tuple vs) (hv : vs[i]? = some v) : Run P ρ ⟨dst, .extract x i, ty, pos, aft, g⟩ w v w := by
  left; simp [execOp, hx, Instr.extract, hv]
theorem r_makeFunc {fn : Fn} {first captured : Array Operand} {a b : List Value} (ha : first.toList.map ρ = a) (hb : captured.toList.map ρ = b) : Run P ρ ⟨dst, .makeFunc fn first captured, ty, pos, aft, g⟩ w (.func fn a.toArray b.toArray) w := by
  subst ha; subst hb
  have e (l : Array Operand) : (l.toList.map ρ).toArray = l.map ρ := by apply Array.ext'; simp
  rw [e, e]
  left; simp [execOp, Instr.makeFunc]
theorem r_nilCheck_p {x : Operand} {p : Addr} (hx : ρ x = .pointer (some p)) : Run P ρ ⟨dst, .nilCheck x, ty, pos, aft, g⟩ w (.pointer (some p)) w := by left; simp [execOp, hx]
theorem r_nilCheck_f {x : Operand} {k : FuncId} {a b : Array Value} (hx : ρ x = .func (.func k) a b) : Run P ρ ⟨dst, .nilCheck x, ty, pos, aft, g⟩ w (.func (.func k) a b) w := by left; simp [execOp, hx]
theorem r_not {t' : TypeId} {x : Operand} {t : Bool} (hx : ρ x = .bool t) : Run P ρ ⟨dst, .unOp .not t' x, ty, pos, aft, g⟩ w (.bool (!t)) w := by left; simp [execOp, hx, Op.unary]
section
variable {op : BinOp} {t t' : TypeId} {x y : Operand} {k k' : IntKind} {a b : Int} {v : Value}
theorem bin_of (hx : ρ x = .int k a) (hy : ρ y = .int k' b) (h : (binOp op t (.int k a) (.int k' b)).run P w = .ok v w) : Run P ρ ⟨dst, .binOp op t x y t', ty, pos, aft, g⟩ w v w := by
  left
  have he : (eqGuard op t x y (.int k a) (.int k' b)).run P w = .ok () w := by
    unfold eqGuard
    split <;> simp
  simp only [execOp, hx, hy, Sem.run_bind, he, Result.andThen_ok, h, Sem.run_pure]
theorem un_of {op : UnOp} (hx : ρ x = .int k a) (h : (Op.unary op (.int k a)).run P w = .ok v w) : Run P ρ ⟨dst, .unOp op t x, ty, pos, aft, g⟩ w v w := by
  left; simp only [execOp, hx, Sem.run_bind, Result.andThen_ok, h, Sem.run_pure]
theorem cv_of {t u : TypeId} {T : TypeDesc} (ht : P.underlying t = some T) (hu : P.underlying u = some (.int k')) (hx : ρ x = .int k a) : Run P ρ ⟨dst, .convert t u x, ty, pos, aft, g⟩ w (.int k' (k'.wrap a)) w := by
  left; simp [execOp, hx, convert, run_underlying ht, run_underlying hu, Conv.intToInt]
theorem cv_to {t u : TypeId} {T : TypeDesc} (ht : P.underlying t = some T) (hu : P.underlying u = some (.int k')) (hx : ρ x = .int k a) (e : k'.wrap a = b) : Run P ρ ⟨dst, .convert t u x, ty, pos, aft, g⟩ w (.int k' b) w := by
  subst e; exact cv_of ht hu hx
theorem b_add : (binOp .add t (.int k a) (.int k b)).run P w = .ok (.int k (k.wrap (a + b))) w := by simp [binOp, Op.intArith]
theorem b_sub : (binOp .sub t (.int k a) (.int k b)).run P w = .ok (.int k (k.wrap (a - b))) w := by simp [binOp, Op.intArith]
theorem b_mul : (binOp .mul t (.int k a) (.int k b)).run P w = .ok (.int k (k.wrap (a * b))) w := by simp [binOp, Op.intArith]
theorem b_quo (h : ¬ b = 0) : (binOp .quo t (.int k a) (.int k b)).run P w = .ok (.int k (k.wrap (a.tdiv b))) w := by simp [binOp, Op.intDiv, h]
theorem b_rem (h : ¬ b = 0) : (binOp .rem t (.int k a) (.int k b)).run P w = .ok (.int k (a.tmod b)) w := by simp [binOp, Op.intDiv, h]
theorem b_and : (binOp .and t (.int k a) (.int k b)).run P w = .ok (.int k (k.wrap (BitVec.ofInt k.bits a &&& BitVec.ofInt k.bits b).toNat)) w := by simp [binOp, Op.intBits]
theorem b_or : (binOp .or t (.int k a) (.int k b)).run P w = .ok (.int k (k.wrap (BitVec.ofInt k.bits a ||| BitVec.ofInt k.bits b).toNat)) w := by simp [binOp, Op.intBits]
theorem b_xor : (binOp .xor t (.int k a) (.int k b)).run P w = .ok (.int k (k.wrap (BitVec.ofInt k.bits a ^^^ BitVec.ofInt k.bits b).toNat)) w := by simp [binOp, Op.intBits]
theorem b_lss : (binOp .lss t (.int k a) (.int k b)).run P w = .ok (.bool (decide (a < b))) w := by simp [binOp, Op.intCmp]
theorem b_leq : (binOp .leq t (.int k a) (.int k b)).run P w = .ok (.bool (decide (a ≤ b))) w := by simp [binOp, Op.intCmp]
theorem b_gtr : (binOp .gtr t (.int k a) (.int k b)).run P w = .ok (.bool (decide (a > b))) w := by simp [binOp, Op.intCmp]
theorem b_geq : (binOp .geq t (.int k a) (.int k b)).run P w = .ok (.bool (decide (a ≥ b))) w := by simp [binOp, Op.intCmp]
theorem b_eql : (binOp .eql t (.int k a) (.int k b)).run P w = .ok (.bool (a == b)) w := by simp [binOp, Op.intCmp]
theorem b_neq : (binOp .neq t (.int k a) (.int k b)).run P w = .ok (.bool (a != b)) w := by simp [binOp, Op.intCmp]
theorem b_shl (h : ¬ b < 0) : (binOp .shl t (.int k a) (.int k' b)).run P w = .ok (.int k (k.wrap (a * 2 ^ (min b.toNat k.bits)))) w := by simp only [binOp, Op.shift, if_neg h, Sem.run_pure]
theorem b_shr (h : ¬ b < 0) : (binOp .shr t (.int k a) (.int k' b)).run P w = .ok (.int k (a.fdiv (2 ^ (min b.toNat k.bits)))) w := by simp only [binOp, Op.shift, if_neg h, Sem.run_pure]
end

theorem r_addi {t t' : TypeId} {x y : Operand} {a b : Int} (hx : ρ x = iV a) (hy : ρ y = iV b) (h : -9223372036854775808 ≤ a + b ∧ a + b ≤ 9223372036854775807) : Run P ρ ⟨dst, .binOp .add t x y t', ty, pos, aft, g⟩ w (iV (a + b)) w := by
  exact bin_of hx hy (by rw [b_add, wrap_i64 h])
theorem r_subi {t t' : TypeId} {x y : Operand} {a b : Int} (hx : ρ x = iV a) (hy : ρ y = iV b) (h : -9223372036854775808 ≤ a - b ∧ a - b ≤ 9223372036854775807) : Run P ρ ⟨dst, .binOp .sub t x y t', ty, pos, aft, g⟩ w (iV (a - b)) w := by
  exact bin_of hx hy (by rw [b_sub, wrap_i64 h])
theorem r_muli {t t' : TypeId} {x y : Operand} {a b : Int} (hx : ρ x = iV a) (hy : ρ y = iV b) (h : -9223372036854775808 ≤ a * b ∧ a * b ≤ 9223372036854775807) : Run P ρ ⟨dst, .binOp .mul t x y t', ty, pos, aft, g⟩ w (iV (a * b)) w := by
  exact bin_of hx hy (by rw [b_mul, wrap_i64 h])
theorem r_quoi {t t' : TypeId} {x y : Operand} {a b : Int} (hx : ρ x = iV a) (hy : ρ y = iV b) (ha : 0 ≤ a ∧ a ≤ 9223372036854775807) (hb : 0 < b) : Run P ρ ⟨dst, .binOp .quo t x y t', ty, pos, aft, g⟩ w (iV (a / b)) w := by
  have h0 : ¬ b = 0 := by omega
  have h1 : a.tdiv b = a / b := Int.tdiv_eq_ediv_of_nonneg ha.1
  have h2 : 0 ≤ a / b := Int.ediv_nonneg ha.1 (by omega)
  have h3 : a / b ≤ a := Int.ediv_le_self b ha.1
  generalize a / b = q at *
  exact bin_of hx hy (by rw [b_quo h0, h1, wrap_i64 (z := q) (by omega)])
theorem r_remi {t t' : TypeId} {x y : Operand} {a b : Int} (hx : ρ x = iV a) (hy : ρ y = iV b) (ha : 0 ≤ a) (hb : 0 < b) : Run P ρ ⟨dst, .binOp .rem t x y t', ty, pos, aft, g⟩ w (iV (a % b)) w := by
  have h0 : ¬ b = 0 := by omega
  have h1 : a.tmod b = a % b := Int.tmod_eq_emod_of_nonneg ha
  exact bin_of hx hy (by rw [b_rem h0, h1])
theorem r_remz {t t' : TypeId} {x y : Operand} {a b : Int} (hx : ρ x = iV a) (hy : ρ y = iV b) (hb : ¬ b = 0) : Run P ρ ⟨dst, .binOp .rem t x y t', ty, pos, aft, g⟩ w (iV (a.tmod b)) w := by
  exact bin_of hx hy (by rw [b_rem hb])
theorem r_lssi {t t' : TypeId} {x y : Operand} {a b : Int} (hx : ρ x = iV a) (hy : ρ y = iV b) : Run P ρ ⟨dst, .binOp .lss t x y t', ty, pos, aft, g⟩ w (bV (decide (a < b))) w := by
  exact bin_of hx hy b_lss
theorem r_leqi {t t' : TypeId} {x y : Operand} {a b : Int} (hx : ρ x = iV a) (hy : ρ y = iV b) : Run P ρ ⟨dst, .binOp .leq t x y t', ty, pos, aft, g⟩ w (bV (decide (a ≤ b))) w := by
  exact bin_of hx hy b_leq
theorem r_gtri {t t' : TypeId} {x y : Operand} {a b : Int} (hx : ρ x = iV a) (hy : ρ y = iV b) : Run P ρ ⟨dst, .binOp .gtr t x y t', ty, pos, aft, g⟩ w (bV (decide (a > b))) w := by
  exact bin_of hx hy b_gtr
theorem r_geqi {t t' : TypeId} {x y : Operand} {a b : Int} (hx : ρ x = iV a) (hy : ρ y = iV b) : Run P ρ ⟨dst, .binOp .geq t x y t', ty, pos, aft, g⟩ w (bV (decide (a ≥ b))) w := by
  exact bin_of hx hy b_geq
theorem r_eqli {t t' : TypeId} {x y : Operand} {a b : Int} (hx : ρ x = iV a) (hy : ρ y = iV b) : Run P ρ ⟨dst, .binOp .eql t x y t', ty, pos, aft, g⟩ w (bV (decide (a = b))) w := by
  have e : (a == b) = decide (a = b) := by by_cases h : a = b <;> simp [h]
  exact bin_of hx hy (by rw [b_eql, e])
theorem r_neqi {t t' : TypeId} {x y : Operand} {a b : Int} (hx : ρ x = iV a) (hy : ρ y = iV b) : Run P ρ ⟨dst, .binOp .neq t x y t', ty, pos, aft, g⟩ w (bV (decide (a ≠ b))) w := by
  have e : (a != b) = decide (a ≠ b) := by by_cases h : a = b <;> simp [h]
  exact bin_of hx hy (by rw [b_neq, e])
theorem r_add8 {t t' : TypeId} {x y : Operand} {a b : UInt8} (hx : ρ x = u8V a) (hy : ρ y = u8V b) : Run P ρ ⟨dst, .binOp .add t x y t', ty, pos, aft, g⟩ w (u8V (a + b)) w := by
  have e : IntKind.u8.wrap ((a.toNat : Int) + (b.toNat : Int)) = ((a + b).toNat : Int) := by
    have hla := a.toNat_lt
    have hlb := b.toNat_lt
    rw [Go.IntKind.wrap_u8, UInt8.toNat_add]
    omega
  exact bin_of hx hy (by rw [b_add, e])
theorem r_mul8 {t t' : TypeId} {x y : Operand} {a b : UInt8} (hx : ρ x = u8V a) (hy : ρ y = u8V b) : Run P ρ ⟨dst, .binOp .mul t x y t', ty, pos, aft, g⟩ w (u8V (a * b)) w := by
  have e : IntKind.u8.wrap ((a.toNat : Int) * (b.toNat : Int)) = ((a * b).toNat : Int) := by
    have hla := a.toNat_lt
    have hlb := b.toNat_lt
    rw [Go.IntKind.wrap_u8, UInt8.toNat_mul]
    rw [show (a.toNat : Int) * (b.toNat : Int) = ((a.toNat * b.toNat : Nat) : Int) by push_cast; rfl]
    generalize a.toNat * b.toNat = m
    omega
  exact bin_of hx hy (by rw [b_mul, e])
theorem r_sub8 {t t' : TypeId} {x y : Operand} {a b : UInt8} (hx : ρ x = u8V a) (hy : ρ y = u8V b) : Run P ρ ⟨dst, .binOp .sub t x y t', ty, pos, aft, g⟩ w (u8V (a - b)) w := by
  have e : IntKind.u8.wrap ((a.toNat : Int) - (b.toNat : Int)) = ((a - b).toNat : Int) := by
    have hla := a.toNat_lt
    have hlb := b.toNat_lt
    rw [Go.IntKind.wrap_u8, UInt8.toNat_sub]
    omega
  exact bin_of hx hy (by rw [b_sub, e])
theorem r_and8 {t t' : TypeId} {x y : Operand} {a b : UInt8} (hx : ρ x = u8V a) (hy : ρ y = u8V b) : Run P ρ ⟨dst, .binOp .and t x y t', ty, pos, aft, g⟩ w (u8V (a &&& b)) w := by
  have e : IntKind.u8.wrap ((BitVec.ofInt IntKind.u8.bits (a.toNat : Int) &&& BitVec.ofInt IntKind.u8.bits (b.toNat : Int)).toNat : Int) = ((a &&& b).toNat : Int) := by
    rw [show BitVec.ofInt IntKind.u8.bits (a.toNat : Int) = a.toBitVec by (show BitVec.ofInt 8 (a.toNat : Int) = _); rw [BitVec.ofInt_natCast]; simp, show BitVec.ofInt IntKind.u8.bits (b.toNat : Int) = b.toBitVec by (show BitVec.ofInt 8 (b.toNat : Int) = _); rw [BitVec.ofInt_natCast]; simp, Go.IntKind.wrap_u8]
    have := (a &&& b).toNat_lt
    have e2 : (a.toBitVec &&& b.toBitVec).toNat = (a &&& b).toNat := rfl
    show ((a.toBitVec &&& b.toBitVec).toNat : Int) % _ = _
    rw [e2]
    omega
  exact bin_of hx hy (by rw [b_and, e])
theorem r_or8 {t t' : TypeId} {x y : Operand} {a b : UInt8} (hx : ρ x = u8V a) (hy : ρ y = u8V b) : Run P ρ ⟨dst, .binOp .or t x y t', ty, pos, aft, g⟩ w (u8V (a ||| b)) w := by
  have e : IntKind.u8.wrap ((BitVec.ofInt IntKind.u8.bits (a.toNat : Int) ||| BitVec.ofInt IntKind.u8.bits (b.toNat : Int)).toNat : Int) = ((a ||| b).toNat : Int) := by
    rw [show BitVec.ofInt IntKind.u8.bits (a.toNat : Int) = a.toBitVec by (show BitVec.ofInt 8 (a.toNat : Int) = _); rw [BitVec.ofInt_natCast]; simp, show BitVec.ofInt IntKind.u8.bits (b.toNat : Int) = b.toBitVec by (show BitVec.ofInt 8 (b.toNat : Int) = _); rw [BitVec.ofInt_natCast]; simp, Go.IntKind.wrap_u8]
    have := (a ||| b).toNat_lt
    have e2 : (a.toBitVec ||| b.toBitVec).toNat = (a ||| b).toNat := rfl
    show ((a.toBitVec ||| b.toBitVec).toNat : Int) % _ = _
    rw [e2]
    omega
  exact bin_of hx hy (by rw [b_or, e])
theorem r_xor8 {t t' : TypeId} {x y : Operand} {a b : UInt8} (hx : ρ x = u8V a) (hy : ρ y = u8V b) : Run P ρ ⟨dst, .binOp .xor t x y t', ty, pos, aft, g⟩ w (u8V (a ^^^ b)) w := by
  have e : IntKind.u8.wrap ((BitVec.ofInt IntKind.u8.bits (a.toNat : Int) ^^^ BitVec.ofInt IntKind.u8.bits (b.toNat : Int)).toNat : Int) = ((a ^^^ b).toNat : Int) := by
    rw [show BitVec.ofInt IntKind.u8.bits (a.toNat : Int) = a.toBitVec by (show BitVec.ofInt 8 (a.toNat : Int) = _); rw [BitVec.ofInt_natCast]; simp, show BitVec.ofInt IntKind.u8.bits (b.toNat : Int) = b.toBitVec by (show BitVec.ofInt 8 (b.toNat : Int) = _); rw [BitVec.ofInt_natCast]; simp, Go.IntKind.wrap_u8]
    have := (a ^^^ b).toNat_lt
    have e2 : (a.toBitVec ^^^ b.toBitVec).toNat = (a ^^^ b).toNat := rfl
    show ((a.toBitVec ^^^ b.toBitVec).toNat : Int) % _ = _
    rw [e2]
    omega
  exact bin_of hx hy (by rw [b_xor, e])
theorem r_quo8 {t t' : TypeId} {x y : Operand} {a b : UInt8} (hx : ρ x = u8V a) (hy : ρ y = u8V b) (hb : 0 < b.toNat) : Run P ρ ⟨dst, .binOp .quo t x y t', ty, pos, aft, g⟩ w (u8V (a / b)) w := by
  have h0 : ¬ (b.toNat : Int) = 0 := by omega
  have h1 : (a.toNat : Int).tdiv (b.toNat : Int) = ((a / b).toNat : Int) := by rw [Int.tdiv_eq_ediv_of_nonneg (by omega)]; simp
  have h2 : IntKind.u8.wrap ((a / b).toNat : Int) = ((a / b).toNat : Int) := by
    rw [Go.IntKind.wrap_u8]; have := (a / b).toNat_lt; omega
  exact bin_of hx hy (by rw [b_quo h0, h1, h2])
theorem r_rem8 {t t' : TypeId} {x y : Operand} {a b : UInt8} (hx : ρ x = u8V a) (hy : ρ y = u8V b) (hb : 0 < b.toNat) : Run P ρ ⟨dst, .binOp .rem t x y t', ty, pos, aft, g⟩ w (u8V (a % b)) w := by
  have h0 : ¬ (b.toNat : Int) = 0 := by omega
  have h1 : (a.toNat : Int).tmod (b.toNat : Int) = ((a % b).toNat : Int) := by rw [Int.tmod_eq_emod_of_nonneg (by omega)]; simp
  exact bin_of hx hy (by rw [b_rem h0, h1])
theorem r_lss8 {t t' : TypeId} {x y : Operand} {a b : UInt8} (hx : ρ x = u8V a) (hy : ρ y = u8V b) : Run P ρ ⟨dst, .binOp .lss t x y t', ty, pos, aft, g⟩ w (bV (decide (a.toNat < b.toNat))) w := by
  have e : decide ((a.toNat : Int) < (b.toNat : Int)) = decide (a.toNat < b.toNat) := by
    by_cases h : a.toNat < b.toNat
    · have h' : (a.toNat : Int) < (b.toNat : Int) := by omega
      simp only [h, h']
    · have h' : ¬ (a.toNat : Int) < (b.toNat : Int) := by omega
      simp only [h, h']
  exact bin_of hx hy (by rw [b_lss, e])
theorem r_leq8 {t t' : TypeId} {x y : Operand} {a b : UInt8} (hx : ρ x = u8V a) (hy : ρ y = u8V b) : Run P ρ ⟨dst, .binOp .leq t x y t', ty, pos, aft, g⟩ w (bV (decide (a.toNat ≤ b.toNat))) w := by
  have e : decide ((a.toNat : Int) ≤ (b.toNat : Int)) = decide (a.toNat ≤ b.toNat) := by
    by_cases h : a.toNat ≤ b.toNat
    · have h' : (a.toNat : Int) ≤ (b.toNat : Int) := by omega
      simp only [h, h']
    · have h' : ¬ (a.toNat : Int) ≤ (b.toNat : Int) := by omega
      simp only [h, h']
  exact bin_of hx hy (by rw [b_leq, e])
theorem r_gtr8 {t t' : TypeId} {x y : Operand} {a b : UInt8} (hx : ρ x = u8V a) (hy : ρ y = u8V b) : Run P ρ ⟨dst, .binOp .gtr t x y t', ty, pos, aft, g⟩ w (bV (decide (a.toNat > b.toNat))) w := by
  have e : decide ((a.toNat : Int) > (b.toNat : Int)) = decide (a.toNat > b.toNat) := by
    by_cases h : a.toNat > b.toNat
    · have h' : (a.toNat : Int) > (b.toNat : Int) := by omega
      simp only [h, h']
    · have h' : ¬ (a.toNat : Int) > (b.toNat : Int) := by omega
      simp only [h, h']
  exact bin_of hx hy (by rw [b_gtr, e])
theorem r_geq8 {t t' : TypeId} {x y : Operand} {a b : UInt8} (hx : ρ x = u8V a) (hy : ρ y = u8V b) : Run P ρ ⟨dst, .binOp .geq t x y t', ty, pos, aft, g⟩ w (bV (decide (a.toNat ≥ b.toNat))) w := by
  have e : decide ((a.toNat : Int) ≥ (b.toNat : Int)) = decide (a.toNat ≥ b.toNat) := by
    by_cases h : a.toNat ≥ b.toNat
    · have h' : (a.toNat : Int) ≥ (b.toNat : Int) := by omega
      simp only [h, h']
    · have h' : ¬ (a.toNat : Int) ≥ (b.toNat : Int) := by omega
      simp only [h, h']
  exact bin_of hx hy (by rw [b_geq, e])
theorem r_eql8 {t t' : TypeId} {x y : Operand} {a b : UInt8} (hx : ρ x = u8V a) (hy : ρ y = u8V b) : Run P ρ ⟨dst, .binOp .eql t x y t', ty, pos, aft, g⟩ w (bV (decide (a = b))) w := by
  have e : ((a.toNat : Int) == (b.toNat : Int)) = decide (a = b) := by
    by_cases h : a = b
    · simp [h]
    · have : ¬ a.toNat = b.toNat := fun e => h (UInt8.toNat_inj.1 e)
      have : ¬ (a.toNat : Int) = (b.toNat : Int) := by omega
      simp only [h, not_false_eq_true, decide_true, decide_false, beq_eq_false_iff_ne, this, ne_eq]
  exact bin_of hx hy (by rw [b_eql, e])
theorem r_neq8 {t t' : TypeId} {x y : Operand} {a b : UInt8} (hx : ρ x = u8V a) (hy : ρ y = u8V b) : Run P ρ ⟨dst, .binOp .neq t x y t', ty, pos, aft, g⟩ w (bV (decide (a ≠ b))) w := by
  have e : ((a.toNat : Int) != (b.toNat : Int)) = decide (a ≠ b) := by
    by_cases h : a = b
    · simp [h]
    · have : ¬ a.toNat = b.toNat := fun e => h (UInt8.toNat_inj.1 e)
      have : ¬ (a.toNat : Int) = (b.toNat : Int) := by omega
      simp only [h, not_false_eq_true, decide_true, decide_false, bne_iff_ne, this, ne_eq]
  exact bin_of hx hy (by rw [b_neq, e])
theorem r_add32 {t t' : TypeId} {x y : Operand} {a b : BitVec 32} (hx : ρ x = u32V a) (hy : ρ y = u32V b) : Run P ρ ⟨dst, .binOp .add t x y t', ty, pos, aft, g⟩ w (u32V (a + b)) w := by
  have e : IntKind.u32.wrap ((a.toNat : Int) + (b.toNat : Int)) = ((a + b).toNat : Int) := by
    have hla := a.isLt
    have hlb := b.isLt
    rw [Go.IntKind.wrap_u32, BitVec.toNat_add]
    omega
  exact bin_of hx hy (by rw [b_add, e])
theorem r_mul32 {t t' : TypeId} {x y : Operand} {a b : BitVec 32} (hx : ρ x = u32V a) (hy : ρ y = u32V b) : Run P ρ ⟨dst, .binOp .mul t x y t', ty, pos, aft, g⟩ w (u32V (a * b)) w := by
  have e : IntKind.u32.wrap ((a.toNat : Int) * (b.toNat : Int)) = ((a * b).toNat : Int) := by
    have hla := a.isLt
    have hlb := b.isLt
    rw [Go.IntKind.wrap_u32, BitVec.toNat_mul]
    rw [show (a.toNat : Int) * (b.toNat : Int) = ((a.toNat * b.toNat : Nat) : Int) by push_cast; rfl]
    generalize a.toNat * b.toNat = m
    omega
  exact bin_of hx hy (by rw [b_mul, e])
theorem r_sub32 {t t' : TypeId} {x y : Operand} {a b : BitVec 32} (hx : ρ x = u32V a) (hy : ρ y = u32V b) : Run P ρ ⟨dst, .binOp .sub t x y t', ty, pos, aft, g⟩ w (u32V (a - b)) w := by
  have e : IntKind.u32.wrap ((a.toNat : Int) - (b.toNat : Int)) = ((a - b).toNat : Int) := by
    have hla := a.isLt
    have hlb := b.isLt
    rw [Go.IntKind.wrap_u32, BitVec.toNat_sub]
    omega
  exact bin_of hx hy (by rw [b_sub, e])
theorem r_and32 {t t' : TypeId} {x y : Operand} {a b : BitVec 32} (hx : ρ x = u32V a) (hy : ρ y = u32V b) : Run P ρ ⟨dst, .binOp .and t x y t', ty, pos, aft, g⟩ w (u32V (a &&& b)) w := by
  have e : IntKind.u32.wrap ((BitVec.ofInt IntKind.u32.bits (a.toNat : Int) &&& BitVec.ofInt IntKind.u32.bits (b.toNat : Int)).toNat : Int) = ((a &&& b).toNat : Int) := by
    rw [show BitVec.ofInt IntKind.u32.bits (a.toNat : Int) = a by (show BitVec.ofInt 32 (a.toNat : Int) = a); rw [BitVec.ofInt_natCast]; simp, show BitVec.ofInt IntKind.u32.bits (b.toNat : Int) = b by (show BitVec.ofInt 32 (b.toNat : Int) = b); rw [BitVec.ofInt_natCast]; simp, Go.IntKind.wrap_u32]
    have := (a &&& b).isLt
    show ((a &&& b).toNat : Int) % _ = _
    omega
  exact bin_of hx hy (by rw [b_and, e])
theorem r_or32 {t t' : TypeId} {x y : Operand} {a b : BitVec 32} (hx : ρ x = u32V a) (hy : ρ y = u32V b) : Run P ρ ⟨dst, .binOp .or t x y t', ty, pos, aft, g⟩ w (u32V (a ||| b)) w := by
  have e : IntKind.u32.wrap ((BitVec.ofInt IntKind.u32.bits (a.toNat : Int) ||| BitVec.ofInt IntKind.u32.bits (b.toNat : Int)).toNat : Int) = ((a ||| b).toNat : Int) := by
    rw [show BitVec.ofInt IntKind.u32.bits (a.toNat : Int) = a by (show BitVec.ofInt 32 (a.toNat : Int) = a); rw [BitVec.ofInt_natCast]; simp, show BitVec.ofInt IntKind.u32.bits (b.toNat : Int) = b by (show BitVec.ofInt 32 (b.toNat : Int) = b); rw [BitVec.ofInt_natCast]; simp, Go.IntKind.wrap_u32]
    have := (a ||| b).isLt
    show ((a ||| b).toNat : Int) % _ = _
    omega
  exact bin_of hx hy (by rw [b_or, e])
theorem r_xor32 {t t' : TypeId} {x y : Operand} {a b : BitVec 32} (hx : ρ x = u32V a) (hy : ρ y = u32V b) : Run P ρ ⟨dst, .binOp .xor t x y t', ty, pos, aft, g⟩ w (u32V (a ^^^ b)) w := by
  have e : IntKind.u32.wrap ((BitVec.ofInt IntKind.u32.bits (a.toNat : Int) ^^^ BitVec.ofInt IntKind.u32.bits (b.toNat : Int)).toNat : Int) = ((a ^^^ b).toNat : Int) := by
    rw [show BitVec.ofInt IntKind.u32.bits (a.toNat : Int) = a by (show BitVec.ofInt 32 (a.toNat : Int) = a); rw [BitVec.ofInt_natCast]; simp, show BitVec.ofInt IntKind.u32.bits (b.toNat : Int) = b by (show BitVec.ofInt 32 (b.toNat : Int) = b); rw [BitVec.ofInt_natCast]; simp, Go.IntKind.wrap_u32]
    have := (a ^^^ b).isLt
    show ((a ^^^ b).toNat : Int) % _ = _
    omega
  exact bin_of hx hy (by rw [b_xor, e])
theorem r_quo32 {t t' : TypeId} {x y : Operand} {a b : BitVec 32} (hx : ρ x = u32V a) (hy : ρ y = u32V b) (hb : 0 < b.toNat) : Run P ρ ⟨dst, .binOp .quo t x y t', ty, pos, aft, g⟩ w (u32V (a / b)) w := by
  have h0 : ¬ (b.toNat : Int) = 0 := by omega
  have h1 : (a.toNat : Int).tdiv (b.toNat : Int) = ((a / b).toNat : Int) := by rw [Int.tdiv_eq_ediv_of_nonneg (by omega)]; simp
  have h2 : IntKind.u32.wrap ((a / b).toNat : Int) = ((a / b).toNat : Int) := by
    rw [Go.IntKind.wrap_u32]; have := (a / b).isLt; omega
  exact bin_of hx hy (by rw [b_quo h0, h1, h2])
theorem r_rem32 {t t' : TypeId} {x y : Operand} {a b : BitVec 32} (hx : ρ x = u32V a) (hy : ρ y = u32V b) (hb : 0 < b.toNat) : Run P ρ ⟨dst, .binOp .rem t x y t', ty, pos, aft, g⟩ w (u32V (a % b)) w := by
  have h0 : ¬ (b.toNat : Int) = 0 := by omega
  have h1 : (a.toNat : Int).tmod (b.toNat : Int) = ((a % b).toNat : Int) := by rw [Int.tmod_eq_emod_of_nonneg (by omega)]; simp
  exact bin_of hx hy (by rw [b_rem h0, h1])
theorem r_lss32 {t t' : TypeId} {x y : Operand} {a b : BitVec 32} (hx : ρ x = u32V a) (hy : ρ y = u32V b) : Run P ρ ⟨dst, .binOp .lss t x y t', ty, pos, aft, g⟩ w (bV (decide (a.toNat < b.toNat))) w := by
  have e : decide ((a.toNat : Int) < (b.toNat : Int)) = decide (a.toNat < b.toNat) := by
    by_cases h : a.toNat < b.toNat
    · have h' : (a.toNat : Int) < (b.toNat : Int) := by omega
      simp only [h, h']
    · have h' : ¬ (a.toNat : Int) < (b.toNat : Int) := by omega
      simp only [h, h']
  exact bin_of hx hy (by rw [b_lss, e])
theorem r_leq32 {t t' : TypeId} {x y : Operand} {a b : BitVec 32} (hx : ρ x = u32V a) (hy : ρ y = u32V b) : Run P ρ ⟨dst, .binOp .leq t x y t', ty, pos, aft, g⟩ w (bV (decide (a.toNat ≤ b.toNat))) w := by
  have e : decide ((a.toNat : Int) ≤ (b.toNat : Int)) = decide (a.toNat ≤ b.toNat) := by
    by_cases h : a.toNat ≤ b.toNat
    · have h' : (a.toNat : Int) ≤ (b.toNat : Int) := by omega
      simp only [h, h']
    · have h' : ¬ (a.toNat : Int) ≤ (b.toNat : Int) := by omega
      simp only [h, h']
  exact bin_of hx hy (by rw [b_leq, e])
theorem r_gtr32 {t t' : TypeId} {x y : Operand} {a b : BitVec 32} (hx : ρ x = u32V a) (hy : ρ y = u32V b) : Run P ρ ⟨dst, .binOp .gtr t x y t', ty, pos, aft, g⟩ w (bV (decide (a.toNat > b.toNat))) w := by
  have e : decide ((a.toNat : Int) > (b.toNat : Int)) = decide (a.toNat > b.toNat) := by
    by_cases h : a.toNat > b.toNat
    · have h' : (a.toNat : Int) > (b.toNat : Int) := by omega
      simp only [h, h']
    · have h' : ¬ (a.toNat : Int) > (b.toNat : Int) := by omega
      simp only [h, h']
  exact bin_of hx hy (by rw [b_gtr, e])
theorem r_geq32 {t t' : TypeId} {x y : Operand} {a b : BitVec 32} (hx : ρ x = u32V a) (hy : ρ y = u32V b) : Run P ρ ⟨dst, .binOp .geq t x y t', ty, pos, aft, g⟩ w (bV (decide (a.toNat ≥ b.toNat))) w := by
  have e : decide ((a.toNat : Int) ≥ (b.toNat : Int)) = decide (a.toNat ≥ b.toNat) := by
    by_cases h : a.toNat ≥ b.toNat
    · have h' : (a.toNat : Int) ≥ (b.toNat : Int) := by omega
      simp only [h, h']
    · have h' : ¬ (a.toNat : Int) ≥ (b.toNat : Int) := by omega
      simp only [h, h']
  exact bin_of hx hy (by rw [b_geq, e])
theorem r_eql32 {t t' : TypeId} {x y : Operand} {a b : BitVec 32} (hx : ρ x = u32V a) (hy : ρ y = u32V b) : Run P ρ ⟨dst, .binOp .eql t x y t', ty, pos, aft, g⟩ w (bV (decide (a = b))) w := by
  have e : ((a.toNat : Int) == (b.toNat : Int)) = decide (a = b) := by
    by_cases h : a = b
    · simp [h]
    · have : ¬ a.toNat = b.toNat := fun e => h (BitVec.eq_of_toNat_eq e)
      have : ¬ (a.toNat : Int) = (b.toNat : Int) := by omega
      simp only [h, not_false_eq_true, decide_true, decide_false, beq_eq_false_iff_ne, this, ne_eq]
  exact bin_of hx hy (by rw [b_eql, e])
theorem r_neq32 {t t' : TypeId} {x y : Operand} {a b : BitVec 32} (hx : ρ x = u32V a) (hy : ρ y = u32V b) : Run P ρ ⟨dst, .binOp .neq t x y t', ty, pos, aft, g⟩ w (bV (decide (a ≠ b))) w := by
  have e : ((a.toNat : Int) != (b.toNat : Int)) = decide (a ≠ b) := by
    by_cases h : a = b
    · simp [h]
    · have : ¬ a.toNat = b.toNat := fun e => h (BitVec.eq_of_toNat_eq e)
      have : ¬ (a.toNat : Int) = (b.toNat : Int) := by omega
      simp only [h, not_false_eq_true, decide_true, decide_false, bne_iff_ne, this, ne_eq]
  exact bin_of hx hy (by rw [b_neq, e])
theorem r_shl32 {t t' : TypeId} {x y : Operand} {a : BitVec 32} {k : IntKind} {b : Nat} (hx : ρ x = u32V a) (hy : ρ y = .int k (b : Int)) : Run P ρ ⟨dst, .binOp .shl t x y t', ty, pos, aft, g⟩ w (u32V (a <<< b)) w := by
  have h0 : ¬ ((b : Int) < 0) := by omega
  have e : IntKind.u32.wrap ((a.toNat : Int) * 2 ^ (min b IntKind.u32.bits)) = ((a <<< b).toNat : Int) := by
    rw [Go.IntKind.wrap_u32, BitVec.toNat_shiftLeft, Nat.shiftLeft_eq]
    show (a.toNat : Int) * 2 ^ (min b 32) % 4294967296 = _
    by_cases hb : b ≤ 32
    · rw [Nat.min_eq_left hb, Int.natCast_emod, Int.natCast_mul, Int.natCast_pow]; rfl
    · rw [Nat.min_eq_right (by omega)]
      obtain ⟨c, rfl⟩ : ∃ c, b = 32 + c := ⟨b - 32, by omega⟩
      rw [show a.toNat * 2 ^ (32 + c) % 2 ^ 32 = 0 by rw [Nat.pow_add, Nat.mul_left_comm]; exact Nat.mul_mod_right _ _]
      omega
  exact bin_of hx hy (by rw [b_shl h0, Int.toNat_natCast, e])
theorem r_shr32 {t t' : TypeId} {x y : Operand} {a : BitVec 32} {k : IntKind} {b : Nat} (hx : ρ x = u32V a) (hy : ρ y = .int k (b : Int)) : Run P ρ ⟨dst, .binOp .shr t x y t', ty, pos, aft, g⟩ w (u32V (a >>> b)) w := by
  have h0 : ¬ ((b : Int) < 0) := by omega
  have e : (a.toNat : Int).fdiv (2 ^ (min b IntKind.u32.bits)) = ((a >>> b).toNat : Int) := by
    rw [BitVec.toNat_ushiftRight, Nat.shiftRight_eq_div_pow]
    show (a.toNat : Int).fdiv (2 ^ (min b 32)) = _
    rw [Int.fdiv_eq_ediv_of_nonneg _ (Int.pow_nonneg (by omega))]
    by_cases hb : b ≤ 32
    · rw [Nat.min_eq_left hb, Int.natCast_ediv, Int.natCast_pow]; rfl
    · rw [Nat.min_eq_right (by omega)]
      have h1 : a.toNat / 2 ^ b = 0 := Nat.div_eq_of_lt (Nat.lt_of_lt_of_le a.isLt (Nat.pow_le_pow_right (by omega) (by omega)))
      have h2 : a.toNat / 2 ^ 32 = 0 := Nat.div_eq_of_lt a.isLt
      rw [h1]
      have h3 : ((a.toNat / 2 ^ 32 : Nat) : Int) = 0 := by rw [h2]; rfl
      rw [Int.natCast_ediv, Int.natCast_pow] at h3
      exact h3
  exact bin_of hx hy (by rw [b_shr h0, Int.toNat_natCast, e])
theorem r_add64 {t t' : TypeId} {x y : Operand} {a b : BitVec 64} (hx : ρ x = u64V a) (hy : ρ y = u64V b) : Run P ρ ⟨dst, .binOp .add t x y t', ty, pos, aft, g⟩ w (u64V (a + b)) w := by
  have e : IntKind.u64.wrap ((a.toNat : Int) + (b.toNat : Int)) = ((a + b).toNat : Int) := by
    have hla := a.isLt
    have hlb := b.isLt
    rw [Go.IntKind.wrap_u64, BitVec.toNat_add]
    omega
  exact bin_of hx hy (by rw [b_add, e])
theorem r_mul64 {t t' : TypeId} {x y : Operand} {a b : BitVec 64} (hx : ρ x = u64V a) (hy : ρ y = u64V b) : Run P ρ ⟨dst, .binOp .mul t x y t', ty, pos, aft, g⟩ w (u64V (a * b)) w := by
  have e : IntKind.u64.wrap ((a.toNat : Int) * (b.toNat : Int)) = ((a * b).toNat : Int) := by
    have hla := a.isLt
    have hlb := b.isLt
    rw [Go.IntKind.wrap_u64, BitVec.toNat_mul]
    rw [show (a.toNat : Int) * (b.toNat : Int) = ((a.toNat * b.toNat : Nat) : Int) by push_cast; rfl]
    generalize a.toNat * b.toNat = m
    omega
  exact bin_of hx hy (by rw [b_mul, e])
theorem r_sub64 {t t' : TypeId} {x y : Operand} {a b : BitVec 64} (hx : ρ x = u64V a) (hy : ρ y = u64V b) : Run P ρ ⟨dst, .binOp .sub t x y t', ty, pos, aft, g⟩ w (u64V (a - b)) w := by
  have e : IntKind.u64.wrap ((a.toNat : Int) - (b.toNat : Int)) = ((a - b).toNat : Int) := by
    have hla := a.isLt
    have hlb := b.isLt
    rw [Go.IntKind.wrap_u64, BitVec.toNat_sub]
    omega
  exact bin_of hx hy (by rw [b_sub, e])
theorem r_and64 {t t' : TypeId} {x y : Operand} {a b : BitVec 64} (hx : ρ x = u64V a) (hy : ρ y = u64V b) : Run P ρ ⟨dst, .binOp .and t x y t', ty, pos, aft, g⟩ w (u64V (a &&& b)) w := by
  have e : IntKind.u64.wrap ((BitVec.ofInt IntKind.u64.bits (a.toNat : Int) &&& BitVec.ofInt IntKind.u64.bits (b.toNat : Int)).toNat : Int) = ((a &&& b).toNat : Int) := by
    rw [show BitVec.ofInt IntKind.u64.bits (a.toNat : Int) = a by (show BitVec.ofInt 64 (a.toNat : Int) = a); rw [BitVec.ofInt_natCast]; simp, show BitVec.ofInt IntKind.u64.bits (b.toNat : Int) = b by (show BitVec.ofInt 64 (b.toNat : Int) = b); rw [BitVec.ofInt_natCast]; simp, Go.IntKind.wrap_u64]
    have := (a &&& b).isLt
    show ((a &&& b).toNat : Int) % _ = _
    omega
  exact bin_of hx hy (by rw [b_and, e])
theorem r_or64 {t t' : TypeId} {x y : Operand} {a b : BitVec 64} (hx : ρ x = u64V a) (hy : ρ y = u64V b) : Run P ρ ⟨dst, .binOp .or t x y t', ty, pos, aft, g⟩ w (u64V (a ||| b)) w := by
  have e : IntKind.u64.wrap ((BitVec.ofInt IntKind.u64.bits (a.toNat : Int) ||| BitVec.ofInt IntKind.u64.bits (b.toNat : Int)).toNat : Int) = ((a ||| b).toNat : Int) := by
    rw [show BitVec.ofInt IntKind.u64.bits (a.toNat : Int) = a by (show BitVec.ofInt 64 (a.toNat : Int) = a); rw [BitVec.ofInt_natCast]; simp, show BitVec.ofInt IntKind.u64.bits (b.toNat : Int) = b by (show BitVec.ofInt 64 (b.toNat : Int) = b); rw [BitVec.ofInt_natCast]; simp, Go.IntKind.wrap_u64]
    have := (a ||| b).isLt
    show ((a ||| b).toNat : Int) % _ = _
    omega
  exact bin_of hx hy (by rw [b_or, e])
theorem r_xor64 {t t' : TypeId} {x y : Operand} {a b : BitVec 64} (hx : ρ x = u64V a) (hy : ρ y = u64V b) : Run P ρ ⟨dst, .binOp .xor t x y t', ty, pos, aft, g⟩ w (u64V (a ^^^ b)) w := by
  have e : IntKind.u64.wrap ((BitVec.ofInt IntKind.u64.bits (a.toNat : Int) ^^^ BitVec.ofInt IntKind.u64.bits (b.toNat : Int)).toNat : Int) = ((a ^^^ b).toNat : Int) := by
    rw [show BitVec.ofInt IntKind.u64.bits (a.toNat : Int) = a by (show BitVec.ofInt 64 (a.toNat : Int) = a); rw [BitVec.ofInt_natCast]; simp, show BitVec.ofInt IntKind.u64.bits (b.toNat : Int) = b by (show BitVec.ofInt 64 (b.toNat : Int) = b); rw [BitVec.ofInt_natCast]; simp, Go.IntKind.wrap_u64]
    have := (a ^^^ b).isLt
    show ((a ^^^ b).toNat : Int) % _ = _
    omega
  exact bin_of hx hy (by rw [b_xor, e])
theorem r_quo64 {t t' : TypeId} {x y : Operand} {a b : BitVec 64} (hx : ρ x = u64V a) (hy : ρ y = u64V b) (hb : 0 < b.toNat) : Run P ρ ⟨dst, .binOp .quo t x y t', ty, pos, aft, g⟩ w (u64V (a / b)) w := by
  have h0 : ¬ (b.toNat : Int) = 0 := by omega
  have h1 : (a.toNat : Int).tdiv (b.toNat : Int) = ((a / b).toNat : Int) := by rw [Int.tdiv_eq_ediv_of_nonneg (by omega)]; simp
  have h2 : IntKind.u64.wrap ((a / b).toNat : Int) = ((a / b).toNat : Int) := by
    rw [Go.IntKind.wrap_u64]; have := (a / b).isLt; omega
  exact bin_of hx hy (by rw [b_quo h0, h1, h2])
theorem r_rem64 {t t' : TypeId} {x y : Operand} {a b : BitVec 64} (hx : ρ x = u64V a) (hy : ρ y = u64V b) (hb : 0 < b.toNat) : Run P ρ ⟨dst, .binOp .rem t x y t', ty, pos, aft, g⟩ w (u64V (a % b)) w := by
  have h0 : ¬ (b.toNat : Int) = 0 := by omega
  have h1 : (a.toNat : Int).tmod (b.toNat : Int) = ((a % b).toNat : Int) := by rw [Int.tmod_eq_emod_of_nonneg (by omega)]; simp
  exact bin_of hx hy (by rw [b_rem h0, h1])
theorem r_lss64 {t t' : TypeId} {x y : Operand} {a b : BitVec 64} (hx : ρ x = u64V a) (hy : ρ y = u64V b) : Run P ρ ⟨dst, .binOp .lss t x y t', ty, pos, aft, g⟩ w (bV (decide (a.toNat < b.toNat))) w := by
  have e : decide ((a.toNat : Int) < (b.toNat : Int)) = decide (a.toNat < b.toNat) := by
    by_cases h : a.toNat < b.toNat
    · have h' : (a.toNat : Int) < (b.toNat : Int) := by omega
      simp only [h, h']
    · have h' : ¬ (a.toNat : Int) < (b.toNat : Int) := by omega
      simp only [h, h']
  exact bin_of hx hy (by rw [b_lss, e])
theorem r_leq64 {t t' : TypeId} {x y : Operand} {a b : BitVec 64} (hx : ρ x = u64V a) (hy : ρ y = u64V b) : Run P ρ ⟨dst, .binOp .leq t x y t', ty, pos, aft, g⟩ w (bV (decide (a.toNat ≤ b.toNat))) w := by
  have e : decide ((a.toNat : Int) ≤ (b.toNat : Int)) = decide (a.toNat ≤ b.toNat) := by
    by_cases h : a.toNat ≤ b.toNat
    · have h' : (a.toNat : Int) ≤ (b.toNat : Int) := by omega
      simp only [h, h']
    · have h' : ¬ (a.toNat : Int) ≤ (b.toNat : Int) := by omega
      simp only [h, h']
  exact bin_of hx hy (by rw [b_leq, e])
theorem r_gtr64 {t t' : TypeId} {x y : Operand} {a b : BitVec 64} (hx : ρ x = u64V a) (hy : ρ y = u64V b) : Run P ρ ⟨dst, .binOp .gtr t x y t', ty, pos, aft, g⟩ w (bV (decide (a.toNat > b.toNat))) w := by
  have e : decide ((a.toNat : Int) > (b.toNat : Int)) = decide (a.toNat > b.toNat) := by
    by_cases h : a.toNat > b.toNat
    · have h' : (a.toNat : Int) > (b.toNat : Int) := by omega
      simp only [h, h']
    · have h' : ¬ (a.toNat : Int) > (b.toNat : Int) := by omega
      simp only [h, h']
  exact bin_of hx hy (by rw [b_gtr, e])
theorem r_geq64 {t t' : TypeId} {x y : Operand} {a b : BitVec 64} (hx : ρ x = u64V a) (hy : ρ y = u64V b) : Run P ρ ⟨dst, .binOp .geq t x y t', ty, pos, aft, g⟩ w (bV (decide (a.toNat ≥ b.toNat))) w := by
  have e : decide ((a.toNat : Int) ≥ (b.toNat : Int)) = decide (a.toNat ≥ b.toNat) := by
    by_cases h : a.toNat ≥ b.toNat
    · have h' : (a.toNat : Int) ≥ (b.toNat : Int) := by omega
      simp only [h, h']
    · have h' : ¬ (a.toNat : Int) ≥ (b.toNat : Int) := by omega
      simp only [h, h']
  exact bin_of hx hy (by rw [b_geq, e])
theorem r_eql64 {t t' : TypeId} {x y : Operand} {a b : BitVec 64} (hx : ρ x = u64V a) (hy : ρ y = u64V b) : Run P ρ ⟨dst, .binOp .eql t x y t', ty, pos, aft, g⟩ w (bV (decide (a = b))) w := by
  have e : ((a.toNat : Int) == (b.toNat : Int)) = decide (a = b) := by
    by_cases h : a = b
    · simp [h]
    · have : ¬ a.toNat = b.toNat := fun e => h (BitVec.eq_of_toNat_eq e)
      have : ¬ (a.toNat : Int) = (b.toNat : Int) := by omega
      simp only [h, not_false_eq_true, decide_true, decide_false, beq_eq_false_iff_ne, this, ne_eq]
  exact bin_of hx hy (by rw [b_eql, e])
theorem r_neq64 {t t' : TypeId} {x y : Operand} {a b : BitVec 64} (hx : ρ x = u64V a) (hy : ρ y = u64V b) : Run P ρ ⟨dst, .binOp .neq t x y t', ty, pos, aft, g⟩ w (bV (decide (a ≠ b))) w := by
  have e : ((a.toNat : Int) != (b.toNat : Int)) = decide (a ≠ b) := by
    by_cases h : a = b
    · simp [h]
    · have : ¬ a.toNat = b.toNat := fun e => h (BitVec.eq_of_toNat_eq e)
      have : ¬ (a.toNat : Int) = (b.toNat : Int) := by omega
      simp only [h, not_false_eq_true, decide_true, decide_false, bne_iff_ne, this, ne_eq]
  exact bin_of hx hy (by rw [b_neq, e])
theorem r_shl64 {t t' : TypeId} {x y : Operand} {a : BitVec 64} {k : IntKind} {b : Nat} (hx : ρ x = u64V a) (hy : ρ y = .int k (b : Int)) : Run P ρ ⟨dst, .binOp .shl t x y t', ty, pos, aft, g⟩ w (u64V (a <<< b)) w := by
  have h0 : ¬ ((b : Int) < 0) := by omega
  have e : IntKind.u64.wrap ((a.toNat : Int) * 2 ^ (min b IntKind.u64.bits)) = ((a <<< b).toNat : Int) := by
    rw [Go.IntKind.wrap_u64, BitVec.toNat_shiftLeft, Nat.shiftLeft_eq]
    show (a.toNat : Int) * 2 ^ (min b 64) % 18446744073709551616 = _
    by_cases hb : b ≤ 64
    · rw [Nat.min_eq_left hb, Int.natCast_emod, Int.natCast_mul, Int.natCast_pow]; rfl
    · rw [Nat.min_eq_right (by omega)]
      obtain ⟨c, rfl⟩ : ∃ c, b = 64 + c := ⟨b - 64, by omega⟩
      rw [show a.toNat * 2 ^ (64 + c) % 2 ^ 64 = 0 by rw [Nat.pow_add, Nat.mul_left_comm]; exact Nat.mul_mod_right _ _]
      omega
  exact bin_of hx hy (by rw [b_shl h0, Int.toNat_natCast, e])
theorem r_shr64 {t t' : TypeId} {x y : Operand} {a : BitVec 64} {k : IntKind} {b : Nat} (hx : ρ x = u64V a) (hy : ρ y = .int k (b : Int)) : Run P ρ ⟨dst, .binOp .shr t x y t', ty, pos, aft, g⟩ w (u64V (a >>> b)) w := by
  have h0 : ¬ ((b : Int) < 0) := by omega
  have e : (a.toNat : Int).fdiv (2 ^ (min b IntKind.u64.bits)) = ((a >>> b).toNat : Int) := by
    rw [BitVec.toNat_ushiftRight, Nat.shiftRight_eq_div_pow]
    show (a.toNat : Int).fdiv (2 ^ (min b 64)) = _
    rw [Int.fdiv_eq_ediv_of_nonneg _ (Int.pow_nonneg (by omega))]
    by_cases hb : b ≤ 64
    · rw [Nat.min_eq_left hb, Int.natCast_ediv, Int.natCast_pow]; rfl
    · rw [Nat.min_eq_right (by omega)]
      have h1 : a.toNat / 2 ^ b = 0 := Nat.div_eq_of_lt (Nat.lt_of_lt_of_le a.isLt (Nat.pow_le_pow_right (by omega) (by omega)))
      have h2 : a.toNat / 2 ^ 64 = 0 := Nat.div_eq_of_lt a.isLt
      rw [h1]
      have h3 : ((a.toNat / 2 ^ 64 : Nat) : Int) = 0 := by rw [h2]; rfl
      rw [Int.natCast_ediv, Int.natCast_pow] at h3
      exact h3
  exact bin_of hx hy (by rw [b_shr h0, Int.toNat_natCast, e])
theorem r_shl8 {t t' : TypeId} {x y : Operand} {a : UInt8} {k : IntKind} {b : Nat} (hx : ρ x = u8V a) (hy : ρ y = .int k (b : Int)) (hb : b < 8) : Run P ρ ⟨dst, .binOp .shl t x y t', ty, pos, aft, g⟩ w (u8V (a <<< (UInt8.ofNat b))) w := by
  have h0 : ¬ ((b : Int) < 0) := by omega
  have e : IntKind.u8.wrap ((a.toNat : Int) * 2 ^ (min b IntKind.u8.bits)) = ((a <<< (UInt8.ofNat b)).toNat : Int) := by
    rw [Go.IntKind.wrap_u8, UInt8.toNat_shiftLeft, Nat.shiftLeft_eq]
    show (a.toNat : Int) * 2 ^ (min b 8) % 256 = _
    rw [Nat.min_eq_left (by omega), show (UInt8.ofNat b).toNat % 8 = b by rw [UInt8.toNat_ofNat']; omega, Int.natCast_emod, Int.natCast_mul, Int.natCast_pow]; rfl
  exact bin_of hx hy (by rw [b_shl h0, Int.toNat_natCast, e])
theorem r_shr8 {t t' : TypeId} {x y : Operand} {a : UInt8} {k : IntKind} {b : Nat} (hx : ρ x = u8V a) (hy : ρ y = .int k (b : Int)) (hb : b < 8) : Run P ρ ⟨dst, .binOp .shr t x y t', ty, pos, aft, g⟩ w (u8V (a >>> (UInt8.ofNat b))) w := by
  have h0 : ¬ ((b : Int) < 0) := by omega
  have e : (a.toNat : Int).fdiv (2 ^ (min b IntKind.u8.bits)) = ((a >>> (UInt8.ofNat b)).toNat : Int) := by
    rw [UInt8.toNat_shiftRight, Nat.shiftRight_eq_div_pow]
    show (a.toNat : Int).fdiv (2 ^ (min b 8)) = _
    rw [Int.fdiv_eq_ediv_of_nonneg _ (Int.pow_nonneg (by omega)), Nat.min_eq_left (by omega), show (UInt8.ofNat b).toNat % 8 = b by rw [UInt8.toNat_ofNat']; omega, Int.natCast_ediv, Int.natCast_pow]; rfl
  exact bin_of hx hy (by rw [b_shr h0, Int.toNat_natCast, e])
theorem r_andi7 {t t' : TypeId} {x y : Operand} {a : Int} (hx : ρ x = iV a) (hy : ρ y = iV 7) (ha : -9223372036854775808 ≤ a ∧ a ≤ 9223372036854775807) : Run P ρ ⟨dst, .binOp .and t x y t', ty, pos, aft, g⟩ w (iV (a % 8)) w := by
  have e : IntKind.i64.wrap ((BitVec.ofInt IntKind.i64.bits a &&& BitVec.ofInt IntKind.i64.bits 7).toNat : Int) = a % 8 := by
    show IntKind.i64.wrap ((BitVec.ofInt 64 a &&& BitVec.ofInt 64 7).toNat : Int) = a % 8
    have h1 : (BitVec.ofInt 64 a &&& BitVec.ofInt 64 7).toNat = (BitVec.ofInt 64 a).toNat % 8 := by
      rw [BitVec.toNat_and, show (BitVec.ofInt 64 7).toNat = 2 ^ 3 - 1 by decide, Nat.and_two_pow_sub_one_eq_mod]
    have h2 : (BitVec.ofInt 64 a).toNat = (a % 18446744073709551616).toNat := BitVec.toNat_ofInt _
    rw [h1, h2, wrap_i64 (by omega)]
    omega
  exact bin_of hx hy (by rw [b_and, e])
theorem r_not32 {t' : TypeId} {x : Operand} {a : BitVec 32} (hx : ρ x = u32V a) : Run P ρ ⟨dst, .unOp .xor t' x, ty, pos, aft, g⟩ w (u32V (~~~a)) w := by
  left
  have e : IntKind.u32.wrap ((BitVec.ofInt IntKind.u32.bits (if IntKind.u32.signed = true then -1 else IntKind.u32.max) ^^^ BitVec.ofInt IntKind.u32.bits (a.toNat : Int)).toNat : Int) = ((~~~a).toNat : Int) := by
    rw [show BitVec.ofInt IntKind.u32.bits (a.toNat : Int) = a by (show BitVec.ofInt 32 (a.toNat : Int) = a); rw [BitVec.ofInt_natCast]; simp,
      show BitVec.ofInt IntKind.u32.bits (if IntKind.u32.signed = true then -1 else IntKind.u32.max) = BitVec.allOnes 32 from rfl, Go.IntKind.wrap_u32]
    have := (~~~a).isLt
    show ((BitVec.allOnes 32 ^^^ a).toNat : Int) % _ = _
    rw [BitVec.allOnes_xor]
    omega
  simp only [execOp, hx, Op.unary, Op.intBits, Sem.run_bind, Sem.run_pure, Result.andThen_ok]
  rw [e]
theorem r_negi {t' : TypeId} {x : Operand} {a : Int} (hx : ρ x = iV a) (h : -9223372036854775808 ≤ -a ∧ -a ≤ 9223372036854775807) : Run P ρ ⟨dst, .unOp .neg t' x, ty, pos, aft, g⟩ w (iV (-a)) w := by
  left
  simp [execOp, hx, Op.unary, Op.intArith, wrap_i64 (z := -a) h]
theorem r_neg32 {t' : TypeId} {x : Operand} {a : BitVec 32} (hx : ρ x = u32V a) : Run P ρ ⟨dst, .unOp .neg t' x, ty, pos, aft, g⟩ w (u32V (-a)) w := by
  left
  have e : IntKind.u32.wrap (-(a.toNat : Int)) = ((-a).toNat : Int) := by rw [Go.IntKind.wrap_u32, BitVec.toNat_neg]; have := a.isLt; omega
  simp [execOp, hx, Op.unary, Op.intArith, e]
/-! bools -/
theorem run_eqIn_bool (d : Nat) {t : TypeId} (a b : Bool) (h : P.underlying t = some .bool) : (Op.equalIn (d + 1) t (.bool a) (.bool b)).run P w = .ok (a == b) w := by
  simp [Op.equalIn, run_underlying h]
theorem run_eq_bool {t : TypeId} (a b : Bool) (h : P.underlying t = some .bool) : (Op.equal t (.bool a) (.bool b)).run P w = .ok (a == b) w := run_eqIn_bool 9999 a b h
theorem r_eqlb {t t' : TypeId} {x y : Operand} {a b : Bool} (ht : P.underlying t = some .bool) (hx : ρ x = bV a) (hy : ρ y = bV b) : Run P ρ ⟨dst, .binOp .eql t x y t', ty, pos, aft, g⟩ w (bV (a == b)) w := by
  left
  have he : (eqGuard .eql t x y (.bool a) (.bool b)).run P w = .ok () w := by simp [eqGuard]
  simp only [execOp, hx, hy, Sem.run_bind, he, Result.andThen_ok, binOp, run_eq_bool a b ht, Sem.run_pure]
theorem r_neqb {t t' : TypeId} {x y : Operand} {a b : Bool} (ht : P.underlying t = some .bool) (hx : ρ x = bV a) (hy : ρ y = bV b) : Run P ρ ⟨dst, .binOp .neq t x y t', ty, pos, aft, g⟩ w (bV (a != b)) w := by
  left
  have he : (eqGuard .neq t x y (.bool a) (.bool b)).run P w = .ok () w := by simp [eqGuard]
  simp only [execOp, hx, hy, Sem.run_bind, he, Result.andThen_ok, binOp, run_eq_bool a b ht, Sem.run_pure]
  rfl
/-! texts -/
theorem str_eq (a b : ByteArray) : (a.toList == b.toList) = decide (a = b) := by
  rw [ByteArray.toList_eq, ByteArray.toList_eq]
  by_cases h : a = b
  · simp [h]
  · have : ¬ a.data.toList = b.data.toList := fun e => h (by cases a; cases b; simp at e; simp [e])
    rw [beq_eq_false_iff_ne.2 this, decide_eq_false h]
theorem run_adds (a b : ByteArray) (h : a.size + b.size ≤ 9223372036854775807) : (Op.stringOp .add a b).run P w = .ok (.string (a ++ b)) w := by
  unfold Op.stringOp
  have h2 : ¬ (((a.size + b.size : Nat) : Int) > IntKind.i64.max) := by
    have : IntKind.i64.max = 9223372036854775807 := rfl
    omega
  show Sem.run P (if ((a.size + b.size : Nat) : Int) > IntKind.i64.max then _ else _) w = _
  rw [if_neg h2]
  rfl
theorem r_adds {t t' : TypeId} {x y : Operand} {a b : ByteArray} (hx : ρ x = sV a) (hy : ρ y = sV b) (h : a.size + b.size ≤ 9223372036854775807) : Run P ρ ⟨dst, .binOp .add t x y t', ty, pos, aft, g⟩ w (sV (a ++ b)) w := by
  left
  have h3 := run_adds (P := P) (w := w) a b h
  clear h
  have he : (eqGuard .add t x y (.string a) (.string b)).run P w = .ok () w := rfl
  have hb : binOp .add t (.string a) (.string b) = Op.stringOp .add a b := by simp only [binOp]
  simp only [execOp, hx, hy, Sem.run_bind, he, Result.andThen_ok, hb, h3, Sem.run_pure]
theorem r_eqls {t t' : TypeId} {x y : Operand} {a b : ByteArray} (hx : ρ x = sV a) (hy : ρ y = sV b) : Run P ρ ⟨dst, .binOp .eql t x y t', ty, pos, aft, g⟩ w (bV (decide (a = b))) w := by
  left; simp only [execOp, hx, hy, binOp, eqGuard, Op.stringOp, str_eq]; simp
theorem r_neqs {t t' : TypeId} {x y : Operand} {a b : ByteArray} (hx : ρ x = sV a) (hy : ρ y = sV b) : Run P ρ ⟨dst, .binOp .neq t x y t', ty, pos, aft, g⟩ w (bV (decide (a ≠ b))) w := by
  left; simp only [execOp, hx, hy, binOp, eqGuard, Op.stringOp, str_eq]; simp
/-- Is a text ahead of another one, by bytes? -/
def sLt (a b : ByteArray) : Bool := Op.bytesLess a.toList b.toList
theorem r_lsss {t t' : TypeId} {x y : Operand} {a b : ByteArray} (hx : ρ x = sV a) (hy : ρ y = sV b) : Run P ρ ⟨dst, .binOp .lss t x y t', ty, pos, aft, g⟩ w (bV (sLt a b)) w := by
  left; simp [execOp, hx, hy, binOp, eqGuard, Op.stringOp, sLt]
theorem r_leqs {t t' : TypeId} {x y : Operand} {a b : ByteArray} (hx : ρ x = sV a) (hy : ρ y = sV b) : Run P ρ ⟨dst, .binOp .leq t x y t', ty, pos, aft, g⟩ w (bV (sLt a b || decide (a = b))) w := by
  left; simp only [execOp, hx, hy, binOp, eqGuard, Op.stringOp, str_eq, sLt]; simp
theorem r_gtrs {t t' : TypeId} {x y : Operand} {a b : ByteArray} (hx : ρ x = sV a) (hy : ρ y = sV b) : Run P ρ ⟨dst, .binOp .gtr t x y t', ty, pos, aft, g⟩ w (bV (!(sLt a b || decide (a = b)))) w := by
  left; simp only [execOp, hx, hy, binOp, eqGuard, Op.stringOp, str_eq, sLt]; simp
theorem r_geqs {t t' : TypeId} {x y : Operand} {a b : ByteArray} (hx : ρ x = sV a) (hy : ρ y = sV b) : Run P ρ ⟨dst, .binOp .geq t x y t', ty, pos, aft, g⟩ w (bV (!sLt a b)) w := by
  left; simp [execOp, hx, hy, binOp, eqGuard, Op.stringOp, sLt]
theorem r_index_s {t : TypeId} {x y : Operand} {s : ByteArray} {k : Nat} (ht : P.underlying t = some .string) (hx : ρ x = sV s) (hy : ρ y = iV (k : Int)) (h : k < s.size) : Run P ρ ⟨dst, .index t x y, ty, pos, aft, g⟩ w (u8V (at8 s k)) w := by
  left
  have h1 := at8_get s k h
  simp [execOp, hx, hy, Instr.index, asIntOf, run_underlying ht, h1]
theorem r_index_s8 {t : TypeId} {x y : Operand} {s : ByteArray} {c : UInt8} (ht : P.underlying t = some .string) (hx : ρ x = sV s) (hy : ρ y = u8V c) (h : c.toNat < s.size) : Run P ρ ⟨dst, .index t x y, ty, pos, aft, g⟩ w (u8V (at8 s c.toNat)) w := by
  left
  have h1 := at8_get s c.toNat h
  simp [execOp, hx, hy, u8V, Instr.index, asIntOf, run_underlying ht, h1]
theorem r_index_si {t : TypeId} {x y : Operand} {s : ByteArray} {i : Int} (ht : P.underlying t = some .string) (hx : ρ x = sV s) (hy : ρ y = iV i) (h0 : 0 ≤ i ∧ i < (s.size : Int)) : Run P ρ ⟨dst, .index t x y, ty, pos, aft, g⟩ w (u8V (at8 s i.toNat)) w := by
  obtain ⟨k, rfl⟩ := Int.eq_ofNat_of_zero_le h0.1
  exact r_index_s ht hx hy (by omega)
theorem r_slice_s {t : TypeId} {x : Operand} {s : ByteArray} {lo hi : Option Operand} (l h : Int) (ht : P.underlying t = some .string) (hx : ρ x = sV s)
    (hl : lo.map ρ = some (iV l)) (hh : hi.map ρ = some (iV h)) (hb : 0 ≤ l ∧ l ≤ h ∧ h ≤ (s.size : Int)) : Run P ρ ⟨dst, .slice t x lo hi none, ty, pos, aft, g⟩ w (sV (s.extract l.toNat h.toNat)) w := by
  left
  have h1 : 0 ≤ h := by omega
  have h2 : l ≤ max h 0 := by omega
  have h3 : ((h.toNat : Nat) : Int) = h := by omega
  simp [execOp, hx, hl, hh, Instr.sliceAt, Instr.slice, run_underlying ht, Instr.sliceBounds, Instr.sliceBound, asIntOf, h1, hb.1, hb.2.1, hb.2.2, h3]
theorem r_slice_sl {t : TypeId} {x : Operand} {s : ByteArray} {lo : Option Operand} (l : Int) (ht : P.underlying t = some .string) (hx : ρ x = sV s)
    (hl : lo.map ρ = some (iV l)) (hb : 0 ≤ l ∧ l ≤ (s.size : Int)) : Run P ρ ⟨dst, .slice t x lo none none, ty, pos, aft, g⟩ w (sV (s.extract l.toNat s.size)) w := by
  left
  simp [execOp, hx, hl, Instr.sliceAt, Instr.slice, run_underlying ht, Instr.sliceBounds, Instr.sliceBound, asIntOf, hb.1, hb.2]
theorem r_slice_sh {t : TypeId} {x : Operand} {s : ByteArray} {hi : Option Operand} (h : Int) (ht : P.underlying t = some .string) (hx : ρ x = sV s)
    (hh : hi.map ρ = some (iV h)) (hb : 0 ≤ h ∧ h ≤ (s.size : Int)) : Run P ρ ⟨dst, .slice t x none hi none, ty, pos, aft, g⟩ w (sV (s.extract 0 h.toNat)) w := by
  left
  simp [execOp, hx, hh, Instr.sliceAt, Instr.slice, run_underlying ht, Instr.sliceBounds, Instr.sliceBound, asIntOf, hb.1, hb.2]
theorem r_len_s {x : Operand} {t : TypeId} {s : ByteArray} (ht : P.underlying t = some .string) (hx : ρ x = sV s) : Run P ρ ⟨dst, .call { callee := .builtin .len, args := #[x], argTypes := #[t] }, ty, pos, aft, g⟩ w (iV (s.size : Int)) w := by
  left; simp [execOp, resolve, invoke, builtin, Builtin.len_, run_underlying ht, hx, goInt]
theorem r_len_a {x : Operand} {t e : TypeId} {k : Nat} (ht : P.underlying t = some (.array k e)) : Run P ρ ⟨dst, .call { callee := .builtin .len, args := #[x], argTypes := #[t] }, ty, pos, aft, g⟩ w (iV (k : Int)) w := by
  left; simp [execOp, resolve, invoke, builtin, Builtin.len_, run_underlying ht, goInt]
theorem r_len_l {x : Operand} {t e : TypeId} {A : Option Addr} {k c : Nat} (ht : P.underlying t = some (.slice e)) (hx : ρ x = .slice A k c) : Run P ρ ⟨dst, .call { callee := .builtin .len, args := #[x], argTypes := #[t] }, ty, pos, aft, g⟩ w (iV (k : Int)) w := by
  left; simp [execOp, resolve, invoke, builtin, Builtin.len_, run_underlying ht, hx, goInt]
theorem r_min {x y : Operand} {ts : Array TypeId} {a b : Int} (hx : ρ x = iV a) (hy : ρ y = iV b) : Run P ρ ⟨dst, .call { callee := .builtin .min, args := #[x, y], argTypes := ts }, ty, pos, aft, g⟩ w (iV (if b < a then b else a)) w := by
  left; simp [execOp, resolve, invoke, builtin, Builtin.min_, Builtin.min2, hx, hy]
theorem r_max {x y : Operand} {ts : Array TypeId} {a b : Int} (hx : ρ x = iV a) (hy : ρ y = iV b) : Run P ρ ⟨dst, .call { callee := .builtin .max, args := #[x, y], argTypes := ts }, ty, pos, aft, g⟩ w (iV (if b > a then b else a)) w := by
  left; simp [execOp, resolve, invoke, builtin, Builtin.max_, Builtin.max2, hx, hy]
/-! conversions -/
theorem r_cv_ii {t u : TypeId} {x : Operand} {a : Int} {T : TypeDesc} (ht : P.underlying t = some T) (hu : P.underlying u = some (.int .i64)) (hx : ρ x = iV a) (h : -9223372036854775808 ≤ a ∧ a ≤ 9223372036854775807) : Run P ρ ⟨dst, .convert t u x, ty, pos, aft, g⟩ w (iV a) w := by
  exact cv_to ht hu hx (wrap_i64 h)
theorem r_cv_i8 {t u : TypeId} {x : Operand} {a : Int} {T : TypeDesc} (ht : P.underlying t = some T) (hu : P.underlying u = some (.int .u8)) (hx : ρ x = iV a) (h : 0 ≤ a) : Run P ρ ⟨dst, .convert t u x, ty, pos, aft, g⟩ w (u8V (UInt8.ofNat a.toNat)) w := by
  have e : IntKind.u8.wrap a = ((UInt8.ofNat a.toNat).toNat : Int) := by rw [Go.IntKind.wrap_u8, UInt8.toNat_ofNat']; omega
  exact cv_to ht hu hx e
theorem r_cv_i64 {t u : TypeId} {x : Operand} {a : Int} {T : TypeDesc} (ht : P.underlying t = some T) (hu : P.underlying u = some (.int .u64)) (hx : ρ x = iV a) : Run P ρ ⟨dst, .convert t u x, ty, pos, aft, g⟩ w (u64V (BitVec.ofInt 64 a)) w := by
  have e : IntKind.u64.wrap a = ((BitVec.ofInt 64 a).toNat : Int) := by rw [IntKind.wrap, BitVec.toNat_ofInt]; simp only [IntKind.bits, IntKind.signed, Bool.false_and, Bool.false_eq_true, if_false]; omega
  exact cv_to ht hu hx e
theorem r_cv_i32 {t u : TypeId} {x : Operand} {a : Int} {T : TypeDesc} (ht : P.underlying t = some T) (hu : P.underlying u = some (.int .u32)) (hx : ρ x = iV a) : Run P ρ ⟨dst, .convert t u x, ty, pos, aft, g⟩ w (u32V (BitVec.ofInt 32 a)) w := by
  have e : IntKind.u32.wrap a = ((BitVec.ofInt 32 a).toNat : Int) := by rw [Go.IntKind.wrap_u32, BitVec.toNat_ofInt]; omega
  exact cv_to ht hu hx e
theorem r_cv_8i {t u : TypeId} {x : Operand} {a : UInt8} {T : TypeDesc} (ht : P.underlying t = some T) (hu : P.underlying u = some (.int .i64)) (hx : ρ x = u8V a) : Run P ρ ⟨dst, .convert t u x, ty, pos, aft, g⟩ w (iV (a.toNat : Int)) w := by
  have := a.toNat_lt; have e := cv_of (P := P) (ρ := ρ) (w := w) (dst := dst) (ty := ty) (pos := pos) (aft := aft) (g := g) ht hu hx; rw [wrap_i64 (z := (a.toNat : Int)) (by omega)] at e; exact e
theorem r_cv_832 {t u : TypeId} {x : Operand} {a : UInt8} {T : TypeDesc} (ht : P.underlying t = some T) (hu : P.underlying u = some (.int .u32)) (hx : ρ x = u8V a) : Run P ρ ⟨dst, .convert t u x, ty, pos, aft, g⟩ w (u32V (BitVec.ofNat 32 a.toNat)) w := by
  have e : IntKind.u32.wrap (a.toNat : Int) = ((BitVec.ofNat 32 a.toNat).toNat : Int) := by have := a.toNat_lt; rw [Go.IntKind.wrap_u32, BitVec.toNat_ofNat]; omega
  exact cv_to ht hu hx e
theorem r_cv_864 {t u : TypeId} {x : Operand} {a : UInt8} {T : TypeDesc} (ht : P.underlying t = some T) (hu : P.underlying u = some (.int .u64)) (hx : ρ x = u8V a) : Run P ρ ⟨dst, .convert t u x, ty, pos, aft, g⟩ w (u64V (BitVec.ofNat 64 a.toNat)) w := by
  have e : IntKind.u64.wrap (a.toNat : Int) = ((BitVec.ofNat 64 a.toNat).toNat : Int) := by have := a.toNat_lt; rw [IntKind.wrap, BitVec.toNat_ofNat]; simp only [IntKind.bits, IntKind.signed, Bool.false_and, Bool.false_eq_true, if_false]; omega
  exact cv_to ht hu hx e
theorem r_cv_328 {t u : TypeId} {x : Operand} {a : BitVec 32} {T : TypeDesc} (ht : P.underlying t = some T) (hu : P.underlying u = some (.int .u8)) (hx : ρ x = u32V a) : Run P ρ ⟨dst, .convert t u x, ty, pos, aft, g⟩ w (u8V (UInt8.ofNat a.toNat)) w := by
  have e : IntKind.u8.wrap (a.toNat : Int) = ((UInt8.ofNat a.toNat).toNat : Int) := by rw [Go.IntKind.wrap_u8, UInt8.toNat_ofNat']; omega
  exact cv_to ht hu hx e
theorem r_cv_32i {t u : TypeId} {x : Operand} {a : BitVec 32} {T : TypeDesc} (ht : P.underlying t = some T) (hu : P.underlying u = some (.int .i64)) (hx : ρ x = u32V a) : Run P ρ ⟨dst, .convert t u x, ty, pos, aft, g⟩ w (iV (a.toNat : Int)) w := by
  have := a.isLt; have e := cv_of (P := P) (ρ := ρ) (w := w) (dst := dst) (ty := ty) (pos := pos) (aft := aft) (g := g) ht hu hx; rw [wrap_i64 (z := (a.toNat : Int)) (by omega)] at e; exact e
theorem r_cv_3264 {t u : TypeId} {x : Operand} {a : BitVec 32} {T : TypeDesc} (ht : P.underlying t = some T) (hu : P.underlying u = some (.int .u64)) (hx : ρ x = u32V a) : Run P ρ ⟨dst, .convert t u x, ty, pos, aft, g⟩ w (u64V (BitVec.ofNat 64 a.toNat)) w := by
  have e : IntKind.u64.wrap (a.toNat : Int) = ((BitVec.ofNat 64 a.toNat).toNat : Int) := by have := a.isLt; rw [IntKind.wrap, BitVec.toNat_ofNat]; simp only [IntKind.bits, IntKind.signed, Bool.false_and, Bool.false_eq_true, if_false]; omega
  exact cv_to ht hu hx e
theorem r_cv_648 {t u : TypeId} {x : Operand} {a : BitVec 64} {T : TypeDesc} (ht : P.underlying t = some T) (hu : P.underlying u = some (.int .u8)) (hx : ρ x = u64V a) : Run P ρ ⟨dst, .convert t u x, ty, pos, aft, g⟩ w (u8V (UInt8.ofNat a.toNat)) w := by
  have e : IntKind.u8.wrap (a.toNat : Int) = ((UInt8.ofNat a.toNat).toNat : Int) := by rw [Go.IntKind.wrap_u8, UInt8.toNat_ofNat']; omega
  exact cv_to ht hu hx e
theorem r_cv_64i {t u : TypeId} {x : Operand} {a : BitVec 64} {T : TypeDesc} (ht : P.underlying t = some T) (hu : P.underlying u = some (.int .i64)) (hx : ρ x = u64V a) : Run P ρ ⟨dst, .convert t u x, ty, pos, aft, g⟩ w (iV a.toInt) w := by
  have e : IntKind.i64.wrap (a.toNat : Int) = a.toInt := by
    have := a.isLt
    rw [Go.IntKind.wrap_i64, BitVec.toInt_eq_toNat_cond]; split <;> omega
  exact cv_to ht hu hx e
theorem r_cv_64i' {t u : TypeId} {x : Operand} {a : BitVec 64} {T : TypeDesc} (ht : P.underlying t = some T) (hu : P.underlying u = some (.int .i64)) (hx : ρ x = u64V a) (h : a.toNat ≤ 9223372036854775807) : Run P ρ ⟨dst, .convert t u x, ty, pos, aft, g⟩ w (iV (a.toNat : Int)) w := by
  have e := cv_of (P := P) (ρ := ρ) (w := w) (dst := dst) (ty := ty) (pos := pos) (aft := aft) (g := g) ht hu hx; rw [wrap_i64 (z := (a.toNat : Int)) (by omega)] at e; exact e
theorem r_cv_64n {t u : TypeId} {x : Operand} {a : BitVec 64} {T : TypeDesc} {k : Nat} (hk : a.toNat = k) (ht : P.underlying t = some T) (hu : P.underlying u = some (.int .i64)) (hx : ρ x = u64V a) (h : k ≤ 9223372036854775807) : Run P ρ ⟨dst, .convert t u x, ty, pos, aft, g⟩ w (iV (k : Int)) w := by
  subst hk; exact r_cv_64i' ht hu hx h
/-! calls -/
theorem run_callFunc {k : FuncId} {fn : Func} {c : Code} (hf : P.funcs[k]? = some fn) (hb : fn.body = some c) (hn : (fn.name == "runtime.NumGoroutine") = false) (args : Array Value) : (callFunc k args).run P w = .ok (.enter k args) w := by
  have hp : (program).run P w = .ok P w := rfl
  simp only [callFunc, Sem.run_bind, hp, Result.andThen_ok, hf, hn, hb, Option.isNone_some, Bool.false_eq_true, if_false, Sem.run_pure]
theorem r_call {k : FuncId} {fn : Func} {c : Code} {f : Operand} {args : Array Operand} {ts : Array TypeId} {cap : Array Value} {vs : List Value} (hf : P.funcs[k]? = some fn) (hx : ρ f = .func (.func k) #[] cap) (ha : args.toList.map ρ ++ cap.toList = vs)
    (hb : fn.body = some c := by rfl) (hn : (fn.name == "runtime.NumGoroutine") = false := by rfl) :
    (execOp ρ ⟨dst, .call { callee := .value f, args := args, argTypes := ts }, ty, pos, aft, g⟩).run P w = .ok (.enter k vs.toArray) w := by
  subst ha
  have e : (args.toList.map ρ ++ cap.toList).toArray = args.map ρ ++ cap := by apply Array.ext'; simp
  rw [e]
  simp [execOp, resolve, hx, Deferred.ofValue, invoke, run_callFunc hf hb hn]
end
end Go.Proofs.Ytnneoipoaoefkaa.Eng
