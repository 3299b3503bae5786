/- More single operations: slices of arrays, texts cut at places told by bytes. -/
import Derived.Test.YtcnljmbjhdfblaaDoorFloat
import Derived.Test.YtcnljmbjhdfblaaDoorTab
namespace Go.Proofs.YtcnljmbjhdfblaaDoor.Eng
open Go Go.RowKit
set_option linter.unusedVariables false
set_option linter.unusedSimpArgs false
section
variable {P : Program} {ρ : Operand → Value} {w w' w0 : World} {dst : Option Tmp} {ty : TypeId} {pos : String} {aft : Array Edge} {g : Option (Nat × Bool)} {L : List HP}
/-- The whole of an array, as a slice. -/
theorem r_slice_all {t e : TypeId} {x : Operand} {ad : Addr} {len sz by_ : Nat} {z : Value} (ht : P.underlying t = some (.array len e)) (hi : TI P e z sz by_) (hx : ρ x = .pointer (some ad)) (h0 : 0 < len) :
    Run P ρ ⟨dst, .slice t x none none none, ty, pos, aft, g⟩ w (.slice (some ad) len len) w := by
  left
  have e0 : ad.add 0 = ad := by simp [Addr.add]
  simp [execOp, hx, Instr.sliceAt, run_underlying ht, Instr.sureAddr, Instr.sliceBounds, hi.size, e0]
theorem rd_at {b n : Nat} {l : List Value} {T : TypeId} {fr : Nat × Nat} (hb : w.heap[b]? = some (.cells l.toArray T fr)) (hn : l.length = n) (hm : n ≤ 9223372036854775807) : Rd w 1 (some ⟨b, 0, none⟩) n l := by
  refine ⟨by omega, hm, fun _ => ⟨_, rfl, fun j u hu => ?_⟩⟩
  rw [add_lit, Nat.zero_add, cell_blk hb]
  exact hu
theorem r_slice_s8 {t : TypeId} {x : Operand} {s : ByteArray} {lo hi : Option Operand} (l h : UInt8) (ht : P.underlying t = some .string) (hx : ρ x = sV s)
    (hl : lo.map ρ = some (u8V l)) (hh : hi.map ρ = some (u8V h)) (hb : l.toNat ≤ h.toNat ∧ h.toNat ≤ s.size) : Run P ρ ⟨dst, .slice t x lo hi none, ty, pos, aft, g⟩ w (sV (s.extract l.toNat h.toNat)) w := by
  left
  have h1 : ((h.toNat : Int) ≤ (s.size : Int)) := by omega
  have h2 : ((l.toNat : Int) ≤ (h.toNat : Int)) := by omega
  have h3 : (0 : Int) ≤ (h.toNat : Int) := by omega
  have h4 : (0 : Int) ≤ (l.toNat : Int) := by omega
  simp [execOp, hx, hl, hh, Instr.sliceAt, Instr.slice, run_underlying ht, Instr.sliceBounds, Instr.sliceBound, asIntOf, hb.1, hb.2, u8V]
end
end Go.Proofs.YtcnljmbjhdfblaaDoor.Eng
