/- Slices cut at two places. -/
import Derived.Test.YtnneoipoaoefkaaStructs
namespace Go.Proofs.Ytnneoipoaoefkaa.Eng
open Go Go.RowKit
set_option linter.unusedVariables false
section
variable {P : Program} {ρ : Operand → Value} {w : World} {dst : Option Tmp} {ty : TypeId} {pos : String} {aft : Array Edge} {g : Option (Nat × Bool)}
theorem r_slice_plh {t e : TypeId} {x : Operand} {lo hi : Option Operand} {A : Option Addr} {n c by_ : Nat} {z : Value} (l h : Nat) (ht : P.underlying t = some (.slice e)) (hI : TI P e z 1 by_) (hx : ρ x = .slice A n c) (hl : lo.map ρ = some (iV (l : Int))) (hh : hi.map ρ = some (iV (h : Int))) (hb : l ≤ h ∧ h ≤ c) :
    Run P ρ ⟨dst, .slice t x lo hi none, ty, pos, aft, g⟩ w (.slice (if c = l then A else A.map (·.add l)) (h - l) (c - l)) w := by
  left
  have hel : P.underlying t = some (.slice (P.elem t)) := by unfold Program.elem; rw [ht]
  have he : P.elem t = e := by unfold Program.elem; rw [ht]
  have hr := run_slice_lh (P := P) w t A n c hel .i64 .i64 (l : Int) (h : Int) (by omega) (by omega) (by omega)
  rw [he, hI.size, Result.andThen_ok, Int.toNat_natCast, Int.toNat_natCast] at hr
  unfold sliced at hr
  rw [Nat.mul_one] at hr
  simp only [execOp, hx, hl, hh, Option.map_none, Sem.run_bind]
  rw [run_sliceAt_slice (P := P) w t _ _ _ _ hel]
  have hr' : (Instr.slice t (.slice A n c) (some (iV (l : Int))) (some (iV (h : Int))) none).run P w = .ok (.slice (if c = l then A else A.map (·.add l)) (h - l) (c - l)) w := hr
  rw [hr', Result.andThen_ok, Sem.run_pure]
theorem r_slice_pl {t e : TypeId} {x : Operand} {lo : Option Operand} {A : Option Addr} {n c by_ : Nat} {z : Value} (l : Nat) (ht : P.underlying t = some (.slice e)) (hI : TI P e z 1 by_) (hx : ρ x = .slice A n c) (hl : lo.map ρ = some (iV (l : Int))) (hb : l ≤ n) :
    Run P ρ ⟨dst, .slice t x lo none none, ty, pos, aft, g⟩ w (.slice (if c = l then A else A.map (·.add l)) (n - l) (c - l)) w := by
  left
  have hel : P.underlying t = some (.slice (P.elem t)) := by unfold Program.elem; rw [ht]
  have he : P.elem t = e := by unfold Program.elem; rw [ht]
  have hr := run_slice_l (P := P) w t A n c hel .i64 (l : Int) (by omega) (by omega)
  rw [he, hI.size, Result.andThen_ok, Int.toNat_natCast] at hr
  unfold sliced at hr
  rw [Nat.mul_one] at hr
  simp only [execOp, hx, hl, Option.map_none, Sem.run_bind]
  rw [run_sliceAt_slice (P := P) w t _ _ _ _ hel]
  have hr' : (Instr.slice t (.slice A n c) (some (iV (l : Int))) none none).run P w = .ok (.slice (if c = l then A else A.map (·.add l)) (n - l) (c - l)) w := hr
  rw [hr', Result.andThen_ok, Sem.run_pure]
end
theorem rd_sub {w : World} {A : Option Addr} {n c l h : Nat} {cs : List Value} (hr : Rd w 1 A n cs) (hlh : l ≤ h) (hn : h ≤ n) (hc : n ≤ c) : Rd w 1 (if c = l then A else A.map (·.add l)) (h - l) ((cs.drop l).take (h - l)) := by
  have h1 := hr.1
  have h2 := hr.2.1
  refine ⟨by rw [List.length_take, List.length_drop]; omega, by omega, fun h0 => ?_⟩
  obtain ⟨ad, rfl, hcell⟩ := hr.ad (by omega)
  rw [if_neg (by omega)]
  refine ⟨ad.add l, rfl, fun j u hj => ?_⟩
  rw [Addr.add_add]
  refine hcell _ _ ?_
  rw [List.getElem?_take] at hj
  split at hj
  · rwa [List.getElem?_drop] at hj
  · cases hj
theorem rd_mid {w : World} {A : Option Addr} {n c l h : Nat} {bs : List UInt8} (hr : Rd w 1 A n (bs.map u8V)) (hlh : l ≤ h) (hn : h ≤ n) (hc : n ≤ c) : Rd w 1 (if c = l then A else A.map (·.add l)) (h - l) (((bs.drop l).take (h - l)).map u8V) := by
  have := rd_sub hr hlh hn hc
  rwa [← List.map_drop, ← List.map_take] at this
end Go.Proofs.Ytnneoipoaoefkaa.Eng
