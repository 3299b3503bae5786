/- A record among the arguments, opened. -/
import Derived.Test.YtiipibmliffghaaBoxLaws
import Derived.Test.YtiipibmliffghaaRowArr
namespace Go.Proofs.Ytiipibmliffghaa.Box
open Go Go.RowKit Go.ChangeShapes Go.WideShapes Go.Proofs.Ytiipibmliffghaa.Eng Go.Proofs.Ytiipibmliffghaa.Six Go.Proofs.Ytiipibmliffghaa.CrcFn Go.Proofs.Ytiipibmliffghaa.Crc
set_option linter.unusedVariables false
set_option maxRecDepth 100000
variable {H : Type} {enc : TypeId × Value → H} {W : World} {base : Nat} {spare : Nat → Bool} {held : Bool} {d : DataW H} {ps : List MemPlace}
theorem split66 (cs : List Value) (h : cs.length = 66) : cs = (cs.drop 0).take 32 ++ ((cs.drop 32).take 32 ++ ((cs.drop 64).take 1 ++ (cs.drop 65).take 1)) := by
  have a1 := List.take_append_drop 32 cs
  have a2 := List.take_append_drop 32 (cs.drop 32)
  have a3 := List.take_append_drop 1 (cs.drop 64)
  have a4 : (cs.drop 65).take 1 = cs.drop 65 := List.take_of_length_le (by rw [List.length_drop, h]; exact Nat.le_refl _)
  rw [List.drop_drop] at a2 a3
  have e2 : cs.drop 64 = cs.drop (32 + 32) := rfl
  have e3 : cs.drop 65 = cs.drop (64 + 1) := rfl
  rw [a4, e3, a3, e2, a2, List.drop_zero, a1]
theorem rec_cells {fuel : Nat} {cs : List Value} {x : DataW H × List MemPlace} (h : DataW.trod enc Try.prog W base spare held fuel 25 cs = some x) :
    ∃ r : Rec, cs = recC r ∧ r.ok ∧ r.body.length ≤ 9223372036854775807 := by
  obtain ⟨xs, n, rfl, rfl, hl, hlen, hf⟩ := DataW.trod_struct Try.underlying25 h
  have c66 : Try.prog.cellsOf 25 = 66 := by kernel_rfl
  have c32 : Try.prog.cellsOf 23 = 32 := by kernel_rfl
  have cb : Try.prog.cellsOf 4 = 1 := by kernel_rfl
  have cst : Try.prog.cellsOf 9 = 1 := by kernel_rfl
  have cu : Try.prog.cellsOf 5 = 1 := by kernel_rfl
  rw [c66] at hl
  match xs, hlen with
  | [y0, y1, y2, y3], _ =>
    have h0 : DataW.trod enc Try.prog W base spare held n 23 ((cs.drop 0).take (Try.prog.cellsOf 23)) = some y0 := hf 0 _ rfl
    rw [c32] at h0
    have h1 : DataW.trod enc Try.prog W base spare held n 23 ((cs.drop 32).take (Try.prog.cellsOf 23)) = some y1 := hf 1 _ rfl
    rw [c32] at h1
    have h2 : DataW.trod enc Try.prog W base spare held n 4 ((cs.drop 64).take (Try.prog.cellsOf 4)) = some y2 := hf 2 _ rfl
    rw [cb] at h2
    have h3 : DataW.trod enc Try.prog W base spare held n 9 ((cs.drop 65).take (Try.prog.cellsOf 9)) = some y3 := hf 3 _ rfl
    rw [cst] at h3
    obtain ⟨l0, e0, n0, _, w0⟩ := RowArr.trod_array (ps := y0.2) (d := y0.1) Try.underlying23 Try.underlying5 cu c32 h0
    obtain ⟨l1, e1, n1, _, w1⟩ := RowArr.trod_array (ps := y1.2) (d := y1.1) Try.underlying23 Try.underlying5 cu c32 h1
    obtain ⟨b, e2, _⟩ := DataW.trod_bool Try.underlying4 h2
    obtain ⟨s, e3, _, hs⟩ := DataW.trod_string Try.underlying9 h3
    obtain ⟨k0, f0, m0⟩ := RowArr.u8s w0
    obtain ⟨k1, f1, m1⟩ := RowArr.u8s w1
    refine ⟨⟨k0, k1, b, toL s⟩, ?_, ⟨m0.trans n0, m1.trans n1⟩, ?_⟩
    · rw [split66 cs hl, e0, e1, e2, e3, f0, f1]
      unfold recC
      rw [List.append_assoc]
      rfl
    · show (toL s).length ≤ _
      rw [toL_size]; unfold maxLen at hs; omega
theorem rec_open {r : Reach} {b0 : Nat} {v : Value} (hv : Value.okWide Try.prog W r b0 25 v) (h : DataW.Trod enc Try.prog W base spare held 25 v d ps) : ∃ r : Rec, v = rV r ∧ r.ok ∧ r.body.length ≤ 9223372036854775807 := by
  simp only [Value.okWide, Try.underlying25] at hv
  obtain ⟨cs, rfl, _, _⟩ := hv
  obtain ⟨fuel, hf⟩ := h
  obtain ⟨r, h1, h2, h3⟩ := rec_cells hf
  refine ⟨r, ?_, h2, h3⟩
  show Value.agg cs = .agg (recC r).toArray
  rw [← h1]
  rfl
end Go.Proofs.Ytiipibmliffghaa.Box
