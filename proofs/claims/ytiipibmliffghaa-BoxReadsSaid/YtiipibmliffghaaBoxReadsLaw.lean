/- BoxReads, in the shape that the row asks for; places among the arguments. -/
import Derived.Test.YtiipibmliffghaaBoxReads
import Derived.Test.YtiipibmliffghaaBoxRow
import Derived.OpenShut
namespace Go.Proofs.Ytiipibmliffghaa.Box
open Go Go.RowKit Go.ChangeShapes Go.WideShapes Go.Proofs.Ytiipibmliffghaa.Eng Go.Proofs.Ytiipibmliffghaa.Six Go.Proofs.Ytiipibmliffghaa.CrcFn Go.Proofs.Ytiipibmliffghaa.Crc
set_option linter.unusedVariables false
set_option maxRecDepth 100000
structure Pl where
  (file pos len : Int)
def Pl.ok (p : Pl) : Prop := (-9223372036854775808 ≤ p.pos ∧ p.pos ≤ 9223372036854775807) ∧ (-9223372036854775808 ≤ p.len ∧ p.len ≤ 9223372036854775807)
theorem pl_cells {H : Type} {enc : TypeId × Value → H} {W : World} {base : Nat} {spare : Nat → Bool} {held : Bool} {fuel : Nat} {cs : List Value} {x : DataW H × List MemPlace} (h : DataW.trod enc Try.prog W base spare held fuel 53 cs = some x) : ∃ p : Pl, cs = plC p.file p.pos p.len ∧ p.ok := by
  obtain ⟨xs, n, rfl, rfl, hl, hlen, hf⟩ := DataW.trod_struct Try.underlying53 h
  have c4 : Try.prog.cellsOf 53 = 3 := by kernel_rfl
  have ci : Try.prog.cellsOf 3 = 1 := by kernel_rfl
  rw [c4] at hl
  match xs, hlen with
  | [y0, y1, y2], _ =>
    have h0 : DataW.trod enc Try.prog W base spare held n 3 ((cs.drop 0).take (Try.prog.cellsOf 3)) = some y0 := hf 0 _ rfl
    have h1 : DataW.trod enc Try.prog W base spare held n 3 ((cs.drop 1).take (Try.prog.cellsOf 3)) = some y1 := hf 1 _ rfl
    have h2 : DataW.trod enc Try.prog W base spare held n 3 ((cs.drop 2).take (Try.prog.cellsOf 3)) = some y2 := hf 2 _ rfl
    rw [ci] at h0 h1 h2
    obtain ⟨a, e0, _, _⟩ := DataW.trod_int Try.underlying3 h0
    obtain ⟨b, e1, _, w1⟩ := DataW.trod_int Try.underlying3 h1
    obtain ⟨c, e2, _, w2⟩ := DataW.trod_int Try.underlying3 h2
    match cs, hl with
    | [z0, z1, z2], _ =>
      simp at e0 e1 e2
      subst e0; subst e1; subst e2
      exact ⟨⟨a, b, c⟩, rfl, bounds_i64 w1, bounds_i64 w2⟩
theorem pl_open {H : Type} {enc : TypeId × Value → H} {W : World} {base : Nat} {spare : Nat → Bool} {held : Bool} {d : DataW H} {ps : List MemPlace} {r : Reach} {b0 : Nat} {v : Value} (hv : Value.okWide Try.prog W r b0 53 v) (h : DataW.Trod enc Try.prog W base spare held 53 v d ps) : ∃ p : Pl, v = plV p.file p.pos p.len ∧ p.ok ∧ True := by
  simp only [Value.okWide, Try.underlying53] at hv
  obtain ⟨cs, rfl, _, _⟩ := hv
  obtain ⟨fuel, hf⟩ := h
  obtain ⟨p, h1, h2⟩ := pl_cells hf
  refine ⟨p, ?_, h2, trivial⟩
  show Value.agg cs = .agg (plC p.file p.pos p.len).toArray
  rw [← h1]
  rfl
theorem boxReads_walk {w : World} (r : Rec) (h : r.ok) (hz : r.body.length ≤ 9223372036854775807) (s : ByteArray) (hsw : s.size ≤ 140737488351232) (p : Pl) (hp : p.ok) (_ : True) (a : Int) (_ : (Lit.int .i64 a).wf = true) (bt : Int) (hb : (Lit.int .u8 bt).wf = true) :
    Calls Try.prog 6 #[rV r, sV s, plV p.file p.pos p.len, iV a, .int .u8 bt] w fun e w' => e = .returned (bV true) ∧ Below w.heap.size w w' := by
  have h8 := bounds_u8 hb
  have e8 : Value.int .u8 bt = u8V (UInt8.ofNat bt.toNat) := by
    have : ((UInt8.ofNat bt.toNat).toNat : Int) = bt := by rw [UInt8.toNat_ofNat']; omega
    rw [u8V, this]
  rw [e8]
  exact reads_main r h hz s hsw p.file p.pos p.len hp.1 hp.2 a _
end Go.Proofs.Ytiipibmliffghaa.Box
