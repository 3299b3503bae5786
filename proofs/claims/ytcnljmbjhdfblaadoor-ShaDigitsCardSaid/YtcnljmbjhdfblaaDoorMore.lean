/- More single operations: slices of arrays, texts cut at places told by bytes. -/
import Derived.Test.YtcnljmbjhdfblaaDoorFloat
import Derived.Test.YtcnljmbjhdfblaaDoorTab
import Derived.Laws.RangeString
namespace Go.Proofs.YtcnljmbjhdfblaaDoor.Eng
open Go Go.RowKit
set_option linter.unusedVariables false
set_option linter.unusedSimpArgs false
theorem toL_ofL (l : List UInt8) : toL (ofL l) = l := rfl
theorem ofL_toL (s : ByteArray) : ofL (toL s) = s := rfl
theorem toL_inj {s t : ByteArray} (h : toL s = toL t) : s = t := by rw [← ofL_toL s, h, ofL_toL]
theorem toL_append (a b : ByteArray) : toL (a ++ b) = toL a ++ toL b := by simp
theorem toL_size (s : ByteArray) : (toL s).length = s.size := by rw [Array.length_toList]; rfl
theorem toL_extract (s : ByteArray) (a b : Nat) : toL (s.extract a b) = ((toL s).drop a).take (b - a) := Lib.extract_data s a b
section
variable {P : Program} {ρ : Operand → Value} {w w' w0 : World} {dst : Option Tmp} {ty : TypeId} {pos : String} {aft : Array Edge} {g : Option (Nat × Bool)} {L : List HP}
/-- The whole of an array, as a slice. -/
theorem r_slice_all {t e : TypeId} {x : Operand} {ad : Addr} {len sz by_ : Nat} {z : Value} (ht : P.underlying t = some (.array len e)) (hi : TI P e z sz by_) (hx : ρ x = .pointer (some ad)) (h0 : 0 < len) :
    Run P ρ ⟨dst, .slice t x none none none, ty, pos, aft, g⟩ w (.slice (some ad) len len) w := by
  left
  have e0 : ad.add 0 = ad := by simp [Addr.add]
  simp [execOp, hx, Instr.sliceAt, run_underlying ht, Instr.sureAddr, Instr.sliceBounds, hi.size, e0]
/-- The empty literal of an array. -/
theorem r_build0 {t e : TypeId} {len sz by_ sze be : Nat} {cs : Array Value} {ze : Value} (ht : P.underlying t = some (.array len e)) (hi : TI P t (.agg cs) sz by_) (hie : TI P e ze sze be) : Run P ρ ⟨dst, .build t #[], ty, pos, aft, g⟩ w (.agg cs) w := by
  obtain ⟨it, ht1, ht2, ht3, ht4⟩ := hi.info
  obtain ⟨ie, he1, he2, he3, he4⟩ := hie.info
  left
  simp [execOp, Instr.build, zeroValue, typeInfo, sizeOf, run_underlying ht, ht1, ht2, he1, Instr.fill, Value.cells]
theorem rd_at {b n : Nat} {l : List Value} {T : TypeId} {fr : Nat × Nat} (hb : w.heap[b]? = some (.cells l.toArray T fr)) (hn : l.length = n) (hm : n ≤ 9223372036854775807) : Rd w 1 (some ⟨b, 0, none⟩) n l := by
  refine ⟨by omega, hm, fun _ => ⟨_, rfl, fun j u hu => ?_⟩⟩
  rw [add_lit, Nat.zero_add, cell_blk hb]
  exact hu
theorem r_slice_s8 {t : TypeId} {x : Operand} {s : ByteArray} {lo hi : Option Operand} (l h : UInt8) (ht : P.underlying t = some .string) (hx : ρ x = sV s)
    (hl : lo.map ρ = some (u8V l)) (hh : hi.map ρ = some (u8V h)) (hb : l.toNat ≤ h.toNat ∧ h.toNat ≤ s.size) : Run P ρ ⟨dst, .slice t x lo hi none, ty, pos, aft, g⟩ w (sV (s.extract l.toNat h.toNat)) w := by
  left
  have h1 : ((h.toNat : Int) ≤ (s.size : Int)) := by omega
  have h2 : ((l.toNat : Int) ≤ (h.toNat : Int)) := by omega
  have h3 : (0 : Int) ≤ (h.toNat : Int) := by omega
  have h4 : (0 : Int) ≤ (l.toNat : Int) := by omega
  simp [execOp, hx, hl, hh, Instr.sliceAt, Instr.slice, run_underlying ht, Instr.sliceBounds, Instr.sliceBound, asIntOf, hb.1, hb.2, u8V]
end
section
variable {P : Program} {n : Nat} {ops : Array Oper} {Q : EPost} {rest : List Oper} {f : Env} {w w0 : World} {d : Nat} {ty : TypeId} {pos : String} {aft : Array Edge} {L : List HP}
/-- A text gone over letter by letter. -/
theorem l_range_s {t : TypeId} {x : Operand} {s : ByteArray} (hs : Sep w0 w L) (ht : P.underlying t = some .string) (hx : ev f x = sV s)
    (h : ∀ b w', Sep w0 w' (obj b (.stringIter s 0) :: L) → OkL P n ops Q rest (upd f d (.pointer (some ⟨b, 0, none⟩))) w') (hd : Nat.blt d n = true := by rfl) :
    OkL P n ops Q (⟨some d, .range t x, ty, pos, aft, none⟩ :: rest) f w := by
  refine l_v (v := .pointer (some ⟨w.heap.size, 0, none⟩)) (.inl ?_) (h _ _ (hs.alloc _)) hd
  simp only [execOp, hx, Sem.run_bind, run_range_string w t s ht, Result.andThen_ok, Sem.run_pure]; rfl
theorem l_next_s {t : TypeId} {x : Operand} {s : ByteArray} {b p : Nat} (hs : Sep w0 w (obj b (.stringIter s p) :: L)) (hx : ev f x = .pointer (some ⟨b, 0, none⟩)) (hp : p < s.size)
    (h : ∀ r p' w', Sep w0 w' (obj b (.stringIter s p') :: L) → ((at8 s p).toNat < 128 → p' = p + 1) → OkL P n ops Q rest (upd f d (.tuple #[bV true, iV (p : Int), .int .i32 r])) w') (hd : Nat.blt d n = true := by rfl) :
    OkL P n ops Q (⟨some d, .next x true, ty, pos, aft, none⟩ :: rest) f w := by
  have hg := (hs.at_ 0).1
  have hs' : Sep w0 { w with heap := w.heap.setIfInBounds b (.stringIter s (p + (Utf8.decode s p).2)) } (obj b (.stringIter s (p + (Utf8.decode s p).2)) :: L) := by
    have hb : b < w.heap.size := heap_lt hg
    refine hs.setObj ⟨rfl, rfl, rfl, by simp⟩ (by simp [hb]) fun k hk => by simp [Array.getElem?_setIfInBounds, Ne.symm hk]
  refine l_v (v := .tuple #[bV true, iV (p : Int), .int .i32 (Utf8.decode s p).1]) (.inl ?_) (h _ _ _ hs' ?_) hd
  · simp [execOp, hx, Instr.next, getObj, setObj, Sem.run, hg, hp, goInt]
  · intro ha
    have e : at8 s p = s[p]'hp := by simp [at8, hp]; rfl
    rw [e] at ha
    rw [decode_ascii s p hp ha]
theorem l_next_end {t : TypeId} {x : Operand} {s : ByteArray} {b p : Nat} (hs : Sep w0 w (obj b (.stringIter s p) :: L)) (hx : ev f x = .pointer (some ⟨b, 0, none⟩)) (hp : ¬ p < s.size)
    (h : OkL P n ops Q rest (upd f d (.tuple #[bV false])) w) (hd : Nat.blt d n = true := by rfl) :
    OkL P n ops Q (⟨some d, .next x true, ty, pos, aft, none⟩ :: rest) f w := by
  have hg := (hs.at_ 0).1
  refine l_v (v := .tuple #[bV false]) (.inl ?_) h hd
  simp [execOp, hx, Instr.next, getObj, Sem.run, hg, hp]
end
end Go.Proofs.YtcnljmbjhdfblaaDoor.Eng
