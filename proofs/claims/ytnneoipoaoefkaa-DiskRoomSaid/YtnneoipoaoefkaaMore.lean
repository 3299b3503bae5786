/- More single operations: slices of arrays, texts cut at places told by bytes. -/
import Derived.Test.YtnneoipoaoefkaaFloat
import Derived.Test.YtnneoipoaoefkaaTab
import Derived.Laws.RangeString
import Derived.Laws.Tables
import Derived.Laws.Pointers
import Derived.Laws.Cover3
namespace Go.Proofs.Ytnneoipoaoefkaa.Eng
open Go Go.RowKit
set_option linter.unusedVariables false
set_option linter.unusedSimpArgs false
theorem toL_ofL (l : List UInt8) : toL (ofL l) = l := rfl
theorem ofL_toL (s : ByteArray) : ofL (toL s) = s := rfl
theorem toL_inj {s t : ByteArray} (h : toL s = toL t) : s = t := by rw [← ofL_toL s, h, ofL_toL]
theorem toL_append (a b : ByteArray) : toL (a ++ b) = toL a ++ toL b := by simp
theorem toL_size (s : ByteArray) : (toL s).length = s.size := by rw [Array.length_toList]; rfl
theorem toL_extract (s : ByteArray) (a b : Nat) : toL (s.extract a b) = ((toL s).drop a).take (b - a) := Lib.extract_data s a b
section
variable {P : Program} {ρ : Operand → Value} {w w' w0 : World} {dst : Option Tmp} {ty : TypeId} {pos : String} {aft : Array Edge} {g : Option (Nat × Bool)} {L : List HP}
/-- The whole of an array, as a slice. -/
theorem r_slice_all {t e : TypeId} {x : Operand} {ad : Addr} {len sz by_ : Nat} {z : Value} (ht : P.underlying t = some (.array len e)) (hi : TI P e z sz by_) (hx : ρ x = .pointer (some ad)) (h0 : 0 < len) :
    Run P ρ ⟨dst, .slice t x none none none, ty, pos, aft, g⟩ w (.slice (some ad) len len) w := by
  left
  have e0 : ad.add 0 = ad := by simp [Addr.add]
  simp [execOp, hx, Instr.sliceAt, run_underlying ht, Instr.sureAddr, Instr.sliceBounds, hi.size, e0]
/-- The empty literal of an array. -/
theorem r_build0 {t e : TypeId} {len sz by_ sze be : Nat} {cs : Array Value} {ze : Value} (ht : P.underlying t = some (.array len e)) (hi : TI P t (.agg cs) sz by_) (hie : TI P e ze sze be) : Run P ρ ⟨dst, .build t #[], ty, pos, aft, g⟩ w (.agg cs) w := by
  obtain ⟨it, ht1, ht2, ht3, ht4⟩ := hi.info
  obtain ⟨ie, he1, he2, he3, he4⟩ := hie.info
  left
  simp [execOp, Instr.build, zeroValue, typeInfo, sizeOf, run_underlying ht, ht1, ht2, he1, Instr.fill, Value.cells]
theorem r_fieldAddr0 {s : TypeId} {x : Operand} {f b off : Nat} {T : TypeId} (hf : fOff P s f = some (off, T)) (hx : ρ x = .pointer (some ⟨b, 0, none⟩)) :
    Run P ρ ⟨dst, .fieldAddr s x f, ty, pos, aft, g⟩ w (.pointer (some ⟨b, off, none⟩)) w := by
  have h := r_fieldAddr (P := P) (w := w) (dst := dst) (ty := ty) (pos := pos) (aft := aft) (g := g) hf hx
  rwa [Nat.zero_add] at h
/-- A struct literal. -/
theorem r_build {t : TypeId} {parts : Array (Nat × Operand)} {l : List (Nat × Value)} {cells : Array Value} (hp : (parts.toList.map fun p => (p.1, ρ p.2)) = l) (hb : P.built t l = some cells) : Run P ρ ⟨dst, .build t parts, ty, pos, aft, g⟩ w (.agg cells) w := by
  left
  have h := run_build (P := P) w t (parts.map fun (i, x) => (i, ρ x)) cells (by rw [Array.toList_map]; exact (congrArg _ hp).trans hb)
  simp only [execOp, Sem.run_bind, h, Result.andThen_ok, Sem.run_pure]
theorem rd_at {b n : Nat} {l : List Value} {T : TypeId} {fr : Nat × Nat} (hb : w.heap[b]? = some (.cells l.toArray T fr)) (hn : l.length = n) (hm : n ≤ 9223372036854775807) : Rd w 1 (some ⟨b, 0, none⟩) n l := by
  refine ⟨by omega, hm, fun _ => ⟨_, rfl, fun j u hu => ?_⟩⟩
  rw [add_lit, Nat.zero_add, cell_blk hb]
  exact hu
theorem r_slice_s8 {t : TypeId} {x : Operand} {s : ByteArray} {lo hi : Option Operand} (l h : UInt8) (ht : P.underlying t = some .string) (hx : ρ x = sV s)
    (hl : lo.map ρ = some (u8V l)) (hh : hi.map ρ = some (u8V h)) (hb : l.toNat ≤ h.toNat ∧ h.toNat ≤ s.size) : Run P ρ ⟨dst, .slice t x lo hi none, ty, pos, aft, g⟩ w (sV (s.extract l.toNat h.toNat)) w := by
  left
  have h1 : ((h.toNat : Int) ≤ (s.size : Int)) := by omega
  have h2 : ((l.toNat : Int) ≤ (h.toNat : Int)) := by omega
  have h3 : (0 : Int) ≤ (h.toNat : Int) := by omega
  have h4 : (0 : Int) ≤ (l.toNat : Int) := by omega
  simp [execOp, hx, hl, hh, Instr.sliceAt, Instr.slice, run_underlying ht, Instr.sliceBounds, Instr.sliceBound, asIntOf, hb.1, hb.2, u8V]
/-! pointers, slices and functions beside nil -/
theorem eqG_p {t : TypeId} {x y : Operand} {p q : Option Addr} {o : BinOp} : (eqGuard o t x y (.pointer p) (.pointer q)).run P w = .ok () w := by cases o <;> cases p <;> cases q <;> simp [eqGuard]
theorem eq_ptr {t e : TypeId} (ht : P.underlying t = some (.pointer e)) : P.underlying t = some (.pointer (P.pointee t)) := by unfold Program.pointee; rw [ht]
theorem r_eqlp_some {t t' e : TypeId} {x y : Operand} {p : Addr} (ht : P.underlying t = some (.pointer e)) (hx : ρ x = .pointer (some p)) (hy : ρ y = .pointer none) : Run P ρ ⟨dst, .binOp .eql t x y t', ty, pos, aft, g⟩ w (bV false) w := by
  left
  simp only [execOp, hx, hy, Sem.run_bind, eqG_p, Result.andThen_ok, run_eql_pointer_nil w t _ (eq_ptr ht), Sem.run_pure]
  rfl
theorem r_eqlp_none {t t' e : TypeId} {x y : Operand} (ht : P.underlying t = some (.pointer e)) (hx : ρ x = .pointer none) (hy : ρ y = .pointer none) : Run P ρ ⟨dst, .binOp .eql t x y t', ty, pos, aft, g⟩ w (bV true) w := by
  left
  simp only [execOp, hx, hy, Sem.run_bind, eqG_p, Result.andThen_ok, run_eql_pointer_nil w t _ (eq_ptr ht), Sem.run_pure]
  rfl
theorem r_neqp_some {t t' e : TypeId} {x y : Operand} {p : Addr} (ht : P.underlying t = some (.pointer e)) (hx : ρ x = .pointer (some p)) (hy : ρ y = .pointer none) : Run P ρ ⟨dst, .binOp .neq t x y t', ty, pos, aft, g⟩ w (bV true) w := by
  left
  simp only [execOp, hx, hy, Sem.run_bind, eqG_p, Result.andThen_ok, run_neq_pointer_nil w t _ (eq_ptr ht), Sem.run_pure]
  rfl
theorem r_neqp_none {t t' e : TypeId} {x y : Operand} (ht : P.underlying t = some (.pointer e)) (hx : ρ x = .pointer none) (hy : ρ y = .pointer none) : Run P ρ ⟨dst, .binOp .neq t x y t', ty, pos, aft, g⟩ w (bV false) w := by
  left
  simp only [execOp, hx, hy, Sem.run_bind, eqG_p, Result.andThen_ok, run_neq_pointer_nil w t _ (eq_ptr ht), Sem.run_pure]
  rfl
theorem eqG_f {t : TypeId} {x y : Operand} {u v : Value} {o : BinOp} (hu : u = .nilFunc ∨ ∃ a b c, u = .func a b c) (hv : v = .nilFunc) : (eqGuard o t x y u v).run P w = .ok () w := by
  subst hv
  rcases hu with rfl | ⟨a, b, c, rfl⟩ <;> cases o <;> simp [eqGuard]
theorem run_eqIn_fn (d : Nat) {t : TypeId} {a b : Array TypeId} {v : Bool} {u : Value} (hu : u = .nilFunc ∨ ∃ a b c, u = .func a b c) (ht : P.underlying t = some (.func a b v)) : (Op.equalIn (d + 1) t u .nilFunc).run P w = .ok (match u with | .nilFunc => true | _ => false) w := by
  rcases hu with rfl | ⟨a, b, c, rfl⟩ <;> simp [Op.equalIn, run_underlying ht]
theorem r_eqlf_some {t t' : TypeId} {d : TypeDesc} {x y : Operand} {a : Fn} {b c : Array Value} (ht : P.underlying t = some d) (hx : ρ x = .func a b c) (hy : ρ y = .nilFunc) (hd : (match d with | .func .. => true | _ => false) = true := by rfl) : Run P ρ ⟨dst, .binOp .eql t x y t', ty, pos, aft, g⟩ w (bV false) w := by
  left
  cases d <;> first | cases hd | skip
  have h : (Op.equal t (.func a b c) .nilFunc).run P w = .ok false w := run_eqIn_fn 9999 (.inr ⟨_, _, _, rfl⟩) ht
  simp only [execOp, hx, hy, Sem.run_bind, eqG_f (.inr ⟨_, _, _, rfl⟩) rfl, Result.andThen_ok, binOp, h, Sem.run_pure]
theorem r_eqlf_none {t t' : TypeId} {d : TypeDesc} {x y : Operand} (ht : P.underlying t = some d) (hx : ρ x = .nilFunc) (hy : ρ y = .nilFunc) (hd : (match d with | .func .. => true | _ => false) = true := by rfl) : Run P ρ ⟨dst, .binOp .eql t x y t', ty, pos, aft, g⟩ w (bV true) w := by
  left
  cases d <;> first | cases hd | skip
  have h : (Op.equal t .nilFunc .nilFunc).run P w = .ok true w := run_eqIn_fn 9999 (.inl rfl) ht
  simp only [execOp, hx, hy, Sem.run_bind, eqG_f (.inl rfl) rfl, Result.andThen_ok, binOp, h, Sem.run_pure]
theorem eqG_l {t : TypeId} {x y : Operand} {p q : Option Addr} {a b c d : Nat} {o : BinOp} : (eqGuard o t x y (.slice p a b) (.slice q c d)).run P w = .ok () w := by cases o <;> simp [eqGuard]
theorem r_neqll_nil {t t' e : TypeId} {x y : Operand} {a : Option Addr} {l c : Nat} (ht : P.underlying t = some (.slice e)) (hx : ρ x = .slice a l c) (hy : ρ y = .slice none 0 0) : Run P ρ ⟨dst, .binOp .neq t x y t', ty, pos, aft, g⟩ w (bV (!a.isNone)) w := by
  left
  simp only [execOp, hx, hy, Sem.run_bind, eqG_l, Result.andThen_ok, run_neq_slice_nil w t e a l c ht, Sem.run_pure]
end
section
variable {P : Program} {n : Nat} {ops : Array Oper} {Q : EPost} {rest : List Oper} {f : Env} {w w0 : World} {d : Nat} {ty : TypeId} {pos : String} {aft : Array Edge} {L : List HP}
/-- A text gone over letter by letter. -/
theorem l_range_s {t : TypeId} {x : Operand} {s : ByteArray} (hs : Sep w0 w L) (ht : P.underlying t = some .string) (hx : ev f x = sV s)
    (h : ∀ b w', Sep w0 w' (obj b (.stringIter s 0) :: L) → OkL P n ops Q rest (upd f d (.pointer (some ⟨b, 0, none⟩))) w') (hd : Nat.blt d n = true := by rfl) :
    OkL P n ops Q (⟨some d, .range t x, ty, pos, aft, none⟩ :: rest) f w := by
  refine l_v (v := .pointer (some ⟨w.heap.size, 0, none⟩)) (.inl ?_) (h _ _ (hs.alloc _)) hd
  simp only [execOp, hx, Sem.run_bind, run_range_string w t s ht, Result.andThen_ok, Sem.run_pure]; rfl
theorem l_next_s {t : TypeId} {x : Operand} {s : ByteArray} {b p : Nat} (hs : Sep w0 w (obj b (.stringIter s p) :: L)) (hx : ev f x = .pointer (some ⟨b, 0, none⟩)) (hp : p < s.size)
    (h : ∀ r p' w', Sep w0 w' (obj b (.stringIter s p') :: L) → ((at8 s p).toNat < 128 → p' = p + 1) → OkL P n ops Q rest (upd f d (.tuple #[bV true, iV (p : Int), .int .i32 r])) w') (hd : Nat.blt d n = true := by rfl) :
    OkL P n ops Q (⟨some d, .next x true, ty, pos, aft, none⟩ :: rest) f w := by
  have hg := (hs.at_ 0).1
  have hs' : Sep w0 { w with heap := w.heap.setIfInBounds b (.stringIter s (p + (Utf8.decode s p).2)) } (obj b (.stringIter s (p + (Utf8.decode s p).2)) :: L) := by
    have hb : b < w.heap.size := heap_lt hg
    refine hs.setObj ⟨rfl, rfl, rfl, by simp⟩ (by simp [hb]) fun k hk => by simp [Array.getElem?_setIfInBounds, Ne.symm hk]
  refine l_v (v := .tuple #[bV true, iV (p : Int), .int .i32 (Utf8.decode s p).1]) (.inl ?_) (h _ _ _ hs' ?_) hd
  · simp [execOp, hx, Instr.next, getObj, setObj, Sem.run, hg, hp, goInt]
  · intro ha
    have e : at8 s p = s[p]'hp := by simp [at8, hp]; rfl
    rw [e] at ha
    rw [decode_ascii s p hp ha]
theorem l_next_end {t : TypeId} {x : Operand} {s : ByteArray} {b p : Nat} (hs : Sep w0 w (obj b (.stringIter s p) :: L)) (hx : ev f x = .pointer (some ⟨b, 0, none⟩)) (hp : ¬ p < s.size)
    (h : OkL P n ops Q rest (upd f d (.tuple #[bV false])) w) (hd : Nat.blt d n = true := by rfl) :
    OkL P n ops Q (⟨some d, .next x true, ty, pos, aft, none⟩ :: rest) f w := by
  have hg := (hs.at_ 0).1
  refine l_v (v := .tuple #[bV false]) (.inl ?_) h hd
  simp [execOp, hx, Instr.next, getObj, Sem.run, hg, hp]
end
end Go.Proofs.Ytnneoipoaoefkaa.Eng
