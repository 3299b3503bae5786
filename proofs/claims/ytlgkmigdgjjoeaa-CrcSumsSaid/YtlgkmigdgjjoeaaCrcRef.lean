/- What the reference's functions of the sums come to (siloref02): the same sums, texts and refusals. -/
import Derived.Test.YtlgkmigdgjjoeaaPCrcx2
import Derived.Test.YtlgkmigdgjjoeaaCrcEv
import Derived.Test.YtlgkmigdgjjoeaaRefFn
namespace Go.Proofs.Ytlgkmigdgjjoeaa.CrcRef
open Go Go.RowKit Go.Proofs.YtlgkmigdgjjoeaaW.PrintWords Go.Proofs.Ytlgkmigdgjjoeaa.PCrc Go.Proofs.Ytlgkmigdgjjoeaa.Base Go.Proofs.Ytlgkmigdgjjoeaa.CrcFn Go.Proofs.Ytlgkmigdgjjoeaa.CrcEv

theorem ref_sum (s : ByteArray) (hs : s.size ≤ maxLen) : siloref02_Sum.f s = some ((crc (toL s)).toNat : Int) := by
  unfold siloref02_Sum.f
  rw [if_pos hs, size_eq s, ← RefFn.refSum_eq (toL s)]
theorem ref_four (x : BitVec 32) : siloref02_Four.f (x.toNat : Int) = some (ofL (four x)) := by
  have := x.isLt
  unfold siloref02_Four.f
  rw [strOfNums_eq]
  congr 2
  simp only [List.map_cons, List.map_nil, four, fourN]
  have e1 : (Int.tdiv (x.toNat : Int) 16777216) = ((x.toNat / 16777216 : Nat) : Int) := by rw [Int.tdiv_eq_ediv_of_nonneg (by omega)]; omega
  have e2 : (Int.tdiv (x.toNat : Int) 65536) = ((x.toNat / 65536 : Nat) : Int) := by rw [Int.tdiv_eq_ediv_of_nonneg (by omega)]; omega
  have e3 : (Int.tdiv (x.toNat : Int) 256) = ((x.toNat / 256 : Nat) : Int) := by rw [Int.tdiv_eq_ediv_of_nonneg (by omega)]; omega
  have e4 : (Int.tmod (x.toNat : Int) 256) = ((x.toNat % 256 : Nat) : Int) := by rw [Int.tmod_eq_emod_of_nonneg (by omega)]; omega
  rw [e1, e2, e3, e4]
  have f1 : ((((x.toNat / 16777216 : Nat) : Int) % 4294967296) % 256).toNat = x.toNat / 16777216 := by omega
  have f2 : ((((x.toNat / 65536 : Nat) : Int) % 4294967296) % 256).toNat = x.toNat / 65536 % 256 := by omega
  have f3 : ((((x.toNat / 256 : Nat) : Int) % 4294967296) % 256).toNat = x.toNat / 256 % 256 := by omega
  have f4 : ((((x.toNat % 256 : Nat) : Int)) % 256).toNat = x.toNat % 256 := by omega
  rw [f1, f2, f3, f4]
theorem ref_put (s : ByteArray) (hs : s.size ≤ 9223372036854775800) : siloref02_Put.f s = some (ofL (put (toL s))) := by
  unfold siloref02_Put.f
  rw [ref_sum s (by unfold maxLen; omega)]
  simp only [Option.bind_some, ref_four]
  have h4 : (ofL (four (crc (toL s)))).size = 4 := by rw [size_ofL, four_length]
  rw [if_pos (by omega)]
  exact congrArg some (append_ofL (toL s) _)
theorem take_alt (l : List UInt8) (h : ¬ l.length < 4) : put (l.take (l.length - 4)) = l ↔ l.drop (l.length - 4) = four (crc (l.take (l.length - 4))) := by
  unfold put
  constructor
  · intro e
    have := congrArg (List.drop (l.length - 4)) e
    rw [List.drop_append, List.drop_of_length_le (by simp)] at this
    rw [← this, List.length_take]
    rw [show l.length - 4 - min (l.length - 4) l.length = 0 by omega]
    rfl
  · intro e
    rw [← e, List.take_append_drop]
theorem ref_take (s : ByteArray) (hs : s.size ≤ 9223372036854775800) : siloref02_Take.f s = some (ofL (take (toL s)).1, (take (toL s)).2) := by
  unfold siloref02_Take.f take
  have hsz := size_eq s
  by_cases h4 : (toL s).length < 4
  · rw [if_pos (by omega), if_pos h4]
  · rw [if_neg (by omega), if_neg h4, wrap64_small (by omega) (by omega), if_pos (by omega), if_pos (by omega)]
    have e : ((s.size : Int) - 4).toNat = (toL s).length - 4 := by omega
    have e1 : s.extract 0 ((toL s).length - 4) = ofL ((toL s).take ((toL s).length - 4)) := toL_inj (by rw [toL_extract, toL_ofL]; simp)
    have e20 : ((toL s).drop ((toL s).length - 4)).length ≤ s.size - ((toL s).length - 4) := by rw [List.length_drop]; omega
    have e2 : s.extract ((toL s).length - 4) s.size = ofL ((toL s).drop ((toL s).length - 4)) := toL_inj (by
      rw [toL_extract, toL_ofL, List.take_of_length_le e20])
    have hz : (ofL ((toL s).take ((toL s).length - 4))).size ≤ maxLen := by
      have h1 : (ofL ((toL s).take ((toL s).length - 4))).size = (toL s).length - 4 := by rw [size_ofL, List.length_take]; omega
      unfold maxLen
      omega
    rw [e, e1, e2, ref_sum (ofL ((toL s).take ((toL s).length - 4))) hz, toL_ofL]
    simp only [Option.bind_some, ref_four, toList_ofL]
    by_cases h : put ((toL s).take ((toL s).length - 4)) = toL s
    · rw [if_pos ((take_alt _ h4).1 h), if_pos h]
    · rw [if_neg (fun h2 => h ((take_alt _ h4).2 h2)), if_neg h]
end Go.Proofs.Ytlgkmigdgjjoeaa.CrcRef
