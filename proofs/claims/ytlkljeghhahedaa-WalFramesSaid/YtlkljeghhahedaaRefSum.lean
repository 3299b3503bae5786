/- The walk of siloref02.Sum: what its register of 32 bits comes to. -/
import Derived.Test.YtlkljeghhahedaaProg
import Derived.Test.YtlkljeghhahedaaArr
import Derived.Test.YtlkljeghhahedaaRefFn
import Derived.WalkKit
import Derived.WalkSpells
import Derived.WalkLawsBesides
import Derived.Deep.QuietTactic
import Derived.BigQuiet
import Derived.Deep.LoopGhost
import Derived.Lib.Hide
import Derived.Lib.IndexBytes
namespace Go.Proofs.Ytlkljeghhahedaa.RefSum
open Go Go.RowKit Go.Proofs.YtlkljeghhahedaaW.PrintWords Go.Proofs.Ytlkljeghhahedaa.Base Go.Proofs.Ytlkljeghhahedaa.Arr Go.Proofs.Ytlkljeghhahedaa.RefFn
set_option linter.unusedVariables false
set_option linter.unusedSimpArgs false
set_option maxRecDepth 100000

set_option maxHeartbeats 8000000 in
theorem walk (s : ByteArray) (hs : s.size ≤ maxLen) (w : World) :
    Calls Try.prog 59 #[.string s] w fun e w' => e = .returned (.int .u32 (refVal 32 (refRun (toL s) s.size) : Nat)) ∧ Below w.heap.size w w' := by
  unfold maxLen at hs
  go_enter Try.func59, Try.ntmps59
  go_wp2
  go_loopw [4] (fun i W => ∃ k : Nat, k ≤ 32 ∧ i = .int .i64 k ∧ IsArr Value.bool 117 w.heap.size (ones k) W ∧ Below w.heap.size w W) (fun i _ => 32 - (intOf i).toNat)
  case atStart =>
    refine ⟨0, by omega, rfl, IsArr.new w _ _ rfl, ?_⟩
    exact (Below.refl _ _).alloc (Nat.le_refl _) _
  case round =>
    obtain ⟨k, hk, rfl, hA, hB⟩ := hrel
    by_cases hlt : k < 32
    · have hc := hA.cell k false (by rw [ones_length]; omega)
      have hf := hA.frozen k
      go_wp2
      go_roundw
      case rel => exact ⟨k + 1, by omega, by go_num, hA.set k true, hB.setCell (Nat.le_refl _) _⟩
      case measure => simp [intOf]; omega
    · obtain rfl : k = 32 := by omega
      clear hlt hk
      go_wp2
      obtain ⟨w1, rfl⟩ : ∃ w1 : World, w1 = wr := ⟨_, rfl⟩
      go_loopw [5, 6, 7, 8, 9, 10] (fun i _ _ _ _ _ W => ∃ n : Nat, n ≤ s.size ∧ i = .int .i64 n ∧ IsArr Value.bool 117 w.heap.size (refRun (toL s) n) W ∧ Below w.heap.size w W) (fun i _ _ _ _ _ _ => s.size - (intOf i).toNat)
      case atStart => exact ⟨0, by omega, rfl, hA, hB⟩
      case round =>
        clear hA hB
        obtain ⟨n, hn, rfl, hA, hB⟩ := hrel
        by_cases hlt : n < s.size
        · go_wp2
          obtain ⟨w2, rfl⟩ : ∃ w2 : World, w2 = wr := ⟨_, rfl⟩
          go_loopw [6, 7, 8, 9, 10] (fun i _ _ _ _ W => ∃ k : Nat, k ≤ 8 ∧ i = .int .i64 k ∧ IsArr Value.bool 117 w.heap.size (it (refBit ((toL s).getD n 0)) k (refRun (toL s) n)) W ∧ Below w.heap.size w W) (fun i _ _ _ _ _ => 8 - (intOf i).toNat)
          case atStart => exact ⟨0, by omega, rfl, hA, hB⟩
          case round =>
            clear hA hB
            obtain ⟨k, hk, rfl, hA, hB⟩ := hrel
            by_cases hk8 : k < 8
            · have b1 : (n : Int) < (s.size : Int) := by omega
              have b2 : (k : Int) < 8 := by omega
              obtain ⟨P, hP⟩ : ∃ P : Nat, P = 2 ^ k := ⟨_, rfl⟩
              have p1 : 1 ≤ P := by rw [hP]; exact Nat.one_le_two_pow
              have p2 : P ≤ 128 := by rw [hP]; exact Nat.pow_le_pow_right (n := 2) (by omega) (show k ≤ 7 by omega)
              have e1 : IntKind.u8.wrap ((2 : Int) ^ k) = (P : Int) := by
                rw [show ((2 : Int) ^ k) = (P : Int) by rw [hP]; simp, IntKind.wrap_u8]; omega
              have p3 : 1 ≤ (P : Int) := by omega
              have hl0 : (it (refBit ((toL s).getD n 0)) k (refRun (toL s) n)).length = 32 := by rw [it_length (fun i l => refBit_length _ i l), refRun_length]
              have hnext : it (refBit ((toL s).getD n 0)) (k + 1) (refRun (toL s) n) = refBit ((toL s).getD n 0) k (it (refBit ((toL s).getD n 0)) k (refRun (toL s) n)) := rfl
              generalize it (refBit ((toL s).getD n 0)) k (refRun (toL s) n) = reg at hA hl0 hnext
              have hbit : ((((s[n]'hlt).toNat : Int) / (P : Int) % 2 == 1)) = bitOf ((toL s).getD n 0) k := by
                unfold bitOf
                rw [List.getD_eq_getElem?_getD, Lib.data_getElem? s n hlt, ← hP]
                simp only [Option.getD_some]
                rw [Bool.eq_iff_iff]
                simp only [beq_iff_eq, decide_eq_true_eq]
                omega
              obtain ⟨o, ho⟩ : ∃ o : Bool, (!(reg[0]?.getD false == (((s[n]'hlt).toNat : Int) / (P : Int) % 2 == 1))) = o := ⟨_, rfl⟩
              have hob : (reg.getD 0 false != bitOf ((toL s).getD n 0) k) = o := by
                rw [← ho, hbit, List.getD_eq_getElem?_getD]
                rfl
              have Hnext := Aside0.mk hnext
              have Hob := Aside0.mk hob
              have Hl0 := Aside0.mk hl0
              clear hP hnext hob hbit hl0
              go_wp2
              have hc0 := hA.cell 0 false (by rw [Hl0.out]; omega)
              go_quiet (fail)
              go_wp2
              obtain ⟨w3, rfl⟩ : ∃ w3 : World, w3 = wr := ⟨_, rfl⟩
              have hB' : Below w.heap.size w (w3.drewN nq) := pw_below_drewN hB _
              clear hc0 hB
              go_loopw [9] (fun j W => ∃ i : Nat, i ≤ 31 ∧ j = .int .i64 i ∧ IsArr Value.bool 117 w.heap.size (shifted i reg) W ∧ Below w.heap.size w W) (fun j _ => 31 - (intOf j).toNat)
              case atStart => exact ⟨0, by omega, rfl, hA.drewN nq, hB'⟩
              case round =>
                clear hA hB'
                obtain ⟨i, hi, rfl, hA, hB⟩ := hrel
                by_cases hi31 : i < 31
                · have hc1 := hA.cell (i + 1) false (by rw [shifted_length, Hl0.out]; omega)
                  have hc2 := hA.cell i false (by rw [shifted_length, Hl0.out]; omega)
                  have hf := hA.frozen i
                  go_wp2
                  go_roundw
                  case rel => exact ⟨i + 1, by omega, by go_num, hA.set i _, hB.setCell (Nat.le_refl _) _⟩
                  case measure => simp [intOf]; omega
                · obtain rfl : i = 31 := by omega
                  clear hi31 hi
                  have hc31 := hA.cell 31 false (by rw [shifted_length, Hl0.out]; omega)
                  have hf31 := hA.frozen 31
                  cases o with
                  | false =>
                    go_wp2
                    have hA4 := hA.set 31 false
                    have hB4 := hB.setCell (p := ⟨w.heap.size, 31, none⟩) (Nat.le_refl _) (Value.bool false)
                    clear hA hB hc31 hf31
                    go_loopw [10] (fun j W => j = .int .i64 0 ∧ IsArr Value.bool 117 w.heap.size ((shifted 31 reg).set 31 false) W ∧ Below w.heap.size w W) (fun j _ => 0)
                    case atStart => exact ⟨rfl, hA4, hB4⟩
                    case round =>
                      clear hA4 hB4
                      obtain ⟨rfl, hA, hB⟩ := hrel
                      go_wp2
                      go_roundw
                      case rel =>
                        refine ⟨k + 1, by omega, by go_num, ?_, hB⟩
                        rw [Hnext.out]
                        unfold refBit
                        rw [Hob.out]
                        exact hA
                      case measure => simp [intOf]; omega
                  | true =>
                    go_wp2
                    have hA4 := hA.set 31 false
                    have hB4 := hB.setCell (p := ⟨w.heap.size, 31, none⟩) (Nat.le_refl _) (Value.bool false)
                    have hl4 : ((shifted 31 reg).set 31 false).length = 32 := by rw [List.length_set, shifted_length, Hl0.out]
                    have Hl4 := Aside0.mk hl4
                    clear hA hB hc31 hf31 hl4
                    obtain ⟨w4, hw4⟩ : ∃ w4 : World, w4 = wr.setCell ⟨w.heap.size, 31, none⟩ (Value.bool false) := ⟨_, rfl⟩
                    rw [← hw4] at hA4 hB4 ⊢
                    clear hw4
                    go_loopw [10] (fun j W => ∃ i : Nat, i ≤ 32 ∧ j = .int .i64 i ∧ IsArr Value.bool 117 w.heap.size (turned i ((shifted 31 reg).set 31 false)) W ∧ Below w.heap.size w W) (fun j _ => 32 - (intOf j).toNat)
                    case atStart => exact ⟨0, by omega, rfl, hA4, hB4⟩
                    case round =>
                      clear hA4 hB4
                      obtain ⟨i, hi, rfl, hA, hB⟩ := hrel
                      by_cases hi32 : i < 32
                      · have b3 : (i : Int) < 32 := by omega
                        obtain ⟨Z, hZ⟩ : ∃ Z : Nat, Z = 2 ^ i := ⟨_, rfl⟩
                        have z1 : 1 ≤ Z := by rw [hZ]; exact Nat.one_le_two_pow
                        have z2 : Z ≤ 2147483648 := by rw [hZ]; exact Nat.pow_le_pow_right (n := 2) (by omega) (show i ≤ 31 by omega)
                        have e2 : IntKind.u32.wrap ((2 : Int) ^ i) = (Z : Int) := by
                          rw [show ((2 : Int) ^ i) = (Z : Int) by rw [hZ]; simp, IntKind.wrap_u32]; omega
                        have z3 : 1 ≤ (Z : Int) := by omega
                        have hp : ((2197175160 : Int) / (Z : Int) % 2 == 1) = polyBit i := by
                          unfold polyBit
                          rw [← hZ, Bool.eq_iff_iff, show ((2197175160 : Int) / (Z : Int)) = ((2197175160 / Z : Nat) : Int) by rw [Int.natCast_ediv]; rfl]
                          simp only [beq_iff_eq, decide_eq_true_eq]
                          omega
                        have hq0 : 0 ≤ (2197175160 : Int) / (Z : Int) := Int.ediv_nonneg (by omega) (by omega)
                        have hnx : turned (i + 1) ((shifted 31 reg).set 31 false) = (fun l => if polyBit i then l.set i (!l.getD i false) else l) (turned i ((shifted 31 reg).set 31 false)) := rfl
                        have Hnx := Aside0.mk hnx
                        have hc1 := hA.cell i false (by rw [turned_length, Hl4.out]; omega)
                        have hf := hA.frozen i
                        clear hZ hnx
                        cases hpb : polyBit i with
                        | false =>
                          rw [hpb] at hp
                          go_wp2
                          go_roundw
                          case rel =>
                            refine ⟨i + 1, by omega, by go_num, ?_, hB⟩
                            rw [Hnx.out]
                            simp only [hpb, Bool.false_eq_true, if_false]
                            exact hA
                          case measure => simp [intOf]; omega
                        | true =>
                          rw [hpb] at hp
                          go_wp2
                          go_roundw
                          case rel =>
                            refine ⟨i + 1, by omega, by go_num, ?_, hB.setCell (Nat.le_refl _) _⟩
                            rw [Hnx.out]
                            simp only [hpb, if_true]
                            exact hA.set i _
                          case measure => simp [intOf]; omega
                      · obtain rfl : i = 32 := by omega
                        clear hi32 hi
                        go_wp2
                        go_roundw
                        case rel =>
                          refine ⟨k + 1, by omega, by go_num, ?_, hB⟩
                          rw [Hnext.out]
                          unfold refBit
                          rw [Hob.out]
                          exact hA
                        case measure => simp [intOf]; omega
            · obtain rfl : k = 8 := by omega
              clear hk8 hk
              go_wp2
              go_roundw
              case rel => exact ⟨n + 1, by omega, by go_num, hA, hB⟩
              case measure => simp [intOf]; omega
        · obtain rfl : n = s.size := by omega
          clear hlt hn
          have hlr := refRun_length (toL s) s.size
          obtain ⟨reg, hreg⟩ : ∃ reg, refRun (toL s) s.size = reg := ⟨_, rfl⟩
          rw [hreg] at hA hlr
          have Hreg := Aside0.mk hreg
          clear hreg
          have Hlr := Aside0.mk hlr
          clear hlr
          go_wp2
          obtain ⟨w2, rfl⟩ : ∃ w2 : World, w2 = wr := ⟨_, rfl⟩
          go_loop [11, 12] (fun x j => ∃ k : Nat, k ≤ 32 ∧ j = .int .i64 (31 - (k : Int)) ∧ x = .int .u32 (refVal k reg : Nat)) (fun _ j => ((intOf j) + 1).toNat)
          case atStart => exact ⟨0, by omega, rfl, rfl⟩
          case round =>
            obtain ⟨k, hk, rfl, rfl⟩ := hrel
            by_cases hk32 : k < 32
            · have hc := hA.cell (31 - k) false (by rw [Hlr.out]; omega)
              have hvs : refVal (k + 1) reg = 2 * refVal k reg + (if reg.getD (31 - k) false then 0 else 1) := rfl
              have hvb := refVal_lt k reg
              have hvp : 2 ^ (k + 1) ≤ 4294967296 := Nat.pow_le_pow_right (n := 2) (by omega) (show k + 1 ≤ 32 by omega)
              rw [Nat.pow_succ] at hvp
              generalize refVal k reg = v at hvs hvb ⊢
              have hv : v ≤ 2147483647 := by omega
              have Hvs := Aside0.mk hvs
              clear hvs hvb hvp
              have ej : (31 - (k : Int)).toNat = 31 - k := by omega
              have b1 : (31 - (k : Int)) < 32 := by omega
              have b2 : 0 ≤ (31 - (k : Int)) := by omega
              cases hb : reg.getD (31 - k) false with
              | false =>
                have hb' : reg[31 - k]?.getD false = false := by rw [← List.getD_eq_getElem?_getD]; exact hb
                go_wp2
                go_round
                case rel => exact ⟨k + 1, by omega, by go_num, by rw [Hvs.out, hb]; go_num⟩
                case measure => simp [intOf]; omega
              | true =>
                have hb' : reg[31 - k]?.getD false = true := by rw [← List.getD_eq_getElem?_getD]; exact hb
                go_wp2
                go_round
                case rel => exact ⟨k + 1, by omega, by go_num, by rw [Hvs.out, hb]; go_num⟩
                case measure => simp [intOf]; omega
            · obtain rfl : k = 32 := by omega
              clear hk32 hk
              go_wp2
              go_ret
              exact ⟨by rw [Hreg.out]; rfl, hB⟩
end Go.Proofs.Ytlkljeghhahedaa.RefSum
