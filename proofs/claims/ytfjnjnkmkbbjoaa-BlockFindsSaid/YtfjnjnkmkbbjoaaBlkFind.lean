/- The walks of Find and of BinarySearchFunc over entries. -/
import Derived.Test.YtfjnjnkmkbbjoaaBlkRising
import Derived.Lib.Bytealg
import Derived.Laws.Externs
namespace Go.Proofs.Ytfjnjnkmkbbjoaa.Blk
open Go Go.RowKit Go.Proofs.Ytfjnjnkmkbbjoaa.Eng Go.Proofs.Ytfjnjnkmkbbjoaa.Six Go.Proofs.Ytfjnjnkmkbbjoaa.CrcFn
set_option linter.unusedVariables false
set_option maxRecDepth 100000
theorem cmp_less : ∀ a b : List UInt8, decide (Lib.compareBytes a b < 0) = Op.bytesLess a b
  | [], [] => by decide
  | [], y :: b => by simp [Lib.compareBytes, Op.bytesLess]
  | x :: a, [] => by simp [Lib.compareBytes, Op.bytesLess]
  | x :: a, y :: b => by
    have ih := cmp_less a b
    simp only [Lib.compareBytes, Op.bytesLess]
    by_cases h : x = y
    · subst h; simp [UInt8.lt_irrefl, ih]
    · by_cases h1 : x < y
      · simp [h1]
      · have h2 : y < x := by
          rcases Nat.lt_trichotomy x.toNat y.toNat with h3 | h3 | h3
          · exact absurd (UInt8.lt_iff_toNat_lt.2 h3) h1
          · exact absurd (UInt8.toNat_inj.1 h3) h
          · exact UInt8.lt_iff_toNat_lt.2 h3
        simp [h, h1, h2]
theorem r_cmp {ρ : Operand → Value} {w : World} {dst : Option Tmp} {ty : TypeId} {pos : String} {aft : Array Edge} {g : Option (Nat × Bool)} {x y : Operand} {tt : Array TypeId} {a b : ByteArray} (hc : ρ (.func 55) = .func (.func 55) #[] #[]) (hx : ρ x = sV a) (hy : ρ y = sV b) :
    Run Try.prog ρ ⟨dst, .call { callee := .value (.func 55), args := #[x, y], argTypes := tt }, ty, pos, aft, g⟩ w (iV (Lib.compareBytes (toL a) (toL b))) w := by
  left
  have h := run_callFunc_extern (P := Try.prog) (e := Extern.BytealgCompare.compare) Try.func55 (by kernel_rfl) (by kernel_rfl) (by kernel_rfl) (by kernel_rfl) #[sV a, sV b] w
  rw [Lib.run_compareString] at h
  rw [Result.andThen_ok] at h
  simp [execOp, resolve, hc, hx, hy, Deferred.ofValue, invoke, h]
def below_ (xs : List Ent) (key : List UInt8) (n : Nat) : Prop := n ≤ xs.length ∧ (sorted xs → ∀ (i : Nat) (x : Ent), xs[i]? = some x → klt x.key key = decide (i < n))
theorem cmps_c (a b : ByteArray) (w : World) : Calls Try.prog 53 #[sV a, sV b] w fun e w' => e = .returned (iV (Lib.compareBytes (toL a) (toL b))) ∧ Below w.heap.size w w' := by
  refine enter (P := Try.prog) Try.func53 rfl rfl ?_
  have hs := Sep.init w
  refine c_rseq ?_
  refine l_v (by first | exact (r_assign (v := iV _) rfl) | exact (r_assign rfl)) ?_
  refine l_nil (nrm_then ?_)
  refine c_rseq ?_
  refine l_v (by first | exact (r_move (v := sV _) rfl) | exact (r_move rfl)) ?_
  refine l_v (by first | exact (r_move (v := sV _) rfl) | exact (r_move rfl)) ?_
  refine l_v (r_cmp rfl rfl rfl) ?_
  refine l_v (by first | exact (r_assign (v := iV _) rfl) | exact (r_assign rfl)) ?_
  refine l_nil (nrm_then ?_)
  refine c_ret ?_
  show Fin _ _ _ _ _
  refine fin1 rfl ?_
  exact ⟨rfl, hs.below⟩
theorem compare_c (a b : ByteArray) (w : World) : Calls Try.prog 44 #[sV a, sV b] w fun e w' => e = .returned (iV (Lib.compareBytes (toL a) (toL b))) ∧ Below w.heap.size w w' := by
  refine enter (P := Try.prog) Try.func44 rfl rfl ?_
  have hs := Sep.init w
  refine c_rseq ?_
  refine l_v (by first | exact (r_assign (v := iV _) rfl) | exact (r_assign rfl)) ?_
  refine l_nil (nrm_then ?_)
  refine c_rseq ?_
  refine l_v (by first | exact (r_move (v := sV _) rfl) | exact (r_move rfl)) ?_
  refine l_v (by first | exact (r_move (v := sV _) rfl) | exact (r_move rfl)) ?_
  refine l_call (r_call Try.func53 rfl rfl) ?_
  refine Calls.mono (cmps_c a b _) ?_
  rintro e w_ ⟨rfl, hb⟩
  refine ⟨_, rfl, ?_⟩
  have hs := hs.below_ hb
  refine l_v (by first | exact (r_assign (v := iV _) rfl) | exact (r_assign rfl)) ?_
  refine l_nil (nrm_then ?_)
  refine c_ret ?_
  show Fin _ _ _ _ _
  refine fin1 rfl ?_
  exact ⟨rfl, hs.below⟩
theorem find1_c (x : Ent) (key : ByteArray) (w : World) : Calls Try.prog 43 #[.agg (entC x).toArray, sV key] w fun e w' => e = .returned (iV (Lib.compareBytes x.key (toL key))) ∧ Below w.heap.size w w' := by
  refine enter (P := Try.prog) Try.func43 rfl rfl ?_
  have hs := Sep.init w
  refine c_rseq ?_
  refine l_box hs rfl ?_
  intro b2 w2 hs hB2 hlt2
  refine l_v (by first | exact (r_assign (v := iV _) rfl) | exact (r_assign rfl)) ?_
  refine l_nil (nrm_then ?_)
  refine c_rseq ?_
  refine l_v (by first | exact (r_fieldAddr0 (off := 0) (T := 9) (by kernel_rfl) rfl) | exact (r_fieldAddr (off := 0) (T := 9) (by kernel_rfl) rfl)) ?_
  refine l_v (by first | exact (r_load_at (i := 0) hs rfl Try.underlying9 rfl rfl) | exact (r_load_at (i := 1) hs rfl Try.underlying9 rfl rfl) | exact (r_load_at (i := 2) hs rfl Try.underlying9 rfl rfl) | exact (r_load_at (i := 3) hs rfl Try.underlying9 rfl rfl) | exact (r_load_at (i := 4) hs rfl Try.underlying9 rfl rfl) | exact (r_load_at (i := 5) hs rfl Try.underlying9 rfl rfl) | exact (r_load_at (i := 6) hs rfl Try.underlying9 rfl rfl)) ?_
  refine l_v (by first | exact (r_move (v := sV _) rfl) | exact (r_move rfl)) ?_
  have hs : Eng.Sep w w2 [blk b2 (entC x) 44] := hs
  refine l_call (r_call Try.func44 rfl rfl) ?_
  refine Calls.mono (compare_c (ofL x.key) key _) ?_
  rintro e w_ ⟨rfl, hb⟩
  refine ⟨_, rfl, ?_⟩
  have hs := hs.below_ hb
  refine l_v (by first | exact (r_assign (v := iV _) rfl) | exact (r_assign rfl)) ?_
  refine l_nil (nrm_then ?_)
  refine c_ret ?_
  show Fin _ _ _ _ _
  refine fin1 rfl ?_
  rw [Eng.toL_ofL]
  exact ⟨rfl, hs.below⟩
theorem half (n : Nat) (h : n < 18446744073709551616) : (BitVec.ofInt 64 (n : Int) >>> 1).toNat = n / 2 := by
  rw [BitVec.toNat_ushiftRight, BitVec.toNat_ofInt, Nat.shiftRight_eq_div_pow]; omega
set_option maxHeartbeats 4000000 in
theorem bsf_c (A : Option Addr) (c : Nat) (xs : List Ent) (key : List UInt8) (hn0 : xs.length ≤ 4611686018427387904) (w : World) (hr : Rd w 3 A xs.length (xs.flatMap entC)) :
    Calls Try.prog 42 #[.slice A xs.length c, sV (ofL key), .func (.func 43) #[] #[]] w fun e w' => ∃ (n : Nat) (b : Bool), e = .returned (.tuple #[iV (n : Int), bV b]) ∧ below_ xs key n ∧ Below w.heap.size w w' := by
  have hn := hr.2.1
  refine enter (P := Try.prog) Try.func42 rfl rfl ?_
  have hs := Sep.init w
  refine c_rseq ?_
  refine l_v (by first | exact (r_assign (v := iV _) rfl) | exact (r_assign rfl)) ?_
  refine l_v (by first | exact (r_assign (v := bV _) rfl) | exact (r_assign rfl)) ?_
  refine l_nil (nrm_then ?_)
  refine c_rseq ?_
  refine l_v (by first | exact (r_move (v := .slice _ _ _) rfl) | exact (r_move rfl)) ?_
  refine l_v (r_len_l Try.underlying22 rfl) ?_
  refine l_v (by first | exact (r_assign (v := iV _) rfl) | exact (r_assign rfl)) ?_
  refine l_nil (nrm_then ?_)
  refine c_rseq ?_
  refine l_v (by first | exact (r_move (v := iV _) rfl) | exact (r_move rfl)) ?_
  refine l_v (by first | exact (r_assign (v := iV _) rfl) | exact (r_assign rfl)) ?_
  refine l_v (by first | exact (r_assign (v := iV _) rfl) | exact (r_assign rfl)) ?_
  refine l_nil (nrm_then ?_)
  refine c_seq ?_
  refine c_block ?_
  refine c_loopn [0, 1, 2, 6, 7, 8] (fun m f' w' => ∃ i j : Nat, i + m = j ∧ j ≤ xs.length ∧ f' 9 = iV (i : Int) ∧ f' 10 = iV (j : Int) ∧ (sorted xs → ∀ q x, xs[q]? = some x → (q < i → klt x.key key = true) ∧ (j ≤ q → klt x.key key = false)) ∧ Eng.Sep w w' []) ?_ ?_
  · exact ⟨xs.length, 0, xs.length, by omega, Nat.le_refl _, rfl, rfl, fun _ q x h => ⟨fun h => by omega, fun h' => by have := (List.getElem?_eq_some_iff.1 h).1; omega⟩, hs⟩
  · rintro m g w_ ⟨i, j, hij, hjl, h9, h10, hsp, hs⟩
    refine OkC.env ?_ (fixH (L := [(9, _), (10, _)]) ⟨h9, h10, trivial⟩)
    clear h9 h10
    refine c_seq ?_
    refine c_rseq ?_
    refine l_v (by first | exact (r_move (v := iV _) rfl) | exact (r_move rfl)) ?_
    refine l_v (by first | exact (r_move (v := iV _) rfl) | exact (r_move rfl)) ?_
    refine l_v (r_lssi rfl rfl) ?_
    refine l_nil (nrm_then ?_)
    refine c_cond rfl (fun h1 => ?_) (fun h1 => ?_)
    · have hijl : i < j := by have := of_decide_eq_true h1; omega
      obtain ⟨k, hk⟩ : ∃ k, (i + j) / 2 = k := ⟨_, rfl⟩
      have hkl : i ≤ k ∧ k < j := by omega
      have hh : (BitVec.ofInt 64 ((i : Int) + (j : Int)) >>> 1).toNat = k := by rw [← hk, ← half (i + j) (by omega)]; rfl
      obtain ⟨x, hxk⟩ : ∃ x, xs[k]? = some x := ⟨xs[k], List.getElem?_eq_getElem (by omega)⟩
      have hsK := hs
      obtain ⟨ad, rfl, _⟩ := hr.ad (by omega)
      have hs := hsK
      have hX := rd_item (hr.below hs.below) (fun y _ => rfl) (by decide) hxk
      replace h1 := of_decide_eq_true h1
      refine c_skip (nrm_then ?_)
      refine c_block ?_
      refine c_rseq ?_
      refine l_v (by first | exact (r_move (v := iV _) rfl) | exact (r_move rfl)) ?_
      refine l_v (by first | exact (r_move (v := iV _) rfl) | exact (r_move rfl)) ?_
      refine l_v (r_addi rfl rfl (by omega)) ?_
      refine l_v (r_cv_i64 Try.underlying3 Try.underlying40 rfl) ?_
      refine l_v (r_shr64 (b := 1) rfl rfl) ?_
      refine l_v (r_cv_64n hh Try.underlying78 Try.underlying3 rfl (by omega)) ?_
      refine l_v (by first | exact (r_assign (v := iV _) rfl) | exact (r_assign rfl)) ?_
      refine l_nil (nrm_then ?_)
      refine c_rseq ?_
      refine l_v (by first | exact (r_move (v := .func _ _ _) rfl) | exact (r_move (v := .nilFunc) rfl) | exact (r_move rfl)) ?_
      refine l_v (by first | exact (r_move (v := .slice _ _ _) rfl) | exact (r_move rfl)) ?_
      refine l_v (by first | exact (r_move (v := iV _) rfl) | exact (r_move rfl)) ?_
      refine l_v (r_indexAddr_l (k := k) Try.underlying22 I44 rfl rfl (by omega)) ?_
      refine l_v (r_load_aggP Try.underlying44 I44 rfl hX rfl) ?_
      refine l_v (by first | exact (r_move (v := sV _) rfl) | exact (r_move rfl)) ?_
      refine l_call (r_call Try.func43 rfl rfl) ?_
      refine Calls.mono (find1_c x (ofL key) _) ?_
      rintro e w_ ⟨rfl, hb⟩
      refine ⟨_, rfl, ?_⟩
      have hs := hs.below_ hb
      have hcmp : decide (Lib.compareBytes x.key (toL (ofL key)) < 0) = klt x.key key := by rw [Eng.toL_ofL, cmp_less, klt_eq]
      refine l_v (r_lssi rfl rfl) ?_
      refine l_nil (nrm_then ?_)
      rcases Bool.eq_false_or_eq_true (klt x.key key) with hq | hq
      · refine c_true rfl (hcmp.trans hq) ?_
        refine c_region ?_
        refine l_v (by first | exact (r_move (v := iV _) rfl) | exact (r_move rfl)) ?_
        refine l_v (r_addi rfl rfl (by omega)) ?_
        refine l_v (by first | exact (r_assign (v := iV _) rfl) | exact (r_assign rfl)) ?_
        refine l_nil (nrm_block (nrm_then ?_))
        refine And.intro (by refine ⟨?_, ?_, ?_, ?_, ?_, ?_, trivial⟩ <;> ((conv => lhs; whnf); (try conv => rhs; whnf))) ?_
        refine ⟨j - (k + 1), by omega, k + 1, j, by omega, hjl, rfl, rfl, fun h q y hy => ⟨fun hqk => ?_, ((hsp h q y hy).2)⟩, hs⟩
        rcases Nat.lt_succ_iff_lt_or_eq.1 hqk with h3 | rfl
        · have hp := h
          unfold sorted at hp
          rw [List.pairwise_iff_getElem] at hp
          obtain ⟨h4, rfl⟩ := List.getElem?_eq_some_iff.1 hy
          obtain ⟨h5, rfl⟩ := List.getElem?_eq_some_iff.1 hxk
          exact klt_trans (hp _ _ h4 h5 h3) hq
        · rw [hxk] at hy; obtain rfl := Option.some.inj hy; exact hq
      · skip
        refine c_false rfl (hcmp.trans hq) ?_
        refine c_region ?_
        refine l_v (by first | exact (r_move (v := iV _) rfl) | exact (r_move rfl)) ?_
        refine l_v (by first | exact (r_assign (v := iV _) rfl) | exact (r_assign rfl)) ?_
        refine l_nil (nrm_block (nrm_then ?_))
        refine And.intro (by refine ⟨?_, ?_, ?_, ?_, ?_, ?_, trivial⟩ <;> ((conv => lhs; whnf); (try conv => rhs; whnf))) ?_
        refine ⟨k - i, by omega, i, k, by omega, by omega, rfl, rfl, fun h q y hy => ⟨(hsp h q y hy).1, fun hqk => ?_⟩, hs⟩
        rcases Nat.lt_or_eq_of_le hqk with h3 | rfl
        · cases hb2 : klt y.key key
          · rfl
          · have hp := h
            unfold sorted at hp
            rw [List.pairwise_iff_getElem] at hp
            obtain ⟨h4, rfl⟩ := List.getElem?_eq_some_iff.1 hy
            obtain ⟨h5, rfl⟩ := List.getElem?_eq_some_iff.1 hxk
            rw [klt_trans (hp _ _ h5 h4 h3) hb2] at hq
            cases hq
        · rw [hxk] at hy; obtain rfl := Option.some.inj hy; exact hq
    · obtain rfl : i = j := by have := of_decide_eq_false h1; omega
      have hres : below_ xs key i := ⟨hjl, fun h q x hx => by
        by_cases hqi : q < i
        · rw [decide_eq_true hqi]; exact (hsp h q x hx).1 hqi
        · rw [decide_eq_false hqi]; exact (hsp h q x hx).2 (by omega)⟩
      replace h1 := of_decide_eq_false h1
      refine c_exit (ex_then (ex_then (ex_hit (nrm_then ?_))))
      refine c_rseq ?_
      refine l_v (by first | exact (r_move (v := iV _) rfl) | exact (r_move rfl)) ?_
      refine l_v (by first | exact (r_move (v := iV _) rfl) | exact (r_move rfl)) ?_
      refine l_v (by first | exact (r_move (v := iV _) rfl) | exact (r_move rfl)) ?_
      refine l_v (r_lssi rfl rfl) ?_
      by_cases hil : i < xs.length
      · have f1 : decide ((i : Int) < (xs.length : Int)) = true := decide_eq_true (by omega)
        obtain ⟨x, hxk⟩ : ∃ x, xs[i]? = some x := ⟨xs[i], List.getElem?_eq_getElem hil⟩
        have hsK := hs
        obtain ⟨ad, rfl, _⟩ := hr.ad (by omega)
        have hs := hsK
        have hX := rd_item (hr.below hs.below) (fun y _ => rfl) (by decide) hxk
        refine l_v (by first | exact (r_move (v := bV _) rfl) | exact (r_move rfl)) ?_
        refine l_vg (by first | exact (r_move (v := .func _ _ _) rfl) | exact (r_move (v := .nilFunc) rfl) | exact (r_move rfl)) rfl (f1) ?_
        refine l_vg (by first | exact (r_move (v := .slice _ _ _) rfl) | exact (r_move rfl)) rfl (f1) ?_
        refine l_vg (by first | exact (r_move (v := iV _) rfl) | exact (r_move rfl)) rfl (f1) ?_
        refine l_vg (r_indexAddr_l (k := i) Try.underlying22 I44 rfl rfl hil) rfl (f1) ?_
        refine l_vg (r_load_aggP Try.underlying44 I44 rfl hX rfl) rfl (f1) ?_
        refine l_vg (by first | exact (r_move (v := sV _) rfl) | exact (r_move rfl)) rfl (f1) ?_
        refine l_callg (r_call Try.func43 rfl rfl) rfl (f1) ?_
        refine Calls.mono (find1_c x (ofL key) _) ?_
        rintro e w_ ⟨rfl, hb⟩
        refine ⟨_, rfl, ?_⟩
        have hs := hs.below_ hb
        refine l_vg (r_eqli rfl rfl) rfl (f1) ?_
        refine l_v (r_pick_t rfl f1 rfl) ?_
        refine l_v (by first | exact (r_assign (v := iV _) rfl) | exact (r_assign rfl)) ?_
        refine l_v (by first | exact (r_assign (v := bV _) rfl) | exact (r_assign rfl)) ?_
        refine l_nil (nrm_then ?_)
        refine c_ret ?_
        show Fin _ _ _ _ _
        refine fin2 rfl ?_
        exact ⟨i, _, rfl, hres, hs.below⟩
      · have f1 : decide ((i : Int) < (xs.length : Int)) = false := decide_eq_false (by omega)
        refine l_v (by first | exact (r_move (v := bV _) rfl) | exact (r_move rfl)) ?_
        refine l_no rfl (f1) ?_
        refine l_no rfl (f1) ?_
        refine l_no rfl (f1) ?_
        refine l_no rfl (f1) ?_
        refine l_no rfl (f1) ?_
        refine l_no rfl (f1) ?_
        refine l_no rfl (f1) ?_
        refine l_no rfl (f1) ?_
        refine l_v (r_pick_f rfl f1 rfl) ?_
        refine l_v (by first | exact (r_assign (v := iV _) rfl) | exact (r_assign rfl)) ?_
        refine l_v (by first | exact (r_assign (v := bV _) rfl) | exact (r_assign rfl)) ?_
        refine l_nil (nrm_then ?_)
        refine c_ret ?_
        show Fin _ _ _ _ _
        refine fin2 rfl ?_
        exact ⟨i, _, rfl, hres, hs.below⟩
theorem find_c (A : Option Addr) (c : Nat) (xs : List Ent) (key : List UInt8) (hn0 : xs.length ≤ 4611686018427387904) (w : World) (hr : Rd w 3 A xs.length (xs.flatMap entC)) :
    Calls Try.prog 18 #[.slice A xs.length c, sV (ofL key)] w fun e w' => ∃ n : Nat, e = .returned (iV (n : Int)) ∧ below_ xs key n ∧ Below w.heap.size w w' := by
  refine enter (P := Try.prog) Try.func18 rfl rfl ?_
  have hs := Sep.init w
  refine c_rseq ?_
  refine l_v (by first | exact (r_assign (v := iV _) rfl) | exact (r_assign rfl)) ?_
  refine l_nil (nrm_then ?_)
  refine c_rseq ?_
  refine l_v (by first | exact (r_move (v := .slice _ _ _) rfl) | exact (r_move rfl)) ?_
  refine l_v (by first | exact (r_move (v := sV _) rfl) | exact (r_move rfl)) ?_
  refine l_call (r_call Try.func42 rfl rfl) ?_
  refine Calls.mono (bsf_c A c xs key hn0 _ hr) ?_
  rintro e w_ ⟨n, b, rfl, hres, hb⟩
  refine ⟨_, rfl, ?_⟩
  have hs := hs.below_ hb
  refine l_v (r_move rfl) ?_
  refine l_v (r_extract rfl rfl) ?_
  refine l_v (r_extract rfl rfl) ?_
  refine l_v (by first | exact (r_assign (v := iV _) rfl) | exact (r_assign rfl)) ?_
  refine l_v (by first | exact (r_assign (v := bV _) rfl) | exact (r_assign rfl)) ?_
  refine l_nil (nrm_then ?_)
  refine c_rseq ?_
  refine l_v (by first | exact (r_move (v := iV _) rfl) | exact (r_move rfl)) ?_
  refine l_v (by first | exact (r_assign (v := iV _) rfl) | exact (r_assign rfl)) ?_
  refine l_nil (nrm_then ?_)
  refine c_ret ?_
  show Fin _ _ _ _ _
  refine fin1 rfl ?_
  exact ⟨n, rfl, hres, hs.below⟩
end Go.Proofs.Ytfjnjnkmkbbjoaa.Blk
