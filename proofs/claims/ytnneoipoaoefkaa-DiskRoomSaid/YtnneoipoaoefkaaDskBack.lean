/- The walk of Back: the loss of power. -/
import Derived.Test.YtnneoipoaoefkaaDskBackFn
import Derived.Test.YtnneoipoaoefkaaStructs
namespace Go.Proofs.Ytnneoipoaoefkaa.Dsk
open Go Go.RowKit Go.Proofs.Ytnneoipoaoefkaa.Eng
set_option linter.unusedVariables false
set_option maxRecDepth 100000
section
variable {P : Program} {ρ : Operand → Value} {w : World} {dst : Option Tmp} {ty : TypeId} {pos : String} {aft : Array Edge} {g : Option (Nat × Bool)}
theorem r_slice_top {t e : TypeId} {x : Operand} {hi : Option Operand} {A : Option Addr} {n c sz by_ : Nat} {z : Value} (h : Nat) (ht : P.underlying t = some (.slice e)) (hI : TI P e z sz by_) (hx : ρ x = .slice A n c) (hh : hi.map ρ = some (iV (h : Int))) (hb : h ≤ c) :
    Run P ρ ⟨dst, .slice t x none hi none, ty, pos, aft, g⟩ w (.slice A h c) w := by
  left
  have hel : P.underlying t = some (.slice (P.elem t)) := by unfold Program.elem; rw [ht]
  have he : P.elem t = e := by unfold Program.elem; rw [ht]
  have e0 : A.map (·.add (0 * sz)) = A := by cases A <;> simp [Addr.add]
  have hr := run_slice_h (P := P) w t A n c hel .i64 (h : Int) (by omega) (by omega)
  rw [he, hI.size, Result.andThen_ok, Int.toNat_natCast] at hr
  unfold sliced at hr
  rw [e0, ite_self, Nat.sub_zero, Nat.sub_zero] at hr
  simp only [execOp, hx, hh, Option.map_none, Sem.run_bind]
  rw [run_sliceAt_slice (P := P) w t _ _ _ _ hel]
  have hr' : (Instr.slice t (.slice A n c) none (some (iV (h : Int))) none).run P w = .ok (.slice A h c) w := hr
  rw [hr', Result.andThen_ok, Sem.run_pure]
end
theorem row_cut {w0 w : World} {e : TypeId} {A : Option Addr} {n c k : Nat} {xs : List Value} {L : List HP} (hs : Eng.Sep w0 w (RowC e 1 (.slice A n c) n xs :: L)) (hk : k ≤ n) : Eng.Sep w0 w (RowC e 1 (.slice A k c) k (xs.take k) :: L) := by
  obtain ⟨hl, ⟨hv, hn0, hx0, hs1⟩ | ⟨b, cap, cur, hv, a1, a2, a3, a4, hs1⟩⟩ := hs.rowCases
  · subst hn0 hx0
    obtain rfl : k = 0 := by omega
    cases hv
    exact hs1.rowNil e 1
  · cases hv
    have h2 := hs1.rowOf 1 k c (by omega) a2 a3
    rw [Nat.mul_one] at h2 a4
    rw [← a4, List.take_take, Nat.min_eq_left hk]
    exact h2
theorem sep_tail {w0 w : World} {R : List HP} : ∀ {M : List HP}, Eng.Sep w0 w (M ++ R) → Eng.Sep w0 w R
  | [], h => h
  | _ :: M, h => sep_tail (M := M) h.drop
abbrev keepC (q : Int × Int) : List Value := [iV q.1, iV q.2]
theorem mapF_some {l : List (Int × FileS)} {p : Int → Nat} {k v : Value} (h : mapF l p k = some v) : ∃ n x, k = iV n ∧ v = dp (p n) ∧ fget l n = some x := by
  unfold mapF at h
  split at h
  · rename_i n
    split at h
    · rename_i hs
      injection h with h
      obtain ⟨x, hx⟩ := Option.isSome_iff_exists.1 hs
      exact ⟨n, x, rfl, h.symm, hx⟩
    · cases h
  · cases h
theorem disk_file3 {w0 w : World} {A B C : HP} {l : List (Int × FileS)} {p : Int → Nat} {n : Int} {x : FileS} {R : List HP} (hn : keysNd l) (hx : fget l n = some x) (hs : Eng.Sep w0 w (A :: B :: C :: (filesH l p ++ R))) : Eng.Sep w0 w (fileH (p n) x :: A :: B :: C :: (filesH (fdel l n) p ++ R)) := by
  have h1 : Eng.Sep w0 w (A :: B :: C :: (filesH ((n, x) :: fdel l n) p ++ R)) := hs.perm (List.Perm.cons A (List.Perm.cons B (List.Perm.cons C ((files_perm (fget_perm hn hx)).append_right R))))
  exact h1.pull 3
theorem files_to {w0 w : World} {A B C : HP} {l l' : List (Int × FileS)} {p : Int → Nat} {R : List HP} (h : l.Perm l') (hs : Eng.Sep w0 w (A :: B :: C :: (filesH l p ++ R))) : Eng.Sep w0 w (A :: B :: C :: (filesH l' p ++ R)) :=
  hs.perm (List.Perm.cons A (List.Perm.cons B (List.Perm.cons C ((files_perm h).append_right R))))
theorem cells_cut {S : DiskS} {bm : Nat} {l : List (Int × FileS)} {n : Int} {x : FileS} (hn : keysNd l) (hx : fget l n = some x) (ht : x.tier < 2) : (cellsD (withF S l) bm).set (3 + x.tier * 1) (iV ((withF S l).used x.tier - (blocksN x.data.length : Int))) = cellsD (withF S (fdel l n)) bm := by
  rw [cells_set1 ht]
  have hu : (fun q => if q = x.tier then usedOf l x.tier - (blocksN x.data.length : Int) else usedOf l q) = usedOf (fdel l n) := funext fun t => sumT_cut hn hx
  show cellsD { withF S l with used := fun q => if q = x.tier then usedOf l x.tier - (blocksN x.data.length : Int) else usedOf l q } bm = _
  rw [hu]; rfl
theorem cells_add {S : DiskS} {bm : Nat} {l : List (Int × FileS)} {n : Int} {x : FileS} (ht : x.tier < 2) : (cellsD (withF S l) bm).set (3 + x.tier * 1) (iV ((withF S l).used x.tier + (blocksN x.data.length : Int))) = cellsD (withF S ((n, x) :: l)) bm := by
  rw [cells_set1 ht]
  have hu : (fun q => if q = x.tier then usedOf l x.tier + (blocksN x.data.length : Int) else usedOf l q) = usedOf ((n, x) :: l) := funext fun t => (usedOf_cons (n, x) l t).symm
  show cellsD { withF S l with used := fun q => if q = x.tier then usedOf l x.tier + (blocksN x.data.length : Int) else usedOf l q } bm = _
  rw [hu]; rfl
theorem cells_inv {S : DiskS} {bm : Nat} {l l' : List (Int × FileS)} (h : l.Perm l') : cellsD (withF S l) bm = cellsD (withF S l') bm := by
  unfold cellsD withF
  rw [usedOf_inv h]
theorem map_getD (o : Option Int) : (o.map iV).getD (iV 0) = iV (o.getD 0) := by cases o <;> rfl
theorem map_isSome (o : Option Int) : (o.map iV).isSome = o.isSome := by cases o <;> rfl
theorem cellsD_used {S : DiskS} {bm : Nat} (h : GoodS S) : cellsD S bm = cellsD (withF S S.files) bm := by
  unfold cellsD withF usedOf
  rw [h.sum 0 (by decide), h.sum 1 (by decide)]
set_option maxHeartbeats 16000000 in
theorem back_c (b : Nat) (S : DiskS) (hg : GoodS S) (A : Option Addr) (c : Nat) (K : List (Int × Int)) (w0 w : World) (R : List HP) (hs : Eng.Sep w0 w (diskH b S :: R)) (hr0 : ∀ w', Eng.Sep w0 w' R → Rd w' 2 A K.length (K.flatMap keepC)) :
    Calls Try.prog 12 #[dp b, .slice A K.length c] w fun e w' => (∃ v, e = .returned v) ∧ Eng.Sep w0 w' (diskH b (backS S K) :: R) := by
  have hr := hr0 w hs.drop
  have hn := hr.2.1
  obtain ⟨bm, p, hs⟩ := disk_open hs
  have hs : Eng.Sep w0 w (blk b (cellsD S bm) 57 :: mapD bm S.files p :: (filesH S.files p ++ R)) := hs
  rw [cellsD_used hg] at hs
  refine enter (P := Try.prog) Try.func12 rfl rfl ?_
  refine c_seq ?_
  refine c_rseq ?_
  refine l_v (r_move (v := .pointer _) rfl) ?_
  refine l_v (by first | exact (r_eqlp_some Try.underlying26 rfl rfl) | exact (r_eqlp_none Try.underlying26 rfl rfl)) ?_
  refine l_nil (nrm_then ?_)
  refine c_false rfl (rfl) ?_
  refine c_skip (nrm_then ?_)
  refine c_rseq ?_
  refine l_makeMap (.int .i64) hs ?_
  intro b16 w16 hs
  refine l_v (r_assign (v := .map _) rfl) ?_
  refine l_nil (nrm_then ?_)
  refine c_seq ?_
  refine c_rseq ?_
  refine l_v (by first | exact (r_move (v := .slice _ _ _) rfl) | exact (r_move rfl)) ?_
  refine l_v (r_len_l Try.underlying23 rfl) ?_
  refine l_v (by first | exact (r_move (v := iV _) rfl) | exact (r_move rfl)) ?_
  refine l_nil (nrm_then ?_)
  refine c_block ?_
  refine c_loopn [0, 4, 17, 18] (fun m f' w' => ∃ i, i + m = K.length ∧ f' 19 = iV (i : Int) ∧ Eng.Sep w0 w' (mapH (.int .i64) b16 (keptP (K.take i)) :: blkD b (withF S S.files) bm :: mapD bm S.files p :: (filesH S.files p ++ R))) ?_ ?_
  · exact ⟨K.length, 0, by omega, rfl, by rw [List.take_zero, keptP_nil]; exact hs⟩
  · rintro m g w_ ⟨i, hi, h19, hs⟩
    refine OkC.env ?_ (fixH (L := [(19, _)]) ⟨h19, trivial⟩)
    clear h19
    refine c_rseq ?_
    refine l_v (r_lssi rfl rfl) ?_
    refine l_nil (nrm_then ?_)
    refine c_seq ?_
    refine c_cond rfl (fun h1 => ?_) (fun h1 => ?_)
    · have hil : i < K.length := by have h := of_decide_eq_true h1; omega
      obtain ⟨q, hq⟩ : ∃ q, K[i]? = some q := ⟨K[i], List.getElem?_eq_getElem hil⟩
      have hr1 := hr0 _ (sep_tail hs.drop.drop.drop)
      obtain ⟨ad, rfl, _⟩ := hr.ad (by omega)
      have hX := rd_item hr1 (fun y _ => rfl) (by decide) hq
      have htk : K.take (i + 1) = K.take i ++ [q] := by rw [List.take_add_one, hq]; rfl
      replace h1 := of_decide_eq_true h1
      refine c_skip (nrm_then ?_)
      refine c_seq ?_
      refine c_block ?_
      refine c_rseq ?_
      refine l_v (r_indexAddr_l (k := i) Try.underlying23 I53 rfl rfl hil) ?_
      refine l_v (r_load_aggP Try.underlying53 I53 rfl hX rfl) ?_
      refine l_alloc hs I53 ?_
      intro b6 w6 hs hB6 hlt6
      refine l_store_whole (i := 0) hs rfl I53 rfl rfl rfl rfl (fun v hv => by simp [keepC] at hv; rcases hv with rfl | rfl <;> rfl) ?_
      intro w22 hs
      have hs : Eng.Sep w0 w22 (blk b6 [iV q.1, iV q.2] 53 :: mapH (.int .i64) b16 (keptP (K.take i)) :: blkD b (withF S S.files) bm :: mapD bm S.files p :: (filesH S.files p ++ R)) := hs
      refine l_nil (nrm_then ?_)
      refine c_rseq ?_
      refine l_v (r_move (v := .map _) rfl) ?_
      refine l_v (by first | exact (r_fieldAddr0 (off := 0) (T := 3) (by kernel_rfl) rfl) | exact (r_fieldAddr (off := 0) (T := 3) (by kernel_rfl) rfl)) ?_
      refine l_v (by first | exact (r_load_at (i := 0) hs rfl Try.underlying3 rfl rfl) | exact (r_load_at (i := 1) hs rfl Try.underlying3 rfl rfl) | exact (r_load_at (i := 2) hs rfl Try.underlying3 rfl rfl) | exact (r_load_at (i := 3) hs rfl Try.underlying3 rfl rfl) | exact (r_load_at (i := 4) hs rfl Try.underlying3 rfl rfl) | exact (r_load_at (i := 5) hs rfl Try.underlying3 rfl rfl) | exact (r_load_at (i := 6) hs rfl Try.underlying3 rfl rfl)) ?_
      refine l_v (r_look_ok (k := iV q.1) (hs.pull 1) Try.underlying58 Try.underlying3 I3 rfl rfl rfl) ?_
      have hkp : keptP (K.take i) (iV q.1) = (keptF (K.take i) q.1).map iV := rfl
      rw [hkp, map_getD, map_isSome]
      refine l_v (r_move rfl) ?_
      refine l_v (r_extract rfl rfl) ?_
      refine l_v (r_extract rfl rfl) ?_
      refine l_v (by first | exact (r_assign (v := iV _) rfl) | exact (r_assign rfl)) ?_
      refine l_v (by first | exact (r_assign (v := bV _) rfl) | exact (r_assign rfl)) ?_
      refine l_nil (nrm_then ?_)
      refine c_rseq ?_
      refine l_v (by first | exact (r_move (v := bV _) rfl) | exact (r_move rfl)) ?_
      refine l_v (r_not rfl) ?_
      refine l_nil (nrm_then ?_)
      rcases Bool.eq_false_or_eq_true (keptF (K.take i) q.1).isSome with hk | hk
      · refine c_false rfl ((by rw [hk]; rfl)) ?_
        refine c_skip (nrm_block (nrm_then ?_))
        refine c_region ?_
        refine l_v (r_addi rfl rfl (by omega)) ?_
        refine l_v (by first | exact (r_move (v := iV _) rfl) | exact (r_move rfl)) ?_
        refine l_nil (nrm_then ?_)
        refine And.intro (by refine ⟨?_, ?_, ?_, ?_, trivial⟩ <;> ((conv => lhs; whnf); (try conv => rhs; whnf))) ?_
        exact ⟨K.length - (i + 1), by omega, i + 1, by omega, rfl, by rw [htk, keptP_no hk]; exact hs.drop⟩
      · have hk' : keptF (K.take i) q.1 = none := by cases h : keptF (K.take i) q.1 with
          | none => rfl
          | some v => rw [h] at hk; cases hk
        refine c_true rfl ((by rw [hk]; rfl)) ?_
        refine c_region ?_
        refine l_v (r_move (v := .map _) rfl) ?_
        refine l_v (by first | exact (r_fieldAddr0 (off := 0) (T := 3) (by kernel_rfl) rfl) | exact (r_fieldAddr (off := 0) (T := 3) (by kernel_rfl) rfl)) ?_
        refine l_v (by first | exact (r_load_at (i := 0) hs rfl Try.underlying3 rfl rfl) | exact (r_load_at (i := 1) hs rfl Try.underlying3 rfl rfl) | exact (r_load_at (i := 2) hs rfl Try.underlying3 rfl rfl) | exact (r_load_at (i := 3) hs rfl Try.underlying3 rfl rfl) | exact (r_load_at (i := 4) hs rfl Try.underlying3 rfl rfl) | exact (r_load_at (i := 5) hs rfl Try.underlying3 rfl rfl) | exact (r_load_at (i := 6) hs rfl Try.underlying3 rfl rfl)) ?_
        refine l_v (by first | exact (r_fieldAddr0 (off := 1) (T := 3) (by kernel_rfl) rfl) | exact (r_fieldAddr (off := 1) (T := 3) (by kernel_rfl) rfl)) ?_
        refine l_v (by first | exact (r_load_at (i := 0) hs rfl Try.underlying3 rfl rfl) | exact (r_load_at (i := 1) hs rfl Try.underlying3 rfl rfl) | exact (r_load_at (i := 2) hs rfl Try.underlying3 rfl rfl) | exact (r_load_at (i := 3) hs rfl Try.underlying3 rfl rfl) | exact (r_load_at (i := 4) hs rfl Try.underlying3 rfl rfl) | exact (r_load_at (i := 5) hs rfl Try.underlying3 rfl rfl) | exact (r_load_at (i := 6) hs rfl Try.underlying3 rfl rfl)) ?_
        have hs := hs.pull 1
        refine l_mapUpdate (k := iV q.1) (v := iV q.2) hs Try.underlying58 Try.underlying3 rfl rfl rfl rfl ?_
        intro w36 hs
        refine l_nil (nrm_block (nrm_then ?_))
        refine c_region ?_
        refine l_v (r_addi rfl rfl (by omega)) ?_
        refine l_v (by first | exact (r_move (v := iV _) rfl) | exact (r_move rfl)) ?_
        refine l_nil (nrm_then ?_)
        refine And.intro (by refine ⟨?_, ?_, ?_, ?_, trivial⟩ <;> ((conv => lhs; whnf); (try conv => rhs; whnf))) ?_
        exact ⟨K.length - (i + 1), by omega, i + 1, by omega, rfl, by rw [htk, keptP_yes hk']; exact (hs.pull 1).drop⟩
    · obtain rfl : i = K.length := by have h := of_decide_eq_false h1; omega
      rw [List.take_length] at hs
      replace h1 := of_decide_eq_false h1
      refine c_exit (ex_then (ex_then (ex_hit (nrm_then ?_))))
      refine c_seq ?_
      refine c_rseq ?_
      refine l_v (r_move (v := .pointer _) rfl) ?_
      refine l_v (by first | exact (r_nilCheck_p rfl) | exact (r_nilCheck_f rfl)) ?_
      refine l_v (by first | exact (r_fieldAddr0 (off := 0) (T := 54) (by kernel_rfl) rfl) | exact (r_fieldAddr (off := 0) (T := 54) (by kernel_rfl) rfl)) ?_
      refine l_v (by first | exact (r_load_at (i := 0) hs rfl Try.underlying54 rfl rfl) | exact (r_load_at (i := 1) hs rfl Try.underlying54 rfl rfl) | exact (r_load_at (i := 2) hs rfl Try.underlying54 rfl rfl) | exact (r_load_at (i := 3) hs rfl Try.underlying54 rfl rfl) | exact (r_load_at (i := 4) hs rfl Try.underlying54 rfl rfl) | exact (r_load_at (i := 5) hs rfl Try.underlying54 rfl rfl) | exact (r_load_at (i := 6) hs rfl Try.underlying54 rfl rfl)) ?_
      have hs := hs.pull 2
      refine l_range hs Try.underlying54 rfl ?_
      intro r42 w42 cnt0 hs
      refine l_nil (nrm_then ?_)
      refine c_block ?_
      have hml : ∀ Lf : Value → Bool, keysNd (midL K Lf S.files) := fun Lf => mid_nd hg.nd
      refine c_loopn [0, 4, 42] (fun m f' w' => ∃ Lf, Eng.Sep w0 w' (rangeH (.int .i64) bm r42 (mapF (midL K Lf S.files) p) Lf m :: blk b (cellsD (withF S (midL K Lf S.files)) bm) 57 :: mapH (.int .i64) b16 (keptP K) :: (filesH (midL K Lf S.files) p ++ R))) ?_ ?_
      · exact ⟨cnt0, fun _ => true, by rw [mid_all]; exact (hs.pull 1).pull 2 |>.pull 2⟩
      · rintro m g w_ ⟨Lf, hs⟩
        have hM := hml Lf
        refine c_rseq ?_
        refine l_next hs rfl ?_ ?_
        · intro hc hall
          have hfin : midL K Lf S.files = backL K S.files := mid_congr fun q hq => by
            cases hl : Lf (iV q.1) with
            | false => rfl
            | true =>
              exfalso
              have hm : q ∈ midL K Lf S.files := List.mem_filterMap.2 ⟨q, hq, by rw [if_pos hl]⟩
              have hF : mapF (midL K Lf S.files) p (iV q.1) = some (dp (p q.1)) := by
                show (if (fget (midL K Lf S.files) q.1).isSome = true then _ else none) = _
                rw [fget_of hM hm]; rfl
              rw [hall _ _ hF] at hl
              cases hl
          rw [hfin] at hs
          refine l_v (r_extract rfl rfl) ?_
          refine l_nil (nrm_then ?_)
          refine c_seq ?_
          refine c_false rfl (rfl) ?_
          have hs := hs.rangeMap.pull 1
          have hs : Eng.Sep w0 w_ (blk b [.map (some bm), iV ((backS S K).room 0), iV ((backS S K).room 1), iV ((backS S K).used 0), iV ((backS S K).used 1), iV (backS S K).root, iV (backS S K).steps, iV S.fuse, bV S.down] 57 :: mapD bm (backS S K).files p :: mapH (.int .i64) b16 (keptP K) :: (filesH (backS S K).files p ++ R)) := hs
          refine c_exit (ex_then (ex_then (ex_hit (nrm_then ?_))))
          refine c_rseq ?_
          refine l_v (r_move (v := .pointer _) rfl) ?_
          refine l_v (by first | exact (r_nilCheck_p rfl) | exact (r_nilCheck_f rfl)) ?_
          refine l_v (by first | exact (r_fieldAddr0 (off := 8) (T := 4) (by kernel_rfl) rfl) | exact (r_fieldAddr (off := 8) (T := 4) (by kernel_rfl) rfl)) ?_
          first | refine l_store (i := 0) (v := bV _) hs rfl I4 rfl rfl (by first | (simp; done) | (simp; omega) | omega) ?_ | refine l_store (i := 1) (v := bV _) hs rfl I4 rfl rfl (by first | (simp; done) | (simp; omega) | omega) ?_ | refine l_store (i := 2) (v := bV _) hs rfl I4 rfl rfl (by first | (simp; done) | (simp; omega) | omega) ?_ | refine l_store (i := 3) (v := bV _) hs rfl I4 rfl rfl (by first | (simp; done) | (simp; omega) | omega) ?_ | refine l_store (i := 4) (v := bV _) hs rfl I4 rfl rfl (by first | (simp; done) | (simp; omega) | omega) ?_ | refine l_store (i := 5) (v := bV _) hs rfl I4 rfl rfl (by first | (simp; done) | (simp; omega) | omega) ?_ | refine l_store (i := 6) (v := bV _) hs rfl I4 rfl rfl (by first | (simp; done) | (simp; omega) | omega) ?_
          intro w_ hs
          refine l_nil (nrm_then ?_)
          refine c_region ?_
          refine l_v (r_move (v := .pointer _) rfl) ?_
          refine l_v (by first | exact (r_nilCheck_p rfl) | exact (r_nilCheck_f rfl)) ?_
          refine l_v (by first | exact (r_fieldAddr0 (off := 7) (T := 3) (by kernel_rfl) rfl) | exact (r_fieldAddr (off := 7) (T := 3) (by kernel_rfl) rfl)) ?_
          first | refine l_store (i := 0) (v := iV _) hs rfl I3 rfl rfl (by first | (simp; done) | (simp; omega) | omega) ?_ | refine l_store (i := 1) (v := iV _) hs rfl I3 rfl rfl (by first | (simp; done) | (simp; omega) | omega) ?_ | refine l_store (i := 2) (v := iV _) hs rfl I3 rfl rfl (by first | (simp; done) | (simp; omega) | omega) ?_ | refine l_store (i := 3) (v := iV _) hs rfl I3 rfl rfl (by first | (simp; done) | (simp; omega) | omega) ?_ | refine l_store (i := 4) (v := iV _) hs rfl I3 rfl rfl (by first | (simp; done) | (simp; omega) | omega) ?_ | refine l_store (i := 5) (v := iV _) hs rfl I3 rfl rfl (by first | (simp; done) | (simp; omega) | omega) ?_ | refine l_store (i := 6) (v := iV _) hs rfl I3 rfl rfl (by first | (simp; done) | (simp; omega) | omega) ?_
          intro w_ hs
          refine l_nil ?_
          show Fin _ _ _ _ _
          refine fin0 rfl ?_
          exact ⟨⟨_, rfl⟩, disk_shut (S := backS S K) (bm := bm) (p := p) ((hs.pull 2).drop)⟩
        · intro k v w43 cnt1 hF hL hlt hs
          obtain ⟨n, x, rfl, rfl, hx⟩ := mapF_some hF
          have hgs := lfDel_same Lf (iV n)
          have hgo : ∀ m, m ≠ n → lfDel Lf (iV n) (iV m) = Lf (iV m) := fun m hm => lfDel_other Lf (iV n) (fun e => hm (by injection e))
          obtain ⟨hxS, hperm⟩ := mid_step (K := K) (Lf := Lf) (Lg := lfDel Lf (iV n)) hg.nd hL hgs hgo hx
          obtain ⟨z1, z2, z3, z4, z5, z6⟩ := hg.size (S := S) hxS
          have hMg := hml (lfDel Lf (iV n))
          have hle := hg.le x.tier z2
          have hsum := hg.sum x.tier z2
          have hsm := mid_sum (K := K) (Lf := Lf) x.tier S.files
          have hgx := sumT_get (t := x.tier) hM hx
          rw [if_pos rfl] at hgx
          have hkp : keptP K (iV n) = (keptF K n).map iV := rfl
          generalize lfDel Lf (iV n) = Lg at *
          generalize midL K Lf S.files = ml at *
          generalize hmg : midL K Lg S.files = mg at *
          generalize keptF K n = kv at *
          refine l_v (r_extract rfl rfl) ?_
          refine l_nil (nrm_then ?_)
          refine c_seq ?_
          refine c_true rfl (rfl) ?_
          refine c_skip (nrm_then ?_)
          refine c_block ?_
          refine c_rseq ?_
          refine l_v (r_entry hs rfl) ?_
          refine l_v (r_extract rfl rfl) ?_
          refine l_v (r_extract rfl rfl) ?_
          refine l_v (by first | exact (r_assign (v := iV _) rfl) | exact (r_assign rfl)) ?_
          refine l_v (r_assign (v := .pointer _) rfl) ?_
          refine l_nil (nrm_then ?_)
          refine c_rseq ?_
          refine l_v (r_move (v := .map _) rfl) ?_
          refine l_v (by first | exact (r_move (v := iV _) rfl) | exact (r_move rfl)) ?_
          refine l_v (r_look_ok (k := iV n) (hs.pull 2) Try.underlying58 Try.underlying3 I3 rfl rfl rfl) ?_
          rw [hkp, map_getD, map_isSome]
          have hs := hs.rangeWeak
          have hs := disk_file3 hM hx hs
          obtain ⟨v, hs⟩ := file_open hs
          obtain ⟨A2, c2, rfl, hc⟩ := (hs.pull 1).rowForm
          have hut : (withF S ml).used x.tier = (sumT x.tier ml : Int) := rfl
          refine l_v (r_move rfl) ?_
          refine l_v (r_extract rfl rfl) ?_
          refine l_v (r_extract rfl rfl) ?_
          refine l_v (by first | exact (r_assign (v := iV _) rfl) | exact (r_assign rfl)) ?_
          refine l_v (by first | exact (r_assign (v := bV _) rfl) | exact (r_assign rfl)) ?_
          refine l_nil (nrm_then ?_)
          refine c_seq ?_
          refine c_float [14] 18 (by kernel_rfl) (by kernel_rfl) ?_
          intro hbF
          show OkF _ _ _ _ _ _ (_ :: _) 0 _ _
          refine f_v (fun wl hbl => by have hs := hs.below_ hbl; exact (r_move (v := .pointer _) rfl)) ?_
          refine f_v (fun wl hbl => by have hs := hs.below_ hbl; exact (r_move (v := .pointer _) rfl)) ?_
          refine f_v (fun wl hbl => by have hs := hs.below_ hbl; first | exact (r_nilCheck_p rfl) | exact (r_nilCheck_f rfl)) ?_
          refine f_v (fun wl hbl => by have hs := hs.below_ hbl; first | exact (r_fieldAddr0 (off := 0) (T := 35) (by kernel_rfl) rfl) | exact (r_fieldAddr (off := 0) (T := 35) (by kernel_rfl) rfl)) ?_
          refine f_v (fun wl hbl => by have hs := hs.below_ hbl; first | exact (r_load_at (i := 0) hs rfl Try.underlying35 rfl rfl) | exact (r_load_at (i := 1) hs rfl Try.underlying35 rfl rfl) | exact (r_load_at (i := 2) hs rfl Try.underlying35 rfl rfl) | exact (r_load_at (i := 3) hs rfl Try.underlying35 rfl rfl) | exact (r_load_at (i := 4) hs rfl Try.underlying35 rfl rfl) | exact (r_load_at (i := 5) hs rfl Try.underlying35 rfl rfl) | exact (r_load_at (i := 6) hs rfl Try.underlying35 rfl rfl)) ?_
          refine f_v (fun wl hbl => by have hs := hs.below_ hbl; first | exact (r_nilCheck_p rfl) | exact (r_nilCheck_f rfl)) ?_
          refine f_v (fun wl hbl => by have hs := hs.below_ hbl; first | exact (r_fieldAddr0 (off := 3) (T := 55) (by kernel_rfl) rfl) | exact (r_fieldAddr (off := 3) (T := 55) (by kernel_rfl) rfl)) ?_
          refine f_v (fun wl hbl => by have hs := hs.below_ hbl; exact (r_indexAddr_a (k := x.tier) Try.underlying55 I3 rfl rfl z2)) ?_
          refine f_v (fun wl hbl => by have hs := hs.below_ hbl; exact (r_load_at (i := 3) hs rfl Try.underlying3 rfl (cells_used1 z2))) ?_
          refine f_v (fun wl hbl => by have hs := hs.below_ hbl; exact (r_move (v := .pointer _) rfl)) ?_
          refine f_v (fun wl hbl => by have hs := hs.below_ hbl; first | exact (r_nilCheck_p rfl) | exact (r_nilCheck_f rfl)) ?_
          refine f_v (fun wl hbl => by have hs := hs.below_ hbl; first | exact (r_fieldAddr0 (off := 1) (T := 61) (by kernel_rfl) rfl) | exact (r_fieldAddr (off := 1) (T := 61) (by kernel_rfl) rfl)) ?_
          refine f_v (fun wl hbl => by have hs := hs.below_ hbl; first | exact (r_load_at (i := 0) hs rfl Try.underlying61 rfl rfl) | exact (r_load_at (i := 1) hs rfl Try.underlying61 rfl rfl) | exact (r_load_at (i := 2) hs rfl Try.underlying61 rfl rfl) | exact (r_load_at (i := 3) hs rfl Try.underlying61 rfl rfl) | exact (r_load_at (i := 4) hs rfl Try.underlying61 rfl rfl) | exact (r_load_at (i := 5) hs rfl Try.underlying61 rfl rfl) | exact (r_load_at (i := 6) hs rfl Try.underlying61 rfl rfl)) ?_
          refine f_v (fun wl hbl => by have hs := hs.below_ hbl; exact (r_len_l Try.underlying61 rfl)) ?_
          refine f_call (r_call Try.func28 rfl rfl) ?_
          refine Calls.mono (blocks_c x.data.length (by omega) _) ?_
          rintro e w_ ⟨rfl, hb⟩
          have hbF := hbF.trans (Below.mono hb hbF.size)
          refine ⟨_, rfl, hb, ?_⟩
          refine f_v (fun wl hbl => by have hs := hs.below_ hbl; exact (r_subi rfl rfl (by rw [hut]; omega))) ?_
          refine f_v (fun wl hbl => by have hs := hs.below_ hbl; first | exact (r_nilCheck_p rfl) | exact (r_nilCheck_f rfl)) ?_
          refine f_v (fun wl hbl => by have hs := hs.below_ hbl; first | exact (r_fieldAddr0 (off := 3) (T := 55) (by kernel_rfl) rfl) | exact (r_fieldAddr (off := 3) (T := 55) (by kernel_rfl) rfl)) ?_
          refine f_nil ?_
          have hs := hs.below_ hbF
          show OkL _ _ _ _ (_ :: _) _ _
          refine l_v (r_indexAddr_a (k := x.tier) Try.underlying55 I3 rfl rfl z2) ?_
          refine l_store (i := 3) hs rfl I3 rfl rfl (by show 3 + x.tier * 1 < 9; omega) ?_
          intro w72 hs
          have hs : Eng.Sep w0 w72 (blk (p n) [iV (x.tier : Int), .slice A2 x.data.length c2, iV x.sure] 63 :: RowC 5 1 (.slice A2 x.data.length c2) x.data.length (x.data.map u8V) :: rangeH (.int .i64) bm r42 (mapF ml p) Lg cnt1 :: blk b (cellsD (withF S (fdel ml n)) bm) 57 :: mapH (.int .i64) b16 (keptP K) :: (filesH (fdel ml n) p ++ R)) := by
            rw [← cells_cut hM hx z2]; exact hs
          have hsu : 0 ≤ sureB x ∧ sureB x ≤ (x.data.length : Int) := by unfold sureB; split <;> omega
          have hcl := cut_le ⟨z4, z5⟩ kv
          refine l_nil (nrm_then ?_)
          refine c_seq ?_
          refine c_seq ?_
          refine c_mid [0, 4, 9, 10, 11, 42] (fun f' w' => w' = w72 ∧ f' 81 = bV (decide (x.sure < 0 ∧ kv = none))) ?_ ?_
          · by_cases c1 : x.sure < 0
            · have f1 : decide (x.sure < 0) = true := decide_eq_true c1
              refine c_region ?_
              refine l_v (r_move (v := .pointer _) rfl) ?_
              refine l_v (by first | exact (r_nilCheck_p rfl) | exact (r_nilCheck_f rfl)) ?_
              refine l_v (by first | exact (r_fieldAddr0 (off := 2) (T := 3) (by kernel_rfl) rfl) | exact (r_fieldAddr (off := 2) (T := 3) (by kernel_rfl) rfl)) ?_
              refine l_v (by first | exact (r_load_at (i := 0) hs rfl Try.underlying3 rfl rfl) | exact (r_load_at (i := 1) hs rfl Try.underlying3 rfl rfl) | exact (r_load_at (i := 2) hs rfl Try.underlying3 rfl rfl) | exact (r_load_at (i := 3) hs rfl Try.underlying3 rfl rfl) | exact (r_load_at (i := 4) hs rfl Try.underlying3 rfl rfl) | exact (r_load_at (i := 5) hs rfl Try.underlying3 rfl rfl) | exact (r_load_at (i := 6) hs rfl Try.underlying3 rfl rfl)) ?_
              refine l_v (r_lssi rfl rfl) ?_
              refine l_v (by first | exact (r_move (v := bV _) rfl) | exact (r_move rfl)) ?_
              refine l_vg (by first | exact (r_move (v := bV _) rfl) | exact (r_move rfl)) rfl (f1) ?_
              refine l_vg (r_not rfl) rfl (f1) ?_
              refine l_v (r_pick_t rfl f1 rfl) ?_
              refine l_nil (nrm_then ?_)
              refine And.intro (by refine ⟨?_, ?_, ?_, ?_, ?_, ?_, trivial⟩ <;> ((conv => lhs; whnf); (try conv => rhs; whnf))) ?_
              exact ⟨rfl, congrArg bV (by cases kv <;> simp [c1])⟩
            · have f1 : decide (x.sure < 0) = false := decide_eq_false c1
              refine c_region ?_
              refine l_v (r_move (v := .pointer _) rfl) ?_
              refine l_v (by first | exact (r_nilCheck_p rfl) | exact (r_nilCheck_f rfl)) ?_
              refine l_v (by first | exact (r_fieldAddr0 (off := 2) (T := 3) (by kernel_rfl) rfl) | exact (r_fieldAddr (off := 2) (T := 3) (by kernel_rfl) rfl)) ?_
              refine l_v (by first | exact (r_load_at (i := 0) hs rfl Try.underlying3 rfl rfl) | exact (r_load_at (i := 1) hs rfl Try.underlying3 rfl rfl) | exact (r_load_at (i := 2) hs rfl Try.underlying3 rfl rfl) | exact (r_load_at (i := 3) hs rfl Try.underlying3 rfl rfl) | exact (r_load_at (i := 4) hs rfl Try.underlying3 rfl rfl) | exact (r_load_at (i := 5) hs rfl Try.underlying3 rfl rfl) | exact (r_load_at (i := 6) hs rfl Try.underlying3 rfl rfl)) ?_
              refine l_v (r_lssi rfl rfl) ?_
              refine l_v (by first | exact (r_move (v := bV _) rfl) | exact (r_move rfl)) ?_
              refine l_no rfl (f1) ?_
              refine l_no rfl (f1) ?_
              refine l_v (r_pick_f rfl f1 rfl) ?_
              refine l_nil (nrm_then ?_)
              refine And.intro (by refine ⟨?_, ?_, ?_, ?_, ?_, ?_, trivial⟩ <;> ((conv => lhs; whnf); (try conv => rhs; whnf))) ?_
              exact ⟨rfl, congrArg bV (by simp [c1])⟩
          · rintro g w_ ⟨rfl, h81⟩
            show OkC _ _ _ _ _ _
            refine OkC.env ?_ (fixH (L := [(81, _)]) ⟨h81, trivial⟩)
            clear h81
            refine c_cond rfl (fun c1 => ?_) (fun c1 => ?_)
            · replace c1 := of_decide_eq_true c1
              refine c_rseq ?_
              refine l_v (r_move (v := .pointer _) rfl) ?_
              refine l_v (by first | exact (r_nilCheck_p rfl) | exact (r_nilCheck_f rfl)) ?_
              refine l_v (by first | exact (r_fieldAddr0 (off := 0) (T := 54) (by kernel_rfl) rfl) | exact (r_fieldAddr (off := 0) (T := 54) (by kernel_rfl) rfl)) ?_
              refine l_v (by first | exact (r_load_at (i := 0) hs rfl Try.underlying54 rfl rfl) | exact (r_load_at (i := 1) hs rfl Try.underlying54 rfl rfl) | exact (r_load_at (i := 2) hs rfl Try.underlying54 rfl rfl) | exact (r_load_at (i := 3) hs rfl Try.underlying54 rfl rfl) | exact (r_load_at (i := 4) hs rfl Try.underlying54 rfl rfl) | exact (r_load_at (i := 5) hs rfl Try.underlying54 rfl rfl) | exact (r_load_at (i := 6) hs rfl Try.underlying54 rfl rfl)) ?_
              refine l_v (by first | exact (r_move (v := iV _) rfl) | exact (r_move rfl)) ?_
              have hbk : backF x kv = none := if_pos c1
              rw [hbk] at hperm
              dsimp only at hperm
              have hs := hs.drop.drop
              refine l_delR (k := iV n) hs Try.underlying54 Try.underlying3 rfl rfl rfl ?_
              intro w86 cnt2 hle2 hs
              refine l_nil (nrm_then ?_)
              refine c_exit (ex_then (ex_hit (nrm_then ?_)))
              refine And.intro (by refine ⟨?_, ?_, ?_, trivial⟩ <;> ((conv => lhs; whnf); (try conv => rhs; whnf))) ?_
              refine ⟨cnt2, by omega, Lg, ?_⟩
              show Eng.Sep w0 w86 (rangeH (.int .i64) bm r42 (mapF (midL K Lg S.files) p) Lg cnt2 :: blk b (cellsD (withF S (midL K Lg S.files)) bm) 57 :: mapH (.int .i64) b16 (keptP K) :: (filesH (midL K Lg S.files) p ++ R))
              rw [hmg, mapF_inv hMg hperm, mapF_del, cells_inv hperm]
              exact files_to hperm.symm hs
            · have c1' := of_decide_eq_false c1
              have hbk : backF x kv = some ⟨x.tier, x.data.take (cutB x kv), (cutB x kv : Int)⟩ := if_neg c1'
              rw [hbk] at hperm
              dsimp only at hperm
              have hlt2 : (x.data.take (cutB x kv)).length = cutB x kv := by rw [List.length_take]; omega
              replace c1 := of_decide_eq_false c1
              refine c_skip (nrm_then ?_)
              refine c_rseq ?_
              refine l_v (r_move (v := .pointer _) rfl) ?_
              refine l_v (by first | exact (r_nilCheck_p rfl) | exact (r_nilCheck_f rfl)) ?_
              refine l_v (by first | exact (r_fieldAddr0 (off := 2) (T := 3) (by kernel_rfl) rfl) | exact (r_fieldAddr (off := 2) (T := 3) (by kernel_rfl) rfl)) ?_
              refine l_v (by first | exact (r_load_at (i := 0) hs rfl Try.underlying3 rfl rfl) | exact (r_load_at (i := 1) hs rfl Try.underlying3 rfl rfl) | exact (r_load_at (i := 2) hs rfl Try.underlying3 rfl rfl) | exact (r_load_at (i := 3) hs rfl Try.underlying3 rfl rfl) | exact (r_load_at (i := 4) hs rfl Try.underlying3 rfl rfl) | exact (r_load_at (i := 5) hs rfl Try.underlying3 rfl rfl) | exact (r_load_at (i := 6) hs rfl Try.underlying3 rfl rfl)) ?_
              refine l_v (r_max rfl rfl) ?_
              refine l_v (by first | exact (r_assign (v := iV _) rfl) | exact (r_assign rfl)) ?_
              refine l_nil (nrm_then ?_)
              refine c_seq ?_
              refine c_tail 18 (by kernel_rfl) (by kernel_rfl) ?_
              have hs := hs.drew
              show OkS _ _ _ _ _ (_ :: _) _
              refine s_v (r_move (v := .pointer _) rfl) ?_
              refine s_v (r_move (v := .pointer _) rfl) ?_
              refine s_v (by first | exact (r_nilCheck_p rfl) | exact (r_nilCheck_f rfl)) ?_
              refine s_v (by first | exact (r_fieldAddr0 (off := 1) (T := 61) (by kernel_rfl) rfl) | exact (r_fieldAddr (off := 1) (T := 61) (by kernel_rfl) rfl)) ?_
              refine s_v (by first | exact (r_load_at (i := 0) hs rfl Try.underlying61 rfl rfl) | exact (r_load_at (i := 1) hs rfl Try.underlying61 rfl rfl) | exact (r_load_at (i := 2) hs rfl Try.underlying61 rfl rfl) | exact (r_load_at (i := 3) hs rfl Try.underlying61 rfl rfl) | exact (r_load_at (i := 4) hs rfl Try.underlying61 rfl rfl) | exact (r_load_at (i := 5) hs rfl Try.underlying61 rfl rfl) | exact (r_load_at (i := 6) hs rfl Try.underlying61 rfl rfl)) ?_
              refine s_v (by first | exact (r_move (v := iV _) rfl) | exact (r_move rfl)) ?_
              refine s_v (by first | exact (r_move (v := iV _) rfl) | exact (r_move rfl)) ?_
              refine s_v (r_max rfl rfl) ?_
              refine s_v (r_move (v := .pointer _) rfl) ?_
              refine s_v (by first | exact (r_nilCheck_p rfl) | exact (r_nilCheck_f rfl)) ?_
              refine s_v (by first | exact (r_fieldAddr0 (off := 1) (T := 61) (by kernel_rfl) rfl) | exact (r_fieldAddr (off := 1) (T := 61) (by kernel_rfl) rfl)) ?_
              refine s_v (by first | exact (r_load_at (i := 0) hs rfl Try.underlying61 rfl rfl) | exact (r_load_at (i := 1) hs rfl Try.underlying61 rfl rfl) | exact (r_load_at (i := 2) hs rfl Try.underlying61 rfl rfl) | exact (r_load_at (i := 3) hs rfl Try.underlying61 rfl rfl) | exact (r_load_at (i := 4) hs rfl Try.underlying61 rfl rfl) | exact (r_load_at (i := 5) hs rfl Try.underlying61 rfl rfl) | exact (r_load_at (i := 6) hs rfl Try.underlying61 rfl rfl)) ?_
              refine s_v (r_len_l Try.underlying61 rfl) ?_
              refine s_v (by first | exact (r_move (v := iV _) rfl) | exact (r_move rfl)) ?_
              refine s_v (r_subi rfl rfl (by have h := hsu; unfold sureB at h; omega)) ?_
              refine s_v (r_min rfl rfl) ?_
              refine s_v (r_addi rfl rfl (by have h := hcl.2.2; have h2 := hcl.2.1; unfold clampB sureB at h; omega)) ?_
              refine s_v (r_slice_top (cutB x kv) Try.underlying61 I5 rfl (by rw [hcl.2.2]; rfl) (by omega)) ?_
              refine s_nil ?_
              show OkL _ _ _ _ (_ :: _) _ _
              refine l_v (by first | exact (r_nilCheck_p rfl) | exact (r_nilCheck_f rfl)) ?_
              refine l_v (by first | exact (r_fieldAddr0 (off := 1) (T := 61) (by kernel_rfl) rfl) | exact (r_fieldAddr (off := 1) (T := 61) (by kernel_rfl) rfl)) ?_
              first | refine l_store (i := 0) (v := .slice _ _ _) hs rfl I61 rfl rfl (by first | (simp; done) | (simp; omega) | omega) ?_ | refine l_store (i := 1) (v := .slice _ _ _) hs rfl I61 rfl rfl (by first | (simp; done) | (simp; omega) | omega) ?_ | refine l_store (i := 2) (v := .slice _ _ _) hs rfl I61 rfl rfl (by first | (simp; done) | (simp; omega) | omega) ?_ | refine l_store (i := 3) (v := .slice _ _ _) hs rfl I61 rfl rfl (by first | (simp; done) | (simp; omega) | omega) ?_ | refine l_store (i := 4) (v := .slice _ _ _) hs rfl I61 rfl rfl (by first | (simp; done) | (simp; omega) | omega) ?_ | refine l_store (i := 5) (v := .slice _ _ _) hs rfl I61 rfl rfl (by first | (simp; done) | (simp; omega) | omega) ?_ | refine l_store (i := 6) (v := .slice _ _ _) hs rfl I61 rfl rfl (by first | (simp; done) | (simp; omega) | omega) ?_
              intro w_ hs
              refine l_nil (nrm_then ?_)
              refine c_rseq ?_
              refine l_v (r_move (v := .pointer _) rfl) ?_
              refine l_v (r_move (v := .pointer _) rfl) ?_
              refine l_v (by first | exact (r_nilCheck_p rfl) | exact (r_nilCheck_f rfl)) ?_
              refine l_v (by first | exact (r_fieldAddr0 (off := 1) (T := 61) (by kernel_rfl) rfl) | exact (r_fieldAddr (off := 1) (T := 61) (by kernel_rfl) rfl)) ?_
              refine l_v (by first | exact (r_load_at (i := 0) hs rfl Try.underlying61 rfl rfl) | exact (r_load_at (i := 1) hs rfl Try.underlying61 rfl rfl) | exact (r_load_at (i := 2) hs rfl Try.underlying61 rfl rfl) | exact (r_load_at (i := 3) hs rfl Try.underlying61 rfl rfl) | exact (r_load_at (i := 4) hs rfl Try.underlying61 rfl rfl) | exact (r_load_at (i := 5) hs rfl Try.underlying61 rfl rfl) | exact (r_load_at (i := 6) hs rfl Try.underlying61 rfl rfl)) ?_
              refine l_v (r_len_l Try.underlying61 rfl) ?_
              refine l_v (by first | exact (r_nilCheck_p rfl) | exact (r_nilCheck_f rfl)) ?_
              refine l_v (by first | exact (r_fieldAddr0 (off := 2) (T := 3) (by kernel_rfl) rfl) | exact (r_fieldAddr (off := 2) (T := 3) (by kernel_rfl) rfl)) ?_
              first | refine l_store (i := 0) (v := iV _) hs rfl I3 rfl rfl (by first | (simp; done) | (simp; omega) | omega) ?_ | refine l_store (i := 1) (v := iV _) hs rfl I3 rfl rfl (by first | (simp; done) | (simp; omega) | omega) ?_ | refine l_store (i := 2) (v := iV _) hs rfl I3 rfl rfl (by first | (simp; done) | (simp; omega) | omega) ?_ | refine l_store (i := 3) (v := iV _) hs rfl I3 rfl rfl (by first | (simp; done) | (simp; omega) | omega) ?_ | refine l_store (i := 4) (v := iV _) hs rfl I3 rfl rfl (by first | (simp; done) | (simp; omega) | omega) ?_ | refine l_store (i := 5) (v := iV _) hs rfl I3 rfl rfl (by first | (simp; done) | (simp; omega) | omega) ?_ | refine l_store (i := 6) (v := iV _) hs rfl I3 rfl rfl (by first | (simp; done) | (simp; omega) | omega) ?_
              intro w_ hs
              refine l_nil (nrm_then ?_)
              have hs := (row_cut (k := cutB x kv) (hs.pull 1) hcl.2.1).pull 1
              rw [← List.map_take] at hs
              generalize hcut : cutB x kv = q at *
              have hs : Eng.Sep w0 w_ (blk (p n) [iV (x.tier : Int), .slice A2 q c2, iV (q : Int)] 63 :: RowC 5 1 (.slice A2 q c2) q ((x.data.take q).map u8V) :: rangeH (.int .i64) bm r42 (mapF ml p) Lg cnt1 :: blk b (cellsD (withF S (fdel ml n)) bm) 57 :: mapH (.int .i64) b16 (keptP K) :: (filesH (fdel ml n) p ++ R)) := hs
              have hbq : (blocksN q : Int) ≤ (blocksN x.data.length : Int) := by unfold blocksN; omega
              have hut2 : (withF S (fdel ml n)).used x.tier = (sumT x.tier (fdel ml n) : Int) := rfl
              refine c_float [14] 18 (by kernel_rfl) (by kernel_rfl) ?_
              intro hbF
              show OkF _ _ _ _ _ _ (_ :: _) 0 _ _
              refine f_v (fun wl hbl => by have hs := hs.below_ hbl; exact (r_move (v := .pointer _) rfl)) ?_
              refine f_v (fun wl hbl => by have hs := hs.below_ hbl; exact (r_move (v := .pointer _) rfl)) ?_
              refine f_v (fun wl hbl => by have hs := hs.below_ hbl; first | exact (r_nilCheck_p rfl) | exact (r_nilCheck_f rfl)) ?_
              refine f_v (fun wl hbl => by have hs := hs.below_ hbl; first | exact (r_fieldAddr0 (off := 0) (T := 35) (by kernel_rfl) rfl) | exact (r_fieldAddr (off := 0) (T := 35) (by kernel_rfl) rfl)) ?_
              refine f_v (fun wl hbl => by have hs := hs.below_ hbl; first | exact (r_load_at (i := 0) hs rfl Try.underlying35 rfl rfl) | exact (r_load_at (i := 1) hs rfl Try.underlying35 rfl rfl) | exact (r_load_at (i := 2) hs rfl Try.underlying35 rfl rfl) | exact (r_load_at (i := 3) hs rfl Try.underlying35 rfl rfl) | exact (r_load_at (i := 4) hs rfl Try.underlying35 rfl rfl) | exact (r_load_at (i := 5) hs rfl Try.underlying35 rfl rfl) | exact (r_load_at (i := 6) hs rfl Try.underlying35 rfl rfl)) ?_
              refine f_v (fun wl hbl => by have hs := hs.below_ hbl; first | exact (r_nilCheck_p rfl) | exact (r_nilCheck_f rfl)) ?_
              refine f_v (fun wl hbl => by have hs := hs.below_ hbl; first | exact (r_fieldAddr0 (off := 3) (T := 55) (by kernel_rfl) rfl) | exact (r_fieldAddr (off := 3) (T := 55) (by kernel_rfl) rfl)) ?_
              refine f_v (fun wl hbl => by have hs := hs.below_ hbl; exact (r_indexAddr_a (k := x.tier) Try.underlying55 I3 rfl rfl z2)) ?_
              refine f_v (fun wl hbl => by have hs := hs.below_ hbl; exact (r_load_at (i := 3) hs rfl Try.underlying3 rfl (cells_used1 z2))) ?_
              refine f_v (fun wl hbl => by have hs := hs.below_ hbl; exact (r_move (v := .pointer _) rfl)) ?_
              refine f_v (fun wl hbl => by have hs := hs.below_ hbl; first | exact (r_nilCheck_p rfl) | exact (r_nilCheck_f rfl)) ?_
              refine f_v (fun wl hbl => by have hs := hs.below_ hbl; first | exact (r_fieldAddr0 (off := 1) (T := 61) (by kernel_rfl) rfl) | exact (r_fieldAddr (off := 1) (T := 61) (by kernel_rfl) rfl)) ?_
              refine f_v (fun wl hbl => by have hs := hs.below_ hbl; first | exact (r_load_at (i := 0) hs rfl Try.underlying61 rfl rfl) | exact (r_load_at (i := 1) hs rfl Try.underlying61 rfl rfl) | exact (r_load_at (i := 2) hs rfl Try.underlying61 rfl rfl) | exact (r_load_at (i := 3) hs rfl Try.underlying61 rfl rfl) | exact (r_load_at (i := 4) hs rfl Try.underlying61 rfl rfl) | exact (r_load_at (i := 5) hs rfl Try.underlying61 rfl rfl) | exact (r_load_at (i := 6) hs rfl Try.underlying61 rfl rfl)) ?_
              refine f_v (fun wl hbl => by have hs := hs.below_ hbl; exact (r_len_l Try.underlying61 rfl)) ?_
              refine f_call (r_call Try.func28 rfl rfl) ?_
              refine Calls.mono (blocks_c q (by omega) _) ?_
              rintro e w_ ⟨rfl, hb⟩
              have hbF := hbF.trans (Below.mono hb hbF.size)
              refine ⟨_, rfl, hb, ?_⟩
              refine f_v (fun wl hbl => by have hs := hs.below_ hbl; exact (r_addi rfl rfl (by rw [hut2]; omega))) ?_
              refine f_v (fun wl hbl => by have hs := hs.below_ hbl; first | exact (r_nilCheck_p rfl) | exact (r_nilCheck_f rfl)) ?_
              refine f_v (fun wl hbl => by have hs := hs.below_ hbl; first | exact (r_fieldAddr0 (off := 3) (T := 55) (by kernel_rfl) rfl) | exact (r_fieldAddr (off := 3) (T := 55) (by kernel_rfl) rfl)) ?_
              refine f_nil ?_
              have hs := hs.below_ hbF
              show OkL _ _ _ _ (_ :: _) _ _
              refine l_v (r_indexAddr_a (k := x.tier) Try.underlying55 I3 rfl rfl z2) ?_
              refine l_store (i := 3) hs rfl I3 rfl rfl (by show 3 + x.tier * 1 < 9; omega) ?_
              intro w138 hs
              have hca := cells_add (S := S) (bm := bm) (l := fdel ml n) (n := n) (x := ⟨x.tier, x.data.take q, (q : Int)⟩) z2
              dsimp only at hca
              rw [hlt2] at hca
              have hs : Eng.Sep w0 w138 (blk (p n) [iV (x.tier : Int), .slice A2 q c2, iV (q : Int)] 63 :: RowC 5 1 (.slice A2 q c2) (x.data.take q).length ((x.data.take q).map u8V) :: rangeH (.int .i64) bm r42 (mapF ml p) Lg cnt1 :: blk b (cellsD (withF S ((n, ⟨x.tier, x.data.take q, (q : Int)⟩) :: fdel ml n)) bm) 57 :: mapH (.int .i64) b16 (keptP K) :: (filesH (fdel ml n) p ++ R)) := by
                rw [← hca, hlt2]; exact hs
              have hs := file_shut (x := ⟨x.tier, x.data.take q, (q : Int)⟩) hs
              have hs := (((((hs.pull 1).pull 2).pull 3).pull 2).pull 2).pull 1
              have hs : Eng.Sep w0 w138 (rangeH (.int .i64) bm r42 (mapF ml p) Lg cnt1 :: blk b (cellsD (withF S ((n, ⟨x.tier, x.data.take q, (q : Int)⟩) :: fdel ml n)) bm) 57 :: mapH (.int .i64) b16 (keptP K) :: (filesH ((n, ⟨x.tier, x.data.take q, (q : Int)⟩) :: fdel ml n) p ++ R)) := hs
              refine l_nil (nrm_block (nrm_then ?_))
              refine And.intro (by refine ⟨?_, ?_, ?_, trivial⟩ <;> ((conv => lhs; whnf); (try conv => rhs; whnf))) ?_
              refine ⟨cnt1, hlt, Lg, ?_⟩
              show Eng.Sep w0 w138 (rangeH (.int .i64) bm r42 (mapF (midL K Lg S.files) p) Lg cnt1 :: blk b (cellsD (withF S (midL K Lg S.files)) bm) 57 :: mapH (.int .i64) b16 (keptP K) :: (filesH (midL K Lg S.files) p ++ R))
              rw [hmg, mapF_inv hMg hperm, cells_inv hperm, show (n, ⟨x.tier, x.data.take q, (q : Int)⟩) :: fdel ml n = fput ml n ⟨x.tier, x.data.take q, (q : Int)⟩ from rfl, mapF_put hx]
              exact files_to hperm.symm hs
end Go.Proofs.Ytnneoipoaoefkaa.Dsk
