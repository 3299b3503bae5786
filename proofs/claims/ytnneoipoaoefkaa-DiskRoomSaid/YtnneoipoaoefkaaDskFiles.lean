/- The disk's Files: a new row of the files' numbers. -/
import Derived.Test.YtnneoipoaoefkaaDskBack
import Derived.Test.YtnneoipoaoefkaaMapKeys
import Derived.Test.YtnneoipoaoefkaaDskShelf
namespace Go.Proofs.Ytnneoipoaoefkaa.Dsk
open Go Go.RowKit Go.Maps Go.Sort Go.Shelf Go.Proofs.Ytnneoipoaoefkaa.Eng
set_option linter.unusedVariables false
set_option maxRecDepth 100000
theorem sortsA (m : Nat) : AnyZI.SortsIn Try.prog sortedA_ren Fence.wide m :=
  ⟨fun blk off cap ss W hH hblk hsz => callsIn_wide.2 (AnyM.slices_Sort_int sortA blk off cap ss W hH hblk hsz),
   fun p cap W => callsIn_wide.2 (AnyM.slices_Sort_int_none sortA p cap W)⟩
theorem keys_c (mb : Option Nat) (W : World) : Calls Try.prog 32 #[.map mb] W fun e w' => e = .returned (.func (.func 35) #[] #[.pointer (some ⟨W.heap.size, 0, none⟩)]) ∧ w' = W.alloc (.cells #[.map mb] 54) :=
  (callsIn_wide (n := 6)).1 (AnyZI.keys_in keysA Fence.wide 6 trivial rfl mb W)
theorem sorted_c (g b nn : Nat) (D0 : DataW Unit) (W : World) (hg : g < W.heap.size) (hc : W.cell? ⟨g, 0, none⟩ = some (.map (some b))) (hown : W.ownsMap Try.prog 3 anyR b nn D0) (hmax : Maps.size D0 ≤ maxLen) (hbytes : Maps.size D0 * 8 ≤ 140737488355328) :
    Calls Try.prog 31 #[.func (.func 35) #[] #[.pointer (some ⟨g, 0, none⟩)]] W fun e w' => ∃ (v : Value) (ss : List Int), e = .returned v ∧ ss.Perm (intKeys D0) ∧
      w'.ownsRow W.heap.size 3 1 v ss.length ((ss.mergeSort (fun x y => decide (x ≤ y))).map encZ) ∧ Below W.heap.size W w' := by
  refine (callsIn_wide (n := 6)).1 ?_
  have hseq : SeqGives Fence.wide 3 Try.prog 35 #[.pointer (some ⟨g, 0, none⟩)] encZ (fun ss => ss.Perm (intKeys D0)) (Maps.size D0) W :=
    AnyZI.keys_gives (ρ := keysA_ren) { keysA with } Fence.wide _ trivial rfl (by omega) g b nn D0 _ hg hc hown
  have cS := AnyZI.sorted_in sortedA Fence.wide 6 trivial trivial trivial trivial rfl (by omega) (sortsA _) (enters_of Try.func34 (by kernel_rfl) rfl) 35 #[.pointer (some ⟨g, 0, none⟩)] trivial (enters_of Try.func35 (by kernel_rfl) rfl) _ _ hmax hbytes _ hseq
  refine CallsIn.mono cS ?_
  rintro e w' ⟨v, ss, rfl, h1, h2, _, h3⟩
  exact ⟨v, ss, rfl, h1, h2, h3⟩
theorem files_le {l : List (Int × FileS)} (ht : ∀ q ∈ l, q.2.tier < 2) : l.length ≤ sumT 0 l + sumT 1 l := by
  induction l with
  | nil => exact Nat.zero_le _
  | cons q l ih =>
    have h1 := ih fun r hr => ht r (List.mem_cons_of_mem _ hr)
    have h2 := ht q (List.mem_cons_self ..)
    unfold sumT at *
    rw [List.map_cons, List.map_cons, List.sum_cons, List.sum_cons, List.length_cons]
    have h3 : 1 ≤ blocksN q.2.data.length := by unfold blocksN; omega
    rcases (show q.2.tier = 0 ∨ q.2.tier = 1 by omega) with e | e
    · rw [e, if_pos rfl, if_neg (by decide)]; omega
    · rw [e, if_neg (by decide), if_pos rfl]; omega
theorem GoodS.few {S : DiskS} (h : GoodS S) : S.files.length ≤ 2097152 := by
  have h0 := files_le h.tier
  have a0 := h.sum 0 (by decide)
  have a1 := h.sum 1 (by decide)
  have b0 := h.le 0 (by decide)
  have b1 := h.le 1 (by decide)
  omega
theorem mem_keys {l : List (Int × FileS)} (n : Int) : n ∈ l.map Prod.fst ↔ (fget l n).isSome = true := by
  constructor
  · intro h
    obtain ⟨q, hq, rfl⟩ := List.mem_map.1 h
    cases hf : fget l q.1 with
    | some x => rfl
    | none => exact absurd rfl (fget_none hf q hq)
  · intro h
    obtain ⟨x, hx⟩ := Option.isSome_iff_exists.1 h
    exact List.mem_map.2 ⟨_, fget_mem hx, rfl⟩
set_option maxHeartbeats 4000000 in
theorem files_c (b : Nat) (S : DiskS) (hg : GoodS S) (hk : ∀ q ∈ S.files, q.1 ≤ 9223372036854775807) (w0 w : World) (R : List HP) (hs : Eng.Sep w0 w (diskH b S :: R)) :
    Calls Try.prog 24 #[dp b] w fun e w' => ∃ v, ∃ zs : List Int, e = .returned v ∧ zs.Perm (S.files.map Prod.fst) ∧ Eng.Sep w0 w' (RowC 3 1 v zs.length (zs.map iV) :: diskH b S :: R) := by
  refine enter (P := Try.prog) Try.func24 rfl rfl ?_
  obtain ⟨bm, p, hs⟩ := disk_open hs
  have hs : Eng.Sep w0 w (blk b [.map (some bm), iV (S.room 0), iV (S.room 1), iV (S.used 0), iV (S.used 1), iV S.root, iV S.steps, iV S.fuse, bV S.down] 57 :: mapD bm S.files p :: (filesH S.files p ++ R)) := hs
  refine c_rseq ?_
  refine l_v (by first | exact (r_assign (v := .slice _ _ _) rfl) | exact (r_assign rfl)) ?_
  refine l_nil (nrm_then ?_)
  refine c_seq ?_
  refine c_rseq ?_
  refine l_v (r_move (v := .pointer _) rfl) ?_
  refine l_v (by first | exact (r_eqlp_some Try.underlying26 rfl rfl) | exact (r_eqlp_none Try.underlying26 rfl rfl)) ?_
  refine l_nil (nrm_then ?_)
  refine c_false rfl (rfl) ?_
  refine c_skip (nrm_then ?_)
  refine c_rseq ?_
  refine l_v (r_move (v := .pointer _) rfl) ?_
  refine l_v (by first | exact (r_nilCheck_p rfl) | exact (r_nilCheck_f rfl)) ?_
  refine l_v (by first | exact (r_fieldAddr0 (off := 0) (T := 54) (by kernel_rfl) rfl) | exact (r_fieldAddr (off := 0) (T := 54) (by kernel_rfl) rfl)) ?_
  refine l_v (by first | exact (r_load_at (i := 0) hs rfl Try.underlying54 rfl rfl) | exact (r_load_at (i := 1) hs rfl Try.underlying54 rfl rfl) | exact (r_load_at (i := 2) hs rfl Try.underlying54 rfl rfl) | exact (r_load_at (i := 3) hs rfl Try.underlying54 rfl rfl) | exact (r_load_at (i := 4) hs rfl Try.underlying54 rfl rfl) | exact (r_load_at (i := 5) hs rfl Try.underlying54 rfl rfl) | exact (r_load_at (i := 6) hs rfl Try.underlying54 rfl rfl)) ?_
  refine l_call (r_call Try.func32 rfl rfl) ?_
  refine Calls.mono (keys_c (some bm) w) ?_
  rintro e w_ ⟨rfl, hww⟩
  refine ⟨_, rfl, ?_⟩
  have hs1 := hs.alloc (.cells #[.map (some bm)] 54)
  rw [← hww] at hs1
  have hs2 := hs1.pull 2
  obtain ⟨es, clock, hM, hs3⟩ := hs2.mapOpen
  have hes := (hs3.at_ 0).1
  have hcell := (hs1.at_ 0).1
  have hwf : ∀ n ∈ S.files.map Prod.fst, (Lit.int .i64 n).wf = true := by
    intro n hn
    obtain ⟨q, hq, rfl⟩ := List.mem_map.1 hn
    have h1 := hg.key q hq
    have h2 := hk q hq
    show (decide (IntKind.min .i64 ≤ q.1) && decide (q.1 ≤ IntKind.max .i64)) = true
    rw [decide_eq_true (show IntKind.min .i64 ≤ q.1 from Int.le_trans (by decide) h1), decide_eq_true (show q.1 ≤ IntKind.max .i64 from h2)]; rfl
  obtain ⟨D0, hown, hsz, hperm⟩ := own_of_map (P := Try.prog) (K := 3) Try.underlying3 hM hes (S.files.map Prod.fst) hg.nd (fun n => (mem_keys n).trans (by show _ ↔ (mapF S.files p (iV n)).isSome = true; unfold mapF; cases hfn : fget S.files n <;> simp [hfn])) (by rw [List.length_map]; have := hg.few; exact Nat.le_trans this (by decide)) hwf
  have hfw := hg.few
  rw [List.length_map] at hsz
  refine l_call (r_call Try.func31 rfl rfl) ?_
  refine Calls.mono (sorted_c w.heap.size bm _ D0 _ (heap_lt hcell) ((cell_blk hcell).trans rfl) hown (by rw [hsz]; exact Nat.le_trans hfw (by decide)) (by rw [hsz]; omega)) ?_
  rintro e w_ ⟨v, ss, rfl, hp2, hrow, hb⟩
  refine ⟨_, rfl, ?_⟩
  have hs := (((hs1.takeRow hb hrow).pull 1).drop)
  have hlen : (ss.mergeSort fun x y => decide (x ≤ y)).length = ss.length := (List.mergeSort_perm _ _).length_eq
  rw [← hlen] at hs
  have hs := hs.perm ((List.Perm.swap _ _ _).trans (List.Perm.cons _ ((List.Perm.swap _ _ _).trans (List.Perm.cons _ (List.perm_middle.symm)))))
  have hs := (disk_shut (S := S) (p := p) hs).pull 1
  refine l_v (by first | exact (r_assign (v := .slice _ _ _) rfl) | exact (r_assign rfl)) ?_
  refine l_nil (nrm_then ?_)
  refine c_ret ?_
  show Fin _ _ _ _ _
  refine fin1 rfl ?_
  exact ⟨_, _, rfl, (List.mergeSort_perm _ _).trans (hp2.trans hperm), hs⟩
end Go.Proofs.Ytnneoipoaoefkaa.Dsk
