/- The disk in memory; step and find. -/
import Derived.Test.YtnneoipoaoefkaaDskFn
import Derived.Test.YtnneoipoaoefkaaParts
namespace Go.Proofs.Ytnneoipoaoefkaa.Dsk
open Go Go.RowKit Go.Proofs.Ytnneoipoaoefkaa.Eng
set_option linter.unusedVariables false
set_option maxRecDepth 100000
def cellsD (S : DiskS) (bm : Nat) : List Value := [.map (some bm), iV (S.room 0), iV (S.room 1), iV (S.used 0), iV (S.used 1), iV S.root, iV S.steps, iV S.fuse, bV S.down]
abbrev blkD (b : Nat) (S : DiskS) (bm : Nat) : HP := blk b (cellsD S bm) 57
def fileH (bf : Nat) (x : FileS) : HP := Eng.ex fun v => stars [blk bf [iV (x.tier : Int), v, iV x.sure] 63, RowC 5 1 v x.data.length (x.data.map u8V)]
abbrev dp (b : Nat) : Value := .pointer (some ⟨b, 0, none⟩)
def mapF (l : List (Int × FileS)) (p : Int → Nat) : MapF := fun k => match k with
  | .int .i64 n => if (fget l n).isSome = true then some (dp (p n)) else none
  | _ => none
abbrev mapD (bm : Nat) (l : List (Int × FileS)) (p : Int → Nat) : HP := mapH (.int .i64) bm (mapF l p)
def filesH (l : List (Int × FileS)) (p : Int → Nat) : List HP := l.map fun q => fileH (p q.1) q.2
def diskH (b : Nat) (S : DiskS) : HP := Eng.ex fun q : Nat × (Int → Nat) => stars (blkD b S q.1 :: mapD q.1 S.files q.2 :: filesH S.files q.2)
theorem disk_open {w0 w : World} {b : Nat} {S : DiskS} {R : List HP} (hs : Eng.Sep w0 w (diskH b S :: R)) : ∃ bm p, Eng.Sep w0 w (blkD b S bm :: mapD bm S.files p :: (filesH S.files p ++ R)) := by
  obtain ⟨⟨bm, p⟩, hs⟩ := hs.ex
  exact ⟨bm, p, hs.unfold⟩
theorem disk_shut {w0 w : World} {b bm : Nat} {S : DiskS} {p : Int → Nat} {R : List HP} (hs : Eng.Sep w0 w (blkD b S bm :: mapD bm S.files p :: (filesH S.files p ++ R))) : Eng.Sep w0 w (diskH b S :: R) :=
  Eng.Sep.inEx (F := fun q : Nat × (Int → Nat) => stars (blkD b S q.1 :: mapD q.1 S.files q.2 :: filesH S.files q.2)) (bm, p) (Eng.Sep.fold (M := blkD b S bm :: mapD bm S.files p :: filesH S.files p) hs)
theorem file_open {w0 w : World} {bf : Nat} {x : FileS} {R : List HP} (hs : Eng.Sep w0 w (fileH bf x :: R)) : ∃ v, Eng.Sep w0 w (blk bf [iV (x.tier : Int), v, iV x.sure] 63 :: RowC 5 1 v x.data.length (x.data.map u8V) :: R) := by
  obtain ⟨v, hs⟩ := hs.ex
  exact ⟨v, hs.unfold⟩
theorem file_shut {w0 w : World} {bf : Nat} {x : FileS} {v : Value} {R : List HP} (hs : Eng.Sep w0 w (blk bf [iV (x.tier : Int), v, iV x.sure] 63 :: RowC 5 1 v x.data.length (x.data.map u8V) :: R)) : Eng.Sep w0 w (fileH bf x :: R) :=
  Eng.Sep.inEx (F := fun v => stars [blk bf [iV (x.tier : Int), v, iV x.sure] 63, RowC 5 1 v x.data.length (x.data.map u8V)]) v (Eng.Sep.fold (M := [_, _]) hs)
theorem files_perm {l l' : List (Int × FileS)} {p : Int → Nat} (h : l.Perm l') : (filesH l p).Perm (filesH l' p) := h.map _
/-- One file ahead of the others. -/
theorem disk_file {w0 w : World} {A B : HP} {l : List (Int × FileS)} {p : Int → Nat} {n : Int} {x : FileS} {R : List HP} (hn : keysNd l) (hx : fget l n = some x) (hs : Eng.Sep w0 w (A :: B :: (filesH l p ++ R))) : Eng.Sep w0 w (fileH (p n) x :: A :: B :: (filesH (fdel l n) p ++ R)) := by
  have h1 : Eng.Sep w0 w (A :: B :: (filesH ((n, x) :: fdel l n) p ++ R)) := hs.perm (List.Perm.cons A (List.Perm.cons B ((files_perm (fget_perm hn hx)).append_right R)))
  exact h1.pull 2
theorem disk_back {w0 w : World} {A B : HP} {l : List (Int × FileS)} {p : Int → Nat} {n : Int} {x : FileS} {R : List HP} (hs : Eng.Sep w0 w (fileH (p n) x :: A :: B :: (filesH (fdel l n) p ++ R))) : Eng.Sep w0 w (A :: B :: (filesH (fput l n x) p ++ R)) := by
  have h1 := (hs.pull 1).pull 2
  exact h1.perm (List.Perm.swap _ _ _)
theorem mapF_put {l : List (Int × FileS)} {p : Int → Nat} {n : Int} {x y : FileS} (h : fget l n = some y) : mapF (fput l n x) p = mapF l p := by
  funext k
  unfold mapF
  split
  · rename_i m
    rw [fget_put]
    by_cases e : m = n
    · rw [if_pos e, e, h]; rfl
    · rw [if_neg e]
  · rfl
theorem mapF_new {l : List (Int × FileS)} {p : Int → Nat} {n : Int} {x : FileS} {bf : Nat} (h : fget l n = none) : mapF (fput l n x) (fun m => if m = n then bf else p m) = mput (mapF l p) (iV n) (dp bf) := by
  funext k
  unfold mput
  by_cases hk : k = iV n
  · rw [if_pos hk, hk]
    show (if (fget (fput l n x) n).isSome = true then some (dp (if n = n then bf else p n)) else none) = _
    rw [fget_put, if_pos rfl, if_pos rfl]; rfl
  · rw [if_neg hk]
    unfold mapF
    split
    · rename_i m
      have e : m ≠ n := fun e => hk (by rw [e])
      rw [fget_put, if_neg e]
      simp only [if_neg e]
    · rfl
theorem filesH_new {l : List (Int × FileS)} {p : Int → Nat} {n : Int} {bf : Nat} (h : ∀ q ∈ l, q.1 ≠ n) : filesH l (fun m => if m = n then bf else p m) = filesH l p := by
  unfold filesH
  refine List.map_congr_left fun q hq => ?_
  simp only [if_neg (h q hq)]
theorem cells_used {S : DiskS} {bm t : Nat} (h : t < 2) : (cellsD S bm)[3 + t]? = some (iV (S.used t)) := by
  match t, h with
  | 0, _ => rfl
  | 1, _ => rfl
theorem cells_room {S : DiskS} {bm t : Nat} (h : t < 2) : (cellsD S bm)[1 + t]? = some (iV (S.room t)) := by
  match t, h with
  | 0, _ => rfl
  | 1, _ => rfl
theorem cells_set_used {S : DiskS} {bm t : Nat} {v : Int} (h : t < 2) : (cellsD S bm).set (3 + t) (iV v) = cellsD (setUsed S t v) bm := by
  match t, h with
  | 0, _ => rfl
  | 1, _ => rfl
theorem tier_nat {t : Int} (h : ¬ (t ≠ 0 ∧ t ≠ 1)) : ∃ k : Nat, t = (k : Int) ∧ k < 2 := by
  by_cases h0 : t = 0
  · exact ⟨0, h0, by omega⟩
  · exact ⟨1, by omega, by omega⟩
set_option maxHeartbeats 2000000 in
theorem step_c (b bm : Nat) (S : DiskS) (hst : 0 ≤ S.steps ∧ S.steps ≤ 4611686018427387904) (hfu : -1 ≤ S.fuse ∧ S.fuse ≤ 9223372036854775807) (w0 w : World) (R : List HP) (hs : Eng.Sep w0 w (blkD b S bm :: R)) :
    Calls Try.prog 30 #[dp b] w fun e w' => e = .returned (bV (stepOk S)) ∧ Eng.Sep w0 w' (blkD b (stepS S) bm :: R) := by
  unfold stepS stepOk
  refine enter (P := Try.prog) Try.func30 rfl rfl ?_
  have hs : Eng.Sep w0 w (blk b [.map (some bm), iV (S.room 0), iV (S.room 1), iV (S.used 0), iV (S.used 1), iV S.root, iV S.steps, iV S.fuse, bV S.down] 57 :: R) := hs
  refine c_rseq ?_
  refine l_v (by first | exact (r_assign (v := bV _) rfl) | exact (r_assign rfl)) ?_
  refine l_nil (nrm_then ?_)
  refine c_seq ?_
  refine c_rseq ?_
  refine l_v (r_move (v := .pointer _) rfl) ?_
  refine l_v (by first | exact (r_nilCheck_p rfl) | exact (r_nilCheck_f rfl)) ?_
  refine l_v (by first | exact (r_fieldAddr0 (off := 7) (T := 3) (by kernel_rfl) rfl) | exact (r_fieldAddr (off := 7) (T := 3) (by kernel_rfl) rfl)) ?_
  refine l_v (by first | exact (r_load_at (i := 0) hs rfl Try.underlying3 rfl rfl) | exact (r_load_at (i := 1) hs rfl Try.underlying3 rfl rfl) | exact (r_load_at (i := 2) hs rfl Try.underlying3 rfl rfl) | exact (r_load_at (i := 3) hs rfl Try.underlying3 rfl rfl) | exact (r_load_at (i := 4) hs rfl Try.underlying3 rfl rfl) | exact (r_load_at (i := 5) hs rfl Try.underlying3 rfl rfl) | exact (r_load_at (i := 6) hs rfl Try.underlying3 rfl rfl)) ?_
  refine l_v (r_eqli rfl rfl) ?_
  refine l_nil (nrm_then ?_)
  refine c_cond rfl (fun h1 => ?_) (fun h1 => ?_)
  · replace h1 := of_decide_eq_true h1
    refine c_rseq ?_
    refine l_v (r_move (v := .pointer _) rfl) ?_
    refine l_v (by first | exact (r_nilCheck_p rfl) | exact (r_nilCheck_f rfl)) ?_
    refine l_v (by first | exact (r_fieldAddr0 (off := 8) (T := 4) (by kernel_rfl) rfl) | exact (r_fieldAddr (off := 8) (T := 4) (by kernel_rfl) rfl)) ?_
    first | refine l_store (i := 0) (v := bV _) hs rfl I4 rfl rfl (by first | (simp; done) | (simp; omega) | omega) ?_ | refine l_store (i := 1) (v := bV _) hs rfl I4 rfl rfl (by first | (simp; done) | (simp; omega) | omega) ?_ | refine l_store (i := 2) (v := bV _) hs rfl I4 rfl rfl (by first | (simp; done) | (simp; omega) | omega) ?_ | refine l_store (i := 3) (v := bV _) hs rfl I4 rfl rfl (by first | (simp; done) | (simp; omega) | omega) ?_ | refine l_store (i := 4) (v := bV _) hs rfl I4 rfl rfl (by first | (simp; done) | (simp; omega) | omega) ?_ | refine l_store (i := 5) (v := bV _) hs rfl I4 rfl rfl (by first | (simp; done) | (simp; omega) | omega) ?_ | refine l_store (i := 6) (v := bV _) hs rfl I4 rfl rfl (by first | (simp; done) | (simp; omega) | omega) ?_
    intro w_ hs
    refine l_nil (nrm_then ?_)
    refine c_rseq ?_
    refine l_v (by first | exact (r_assign (v := bV _) rfl) | exact (r_assign rfl)) ?_
    refine l_nil (nrm_then ?_)
    refine c_ret (ret_then ?_)
    show Fin _ _ _ _ _
    refine fin1 rfl ?_
    rw [if_pos h1, decide_eq_false (p := S.fuse ≠ 0) (fun h => h h1)]
    exact ⟨rfl, hs⟩
  · have h1' := of_decide_eq_false h1
    rw [if_neg h1', decide_eq_true h1']
    replace h1 := of_decide_eq_false h1
    refine c_skip (nrm_then ?_)
    refine c_seq ?_
    refine c_rseq ?_
    refine l_v (r_move (v := .pointer _) rfl) ?_
    refine l_v (by first | exact (r_nilCheck_p rfl) | exact (r_nilCheck_f rfl)) ?_
    refine l_v (by first | exact (r_fieldAddr0 (off := 7) (T := 3) (by kernel_rfl) rfl) | exact (r_fieldAddr (off := 7) (T := 3) (by kernel_rfl) rfl)) ?_
    refine l_v (by first | exact (r_load_at (i := 0) hs rfl Try.underlying3 rfl rfl) | exact (r_load_at (i := 1) hs rfl Try.underlying3 rfl rfl) | exact (r_load_at (i := 2) hs rfl Try.underlying3 rfl rfl) | exact (r_load_at (i := 3) hs rfl Try.underlying3 rfl rfl) | exact (r_load_at (i := 4) hs rfl Try.underlying3 rfl rfl) | exact (r_load_at (i := 5) hs rfl Try.underlying3 rfl rfl) | exact (r_load_at (i := 6) hs rfl Try.underlying3 rfl rfl)) ?_
    refine l_v (r_gtri rfl rfl) ?_
    refine l_nil (nrm_then ?_)
    refine c_cond rfl (fun h2 => ?_) (fun h2 => ?_)
    · rw [if_pos (of_decide_eq_true h2)]
      replace h2 := of_decide_eq_true h2
      refine c_region ?_
      refine l_v (r_move (v := .pointer _) rfl) ?_
      refine l_v (by first | exact (r_nilCheck_p rfl) | exact (r_nilCheck_f rfl)) ?_
      refine l_v (by first | exact (r_fieldAddr0 (off := 7) (T := 3) (by kernel_rfl) rfl) | exact (r_fieldAddr (off := 7) (T := 3) (by kernel_rfl) rfl)) ?_
      refine l_v (by first | exact (r_load_at (i := 0) hs rfl Try.underlying3 rfl rfl) | exact (r_load_at (i := 1) hs rfl Try.underlying3 rfl rfl) | exact (r_load_at (i := 2) hs rfl Try.underlying3 rfl rfl) | exact (r_load_at (i := 3) hs rfl Try.underlying3 rfl rfl) | exact (r_load_at (i := 4) hs rfl Try.underlying3 rfl rfl) | exact (r_load_at (i := 5) hs rfl Try.underlying3 rfl rfl) | exact (r_load_at (i := 6) hs rfl Try.underlying3 rfl rfl)) ?_
      refine l_v (r_subi rfl rfl (by omega)) ?_
      refine l_v (by first | exact (r_nilCheck_p rfl) | exact (r_nilCheck_f rfl)) ?_
      refine l_v (by first | exact (r_fieldAddr0 (off := 7) (T := 3) (by kernel_rfl) rfl) | exact (r_fieldAddr (off := 7) (T := 3) (by kernel_rfl) rfl)) ?_
      first | refine l_store (i := 0) (v := iV _) hs rfl I3 rfl rfl (by first | (simp; done) | (simp; omega) | omega) ?_ | refine l_store (i := 1) (v := iV _) hs rfl I3 rfl rfl (by first | (simp; done) | (simp; omega) | omega) ?_ | refine l_store (i := 2) (v := iV _) hs rfl I3 rfl rfl (by first | (simp; done) | (simp; omega) | omega) ?_ | refine l_store (i := 3) (v := iV _) hs rfl I3 rfl rfl (by first | (simp; done) | (simp; omega) | omega) ?_ | refine l_store (i := 4) (v := iV _) hs rfl I3 rfl rfl (by first | (simp; done) | (simp; omega) | omega) ?_ | refine l_store (i := 5) (v := iV _) hs rfl I3 rfl rfl (by first | (simp; done) | (simp; omega) | omega) ?_ | refine l_store (i := 6) (v := iV _) hs rfl I3 rfl rfl (by first | (simp; done) | (simp; omega) | omega) ?_
      intro w_ hs
      refine l_nil (nrm_then ?_)
      refine c_rseq ?_
      refine l_v (r_move (v := .pointer _) rfl) ?_
      refine l_v (by first | exact (r_nilCheck_p rfl) | exact (r_nilCheck_f rfl)) ?_
      refine l_v (by first | exact (r_fieldAddr0 (off := 6) (T := 3) (by kernel_rfl) rfl) | exact (r_fieldAddr (off := 6) (T := 3) (by kernel_rfl) rfl)) ?_
      refine l_v (by first | exact (r_load_at (i := 0) hs rfl Try.underlying3 rfl rfl) | exact (r_load_at (i := 1) hs rfl Try.underlying3 rfl rfl) | exact (r_load_at (i := 2) hs rfl Try.underlying3 rfl rfl) | exact (r_load_at (i := 3) hs rfl Try.underlying3 rfl rfl) | exact (r_load_at (i := 4) hs rfl Try.underlying3 rfl rfl) | exact (r_load_at (i := 5) hs rfl Try.underlying3 rfl rfl) | exact (r_load_at (i := 6) hs rfl Try.underlying3 rfl rfl)) ?_
      refine l_v (r_addi rfl rfl (by omega)) ?_
      refine l_v (by first | exact (r_nilCheck_p rfl) | exact (r_nilCheck_f rfl)) ?_
      refine l_v (by first | exact (r_fieldAddr0 (off := 6) (T := 3) (by kernel_rfl) rfl) | exact (r_fieldAddr (off := 6) (T := 3) (by kernel_rfl) rfl)) ?_
      first | refine l_store (i := 0) (v := iV _) hs rfl I3 rfl rfl (by first | (simp; done) | (simp; omega) | omega) ?_ | refine l_store (i := 1) (v := iV _) hs rfl I3 rfl rfl (by first | (simp; done) | (simp; omega) | omega) ?_ | refine l_store (i := 2) (v := iV _) hs rfl I3 rfl rfl (by first | (simp; done) | (simp; omega) | omega) ?_ | refine l_store (i := 3) (v := iV _) hs rfl I3 rfl rfl (by first | (simp; done) | (simp; omega) | omega) ?_ | refine l_store (i := 4) (v := iV _) hs rfl I3 rfl rfl (by first | (simp; done) | (simp; omega) | omega) ?_ | refine l_store (i := 5) (v := iV _) hs rfl I3 rfl rfl (by first | (simp; done) | (simp; omega) | omega) ?_ | refine l_store (i := 6) (v := iV _) hs rfl I3 rfl rfl (by first | (simp; done) | (simp; omega) | omega) ?_
      intro w_ hs
      refine l_nil (nrm_then ?_)
      refine c_rseq ?_
      refine l_v (by first | exact (r_assign (v := bV _) rfl) | exact (r_assign rfl)) ?_
      refine l_nil (nrm_then ?_)
      refine c_ret ?_
      show Fin _ _ _ _ _
      refine fin1 rfl ?_
      exact ⟨rfl, hs⟩
    · rw [if_neg (of_decide_eq_false h2)]
      replace h2 := of_decide_eq_false h2
      refine c_skip (nrm_then ?_)
      refine c_rseq ?_
      refine l_v (r_move (v := .pointer _) rfl) ?_
      refine l_v (by first | exact (r_nilCheck_p rfl) | exact (r_nilCheck_f rfl)) ?_
      refine l_v (by first | exact (r_fieldAddr0 (off := 6) (T := 3) (by kernel_rfl) rfl) | exact (r_fieldAddr (off := 6) (T := 3) (by kernel_rfl) rfl)) ?_
      refine l_v (by first | exact (r_load_at (i := 0) hs rfl Try.underlying3 rfl rfl) | exact (r_load_at (i := 1) hs rfl Try.underlying3 rfl rfl) | exact (r_load_at (i := 2) hs rfl Try.underlying3 rfl rfl) | exact (r_load_at (i := 3) hs rfl Try.underlying3 rfl rfl) | exact (r_load_at (i := 4) hs rfl Try.underlying3 rfl rfl) | exact (r_load_at (i := 5) hs rfl Try.underlying3 rfl rfl) | exact (r_load_at (i := 6) hs rfl Try.underlying3 rfl rfl)) ?_
      refine l_v (r_addi rfl rfl (by omega)) ?_
      refine l_v (by first | exact (r_nilCheck_p rfl) | exact (r_nilCheck_f rfl)) ?_
      refine l_v (by first | exact (r_fieldAddr0 (off := 6) (T := 3) (by kernel_rfl) rfl) | exact (r_fieldAddr (off := 6) (T := 3) (by kernel_rfl) rfl)) ?_
      first | refine l_store (i := 0) (v := iV _) hs rfl I3 rfl rfl (by first | (simp; done) | (simp; omega) | omega) ?_ | refine l_store (i := 1) (v := iV _) hs rfl I3 rfl rfl (by first | (simp; done) | (simp; omega) | omega) ?_ | refine l_store (i := 2) (v := iV _) hs rfl I3 rfl rfl (by first | (simp; done) | (simp; omega) | omega) ?_ | refine l_store (i := 3) (v := iV _) hs rfl I3 rfl rfl (by first | (simp; done) | (simp; omega) | omega) ?_ | refine l_store (i := 4) (v := iV _) hs rfl I3 rfl rfl (by first | (simp; done) | (simp; omega) | omega) ?_ | refine l_store (i := 5) (v := iV _) hs rfl I3 rfl rfl (by first | (simp; done) | (simp; omega) | omega) ?_ | refine l_store (i := 6) (v := iV _) hs rfl I3 rfl rfl (by first | (simp; done) | (simp; omega) | omega) ?_
      intro w_ hs
      refine l_nil (nrm_then ?_)
      refine c_rseq ?_
      refine l_v (by first | exact (r_assign (v := bV _) rfl) | exact (r_assign rfl)) ?_
      refine l_nil (nrm_then ?_)
      refine c_ret ?_
      show Fin _ _ _ _ _
      refine fin1 rfl ?_
      exact ⟨rfl, hs⟩
def fptr (S : DiskS) (p : Int → Nat) (n : Int) : Option Addr := if S.down = true then none else if (S.get n).isSome = true then some ⟨p n, 0, none⟩ else none
theorem fptr_zero {S : DiskS} {p : Int → Nat} {n : Int} (h : findE S n = 0) : fptr S p n = some ⟨p n, 0, none⟩ := by
  obtain ⟨hd, x, hx⟩ := find_zero h
  unfold fptr
  rw [if_neg (by rw [hd]; decide), hx]; rfl
set_option maxHeartbeats 2000000 in
theorem find_c (b bm : Nat) (S : DiskS) (p : Int → Nat) (n : Int) (w0 w : World) (R : List HP) (hs : Eng.Sep w0 w (blkD b S bm :: mapD bm S.files p :: R)) :
    Calls Try.prog 29 #[dp b, iV n] w fun e w' => e = .returned (.tuple #[.pointer (fptr S p n), iV (findE S n)]) ∧ Below w.heap.size w w' := by
  unfold fptr findE
  refine enter (P := Try.prog) Try.func29 rfl rfl ?_
  have hs0 := Sep.init w
  have hb0 : Below w.heap.size w w := Below.refl _ _
  have hs : Eng.Sep w0 w (blk b [.map (some bm), iV (S.room 0), iV (S.room 1), iV (S.used 0), iV (S.used 1), iV S.root, iV S.steps, iV S.fuse, bV S.down] 57 :: mapD bm S.files p :: R) := hs
  refine c_rseq ?_
  refine l_v (r_assign (v := .pointer _) rfl) ?_
  refine l_v (by first | exact (r_assign (v := iV _) rfl) | exact (r_assign rfl)) ?_
  refine l_nil (nrm_then ?_)
  refine c_seq ?_
  refine c_rseq ?_
  refine l_v (r_move (v := .pointer _) rfl) ?_
  refine l_v (by first | exact (r_eqlp_some Try.underlying26 rfl rfl) | exact (r_eqlp_none Try.underlying26 rfl rfl)) ?_
  refine l_v (by first | exact (r_move (v := bV _) rfl) | exact (r_move rfl)) ?_
  refine l_vg (r_move (v := .pointer _) rfl) rfl (rfl) ?_
  refine l_vg (by first | exact (r_nilCheck_p rfl) | exact (r_nilCheck_f rfl)) rfl (rfl) ?_
  refine l_vg (by first | exact (r_fieldAddr0 (off := 8) (T := 4) (by kernel_rfl) rfl) | exact (r_fieldAddr (off := 8) (T := 4) (by kernel_rfl) rfl)) rfl (rfl) ?_
  refine l_vg (by first | exact (r_load_at (i := 0) hs rfl Try.underlying4 rfl rfl) | exact (r_load_at (i := 1) hs rfl Try.underlying4 rfl rfl) | exact (r_load_at (i := 2) hs rfl Try.underlying4 rfl rfl) | exact (r_load_at (i := 3) hs rfl Try.underlying4 rfl rfl) | exact (r_load_at (i := 4) hs rfl Try.underlying4 rfl rfl) | exact (r_load_at (i := 5) hs rfl Try.underlying4 rfl rfl) | exact (r_load_at (i := 6) hs rfl Try.underlying4 rfl rfl)) rfl (rfl) ?_
  refine l_v (r_pick_f rfl rfl rfl) ?_
  refine l_nil (nrm_then ?_)
  rcases Bool.eq_false_or_eq_true S.down with hd | hd
  · refine c_true rfl (hd) ?_
    refine c_rseq ?_
    refine l_v (r_assign (v := .pointer _) rfl) ?_
    refine l_v (by first | exact (r_assign (v := iV _) rfl) | exact (r_assign rfl)) ?_
    refine l_nil (nrm_then ?_)
    refine c_ret (ret_then ?_)
    show Fin _ _ _ _ _
    refine fin2 rfl ?_
    rw [if_pos hd, if_pos hd]
    exact ⟨rfl, hb0⟩
  · have hd' : ¬ S.down = true := by rw [hd]; decide
    rw [if_neg hd', if_neg hd']
    refine c_false rfl (hd) ?_
    refine c_skip (nrm_then ?_)
    refine c_rseq ?_
    refine l_v (r_move (v := .pointer _) rfl) ?_
    refine l_v (by first | exact (r_nilCheck_p rfl) | exact (r_nilCheck_f rfl)) ?_
    refine l_v (by first | exact (r_fieldAddr0 (off := 0) (T := 54) (by kernel_rfl) rfl) | exact (r_fieldAddr (off := 0) (T := 54) (by kernel_rfl) rfl)) ?_
    refine l_v (by first | exact (r_load_at (i := 0) hs rfl Try.underlying54 rfl rfl) | exact (r_load_at (i := 1) hs rfl Try.underlying54 rfl rfl) | exact (r_load_at (i := 2) hs rfl Try.underlying54 rfl rfl) | exact (r_load_at (i := 3) hs rfl Try.underlying54 rfl rfl) | exact (r_load_at (i := 4) hs rfl Try.underlying54 rfl rfl) | exact (r_load_at (i := 5) hs rfl Try.underlying54 rfl rfl) | exact (r_load_at (i := 6) hs rfl Try.underlying54 rfl rfl)) ?_
    refine l_v (by first | exact (r_move (v := iV _) rfl) | exact (r_move rfl)) ?_
    refine l_v (r_look (k := iV n) (hs.pull 1) Try.underlying54 Try.underlying3 I60 rfl rfl rfl) ?_
    have hF : mapF S.files p (iV n) = if (S.get n).isSome = true then some (dp (p n)) else none := rfl
    rw [hF]
    by_cases hg : (S.get n).isSome = true
    · rw [if_pos hg, if_pos hg, if_pos hg]
      refine l_v (r_assign (v := .pointer _) rfl) ?_
      refine l_nil (nrm_then ?_)
      refine c_seq ?_
      refine c_rseq ?_
      refine l_v (r_move (v := .pointer _) rfl) ?_
      refine l_v (by first | exact (r_eqlp_some Try.underlying60 rfl rfl) | exact (r_eqlp_none Try.underlying60 rfl rfl)) ?_
      refine l_nil (nrm_then ?_)
      refine c_false rfl (rfl) ?_
      refine c_skip (nrm_then ?_)
      refine c_rseq ?_
      refine l_v (r_move (v := .pointer _) rfl) ?_
      refine l_v (r_assign (v := .pointer _) rfl) ?_
      refine l_v (by first | exact (r_assign (v := iV _) rfl) | exact (r_assign rfl)) ?_
      refine l_nil (nrm_then ?_)
      refine c_ret ?_
      show Fin _ _ _ _ _
      refine fin2 rfl ?_
      exact ⟨rfl, hb0⟩
    · rw [if_neg hg, if_neg hg, if_neg hg]
      refine l_v (r_assign (v := .pointer _) rfl) ?_
      refine l_nil (nrm_then ?_)
      refine c_seq ?_
      refine c_rseq ?_
      refine l_v (r_move (v := .pointer _) rfl) ?_
      refine l_v (by first | exact (r_eqlp_some Try.underlying60 rfl rfl) | exact (r_eqlp_none Try.underlying60 rfl rfl)) ?_
      refine l_nil (nrm_then ?_)
      refine c_true rfl (rfl) ?_
      refine c_rseq ?_
      refine l_v (r_assign (v := .pointer _) rfl) ?_
      refine l_v (by first | exact (r_assign (v := iV _) rfl) | exact (r_assign rfl)) ?_
      refine l_nil (nrm_then ?_)
      refine c_ret (ret_then ?_)
      show Fin _ _ _ _ _
      refine fin2 rfl ?_
      exact ⟨rfl, hb0⟩
end Go.Proofs.Ytnneoipoaoefkaa.Dsk
