/- A step of the script of WalPlays. -/
import Derived.Test.YtlkljeghhahedaaWalPlayFn
import Derived.Test.YtlkljeghhahedaaWalKeep
import Derived.Test.YtlkljeghhahedaaFloatC
import Derived.Test.YtlkljeghhahedaaDskBack
namespace Go.Proofs.Ytlkljeghhahedaa.Wal
open Go Go.RowKit Go.Proofs.Ytlkljeghhahedaa.Eng Go.Proofs.Ytlkljeghhahedaa.Six Go.Proofs.Ytlkljeghhahedaa.CrcFn Go.Proofs.Ytlkljeghhahedaa.Dsk
set_option linter.unusedVariables false
set_option maxRecDepth 100000
abbrev lgC (b bl : Nat) (file : Int) (vW vR vM : Value) (su : Nat) : List Value := [dp b, dp bl, iV file, vW, vR, vM, iV (su : Int)]
def logsX (bx b bl : Nat) (S : DiskS) (file : Int) (ts ws ms : List (List UInt8)) (su : Nat) : HP := Eng.ex fun p : Value × Value × Value => stars [blk bx (lgC b bl file p.1 p.2.1 p.2.2 su) 65, waitM p.1 ts p.2.2 ms, rowS p.2.1 ws, logH bl b file ts (ws.length : Int) (su : Int), diskH b S]
section
variable {w0 w : World} {bx b bl : Nat} {S : DiskS} {file : Int} {ts ws ms : List (List UInt8)} {su : Nat} {R : List HP}
theorem x_open (hs : Eng.Sep w0 w (logsX bx b bl S file ts ws ms su :: R)) : ∃ vW vR vM, Eng.Sep w0 w (blk bx (lgC b bl file vW vR vM su) 65 :: waitM vW ts vM ms :: rowS vR ws :: logH bl b file ts (ws.length : Int) (su : Int) :: diskH b S :: R) := by
  obtain ⟨⟨vW, vR, vM⟩, hs⟩ := hs.ex
  exact ⟨vW, vR, vM, hs.unfold⟩
theorem x_shut {vW vR vM : Value} (hs : Eng.Sep w0 w (blk bx (lgC b bl file vW vR vM su) 65 :: waitM vW ts vM ms :: rowS vR ws :: logH bl b file ts (ws.length : Int) (su : Int) :: diskH b S :: R)) : Eng.Sep w0 w (logsX bx b bl S file ts ws ms su :: R) :=
  Eng.Sep.inEx (F := fun p : Value × Value × Value => stars [blk bx (lgC b bl file p.1 p.2.1 p.2.2 su) 65, waitM p.1 ts p.2.2 ms, rowS p.2.1 ws, logH bl b file ts (ws.length : Int) (su : Int), diskH b S]) (vW, vR, vM) (Eng.Sep.fold (M := [_, _, _, _, _]) hs)
end
theorem row_appl {w0 w : World} {v : Value} {l q : List (List UInt8)} {L : List HP} (hs : Eng.Sep w0 w (RowC 9 1 v (l.length + q.length) ((l.map fun t => sV (ofL t)) ++ (q.map fun t => sV (ofL t))) :: L)) : Eng.Sep w0 w (rowS v (l ++ q) :: L) := by
  unfold rowS
  rw [List.length_append, List.map_append]; exact hs
set_option maxHeartbeats 16000000 in
theorem step_c (hback : ∀ (n : Int) (i T : Nat) (S : DiskS) (file : Int) (ts ws ms : List (List UInt8)) (su bx b bl : Nat), Pl i T S file ts ws ms su → T ≤ 100000 → i ≤ 1000 → ∀ (w0 w : World) (R : List HP), Eng.Sep w0 w (logsX bx b bl S file ts ws ms su :: R) →
      Calls Try.prog 32 #[dp bx, iV n] w fun e w' => e = .returned (bV true) ∧ ∃ bl' S', Pl (i + 1) T S' (file + 1) [] [] [] 0 ∧ Eng.Sep w0 w' (logsX bx b bl' S' (file + 1) [] [] [] 0 :: R))
    (k n : Int) (x : List UInt8) (hx : x.length ≤ 30000) (hn : n ≤ 9223372036854775807) (i T : Nat) (S : DiskS) (file : Int) (ts ws ms : List (List UInt8)) (su bx b bl : Nat) (hp : Pl i T S file ts ws ms su) (hT : T + (frame x).length ≤ 100000) (hi : i ≤ 999) (w0 w : World) (R : List HP) (hs : Eng.Sep w0 w (logsX bx b bl S file ts ws ms su :: R)) :
    Calls Try.prog 31 #[dp bx, .agg #[iV k, iV n, sV (ofL x)]] w fun e w' => e = .returned (bV true) ∧ ∃ (bl' : Nat) (S' : DiskS) (file' : Int) (ts' ws' ms' : List (List UInt8)) (su' : Nat), Pl (i + 1) (T + (frame x).length) S' file' ts' ws' ms' su' ∧ Eng.Sep w0 w' (logsX bx b bl' S' file' ts' ws' ms' su' :: R) := by
  obtain ⟨vW, vR, vM, hs⟩ := x_open hs
  obtain ⟨AW, cW, rfl, hcW⟩ := wait_form (hs.pull 1)
  obtain ⟨AR, cR, rfl, hcR⟩ := (hs.pull 2).rowForm
  have hxs : (ofL x).size = x.length := rfl
  have hnum := hp.num
  have hsiz := hp.siz
  have hstp := hp.steps
  have hsu := hp.su
  have hpm := hp.more (Nat.le_succ i) (Nat.le_add_right T (frame x).length)
  refine enter (P := Try.prog) Try.func31 rfl rfl ?_
  refine c_rseq ?_
  refine l_box hs rfl ?_
  intro b3 w3 hs hB3 hlt3
  refine l_v (by first | exact (r_assign (v := bV _) rfl) | exact (r_assign rfl)) ?_
  refine l_nil (nrm_then ?_)
  refine c_seq ?_
  refine c_rseq ?_
  refine l_v (by first | exact (r_fieldAddr0 (off := 0) (T := 3) (by kernel_rfl) rfl) | exact (r_fieldAddr (off := 0) (T := 3) (by kernel_rfl) rfl)) ?_
  refine l_v (by first | exact (r_load_at (i := 0) hs rfl Try.underlying3 rfl rfl) | exact (r_load_at (i := 1) hs rfl Try.underlying3 rfl rfl) | exact (r_load_at (i := 2) hs rfl Try.underlying3 rfl rfl) | exact (r_load_at (i := 3) hs rfl Try.underlying3 rfl rfl) | exact (r_load_at (i := 4) hs rfl Try.underlying3 rfl rfl) | exact (r_load_at (i := 5) hs rfl Try.underlying3 rfl rfl) | exact (r_load_at (i := 6) hs rfl Try.underlying3 rfl rfl)) ?_
  refine l_nil (nrm_then ?_)
  refine c_mid [0] (fun f' w' => ∃ (S' : DiskS) (ts' ws' ms' : List (List UInt8)) (su' : Nat) (vW' vR' vM' : Value), Pl (i + 1) (T + (frame x).length) S' file ts' ws' ms' su' ∧ Eng.Sep w0 w' (blk b3 [iV k, iV n, sV (ofL x)] 62 :: blk bx (lgC b bl file vW' vR' vM' su') 65 :: waitM vW' ts' vM' ms' :: rowS vR' ws' :: logH bl b file ts' (ws'.length : Int) (su' : Int) :: diskH b S' :: R)) ?_ ?_
  · refine c_block ?_
    refine c_rseq ?_
    refine l_v (r_eqli rfl rfl) ?_
    refine l_v (by first | exact (r_assign (v := bV _) rfl) | exact (r_assign rfl)) ?_
    refine l_nil (nrm_then ?_)
    refine c_cond rfl (fun h1 => ?_) (fun h1 => ?_)
    · replace h1 := of_decide_eq_true h1
      refine c_seq ?_
      have f31 : (decide ((0 : Int) = 0) != decide (((ofL x).size : Int) ≤ 1048576)) = false := by
        have h : decide (((ofL x).size : Int) ≤ 1048576) = true := decide_eq_true (by omega)
        rw [h]; rfl
      refine c_float [] 6 (by kernel_rfl) (by kernel_rfl) ?_
      intro hbF
      show OkF _ _ _ _ _ _ (_ :: _) 0 _ _
      refine f_v (fun wl hbl => by have hs := hs.below_ hbl; exact (r_move (v := .pointer _) rfl)) ?_
      refine f_v (fun wl hbl => by have hs := hs.below_ hbl; first | exact (r_nilCheck_p rfl) | exact (r_nilCheck_f rfl)) ?_
      refine f_v (fun wl hbl => by have hs := hs.below_ hbl; first | exact (r_fieldAddr0 (off := 1) (T := 46) (by kernel_rfl) rfl) | exact (r_fieldAddr (off := 1) (T := 46) (by kernel_rfl) rfl)) ?_
      refine f_v (fun wl hbl => by have hs := hs.below_ hbl; first | exact (r_load_at (i := 0) hs rfl Try.underlying46 rfl rfl) | exact (r_load_at (i := 1) hs rfl Try.underlying46 rfl rfl) | exact (r_load_at (i := 2) hs rfl Try.underlying46 rfl rfl) | exact (r_load_at (i := 3) hs rfl Try.underlying46 rfl rfl) | exact (r_load_at (i := 4) hs rfl Try.underlying46 rfl rfl) | exact (r_load_at (i := 5) hs rfl Try.underlying46 rfl rfl) | exact (r_load_at (i := 6) hs rfl Try.underlying46 rfl rfl)) ?_
      refine f_v (fun wl hbl => by have hs := hs.below_ hbl; first | exact (r_fieldAddr0 (off := 2) (T := 9) (by kernel_rfl) rfl) | exact (r_fieldAddr (off := 2) (T := 9) (by kernel_rfl) rfl)) ?_
      refine f_v (fun wl hbl => by have hs := hs.below_ hbl; first | exact (r_load_at (i := 0) hs rfl Try.underlying9 rfl rfl) | exact (r_load_at (i := 1) hs rfl Try.underlying9 rfl rfl) | exact (r_load_at (i := 2) hs rfl Try.underlying9 rfl rfl) | exact (r_load_at (i := 3) hs rfl Try.underlying9 rfl rfl) | exact (r_load_at (i := 4) hs rfl Try.underlying9 rfl rfl) | exact (r_load_at (i := 5) hs rfl Try.underlying9 rfl rfl) | exact (r_load_at (i := 6) hs rfl Try.underlying9 rfl rfl)) ?_
      refine f_nil ?_
      have hs := hs.below_ hbF
      show OkL _ _ _ _ (_ :: _) _ _
      refine l_call (r_call Try.func22 rfl rfl) ?_
      refine Calls.mono (ladd_c bl b file ts (ws.length : Int) (su : Int) x (by omega) (by omega) w0 _ _ (hs.pull 4)) ?_
      rintro e w_ ⟨rfl, hs⟩
      refine ⟨_, rfl, ?_⟩
      have hs : Eng.Sep w0 w_ (logH bl b file (ts ++ [x]) (ws.length : Int) (su : Int) :: blk b3 [iV k, iV n, sV (ofL x)] 62 :: blk bx (lgC b bl file (.slice AW ts.length cW) (.slice AR ws.length cR) vM su) 65 :: waitM (.slice AW ts.length cW) ts vM ms :: rowS (.slice AR ws.length cR) ws :: diskH b S :: R) := hs
      refine l_v (by first | exact (r_assign (v := iV _) rfl) | exact (r_assign rfl)) ?_
      refine l_nil (nrm_then ?_)
      refine c_seq ?_
      refine c_rseq ?_
      refine l_v (by first | exact (r_move (v := iV _) rfl) | exact (r_move rfl)) ?_
      refine l_v (r_eqli rfl rfl) ?_
      refine l_v (by first | exact (r_fieldAddr0 (off := 2) (T := 9) (by kernel_rfl) rfl) | exact (r_fieldAddr (off := 2) (T := 9) (by kernel_rfl) rfl)) ?_
      refine l_v (by first | exact (r_load_at (i := 0) hs rfl Try.underlying9 rfl rfl) | exact (r_load_at (i := 1) hs rfl Try.underlying9 rfl rfl) | exact (r_load_at (i := 2) hs rfl Try.underlying9 rfl rfl) | exact (r_load_at (i := 3) hs rfl Try.underlying9 rfl rfl) | exact (r_load_at (i := 4) hs rfl Try.underlying9 rfl rfl) | exact (r_load_at (i := 5) hs rfl Try.underlying9 rfl rfl) | exact (r_load_at (i := 6) hs rfl Try.underlying9 rfl rfl)) ?_
      refine l_v (r_len_s Try.underlying9 rfl) ?_
      refine l_v (r_leqi rfl rfl) ?_
      refine l_v (r_neqb Try.underlying4 rfl rfl) ?_
      refine l_v (by first | exact (r_move (v := bV _) rfl) | exact (r_move rfl)) ?_
      refine l_vg (by first | exact (r_move (v := iV _) rfl) | exact (r_move rfl)) rfl (f31) ?_
      refine l_vg (r_neqi rfl rfl) rfl (f31) ?_
      refine l_vg (by first | exact (r_move (v := bV _) rfl) | exact (r_move rfl)) rfl (f31) ?_
      refine l_no rfl (rfl) ?_
      refine l_no rfl (rfl) ?_
      refine l_vg (r_pick_f rfl rfl rfl) rfl (f31) ?_
      refine l_v (r_pick_f rfl f31 rfl) ?_
      refine l_nil (nrm_then ?_)
      refine c_false rfl (rfl) ?_
      refine c_skip (nrm_then ?_)
      refine c_rseq ?_
      refine l_v (by first | exact (r_move (v := iV _) rfl) | exact (r_move rfl)) ?_
      refine l_v (r_eqli rfl rfl) ?_
      refine l_nil (nrm_then ?_)
      refine c_true rfl (rfl) ?_
      have hs := hs.drew
      refine c_floatG (fun w' => w'.cell? ⟨bx, 3, none⟩ = some (.slice AW ts.length cW) ∧ w'.cell? ⟨b3, 2, none⟩ = some (sV (ofL x))) [8, 7] 9 (by kernel_rfl) (by kernel_rfl) (⟨(cell_blk (hs.at_ 2).1).trans rfl, (cell_blk (hs.at_ 1).1).trans rfl⟩) ?_
      show OkG _ _ _ _ _ _ (_ :: _) 0 _ _
      refine g_v (fun wl hbl => by exact (r_move (v := .pointer _) rfl)) ?_
      refine g_v (fun wl hbl => by exact (r_move (v := .pointer _) rfl)) ?_
      refine g_v (fun wl hbl => by first | exact (r_nilCheck_p rfl) | exact (r_nilCheck_f rfl)) ?_
      refine g_v (fun wl hbl => by first | exact (r_fieldAddr0 (off := 3) (T := 22) (by kernel_rfl) rfl) | exact (r_fieldAddr (off := 3) (T := 22) (by kernel_rfl) rfl)) ?_
      refine g_v (fun wl hbl => by exact (r_load Try.underlying22 rfl hbl.1)) ?_
      refine g_v (fun wl hbl => by first | exact (r_fieldAddr0 (off := 2) (T := 9) (by kernel_rfl) rfl) | exact (r_fieldAddr (off := 2) (T := 9) (by kernel_rfl) rfl)) ?_
      refine g_v (fun wl hbl => by exact (r_load Try.underlying9 rfl hbl.2)) ?_
      refine g_lit1 [sV (ofL x)] hs Try.underlying22 I9 rfl (by simp [Value.oneCell']) rfl (by decide) (by decide) ?_
      intro b48 w48 hs
      refine ⟨⟨(cell_blk (hs.at_ 3).1).trans rfl, (cell_blk (hs.at_ 2).1).trans rfl⟩, ?_⟩
      have hs := (hs.pull 4).pull 1
      obtain ⟨v49, w49, hrun, hs⟩ := append_wait (P := Try.prog) (ty := 22) (c := 1) Try.underlying22 I9 hs (by omega) (by omega)
      obtain ⟨A49, c49, rfl, hc49⟩ := wait_form hs
      have hs : Eng.Sep w0 w49 (waitM (.slice A49 (ts ++ [x]).length c49) (ts ++ [x]) vM ms :: logH bl b file (ts ++ [x]) (ws.length : Int) (su : Int) :: blk b3 [iV k, iV n, sV (ofL x)] 62 :: blk bx (lgC b bl file (.slice AW ts.length cW) (.slice AR ws.length cR) vM su) 65 :: rowS (.slice AR ws.length cR) ws :: diskH b S :: R) := hs
      refine g_app rfl rfl hrun ⟨(cell_blk (hs.at_ 3).1).trans rfl, (cell_blk (hs.at_ 2).1).trans rfl⟩ ?_
      refine g_nil ?_
      show OkL _ _ _ _ (_ :: _) _ _
      refine l_v (by first | exact (r_nilCheck_p rfl) | exact (r_nilCheck_f rfl)) ?_
      refine l_v (by first | exact (r_fieldAddr0 (off := 3) (T := 22) (by kernel_rfl) rfl) | exact (r_fieldAddr (off := 3) (T := 22) (by kernel_rfl) rfl)) ?_
      first | refine l_store (i := 0) (v := .slice _ _ _) hs rfl I22 rfl rfl (by first | (simp; done) | (simp; omega) | omega) ?_ | refine l_store (i := 1) (v := .slice _ _ _) hs rfl I22 rfl rfl (by first | (simp; done) | (simp; omega) | omega) ?_ | refine l_store (i := 2) (v := .slice _ _ _) hs rfl I22 rfl rfl (by first | (simp; done) | (simp; omega) | omega) ?_ | refine l_store (i := 3) (v := .slice _ _ _) hs rfl I22 rfl rfl (by first | (simp; done) | (simp; omega) | omega) ?_ | refine l_store (i := 4) (v := .slice _ _ _) hs rfl I22 rfl rfl (by first | (simp; done) | (simp; omega) | omega) ?_ | refine l_store (i := 5) (v := .slice _ _ _) hs rfl I22 rfl rfl (by first | (simp; done) | (simp; omega) | omega) ?_ | refine l_store (i := 6) (v := .slice _ _ _) hs rfl I22 rfl rfl (by first | (simp; done) | (simp; omega) | omega) ?_
      intro w_ hs
      refine l_nil (nrm_block (nrm_then ?_))
      refine And.intro (by refine ⟨?_, trivial⟩ <;> ((conv => lhs; whnf); (try conv => rhs; whnf))) ?_
      exact ⟨S, ts ++ [x], ws, ms, su, _, _, _, hp.add hx, ((((hs.pull 1).pull 4).pull 2).pull 4).pull 4⟩
    · replace h1 := of_decide_eq_false h1
      refine c_rseq ?_
      refine l_v (r_eqli rfl rfl) ?_
      refine l_v (by first | exact (r_assign (v := bV _) rfl) | exact (r_assign rfl)) ?_
      refine l_nil (nrm_then ?_)
      refine c_cond rfl (fun h2 => ?_) (fun h2 => ?_)
      · replace h2 := of_decide_eq_true h2
        refine c_rseq ?_
        refine l_v (r_move (v := .pointer _) rfl) ?_
        refine l_v (by first | exact (r_nilCheck_p rfl) | exact (r_nilCheck_f rfl)) ?_
        refine l_v (by first | exact (r_fieldAddr0 (off := 0) (T := 36) (by kernel_rfl) rfl) | exact (r_fieldAddr (off := 0) (T := 36) (by kernel_rfl) rfl)) ?_
        refine l_v (by first | exact (r_load_at (i := 0) hs rfl Try.underlying36 rfl rfl) | exact (r_load_at (i := 1) hs rfl Try.underlying36 rfl rfl) | exact (r_load_at (i := 2) hs rfl Try.underlying36 rfl rfl) | exact (r_load_at (i := 3) hs rfl Try.underlying36 rfl rfl) | exact (r_load_at (i := 4) hs rfl Try.underlying36 rfl rfl) | exact (r_load_at (i := 5) hs rfl Try.underlying36 rfl rfl) | exact (r_load_at (i := 6) hs rfl Try.underlying36 rfl rfl)) ?_
        refine l_call (r_call Try.func49 rfl rfl) ?_
        refine Calls.mono (steps_c b S w0 _ _ (hs.pull 5)) ?_
        rintro e w_ ⟨rfl, hww⟩
        refine ⟨_, rfl, ?_⟩
        rw [hww]
        refine l_v (by first | exact (r_assign (v := iV _) rfl) | exact (r_assign rfl)) ?_
        refine l_nil (nrm_then ?_)
        refine c_rseq ?_
        refine l_v (r_move (v := .pointer _) rfl) ?_
        refine l_v (by first | exact (r_nilCheck_p rfl) | exact (r_nilCheck_f rfl)) ?_
        refine l_v (by first | exact (r_fieldAddr0 (off := 0) (T := 36) (by kernel_rfl) rfl) | exact (r_fieldAddr (off := 0) (T := 36) (by kernel_rfl) rfl)) ?_
        refine l_v (by first | exact (r_load_at (i := 0) hs rfl Try.underlying36 rfl rfl) | exact (r_load_at (i := 1) hs rfl Try.underlying36 rfl rfl) | exact (r_load_at (i := 2) hs rfl Try.underlying36 rfl rfl) | exact (r_load_at (i := 3) hs rfl Try.underlying36 rfl rfl) | exact (r_load_at (i := 4) hs rfl Try.underlying36 rfl rfl) | exact (r_load_at (i := 5) hs rfl Try.underlying36 rfl rfl) | exact (r_load_at (i := 6) hs rfl Try.underlying36 rfl rfl)) ?_
        refine l_call (r_call Try.func50 rfl rfl) ?_
        refine Calls.mono (down_c b S w0 _ _ (hs.pull 5)) ?_
        rintro e w_ ⟨rfl, hww2⟩
        refine ⟨_, rfl, ?_⟩
        rw [hww2]
        refine l_v (by first | exact (r_assign (v := bV _) rfl) | exact (r_assign rfl)) ?_
        refine l_nil (nrm_then ?_)
        refine c_rseq ?_
        refine l_v (r_move (v := .pointer _) rfl) ?_
        refine l_v (by first | exact (r_nilCheck_p rfl) | exact (r_nilCheck_f rfl)) ?_
        refine l_v (by first | exact (r_fieldAddr0 (off := 1) (T := 46) (by kernel_rfl) rfl) | exact (r_fieldAddr (off := 1) (T := 46) (by kernel_rfl) rfl)) ?_
        refine l_v (by first | exact (r_load_at (i := 0) hs rfl Try.underlying46 rfl rfl) | exact (r_load_at (i := 1) hs rfl Try.underlying46 rfl rfl) | exact (r_load_at (i := 2) hs rfl Try.underlying46 rfl rfl) | exact (r_load_at (i := 3) hs rfl Try.underlying46 rfl rfl) | exact (r_load_at (i := 4) hs rfl Try.underlying46 rfl rfl) | exact (r_load_at (i := 5) hs rfl Try.underlying46 rfl rfl) | exact (r_load_at (i := 6) hs rfl Try.underlying46 rfl rfl)) ?_
        refine l_call (r_call Try.func24 rfl rfl) ?_
        refine Calls.mono (lwrite_c bl b file ts (ws.length : Int) (su : Int) S hp.good (by omega) (bnd_big hp.bt) (by omega) (by omega) (by omega) w0 _ _ ((hs.pull 5).pull 5)) ?_
        rintro e w_ ⟨rfl, hs⟩
        refine ⟨_, rfl, ?_⟩
        have hs := (((hs.pull 5).pull 5).pull 5).pull 5
        refine l_v (by first | exact (r_assign (v := iV _) rfl) | exact (r_assign rfl)) ?_
        refine l_nil (nrm_then ?_)
        refine c_seq ?_
        refine c_rseq ?_
        refine l_v (r_move (v := .pointer _) rfl) ?_
        refine l_v (by first | exact (r_nilCheck_p rfl) | exact (r_nilCheck_f rfl)) ?_
        refine l_v (by first | exact (r_fieldAddr0 (off := 3) (T := 22) (by kernel_rfl) rfl) | exact (r_fieldAddr (off := 3) (T := 22) (by kernel_rfl) rfl)) ?_
        refine l_v (by first | exact (r_load_at (i := 0) hs rfl Try.underlying22 rfl rfl) | exact (r_load_at (i := 1) hs rfl Try.underlying22 rfl rfl) | exact (r_load_at (i := 2) hs rfl Try.underlying22 rfl rfl) | exact (r_load_at (i := 3) hs rfl Try.underlying22 rfl rfl) | exact (r_load_at (i := 4) hs rfl Try.underlying22 rfl rfl) | exact (r_load_at (i := 5) hs rfl Try.underlying22 rfl rfl) | exact (r_load_at (i := 6) hs rfl Try.underlying22 rfl rfl)) ?_
        refine l_v (r_len_l Try.underlying22 rfl) ?_
        refine l_v (r_eqli rfl rfl) ?_
        refine l_nil (nrm_then ?_)
        refine c_cond rfl (fun h4 => ?_) (fun h4 => ?_)
        · have e4 : ts = [] := List.length_eq_zero_iff.1 (by have := of_decide_eq_true h4; omega)
          subst e4
          have hW : writeS S file [] = (S, 0) := rfl
          rw [hW] at hs ⊢
          have e5 : (ws.length : Int) + ((([] : List (List UInt8)).length : Nat) : Int) = (ws.length : Int) := by simp
          have hs : Eng.Sep w0 w_ (blk b3 [iV k, iV n, sV (ofL x)] 62 :: blk bx (lgC b bl file (.slice AW ([] : List (List UInt8)).length cW) (.slice AR ws.length cR) vM su) 65 :: waitM (.slice AW ([] : List (List UInt8)).length cW) [] vM ms :: rowS (.slice AR ws.length cR) ws :: logH bl b file [] ((ws.length : Int) + ((([] : List (List UInt8)).length : Nat) : Int)) (su : Int) :: diskH b S :: R) := hs
          rw [e5] at hs
          replace h4 := of_decide_eq_true h4
          refine c_rseq ?_
          refine l_v (by first | exact (r_move (v := iV _) rfl) | exact (r_move rfl)) ?_
          refine l_v (r_eqli rfl rfl) ?_
          refine l_v (by first | exact (r_move (v := bV _) rfl) | exact (r_move rfl)) ?_
          refine l_vg (r_move (v := .pointer _) rfl) rfl (rfl) ?_
          refine l_vg (by first | exact (r_nilCheck_p rfl) | exact (r_nilCheck_f rfl)) rfl (rfl) ?_
          refine l_vg (by first | exact (r_fieldAddr0 (off := 0) (T := 36) (by kernel_rfl) rfl) | exact (r_fieldAddr (off := 0) (T := 36) (by kernel_rfl) rfl)) rfl (rfl) ?_
          refine l_vg (by first | exact (r_load_at (i := 0) hs rfl Try.underlying36 rfl rfl) | exact (r_load_at (i := 1) hs rfl Try.underlying36 rfl rfl) | exact (r_load_at (i := 2) hs rfl Try.underlying36 rfl rfl) | exact (r_load_at (i := 3) hs rfl Try.underlying36 rfl rfl) | exact (r_load_at (i := 4) hs rfl Try.underlying36 rfl rfl) | exact (r_load_at (i := 5) hs rfl Try.underlying36 rfl rfl) | exact (r_load_at (i := 6) hs rfl Try.underlying36 rfl rfl)) rfl (rfl) ?_
          refine l_callg (r_call Try.func49 rfl rfl) rfl (rfl) ?_
          refine Calls.mono (steps_c b S w0 _ _ (hs.pull 5)) ?_
          rintro e w_ ⟨rfl, hww3⟩
          refine ⟨_, rfl, ?_⟩
          rw [hww3]
          refine l_vg (by first | exact (r_move (v := iV _) rfl) | exact (r_move rfl)) rfl (rfl) ?_
          refine l_vg (r_eqli rfl rfl) rfl (rfl) ?_
          refine l_v (r_pick_t rfl rfl rfl) ?_
          refine l_v (by first | exact (r_assign (v := bV _) rfl) | exact (r_assign rfl)) ?_
          refine l_nil (nrm_then ?_)
          refine c_ret (ret_then (ret_block (ret_then ?_)))
          show Fin _ _ _ _ _
          refine fin1 rfl ?_
          refine ⟨congrArg Ending.returned (congrArg Value.bool (decide_eq_true rfl)), bl, S, file, [], ws, ms, su, hpm, ?_⟩
          exact x_shut hs.drop
        · have hne : ts ≠ [] := fun e => (of_decide_eq_false h4) (by rw [e]; rfl)
          have hW : writeS S file ts = addS S file (FF ts ts.length) := if_neg hne
          rw [hW] at hs ⊢
          have hw4 := hp.write hne
          generalize addS S file (FF ts ts.length) = M at *
          have hst0 := hp.good.steps
          replace h4 := of_decide_eq_false h4
          refine c_skip (nrm_then ?_)
          refine c_seq ?_
          refine c_rseq ?_
          refine l_v (by first | exact (r_move (v := iV _) rfl) | exact (r_move rfl)) ?_
          refine l_v (r_eqli rfl rfl) ?_
          refine l_v (r_move (v := .pointer _) rfl) ?_
          refine l_v (by first | exact (r_nilCheck_p rfl) | exact (r_nilCheck_f rfl)) ?_
          refine l_v (by first | exact (r_fieldAddr0 (off := 0) (T := 36) (by kernel_rfl) rfl) | exact (r_fieldAddr (off := 0) (T := 36) (by kernel_rfl) rfl)) ?_
          refine l_v (by first | exact (r_load_at (i := 0) hs rfl Try.underlying36 rfl rfl) | exact (r_load_at (i := 1) hs rfl Try.underlying36 rfl rfl) | exact (r_load_at (i := 2) hs rfl Try.underlying36 rfl rfl) | exact (r_load_at (i := 3) hs rfl Try.underlying36 rfl rfl) | exact (r_load_at (i := 4) hs rfl Try.underlying36 rfl rfl) | exact (r_load_at (i := 5) hs rfl Try.underlying36 rfl rfl) | exact (r_load_at (i := 6) hs rfl Try.underlying36 rfl rfl)) ?_
          refine l_call (r_call Try.func49 rfl rfl) ?_
          refine Calls.mono (steps_c b M.1 w0 _ _ (hs.pull 5)) ?_
          rintro e w_ ⟨rfl, hww3⟩
          refine ⟨_, rfl, ?_⟩
          rw [hww3]
          refine l_v (by first | exact (r_move (v := iV _) rfl) | exact (r_move rfl)) ?_
          refine l_v (r_addi rfl rfl (by omega)) ?_
          refine l_v (r_eqli rfl rfl) ?_
          refine l_v (r_neqb Try.underlying4 rfl rfl) ?_
          rcases hw4 with ⟨h0, hst, hp'⟩ | ⟨h8, hd, hS⟩ | ⟨h7, hd, hS⟩ | ⟨h8, hd, hst, hms, hp'⟩
          · skip
            rw [h0, if_pos rfl, if_pos rfl] at hs
            rw [h0]
            have f96 : (decide ((0 : Int) = 0) != decide (M.1.steps = S.steps + 1)) = false := by rw [decide_eq_true hst]; rfl
            refine l_v (by first | exact (r_move (v := bV _) rfl) | exact (r_move rfl)) ?_
            refine l_vg (by first | exact (r_move (v := iV _) rfl) | exact (r_move rfl)) rfl (f96) ?_
            refine l_vg (r_neqi rfl rfl) rfl (f96) ?_
            refine l_vg (by first | exact (r_move (v := bV _) rfl) | exact (r_move rfl)) rfl (f96) ?_
            refine l_no rfl (rfl) ?_
            refine l_no rfl (rfl) ?_
            refine l_vg (r_pick_f rfl rfl rfl) rfl (f96) ?_
            refine l_vg (by first | exact (r_move (v := bV _) rfl) | exact (r_move rfl)) rfl (f96) ?_
            refine l_no rfl (rfl) ?_
            refine l_no rfl (rfl) ?_
            refine l_vg (r_pick_f rfl rfl rfl) rfl (f96) ?_
            refine l_v (r_pick_f rfl f96 rfl) ?_
            refine l_nil (nrm_then ?_)
            refine c_false rfl (rfl) ?_
            refine c_skip (nrm_then ?_)
            refine c_rseq ?_
            refine l_v (by first | exact (r_move (v := iV _) rfl) | exact (r_move rfl)) ?_
            refine l_v (r_eqli rfl rfl) ?_
            refine l_nil (nrm_then ?_)
            refine c_true rfl (rfl) ?_
            refine c_seq ?_
            have hs := hs.drew
            refine c_floatG (fun w' => w'.cell? ⟨bx, 4, none⟩ = some (.slice AR ws.length cR) ∧ w'.cell? ⟨bx, 3, none⟩ = some (.slice AW ts.length cW)) [9] 10 (by kernel_rfl) (by kernel_rfl) (⟨(cell_blk (hs.at_ 1).1).trans rfl, (cell_blk (hs.at_ 1).1).trans rfl⟩) ?_
            show OkG _ _ _ _ _ _ (_ :: _) 0 _ _
            refine g_v (fun wl hbl => by exact (r_move (v := .pointer _) rfl)) ?_
            refine g_v (fun wl hbl => by exact (r_move (v := .pointer _) rfl)) ?_
            refine g_v (fun wl hbl => by first | exact (r_nilCheck_p rfl) | exact (r_nilCheck_f rfl)) ?_
            refine g_v (fun wl hbl => by first | exact (r_fieldAddr0 (off := 4) (T := 22) (by kernel_rfl) rfl) | exact (r_fieldAddr (off := 4) (T := 22) (by kernel_rfl) rfl)) ?_
            refine g_v (fun wl hbl => by exact (r_load Try.underlying22 rfl hbl.1)) ?_
            refine g_v (fun wl hbl => by exact (r_move (v := .pointer _) rfl)) ?_
            refine g_v (fun wl hbl => by first | exact (r_nilCheck_p rfl) | exact (r_nilCheck_f rfl)) ?_
            refine g_v (fun wl hbl => by first | exact (r_fieldAddr0 (off := 3) (T := 22) (by kernel_rfl) rfl) | exact (r_fieldAddr (off := 3) (T := 22) (by kernel_rfl) rfl)) ?_
            refine g_v (fun wl hbl => by exact (r_load Try.underlying22 rfl hbl.2)) ?_
            refine g_append (c := cW) Try.underlying22 I9 rfl (by decide) rfl rfl (hs.pull 3) (wait_rd (hs.pull 2)) (one_map (fun _ => rfl) _) (by omega) (by omega) ?_
            intro v120 w120 hs
            have hs := row_appl hs
            obtain ⟨A120, c120, rfl, hc120⟩ := hs.rowForm
            refine ⟨⟨(cell_blk (hs.at_ 2).1).trans rfl, (cell_blk (hs.at_ 2).1).trans rfl⟩, ?_⟩
            refine g_nil ?_
            show OkL _ _ _ _ (_ :: _) _ _
            refine l_v (by first | exact (r_nilCheck_p rfl) | exact (r_nilCheck_f rfl)) ?_
            refine l_v (by first | exact (r_fieldAddr0 (off := 4) (T := 22) (by kernel_rfl) rfl) | exact (r_fieldAddr (off := 4) (T := 22) (by kernel_rfl) rfl)) ?_
            first | refine l_store (i := 0) (v := .slice _ _ _) hs rfl I22 rfl rfl (by first | (simp; done) | (simp; omega) | omega) ?_ | refine l_store (i := 1) (v := .slice _ _ _) hs rfl I22 rfl rfl (by first | (simp; done) | (simp; omega) | omega) ?_ | refine l_store (i := 2) (v := .slice _ _ _) hs rfl I22 rfl rfl (by first | (simp; done) | (simp; omega) | omega) ?_ | refine l_store (i := 3) (v := .slice _ _ _) hs rfl I22 rfl rfl (by first | (simp; done) | (simp; omega) | omega) ?_ | refine l_store (i := 4) (v := .slice _ _ _) hs rfl I22 rfl rfl (by first | (simp; done) | (simp; omega) | omega) ?_ | refine l_store (i := 5) (v := .slice _ _ _) hs rfl I22 rfl rfl (by first | (simp; done) | (simp; omega) | omega) ?_ | refine l_store (i := 6) (v := .slice _ _ _) hs rfl I22 rfl rfl (by first | (simp; done) | (simp; omega) | omega) ?_
            intro w_ hs
            refine l_nil (nrm_then ?_)
            refine c_region ?_
            refine l_v (r_move (v := .pointer _) rfl) ?_
            refine l_v (by first | exact (r_nilCheck_p rfl) | exact (r_nilCheck_f rfl)) ?_
            refine l_v (by first | exact (r_fieldAddr0 (off := 3) (T := 22) (by kernel_rfl) rfl) | exact (r_fieldAddr (off := 3) (T := 22) (by kernel_rfl) rfl)) ?_
            first | refine l_store (i := 0) (v := .slice _ _ _) hs rfl I22 rfl rfl (by first | (simp; done) | (simp; omega) | omega) ?_ | refine l_store (i := 1) (v := .slice _ _ _) hs rfl I22 rfl rfl (by first | (simp; done) | (simp; omega) | omega) ?_ | refine l_store (i := 2) (v := .slice _ _ _) hs rfl I22 rfl rfl (by first | (simp; done) | (simp; omega) | omega) ?_ | refine l_store (i := 3) (v := .slice _ _ _) hs rfl I22 rfl rfl (by first | (simp; done) | (simp; omega) | omega) ?_ | refine l_store (i := 4) (v := .slice _ _ _) hs rfl I22 rfl rfl (by first | (simp; done) | (simp; omega) | omega) ?_ | refine l_store (i := 5) (v := .slice _ _ _) hs rfl I22 rfl rfl (by first | (simp; done) | (simp; omega) | omega) ?_ | refine l_store (i := 6) (v := .slice _ _ _) hs rfl I22 rfl rfl (by first | (simp; done) | (simp; omega) | omega) ?_
            intro w_ hs
            refine l_nil (nrm_block (nrm_then ?_))
            refine And.intro (by refine ⟨?_, trivial⟩ <;> ((conv => lhs; whnf); (try conv => rhs; whnf))) ?_
            have e5 : (ws.length : Int) + ((ts.length : Nat) : Int) = (((ws ++ ts).length : Nat) : Int) := by rw [List.length_append]; omega
            rw [e5] at hs
            exact ⟨M.1, [], ws ++ ts, ms, su, _, _, _, hp'.more (Nat.le_refl _) (Nat.le_add_right _ _), ((wait_clear (hs.pull 3)).pull 3).pull 3⟩
          · skip
            rw [h8, if_neg (by decide), if_neg (by decide), hS] at hs
            rw [h8, hS]
            have f96 : (decide ((8 : Int) = 0) != decide (S.steps = S.steps + 1)) = false := by
              have h : decide (S.steps = S.steps + 1) = false := decide_eq_false (by omega)
              rw [h]; rfl
            have f130 : (!S.down) = false := by rw [hd]; rfl
            refine l_v (by first | exact (r_move (v := bV _) rfl) | exact (r_move rfl)) ?_
            refine l_vg (by first | exact (r_move (v := iV _) rfl) | exact (r_move rfl)) rfl (f96) ?_
            refine l_vg (r_neqi rfl rfl) rfl (f96) ?_
            refine l_vg (by first | exact (r_move (v := bV _) rfl) | exact (r_move rfl)) rfl (f96) ?_
            refine l_vg (by first | exact (r_move (v := iV _) rfl) | exact (r_move rfl)) rfl (rfl) ?_
            refine l_vg (r_neqi rfl rfl) rfl (rfl) ?_
            refine l_vg (r_pick_t rfl rfl rfl) rfl (f96) ?_
            refine l_vg (by first | exact (r_move (v := bV _) rfl) | exact (r_move rfl)) rfl (f96) ?_
            refine l_vg (by first | exact (r_move (v := iV _) rfl) | exact (r_move rfl)) rfl (rfl) ?_
            refine l_vg (r_neqi rfl rfl) rfl (rfl) ?_
            refine l_vg (r_pick_t rfl rfl rfl) rfl (f96) ?_
            refine l_v (r_pick_f rfl f96 rfl) ?_
            refine l_nil (nrm_then ?_)
            refine c_false rfl (rfl) ?_
            refine c_skip (nrm_then ?_)
            refine c_rseq ?_
            refine l_v (by first | exact (r_move (v := iV _) rfl) | exact (r_move rfl)) ?_
            refine l_v (r_eqli rfl rfl) ?_
            refine l_nil (nrm_then ?_)
            refine c_false rfl (rfl) ?_
            refine c_rseq ?_
            refine l_v (by first | exact (r_move (v := iV _) rfl) | exact (r_move rfl)) ?_
            refine l_v (r_eqli rfl rfl) ?_
            refine l_v (by first | exact (r_move (v := bV _) rfl) | exact (r_move rfl)) ?_
            refine l_vg (by first | exact (r_move (v := bV _) rfl) | exact (r_move rfl)) rfl (rfl) ?_
            refine l_vg (r_not rfl) rfl (rfl) ?_
            refine l_v (r_pick_t rfl rfl rfl) ?_
            refine l_nil (nrm_then ?_)
            refine c_false rfl (f130) ?_
            refine c_skip (nrm_block (nrm_then ?_))
            refine And.intro (by refine ⟨?_, trivial⟩ <;> ((conv => lhs; whnf); (try conv => rhs; whnf))) ?_
            exact ⟨S, ts, ws, ms, su, _, _, _, hpm, hs⟩
          · skip
            rw [h7, if_neg (by decide), if_neg (by decide), hS] at hs
            rw [h7, hS]
            have f96 : (decide ((7 : Int) = 0) != decide (S.steps = S.steps + 1)) = false := by
              have h : decide (S.steps = S.steps + 1) = false := decide_eq_false (by omega)
              rw [h]; rfl
            refine l_v (by first | exact (r_move (v := bV _) rfl) | exact (r_move rfl)) ?_
            refine l_vg (by first | exact (r_move (v := iV _) rfl) | exact (r_move rfl)) rfl (f96) ?_
            refine l_vg (r_neqi rfl rfl) rfl (f96) ?_
            refine l_vg (by first | exact (r_move (v := bV _) rfl) | exact (r_move rfl)) rfl (f96) ?_
            refine l_vg (by first | exact (r_move (v := iV _) rfl) | exact (r_move rfl)) rfl (rfl) ?_
            refine l_vg (r_neqi rfl rfl) rfl (rfl) ?_
            refine l_vg (r_pick_t rfl rfl rfl) rfl (f96) ?_
            refine l_vg (by first | exact (r_move (v := bV _) rfl) | exact (r_move rfl)) rfl (f96) ?_
            refine l_no rfl (rfl) ?_
            refine l_no rfl (rfl) ?_
            refine l_vg (r_pick_f rfl rfl rfl) rfl (f96) ?_
            refine l_v (r_pick_f rfl f96 rfl) ?_
            refine l_nil (nrm_then ?_)
            refine c_false rfl (rfl) ?_
            refine c_skip (nrm_then ?_)
            refine c_rseq ?_
            refine l_v (by first | exact (r_move (v := iV _) rfl) | exact (r_move rfl)) ?_
            refine l_v (r_eqli rfl rfl) ?_
            refine l_nil (nrm_then ?_)
            refine c_false rfl (rfl) ?_
            refine c_rseq ?_
            refine l_v (by first | exact (r_move (v := iV _) rfl) | exact (r_move rfl)) ?_
            refine l_v (r_eqli rfl rfl) ?_
            refine l_v (by first | exact (r_move (v := bV _) rfl) | exact (r_move rfl)) ?_
            refine l_no rfl (rfl) ?_
            refine l_no rfl (rfl) ?_
            refine l_v (r_pick_f rfl rfl rfl) ?_
            refine l_nil (nrm_then ?_)
            refine c_false rfl (rfl) ?_
            refine c_skip (nrm_block (nrm_then ?_))
            refine And.intro (by refine ⟨?_, trivial⟩ <;> ((conv => lhs; whnf); (try conv => rhs; whnf))) ?_
            exact ⟨S, ts, ws, ms, su, _, _, _, hpm, hs⟩
          · skip
            rw [h8, if_neg (by decide), if_neg (by decide)] at hs
            rw [h8]
            have f96 : (decide ((8 : Int) = 0) != decide (M.1.steps = S.steps + 1)) = false := by
              have h : decide (M.1.steps = S.steps + 1) = false := decide_eq_false (by omega)
              rw [h]; rfl
            have f130 : (!S.down) = true := by rw [hd]; rfl
            refine l_v (by first | exact (r_move (v := bV _) rfl) | exact (r_move rfl)) ?_
            refine l_vg (by first | exact (r_move (v := iV _) rfl) | exact (r_move rfl)) rfl (f96) ?_
            refine l_vg (r_neqi rfl rfl) rfl (f96) ?_
            refine l_vg (by first | exact (r_move (v := bV _) rfl) | exact (r_move rfl)) rfl (f96) ?_
            refine l_vg (by first | exact (r_move (v := iV _) rfl) | exact (r_move rfl)) rfl (rfl) ?_
            refine l_vg (r_neqi rfl rfl) rfl (rfl) ?_
            refine l_vg (r_pick_t rfl rfl rfl) rfl (f96) ?_
            refine l_vg (by first | exact (r_move (v := bV _) rfl) | exact (r_move rfl)) rfl (f96) ?_
            refine l_vg (by first | exact (r_move (v := iV _) rfl) | exact (r_move rfl)) rfl (rfl) ?_
            refine l_vg (r_neqi rfl rfl) rfl (rfl) ?_
            refine l_vg (r_pick_t rfl rfl rfl) rfl (f96) ?_
            refine l_v (r_pick_f rfl f96 rfl) ?_
            refine l_nil (nrm_then ?_)
            refine c_false rfl (rfl) ?_
            refine c_skip (nrm_then ?_)
            refine c_rseq ?_
            refine l_v (by first | exact (r_move (v := iV _) rfl) | exact (r_move rfl)) ?_
            refine l_v (r_eqli rfl rfl) ?_
            refine l_nil (nrm_then ?_)
            refine c_false rfl (rfl) ?_
            refine c_rseq ?_
            refine l_v (by first | exact (r_move (v := iV _) rfl) | exact (r_move rfl)) ?_
            refine l_v (r_eqli rfl rfl) ?_
            refine l_v (by first | exact (r_move (v := bV _) rfl) | exact (r_move rfl)) ?_
            refine l_vg (by first | exact (r_move (v := bV _) rfl) | exact (r_move rfl)) rfl (rfl) ?_
            refine l_vg (r_not rfl) rfl (rfl) ?_
            refine l_v (r_pick_t rfl rfl rfl) ?_
            refine l_nil (nrm_then ?_)
            refine c_true rfl (f130) ?_
            refine c_region ?_
            refine l_v (r_move (v := .pointer _) rfl) ?_
            refine l_v (r_move (v := .pointer _) rfl) ?_
            refine l_v (by first | exact (r_nilCheck_p rfl) | exact (r_nilCheck_f rfl)) ?_
            refine l_v (by first | exact (r_fieldAddr0 (off := 3) (T := 22) (by kernel_rfl) rfl) | exact (r_fieldAddr (off := 3) (T := 22) (by kernel_rfl) rfl)) ?_
            refine l_v (by first | exact (r_load_at (i := 0) hs rfl Try.underlying22 rfl rfl) | exact (r_load_at (i := 1) hs rfl Try.underlying22 rfl rfl) | exact (r_load_at (i := 2) hs rfl Try.underlying22 rfl rfl) | exact (r_load_at (i := 3) hs rfl Try.underlying22 rfl rfl) | exact (r_load_at (i := 4) hs rfl Try.underlying22 rfl rfl) | exact (r_load_at (i := 5) hs rfl Try.underlying22 rfl rfl) | exact (r_load_at (i := 6) hs rfl Try.underlying22 rfl rfl)) ?_
            refine l_v (by first | exact (r_nilCheck_p rfl) | exact (r_nilCheck_f rfl)) ?_
            refine l_v (by first | exact (r_fieldAddr0 (off := 5) (T := 22) (by kernel_rfl) rfl) | exact (r_fieldAddr (off := 5) (T := 22) (by kernel_rfl) rfl)) ?_
            first | refine l_store (i := 0) (v := .slice _ _ _) hs rfl I22 rfl rfl (by first | (simp; done) | (simp; omega) | omega) ?_ | refine l_store (i := 1) (v := .slice _ _ _) hs rfl I22 rfl rfl (by first | (simp; done) | (simp; omega) | omega) ?_ | refine l_store (i := 2) (v := .slice _ _ _) hs rfl I22 rfl rfl (by first | (simp; done) | (simp; omega) | omega) ?_ | refine l_store (i := 3) (v := .slice _ _ _) hs rfl I22 rfl rfl (by first | (simp; done) | (simp; omega) | omega) ?_ | refine l_store (i := 4) (v := .slice _ _ _) hs rfl I22 rfl rfl (by first | (simp; done) | (simp; omega) | omega) ?_ | refine l_store (i := 5) (v := .slice _ _ _) hs rfl I22 rfl rfl (by first | (simp; done) | (simp; omega) | omega) ?_ | refine l_store (i := 6) (v := .slice _ _ _) hs rfl I22 rfl rfl (by first | (simp; done) | (simp; omega) | omega) ?_
            intro w_ hs
            refine l_nil (nrm_block (nrm_then ?_))
            refine And.intro (by refine ⟨?_, trivial⟩ <;> ((conv => lhs; whnf); (try conv => rhs; whnf))) ?_
            exact ⟨M.1, ts, ws, ts, su, _, _, _, hp'.more (Nat.le_refl _) (Nat.le_add_right _ _), (wait_set (hs.pull 2) hne).pull 2 |>.pull 2⟩
      · replace h2 := of_decide_eq_false h2
        refine c_rseq ?_
        refine l_v (r_eqli rfl rfl) ?_
        refine l_v (by first | exact (r_assign (v := bV _) rfl) | exact (r_assign rfl)) ?_
        refine l_nil (nrm_then ?_)
        refine c_cond rfl (fun h3 => ?_) (fun h3 => ?_)
        · replace h3 := of_decide_eq_true h3
          refine c_rseq ?_
          refine l_v (r_move (v := .pointer _) rfl) ?_
          refine l_v (by first | exact (r_nilCheck_p rfl) | exact (r_nilCheck_f rfl)) ?_
          refine l_v (by first | exact (r_fieldAddr0 (off := 1) (T := 46) (by kernel_rfl) rfl) | exact (r_fieldAddr (off := 1) (T := 46) (by kernel_rfl) rfl)) ?_
          refine l_v (by first | exact (r_load_at (i := 0) hs rfl Try.underlying46 rfl rfl) | exact (r_load_at (i := 1) hs rfl Try.underlying46 rfl rfl) | exact (r_load_at (i := 2) hs rfl Try.underlying46 rfl rfl) | exact (r_load_at (i := 3) hs rfl Try.underlying46 rfl rfl) | exact (r_load_at (i := 4) hs rfl Try.underlying46 rfl rfl) | exact (r_load_at (i := 5) hs rfl Try.underlying46 rfl rfl) | exact (r_load_at (i := 6) hs rfl Try.underlying46 rfl rfl)) ?_
          refine l_call (r_call Try.func28 rfl rfl) ?_
          refine Calls.mono (lsync_c bl b file ts (ws.length : Int) (su : Int) S hp.good (by omega) w0 _ _ ((hs.pull 5).pull 5)) ?_
          rintro e w_ ⟨rfl, hs⟩
          refine ⟨_, rfl, ?_⟩
          have hs := (((hs.pull 5).pull 5).pull 5).pull 5
          have hsy := hp.sync
          generalize syncS S file = M at *
          refine l_v (by first | exact (r_assign (v := iV _) rfl) | exact (r_assign rfl)) ?_
          refine l_nil (nrm_then ?_)
          refine c_seq ?_
          refine c_rseq ?_
          refine l_v (by first | exact (r_move (v := iV _) rfl) | exact (r_move rfl)) ?_
          refine l_v (r_neqi rfl rfl) ?_
          rcases hsy with ⟨h0, hp'⟩ | ⟨h8, hp'⟩
          · skip
            rw [h0, if_pos rfl] at hs
            rw [h0]
            refine l_v (by first | exact (r_move (v := bV _) rfl) | exact (r_move rfl)) ?_
            refine l_no rfl (rfl) ?_
            refine l_no rfl (rfl) ?_
            refine l_v (r_pick_f rfl rfl rfl) ?_
            refine l_nil (nrm_then ?_)
            refine c_false rfl (rfl) ?_
            refine c_skip (nrm_then ?_)
            refine c_rseq ?_
            refine l_v (by first | exact (r_move (v := iV _) rfl) | exact (r_move rfl)) ?_
            refine l_v (r_eqli rfl rfl) ?_
            refine l_nil (nrm_then ?_)
            refine c_true rfl (rfl) ?_
            refine c_region ?_
            refine l_v (r_move (v := .pointer _) rfl) ?_
            refine l_v (r_move (v := .pointer _) rfl) ?_
            refine l_v (by first | exact (r_nilCheck_p rfl) | exact (r_nilCheck_f rfl)) ?_
            refine l_v (by first | exact (r_fieldAddr0 (off := 4) (T := 22) (by kernel_rfl) rfl) | exact (r_fieldAddr (off := 4) (T := 22) (by kernel_rfl) rfl)) ?_
            refine l_v (by first | exact (r_load_at (i := 0) hs rfl Try.underlying22 rfl rfl) | exact (r_load_at (i := 1) hs rfl Try.underlying22 rfl rfl) | exact (r_load_at (i := 2) hs rfl Try.underlying22 rfl rfl) | exact (r_load_at (i := 3) hs rfl Try.underlying22 rfl rfl) | exact (r_load_at (i := 4) hs rfl Try.underlying22 rfl rfl) | exact (r_load_at (i := 5) hs rfl Try.underlying22 rfl rfl) | exact (r_load_at (i := 6) hs rfl Try.underlying22 rfl rfl)) ?_
            refine l_v (r_len_l Try.underlying22 rfl) ?_
            refine l_v (by first | exact (r_nilCheck_p rfl) | exact (r_nilCheck_f rfl)) ?_
            refine l_v (by first | exact (r_fieldAddr0 (off := 6) (T := 3) (by kernel_rfl) rfl) | exact (r_fieldAddr (off := 6) (T := 3) (by kernel_rfl) rfl)) ?_
            first | refine l_store (i := 0) (v := iV _) hs rfl I3 rfl rfl (by first | (simp; done) | (simp; omega) | omega) ?_ | refine l_store (i := 1) (v := iV _) hs rfl I3 rfl rfl (by first | (simp; done) | (simp; omega) | omega) ?_ | refine l_store (i := 2) (v := iV _) hs rfl I3 rfl rfl (by first | (simp; done) | (simp; omega) | omega) ?_ | refine l_store (i := 3) (v := iV _) hs rfl I3 rfl rfl (by first | (simp; done) | (simp; omega) | omega) ?_ | refine l_store (i := 4) (v := iV _) hs rfl I3 rfl rfl (by first | (simp; done) | (simp; omega) | omega) ?_ | refine l_store (i := 5) (v := iV _) hs rfl I3 rfl rfl (by first | (simp; done) | (simp; omega) | omega) ?_ | refine l_store (i := 6) (v := iV _) hs rfl I3 rfl rfl (by first | (simp; done) | (simp; omega) | omega) ?_
            intro w_ hs
            refine l_nil (nrm_block (nrm_then ?_))
            refine And.intro (by refine ⟨?_, trivial⟩ <;> ((conv => lhs; whnf); (try conv => rhs; whnf))) ?_
            exact ⟨M.1, ts, ws, ms, ws.length, _, _, _, hp'.more (Nat.le_refl _) (Nat.le_add_right _ _), hs⟩
          · skip
            rw [h8, if_neg (by decide)] at hs
            rw [h8]
            refine l_v (by first | exact (r_move (v := bV _) rfl) | exact (r_move rfl)) ?_
            refine l_vg (by first | exact (r_move (v := iV _) rfl) | exact (r_move rfl)) rfl (rfl) ?_
            refine l_vg (r_neqi rfl rfl) rfl (rfl) ?_
            refine l_v (r_pick_t rfl rfl rfl) ?_
            refine l_nil (nrm_then ?_)
            refine c_false rfl (rfl) ?_
            refine c_skip (nrm_then ?_)
            refine c_rseq ?_
            refine l_v (by first | exact (r_move (v := iV _) rfl) | exact (r_move rfl)) ?_
            refine l_v (r_eqli rfl rfl) ?_
            refine l_nil (nrm_then ?_)
            refine c_false rfl (rfl) ?_
            refine c_skip (nrm_block (nrm_then ?_))
            refine And.intro (by refine ⟨?_, trivial⟩ <;> ((conv => lhs; whnf); (try conv => rhs; whnf))) ?_
            exact ⟨M.1, ts, ws, ms, su, _, _, _, hp'.more (Nat.le_refl _) (Nat.le_add_right _ _), hs⟩
        · replace h3 := of_decide_eq_false h3
          refine c_rseq ?_
          refine l_v (r_eqli rfl rfl) ?_
          refine l_v (by first | exact (r_assign (v := bV _) rfl) | exact (r_assign rfl)) ?_
          refine l_nil (nrm_then ?_)
          refine c_cond rfl (fun h4 => ?_) (fun h4 => ?_)
          · replace h4 := of_decide_eq_true h4
            refine c_rseq ?_
            refine l_v (r_move (v := .pointer _) rfl) ?_
            refine l_v (by first | exact (r_nilCheck_p rfl) | exact (r_nilCheck_f rfl)) ?_
            refine l_v (by first | exact (r_fieldAddr0 (off := 1) (T := 46) (by kernel_rfl) rfl) | exact (r_fieldAddr (off := 1) (T := 46) (by kernel_rfl) rfl)) ?_
            refine l_v (by first | exact (r_load_at (i := 0) hs rfl Try.underlying46 rfl rfl) | exact (r_load_at (i := 1) hs rfl Try.underlying46 rfl rfl) | exact (r_load_at (i := 2) hs rfl Try.underlying46 rfl rfl) | exact (r_load_at (i := 3) hs rfl Try.underlying46 rfl rfl) | exact (r_load_at (i := 4) hs rfl Try.underlying46 rfl rfl) | exact (r_load_at (i := 5) hs rfl Try.underlying46 rfl rfl) | exact (r_load_at (i := 6) hs rfl Try.underlying46 rfl rfl)) ?_
            refine l_call (r_call Try.func29 rfl rfl) ?_
            refine Calls.mono (lclear_c bl b file ts (ws.length : Int) (su : Int) w0 _ _ (hs.pull 4)) ?_
            rintro e w_ ⟨⟨vc, rfl⟩, hs⟩
            refine ⟨_, rfl, ?_⟩
            refine l_nil (nrm_then ?_)
            refine c_region ?_
            refine l_v (r_move (v := .pointer _) rfl) ?_
            refine l_v (by first | exact (r_nilCheck_p rfl) | exact (r_nilCheck_f rfl)) ?_
            refine l_v (by first | exact (r_fieldAddr0 (off := 3) (T := 22) (by kernel_rfl) rfl) | exact (r_fieldAddr (off := 3) (T := 22) (by kernel_rfl) rfl)) ?_
            first | refine l_store (i := 0) (v := .slice _ _ _) hs rfl I22 rfl rfl (by first | (simp; done) | (simp; omega) | omega) ?_ | refine l_store (i := 1) (v := .slice _ _ _) hs rfl I22 rfl rfl (by first | (simp; done) | (simp; omega) | omega) ?_ | refine l_store (i := 2) (v := .slice _ _ _) hs rfl I22 rfl rfl (by first | (simp; done) | (simp; omega) | omega) ?_ | refine l_store (i := 3) (v := .slice _ _ _) hs rfl I22 rfl rfl (by first | (simp; done) | (simp; omega) | omega) ?_ | refine l_store (i := 4) (v := .slice _ _ _) hs rfl I22 rfl rfl (by first | (simp; done) | (simp; omega) | omega) ?_ | refine l_store (i := 5) (v := .slice _ _ _) hs rfl I22 rfl rfl (by first | (simp; done) | (simp; omega) | omega) ?_ | refine l_store (i := 6) (v := .slice _ _ _) hs rfl I22 rfl rfl (by first | (simp; done) | (simp; omega) | omega) ?_
            intro w_ hs
            refine l_nil (nrm_block (nrm_then ?_))
            refine And.intro (by refine ⟨?_, trivial⟩ <;> ((conv => lhs; whnf); (try conv => rhs; whnf))) ?_
            exact ⟨S, [], ws, ms, su, _, _, _, hpm.clear, (((((wait_clear (hs.pull 3)).pull 1).pull 4).pull 2).pull 4).pull 4⟩
          · replace h4 := of_decide_eq_false h4
            refine c_rseq ?_
            refine l_v (r_eqli rfl rfl) ?_
            refine l_v (by first | exact (r_assign (v := bV _) rfl) | exact (r_assign rfl)) ?_
            refine l_nil (nrm_then ?_)
            refine c_cond rfl (fun h5 => ?_) (fun h5 => ?_)
            · replace h5 := of_decide_eq_true h5
              refine c_float [] 6 (by kernel_rfl) (by kernel_rfl) ?_
              intro hbF
              show OkF _ _ _ _ _ _ (_ :: _) 0 _ _
              refine f_v (fun wl hbl => by have hs := hs.below_ hbl; exact (r_move (v := .pointer _) rfl)) ?_
              refine f_v (fun wl hbl => by have hs := hs.below_ hbl; first | exact (r_nilCheck_p rfl) | exact (r_nilCheck_f rfl)) ?_
              refine f_v (fun wl hbl => by have hs := hs.below_ hbl; first | exact (r_fieldAddr0 (off := 0) (T := 36) (by kernel_rfl) rfl) | exact (r_fieldAddr (off := 0) (T := 36) (by kernel_rfl) rfl)) ?_
              refine f_v (fun wl hbl => by have hs := hs.below_ hbl; first | exact (r_load_at (i := 0) hs rfl Try.underlying36 rfl rfl) | exact (r_load_at (i := 1) hs rfl Try.underlying36 rfl rfl) | exact (r_load_at (i := 2) hs rfl Try.underlying36 rfl rfl) | exact (r_load_at (i := 3) hs rfl Try.underlying36 rfl rfl) | exact (r_load_at (i := 4) hs rfl Try.underlying36 rfl rfl) | exact (r_load_at (i := 5) hs rfl Try.underlying36 rfl rfl) | exact (r_load_at (i := 6) hs rfl Try.underlying36 rfl rfl)) ?_
              refine f_v (fun wl hbl => by have hs := hs.below_ hbl; first | exact (r_fieldAddr0 (off := 1) (T := 3) (by kernel_rfl) rfl) | exact (r_fieldAddr (off := 1) (T := 3) (by kernel_rfl) rfl)) ?_
              refine f_v (fun wl hbl => by have hs := hs.below_ hbl; first | exact (r_load_at (i := 0) hs rfl Try.underlying3 rfl rfl) | exact (r_load_at (i := 1) hs rfl Try.underlying3 rfl rfl) | exact (r_load_at (i := 2) hs rfl Try.underlying3 rfl rfl) | exact (r_load_at (i := 3) hs rfl Try.underlying3 rfl rfl) | exact (r_load_at (i := 4) hs rfl Try.underlying3 rfl rfl) | exact (r_load_at (i := 5) hs rfl Try.underlying3 rfl rfl) | exact (r_load_at (i := 6) hs rfl Try.underlying3 rfl rfl)) ?_
              refine f_nil ?_
              have hs := hs.below_ hbF
              show OkL _ _ _ _ (_ :: _) _ _
              refine l_call (r_call Try.func51 rfl rfl) ?_
              refine Calls.mono (arm_c b S n w0 _ _ (hs.pull 5)) ?_
              rintro e w_ ⟨⟨vc, rfl⟩, hs⟩
              refine ⟨_, rfl, ?_⟩
              refine l_nil (nrm_block (nrm_then ?_))
              refine And.intro (by refine ⟨?_, trivial⟩ <;> ((conv => lhs; whnf); (try conv => rhs; whnf))) ?_
              exact ⟨armS S n, ts, ws, ms, su, _, _, _, hpm.arm hn, ((((hs.pull 5).pull 5).pull 5).pull 5).pull 5⟩
            · replace h5 := of_decide_eq_false h5
              refine c_rseq ?_
              refine l_v (r_eqli rfl rfl) ?_
              refine l_v (by first | exact (r_assign (v := bV _) rfl) | exact (r_assign rfl)) ?_
              refine l_nil (nrm_then ?_)
              refine c_cond rfl (fun h6 => ?_) (fun h6 => ?_)
              · replace h6 := of_decide_eq_true h6
                refine c_rseq ?_
                refine l_v (r_move (v := .pointer _) rfl) ?_
                refine l_v (by first | exact (r_fieldAddr0 (off := 1) (T := 3) (by kernel_rfl) rfl) | exact (r_fieldAddr (off := 1) (T := 3) (by kernel_rfl) rfl)) ?_
                refine l_v (by first | exact (r_load_at (i := 0) hs rfl Try.underlying3 rfl rfl) | exact (r_load_at (i := 1) hs rfl Try.underlying3 rfl rfl) | exact (r_load_at (i := 2) hs rfl Try.underlying3 rfl rfl) | exact (r_load_at (i := 3) hs rfl Try.underlying3 rfl rfl) | exact (r_load_at (i := 4) hs rfl Try.underlying3 rfl rfl) | exact (r_load_at (i := 5) hs rfl Try.underlying3 rfl rfl) | exact (r_load_at (i := 6) hs rfl Try.underlying3 rfl rfl)) ?_
                refine l_call (r_call Try.func32 rfl rfl) ?_
                refine Calls.mono (hback n i T S file ts ws ms su bx b bl hp (by omega) (by omega) w0 _ _ (x_shut hs.drop)) ?_
                rintro e w_ ⟨rfl, bl', S', hp', hs⟩
                refine ⟨_, rfl, ?_⟩
                refine l_v (by first | exact (r_assign (v := bV _) rfl) | exact (r_assign rfl)) ?_
                refine l_nil (nrm_then ?_)
                refine c_ret (ret_block (ret_then ?_))
                show Fin _ _ _ _ _
                refine fin1 rfl ?_
                exact ⟨rfl, bl', S', file + 1, [], [], [], 0, hp'.more (Nat.le_refl _) (Nat.le_add_right _ _), hs⟩
              · replace h6 := of_decide_eq_false h6
                refine c_skip (nrm_block (nrm_then ?_))
                refine And.intro (by refine ⟨?_, trivial⟩ <;> ((conv => lhs; whnf); (try conv => rhs; whnf))) ?_
                exact ⟨S, ts, ws, ms, su, _, _, _, hpm, hs⟩
  · rintro g w_ ⟨S', ts', ws', ms', su', vW', vR', vM', hp', hs⟩
    show OkC _ _ _ _ _ _
    obtain ⟨AW', cW', rfl, hcW'⟩ := wait_form (hs.pull 2)
    obtain ⟨AR', cR', rfl, hcR'⟩ := (hs.pull 3).rowForm
    refine c_rseq ?_
    refine l_v (r_move (v := .pointer _) rfl) ?_
    refine l_v (by first | exact (r_nilCheck_p rfl) | exact (r_nilCheck_f rfl)) ?_
    refine l_v (by first | exact (r_fieldAddr0 (off := 1) (T := 46) (by kernel_rfl) rfl) | exact (r_fieldAddr (off := 1) (T := 46) (by kernel_rfl) rfl)) ?_
    refine l_v (by first | exact (r_load_at (i := 0) hs rfl Try.underlying46 rfl rfl) | exact (r_load_at (i := 1) hs rfl Try.underlying46 rfl rfl) | exact (r_load_at (i := 2) hs rfl Try.underlying46 rfl rfl) | exact (r_load_at (i := 3) hs rfl Try.underlying46 rfl rfl) | exact (r_load_at (i := 4) hs rfl Try.underlying46 rfl rfl) | exact (r_load_at (i := 5) hs rfl Try.underlying46 rfl rfl) | exact (r_load_at (i := 6) hs rfl Try.underlying46 rfl rfl)) ?_
    refine l_call (r_call Try.func25 rfl rfl) ?_
    refine Calls.mono (lcounts_c bl b file ts' (ws'.length : Int) (su' : Int) w0 _ _ (hs.pull 4)) ?_
    rintro e w_ ⟨rfl, hb⟩
    refine ⟨_, rfl, ?_⟩
    have hs := hs.below_ hb
    have f1 : decide (((ts'.length : Nat) : Int) = ((ts'.length : Nat) : Int)) = true := decide_eq_true rfl
    have f2 : decide (((ws'.length : Nat) : Int) = ((ws'.length : Nat) : Int)) = true := decide_eq_true rfl
    have f3 : decide (((su' : Nat) : Int) = ((su' : Nat) : Int)) = true := decide_eq_true rfl
    refine l_v (r_move rfl) ?_
    refine l_v (r_extract rfl rfl) ?_
    refine l_v (r_extract rfl rfl) ?_
    refine l_v (r_extract rfl rfl) ?_
    refine l_v (by first | exact (r_assign (v := iV _) rfl) | exact (r_assign rfl)) ?_
    refine l_v (by first | exact (r_assign (v := iV _) rfl) | exact (r_assign rfl)) ?_
    refine l_v (by first | exact (r_assign (v := iV _) rfl) | exact (r_assign rfl)) ?_
    refine l_nil (nrm_then ?_)
    refine c_rseq ?_
    refine l_v (by first | exact (r_move (v := iV _) rfl) | exact (r_move rfl)) ?_
    refine l_v (r_move (v := .pointer _) rfl) ?_
    refine l_v (by first | exact (r_nilCheck_p rfl) | exact (r_nilCheck_f rfl)) ?_
    refine l_v (by first | exact (r_fieldAddr0 (off := 3) (T := 22) (by kernel_rfl) rfl) | exact (r_fieldAddr (off := 3) (T := 22) (by kernel_rfl) rfl)) ?_
    refine l_v (by first | exact (r_load_at (i := 0) hs rfl Try.underlying22 rfl rfl) | exact (r_load_at (i := 1) hs rfl Try.underlying22 rfl rfl) | exact (r_load_at (i := 2) hs rfl Try.underlying22 rfl rfl) | exact (r_load_at (i := 3) hs rfl Try.underlying22 rfl rfl) | exact (r_load_at (i := 4) hs rfl Try.underlying22 rfl rfl) | exact (r_load_at (i := 5) hs rfl Try.underlying22 rfl rfl) | exact (r_load_at (i := 6) hs rfl Try.underlying22 rfl rfl)) ?_
    refine l_v (r_len_l Try.underlying22 rfl) ?_
    refine l_v (r_eqli rfl rfl) ?_
    refine l_v (by first | exact (r_move (v := bV _) rfl) | exact (r_move rfl)) ?_
    refine l_vg (by first | exact (r_move (v := iV _) rfl) | exact (r_move rfl)) rfl (f1) ?_
    refine l_vg (r_move (v := .pointer _) rfl) rfl (f1) ?_
    refine l_vg (by first | exact (r_nilCheck_p rfl) | exact (r_nilCheck_f rfl)) rfl (f1) ?_
    refine l_vg (by first | exact (r_fieldAddr0 (off := 4) (T := 22) (by kernel_rfl) rfl) | exact (r_fieldAddr (off := 4) (T := 22) (by kernel_rfl) rfl)) rfl (f1) ?_
    refine l_vg (by first | exact (r_load_at (i := 0) hs rfl Try.underlying22 rfl rfl) | exact (r_load_at (i := 1) hs rfl Try.underlying22 rfl rfl) | exact (r_load_at (i := 2) hs rfl Try.underlying22 rfl rfl) | exact (r_load_at (i := 3) hs rfl Try.underlying22 rfl rfl) | exact (r_load_at (i := 4) hs rfl Try.underlying22 rfl rfl) | exact (r_load_at (i := 5) hs rfl Try.underlying22 rfl rfl) | exact (r_load_at (i := 6) hs rfl Try.underlying22 rfl rfl)) rfl (f1) ?_
    refine l_vg (r_len_l Try.underlying22 rfl) rfl (f1) ?_
    refine l_vg (r_eqli rfl rfl) rfl (f1) ?_
    refine l_v (r_pick_t rfl f1 rfl) ?_
    refine l_v (by first | exact (r_move (v := bV _) rfl) | exact (r_move rfl)) ?_
    refine l_vg (by first | exact (r_move (v := iV _) rfl) | exact (r_move rfl)) rfl (f2) ?_
    refine l_vg (r_move (v := .pointer _) rfl) rfl (f2) ?_
    refine l_vg (by first | exact (r_nilCheck_p rfl) | exact (r_nilCheck_f rfl)) rfl (f2) ?_
    refine l_vg (by first | exact (r_fieldAddr0 (off := 6) (T := 3) (by kernel_rfl) rfl) | exact (r_fieldAddr (off := 6) (T := 3) (by kernel_rfl) rfl)) rfl (f2) ?_
    refine l_vg (by first | exact (r_load_at (i := 0) hs rfl Try.underlying3 rfl rfl) | exact (r_load_at (i := 1) hs rfl Try.underlying3 rfl rfl) | exact (r_load_at (i := 2) hs rfl Try.underlying3 rfl rfl) | exact (r_load_at (i := 3) hs rfl Try.underlying3 rfl rfl) | exact (r_load_at (i := 4) hs rfl Try.underlying3 rfl rfl) | exact (r_load_at (i := 5) hs rfl Try.underlying3 rfl rfl) | exact (r_load_at (i := 6) hs rfl Try.underlying3 rfl rfl)) rfl (f2) ?_
    refine l_vg (r_eqli rfl rfl) rfl (f2) ?_
    refine l_v (r_pick_t rfl f2 rfl) ?_
    refine l_v (by first | exact (r_assign (v := bV _) rfl) | exact (r_assign rfl)) ?_
    refine l_nil (nrm_then ?_)
    refine c_ret ?_
    show Fin _ _ _ _ _
    refine fin1 rfl ?_
    exact ⟨congrArg Ending.returned (congrArg Value.bool f3), bl, S', file, ts', ws', ms', su', hp', x_shut hs.drop⟩
end Go.Proofs.Ytlkljeghhahedaa.Wal
