/- The power goes and comes back, in the script of WalPlays. -/
import Derived.Test.YtlkljeghhahedaaWalStep
namespace Go.Proofs.Ytlkljeghhahedaa.Wal
open Go Go.RowKit Go.Proofs.Ytlkljeghhahedaa.Eng Go.Proofs.Ytlkljeghhahedaa.Six Go.Proofs.Ytlkljeghhahedaa.CrcFn Go.Proofs.Ytlkljeghhahedaa.Dsk
set_option linter.unusedVariables false
set_option maxRecDepth 100000
theorem built_keep (a n : Int) : Program.built Try.prog 96 [(0, iV a), (1, iV n)] = some [iV a, iV n].toArray := by
  refine built_of I96 (places := [(0, 1), (1, 1)]) (by kernel_rfl) (cs := [iV 0, iV 0]) rfl ?_
  refine fill_step (off := 0) (l := [iV a]) rfl rfl (by simp) ?_
  exact fill_step (off := 1) (l := [iV n]) rfl rfl (by simp) rfl
theorem built_logs (b bl : Nat) (file : Int) : Program.built Try.prog 65 [(0, dp b), (1, dp bl), (2, iV file)] = some (lgC b bl file (.slice none 0 0) (.slice none 0 0) (.slice none 0 0) 0).toArray := by
  refine built_of I65 (places := [(0, 1), (1, 1), (2, 1), (3, 1), (4, 1), (5, 1), (6, 1)]) (by kernel_rfl) (cs := [.pointer none, .pointer none, iV 0, .slice none 0 0, .slice none 0 0, .slice none 0 0, iV 0]) rfl ?_
  refine fill_step (off := 0) (l := [dp b]) rfl rfl (by simp) ?_
  refine fill_step (off := 1) (l := [dp bl]) rfl rfl (by simp) ?_
  exact fill_step (off := 2) (l := [iV file]) rfl rfl (by simp) rfl
set_option maxHeartbeats 16000000 in
theorem xback_c (n : Int) (i T : Nat) (S : DiskS) (file : Int) (ts ws ms : List (List UInt8)) (su bx b bl : Nat) (hp : Pl i T S file ts ws ms su) (hT : T ≤ 100000) (hi : i ≤ 1000) (w0 w : World) (R : List HP) (hs : Eng.Sep w0 w (logsX bx b bl S file ts ws ms su :: R)) :
    Calls Try.prog 32 #[dp bx, iV n] w fun e w' => e = .returned (bV true) ∧ ∃ bl' S', Pl (i + 1) T S' (file + 1) [] [] [] 0 ∧ Eng.Sep w0 w' (logsX bx b bl' S' (file + 1) [] [] [] 0 :: R) := by
  obtain ⟨vW, vR, vM, hs⟩ := x_open hs
  obtain ⟨AW, cW, rfl, hcW⟩ := wait_form (hs.pull 1)
  obtain ⟨AM, cM, rfl, hcM, _⟩ := wait_maybe (hs.pull 1)
  obtain ⟨AR, cR, rfl, hcR⟩ := (hs.pull 2).rowForm
  have hnum := hp.num
  have hstp := hp.steps
  have hf1 := hp.file1
  obtain ⟨⟨kk, y, hk1, hk2, hr1, hr2, hget, hyl⟩, hmk, hp'⟩ := hp.back n hT hi
  have hgb := good_back hp.good [(file, n)]
  have hsb : (backS S [(file, n)]).steps = S.steps := rfl
  have hal : (ws ++ ms).length = ws.length + ms.length := List.length_append
  have htl : ((ws ++ ms).take kk).length = kk := by rw [List.length_take]; omega
  refine enter (P := Try.prog) Try.func32 rfl rfl ?_
  refine c_rseq ?_
  refine l_v (by first | exact (r_assign (v := bV _) rfl) | exact (r_assign rfl)) ?_
  refine l_nil (nrm_then ?_)
  refine c_seq ?_
  have hs := hs.drew
  refine c_floatG (fun w' => w'.cell? ⟨bx, 0, none⟩ = some (dp b) ∧ w'.cell? ⟨bx, 2, none⟩ = some (iV file)) [10] 11 (by kernel_rfl) (by kernel_rfl) (⟨(cell_blk (hs.at_ 0).1).trans rfl, (cell_blk (hs.at_ 0).1).trans rfl⟩) ?_
  show OkG _ _ _ _ _ _ (_ :: _) 0 _ _
  refine g_v (fun wl hbl => by exact (r_move (v := .pointer _) rfl)) ?_
  refine g_v (fun wl hbl => by first | exact (r_nilCheck_p rfl) | exact (r_nilCheck_f rfl)) ?_
  refine g_v (fun wl hbl => by first | exact (r_fieldAddr0 (off := 0) (T := 36) (by kernel_rfl) rfl) | exact (r_fieldAddr (off := 0) (T := 36) (by kernel_rfl) rfl)) ?_
  refine g_v (fun wl hbl => by exact (r_load Try.underlying36 rfl hbl.1)) ?_
  refine g_v (fun wl hbl => by exact (r_move (v := .pointer _) rfl)) ?_
  refine g_v (fun wl hbl => by first | exact (r_nilCheck_p rfl) | exact (r_nilCheck_f rfl)) ?_
  refine g_v (fun wl hbl => by first | exact (r_fieldAddr0 (off := 2) (T := 3) (by kernel_rfl) rfl) | exact (r_fieldAddr (off := 2) (T := 3) (by kernel_rfl) rfl)) ?_
  refine g_v (fun wl hbl => by exact (r_load Try.underlying3 rfl hbl.2)) ?_
  refine g_v (fun wl hbl => by first | exact (r_move (v := iV _) rfl) | exact (r_move rfl)) ?_
  refine g_v (fun wl hbl => by exact (r_build (l := [(0, iV file), (1, iV n)]) rfl (built_keep file n))) ?_
  refine g_lit [.agg [iV file, iV n].toArray] hs Try.underlying112 I96 rfl (by intro u hu; rw [List.mem_singleton.1 hu]; rfl) (by decide) rfl (by decide) (by decide) ?_
  intro b21 w21 hs
  refine ⟨⟨(cell_blk (hs.at_ 1).1).trans rfl, (cell_blk (hs.at_ 1).1).trans rfl⟩, ?_⟩
  have hs : Eng.Sep w0 w21 (blk b21 [iV file, iV n] 96 :: blk bx (lgC b bl file (.slice AW ts.length cW) (.slice AR ws.length cR) (.slice AM ms.length cM) su) 65 :: waitM (.slice AW ts.length cW) ts (.slice AM ms.length cM) ms :: rowS (.slice AR ws.length cR) ws :: logH bl b file ts (ws.length : Int) (su : Int) :: diskH b S :: R) := hs
  refine g_nil ?_
  show OkL _ _ _ _ (_ :: _) _ _
  refine l_call (r_call Try.func52 rfl rfl) ?_
  refine Calls.mono (back_c b S hp.good (some ⟨b21, 0, none⟩) 1 [(file, n)] w0 _ _ (hs.pull 5) (fun w' h => ⟨rfl, (show 1 ≤ 9223372036854775807 by decide), fun _ => ⟨_, rfl, fun j u hu => by rw [add_lit, Nat.zero_add, cell_blk (h.at_ 0).1]; exact hu⟩⟩)) ?_
  rintro e w_ ⟨⟨vb, rfl⟩, hs⟩
  refine ⟨_, rfl, ?_⟩
  generalize backS S [(file, n)] = B at *
  have hyx : ∀ x, B.get file = some x → x.data.length ≤ 16777216 := fun x hx => by
    rw [hget] at hx
    injection hx with hx
    rw [← hx]; exact hyl
  refine l_nil (nrm_then ?_)
  refine c_seq ?_
  have hs := hs.drew
  refine c_floatG (fun w' => w'.cell? ⟨bx, 0, none⟩ = some (dp b) ∧ w'.cell? ⟨bx, 2, none⟩ = some (iV file)) [8] 15 (by kernel_rfl) (by kernel_rfl) (⟨(cell_blk (hs.at_ 2).1).trans rfl, (cell_blk (hs.at_ 2).1).trans rfl⟩) ?_
  show OkG _ _ _ _ _ _ (_ :: _) 0 _ _
  refine g_v (fun wl hbl => by exact (r_move (v := .pointer _) rfl)) ?_
  refine g_v (fun wl hbl => by first | exact (r_nilCheck_p rfl) | exact (r_nilCheck_f rfl)) ?_
  refine g_v (fun wl hbl => by first | exact (r_fieldAddr0 (off := 0) (T := 36) (by kernel_rfl) rfl) | exact (r_fieldAddr (off := 0) (T := 36) (by kernel_rfl) rfl)) ?_
  refine g_v (fun wl hbl => by exact (r_load Try.underlying36 rfl hbl.1)) ?_
  refine g_v (fun wl hbl => by exact (r_move (v := .pointer _) rfl)) ?_
  refine g_v (fun wl hbl => by first | exact (r_nilCheck_p rfl) | exact (r_nilCheck_f rfl)) ?_
  refine g_v (fun wl hbl => by first | exact (r_fieldAddr0 (off := 2) (T := 3) (by kernel_rfl) rfl) | exact (r_fieldAddr (off := 2) (T := 3) (by kernel_rfl) rfl)) ?_
  refine g_v (fun wl hbl => by exact (r_load Try.underlying3 rfl hbl.2)) ?_
  refine g_call (r_call Try.func20 rfl rfl) ?_
  refine Calls.mono (replay_c b B hgb file hyx w0 _ _ hs) ?_
  rintro e w_ ⟨vl, rfl, hs⟩
  refine ⟨_, rfl, ⟨(cell_blk (hs.at_ 3).1).trans rfl, (cell_blk (hs.at_ 3).1).trans rfl⟩, ?_⟩
  rw [hr1] at hs
  rw [hr2]
  obtain ⟨Al, cl, rfl, hcl⟩ := hs.rowForm
  rw [htl] at hs ⊢
  have hrl := rowS_rd htl hs
  have hs : Eng.Sep w0 w_ (rowS (.slice Al kk cl) ((ws ++ ms).take kk) :: diskH b B :: blk b21 [iV file, iV n] 96 :: blk bx (lgC b bl file (.slice AW ts.length cW) (.slice AR ws.length cR) (.slice AM ms.length cM) su) 65 :: waitM (.slice AW ts.length cW) ts (.slice AM ms.length cM) ms :: rowS (.slice AR ws.length cR) ws :: logH bl b file ts (ws.length : Int) (su : Int) :: R) := hs
  refine g_v (fun wl hbl => by exact (r_move rfl)) ?_
  refine g_v (fun wl hbl => by exact (r_extract rfl rfl)) ?_
  refine g_v (fun wl hbl => by exact (r_extract rfl rfl)) ?_
  refine g_v (fun wl hbl => by exact (r_extract rfl rfl)) ?_
  refine g_v (fun wl hbl => by first | exact (r_assign (v := .slice _ _ _) rfl) | exact (r_assign rfl)) ?_
  refine g_v (fun wl hbl => by first | exact (r_assign (v := bV _) rfl) | exact (r_assign rfl)) ?_
  refine g_nil ?_
  show OkL _ _ _ _ (_ :: _) _ _
  refine l_v (by first | exact (r_assign (v := iV _) rfl) | exact (r_assign rfl)) ?_
  refine l_nil (nrm_then ?_)
  refine c_seq ?_
  have hs := hs.drew
  refine c_floatG (fun w' => w'.cell? ⟨bx, 4, none⟩ = some (.slice AR ws.length cR) ∧ w'.cell? ⟨bx, 5, none⟩ = some (.slice AM ms.length cM)) [5, 0] 10 (by kernel_rfl) (by kernel_rfl) (⟨(cell_blk (hs.at_ 3).1).trans rfl, (cell_blk (hs.at_ 3).1).trans rfl⟩) ?_
  show OkG _ _ _ _ _ _ (_ :: _) 0 _ _
  refine g_lit0 hs Try.underlying22 I9 ?_
  intro b36 w36 hs
  have hs : Eng.Sep w0 w36 (rowS (.slice (some ⟨b36, 0, none⟩) 0 0) [] :: rowS (.slice Al kk cl) ((ws ++ ms).take kk) :: diskH b B :: blk b21 [iV file, iV n] 96 :: blk bx (lgC b bl file (.slice AW ts.length cW) (.slice AR ws.length cR) (.slice AM ms.length cM) su) 65 :: waitM (.slice AW ts.length cW) ts (.slice AM ms.length cM) ms :: rowS (.slice AR ws.length cR) ws :: logH bl b file ts (ws.length : Int) (su : Int) :: R) := hs.rowOf 1 0 0 (Nat.le_refl _) (by decide) rfl
  refine ⟨⟨(cell_blk (hs.at_ 4).1).trans rfl, (cell_blk (hs.at_ 4).1).trans rfl⟩, ?_⟩
  refine g_v (fun wl hbl => by exact (r_move (v := .pointer _) rfl)) ?_
  refine g_v (fun wl hbl => by first | exact (r_nilCheck_p rfl) | exact (r_nilCheck_f rfl)) ?_
  refine g_v (fun wl hbl => by first | exact (r_fieldAddr0 (off := 4) (T := 22) (by kernel_rfl) rfl) | exact (r_fieldAddr (off := 4) (T := 22) (by kernel_rfl) rfl)) ?_
  refine g_v (fun wl hbl => by exact (r_load Try.underlying22 rfl hbl.1)) ?_
  refine g_append (c := cR) Try.underlying22 I9 rfl (by decide) rfl rfl hs ((hs.pull 6).rd) (one_map (fun _ => rfl) _) (by show (0 + ws.length) * _ ≤ _; omega) (by show 0 + ws.length ≤ _; omega) ?_
  intro v41 w41 hs
  have hs := row_appl (l := []) hs
  rw [List.nil_append] at hs
  refine ⟨⟨(cell_blk (hs.at_ 4).1).trans rfl, (cell_blk (hs.at_ 4).1).trans rfl⟩, ?_⟩
  refine g_v (fun wl hbl => by exact (r_move (v := .pointer _) rfl)) ?_
  refine g_v (fun wl hbl => by first | exact (r_nilCheck_p rfl) | exact (r_nilCheck_f rfl)) ?_
  refine g_v (fun wl hbl => by first | exact (r_fieldAddr0 (off := 5) (T := 22) (by kernel_rfl) rfl) | exact (r_fieldAddr (off := 5) (T := 22) (by kernel_rfl) rfl)) ?_
  refine g_v (fun wl hbl => by exact (r_load Try.underlying22 rfl hbl.2)) ?_
  refine g_nil ?_
  show OkL _ _ _ _ (_ :: _) _ _
  obtain ⟨AM', cM', eM, hcM', hrM⟩ := wait_maybe (hs.pull 5)
  have hrM2 : Rd w41 1 AM ms.length (ms.map fun t => sV (ofL t)) := by
    injection eM with e1 _ _
    rw [e1]; exact hrM
  refine l_append Try.underlying22 I9 rfl (by decide) rfl rfl hs hrM2 (one_map (fun _ => rfl) _) (by omega) (by omega) ?_
  intro v46 w46 hs
  have hs := row_appl hs
  obtain ⟨A46, c46, rfl, hc46⟩ := hs.rowForm
  refine l_v (by first | exact (r_assign (v := .slice _ _ _) rfl) | exact (r_assign rfl)) ?_
  refine l_nil (nrm_then ?_)
  refine c_seq ?_
  refine c_rseq ?_
  refine l_v (by first | exact (r_move (v := iV _) rfl) | exact (r_move rfl)) ?_
  refine l_v (r_neqi rfl rfl) ?_
  refine l_v (by first | exact (r_move (v := bV _) rfl) | exact (r_move rfl)) ?_
  have f56 : decide ((kk : Int) < (su : Int)) = false := decide_eq_false (by omega)
  have f63 : decide ((kk : Int) > (((ws ++ ms).length : Nat) : Int)) = false := decide_eq_false (by omega)
  refine l_vg (by first | exact (r_move (v := .slice _ _ _) rfl) | exact (r_move rfl)) rfl (rfl) ?_
  refine l_vg (r_len_l Try.underlying22 rfl) rfl (rfl) ?_
  refine l_vg (r_move (v := .pointer _) rfl) rfl (rfl) ?_
  refine l_vg (by first | exact (r_nilCheck_p rfl) | exact (r_nilCheck_f rfl)) rfl (rfl) ?_
  refine l_vg (by first | exact (r_fieldAddr0 (off := 6) (T := 3) (by kernel_rfl) rfl) | exact (r_fieldAddr (off := 6) (T := 3) (by kernel_rfl) rfl)) rfl (rfl) ?_
  refine l_vg (by first | exact (r_load_at (i := 0) hs rfl Try.underlying3 rfl rfl) | exact (r_load_at (i := 1) hs rfl Try.underlying3 rfl rfl) | exact (r_load_at (i := 2) hs rfl Try.underlying3 rfl rfl) | exact (r_load_at (i := 3) hs rfl Try.underlying3 rfl rfl) | exact (r_load_at (i := 4) hs rfl Try.underlying3 rfl rfl) | exact (r_load_at (i := 5) hs rfl Try.underlying3 rfl rfl) | exact (r_load_at (i := 6) hs rfl Try.underlying3 rfl rfl)) rfl (rfl) ?_
  refine l_vg (r_lssi rfl rfl) rfl (rfl) ?_
  refine l_v (r_pick_f rfl rfl rfl) ?_
  refine l_v (by first | exact (r_move (v := bV _) rfl) | exact (r_move rfl)) ?_
  refine l_vg (by first | exact (r_move (v := .slice _ _ _) rfl) | exact (r_move rfl)) rfl (f56) ?_
  refine l_vg (r_len_l Try.underlying22 rfl) rfl (f56) ?_
  refine l_vg (by first | exact (r_move (v := .slice _ _ _) rfl) | exact (r_move rfl)) rfl (f56) ?_
  refine l_vg (r_len_l Try.underlying22 rfl) rfl (f56) ?_
  refine l_vg (r_gtri rfl rfl) rfl (f56) ?_
  refine l_v (r_pick_f rfl f56 rfl) ?_
  refine l_v (by first | exact (r_move (v := bV _) rfl) | exact (r_move rfl)) ?_
  refine l_vg (by first | exact (r_move (v := .slice _ _ _) rfl) | exact (r_move rfl)) rfl (f63) ?_
  refine l_vg (by first | exact (r_move (v := .slice _ _ _) rfl) | exact (r_move rfl)) rfl (f63) ?_
  refine l_vg (by first | exact (r_move (v := .slice _ _ _) rfl) | exact (r_move rfl)) rfl (f63) ?_
  refine l_vg (r_len_l Try.underlying22 rfl) rfl (f63) ?_
  refine l_vg (r_slice_ph kk Try.underlying22 I9 rfl rfl (by omega)) rfl (f63) ?_
  refine l_callg (r_call Try.func15 rfl rfl) rfl (f63) ?_
  refine Calls.mono (same_n Al A46 cl c46 kk kk (((ws ++ ms).take kk).map ofL) (((ws ++ ms).take kk).map ofL) (by rw [List.length_map, htl]) (by rw [List.length_map, htl]) _ (rowS_rd htl (hs.pull 1)) (by have h := rd_take (rowS_rd rfl hs) hk2; rwa [← List.map_take, ← List.map_take] at h)) ?_
  rintro e w_ ⟨rfl, hb⟩
  refine ⟨_, rfl, ?_⟩
  have hs := hs.below_ hb
  have f72 : (!decide (((ws ++ ms).take kk).map ofL = ((ws ++ ms).take kk).map ofL)) = false := by simp
  refine l_vg (r_not rfl) rfl (f63) ?_
  refine l_v (r_pick_f rfl f63 rfl) ?_
  refine l_nil (nrm_then ?_)
  refine c_false rfl (f72) ?_
  refine c_skip (nrm_then ?_)
  refine c_rseq ?_
  refine l_v (r_move (v := .pointer _) rfl) ?_
  refine l_v (r_move (v := .pointer _) rfl) ?_
  refine l_v (by first | exact (r_nilCheck_p rfl) | exact (r_nilCheck_f rfl)) ?_
  refine l_v (by first | exact (r_fieldAddr0 (off := 2) (T := 3) (by kernel_rfl) rfl) | exact (r_fieldAddr (off := 2) (T := 3) (by kernel_rfl) rfl)) ?_
  refine l_v (by first | exact (r_load_at (i := 0) hs rfl Try.underlying3 rfl rfl) | exact (r_load_at (i := 1) hs rfl Try.underlying3 rfl rfl) | exact (r_load_at (i := 2) hs rfl Try.underlying3 rfl rfl) | exact (r_load_at (i := 3) hs rfl Try.underlying3 rfl rfl) | exact (r_load_at (i := 4) hs rfl Try.underlying3 rfl rfl) | exact (r_load_at (i := 5) hs rfl Try.underlying3 rfl rfl) | exact (r_load_at (i := 6) hs rfl Try.underlying3 rfl rfl)) ?_
  refine l_v (r_addi rfl rfl (by omega)) ?_
  refine l_v (by first | exact (r_nilCheck_p rfl) | exact (r_nilCheck_f rfl)) ?_
  refine l_v (by first | exact (r_fieldAddr0 (off := 2) (T := 3) (by kernel_rfl) rfl) | exact (r_fieldAddr (off := 2) (T := 3) (by kernel_rfl) rfl)) ?_
  first | refine l_store (i := 0) (v := iV _) hs rfl I3 rfl rfl (by first | (simp; done) | (simp; omega) | omega) ?_ | refine l_store (i := 1) (v := iV _) hs rfl I3 rfl rfl (by first | (simp; done) | (simp; omega) | omega) ?_ | refine l_store (i := 2) (v := iV _) hs rfl I3 rfl rfl (by first | (simp; done) | (simp; omega) | omega) ?_ | refine l_store (i := 3) (v := iV _) hs rfl I3 rfl rfl (by first | (simp; done) | (simp; omega) | omega) ?_ | refine l_store (i := 4) (v := iV _) hs rfl I3 rfl rfl (by first | (simp; done) | (simp; omega) | omega) ?_ | refine l_store (i := 5) (v := iV _) hs rfl I3 rfl rfl (by first | (simp; done) | (simp; omega) | omega) ?_ | refine l_store (i := 6) (v := iV _) hs rfl I3 rfl rfl (by first | (simp; done) | (simp; omega) | omega) ?_
  intro w_ hs
  refine l_nil (nrm_then ?_)
  refine c_seq ?_
  have hsx := hs
  have hs := hs.drew
  refine c_floatG (fun w' => w'.cell? ⟨bx, 0, none⟩ = some (dp b) ∧ w'.cell? ⟨bx, 2, none⟩ = some (iV (file + 1))) [8] 13 (by kernel_rfl) (by kernel_rfl) (⟨(cell_blk (hs.at_ 4).1).trans rfl, (cell_blk (hs.at_ 4).1).trans rfl⟩) ?_
  show OkG _ _ _ _ _ _ (_ :: _) 0 _ _
  refine g_v (fun wl hbl => by exact (r_move (v := .pointer _) rfl)) ?_
  refine g_v (fun wl hbl => by first | exact (r_nilCheck_p rfl) | exact (r_nilCheck_f rfl)) ?_
  refine g_v (fun wl hbl => by first | exact (r_fieldAddr0 (off := 0) (T := 36) (by kernel_rfl) rfl) | exact (r_fieldAddr (off := 0) (T := 36) (by kernel_rfl) rfl)) ?_
  refine g_v (fun wl hbl => by exact (r_load Try.underlying36 rfl hbl.1)) ?_
  refine g_v (fun wl hbl => by exact (r_move (v := .pointer _) rfl)) ?_
  refine g_v (fun wl hbl => by first | exact (r_nilCheck_p rfl) | exact (r_nilCheck_f rfl)) ?_
  refine g_v (fun wl hbl => by first | exact (r_fieldAddr0 (off := 2) (T := 3) (by kernel_rfl) rfl) | exact (r_fieldAddr (off := 2) (T := 3) (by kernel_rfl) rfl)) ?_
  refine g_v (fun wl hbl => by exact (r_load Try.underlying3 rfl hbl.2)) ?_
  have hbeg := begin_c b B hgb (by omega) 0 (file + 1) w0 _ _ (hs.pull 2)
  have hbeg := hbeg.mono (R' := fun e w' => ∃ bl', e = .returned (.tuple #[dp bl', iV 0]) ∧ Eng.Sep w0 w' (logH bl' b (file + 1) [] 0 0 :: diskH b (makeS B 0 (file + 1)).1 :: _)) (by
    rintro e w' ⟨q, rfl, hq, hs⟩
    rw [hmk] at hq ⊢
    cases q with
    | none => exact absurd (hq.1 rfl) (fun h => h rfl)
    | some bl => exact ⟨bl, rfl, hs⟩)
  refine g_call (r_call Try.func21 rfl rfl) ?_
  refine Calls.mono (hbeg) ?_
  rintro e w_ ⟨bl', rfl, hs⟩
  refine ⟨_, rfl, ⟨(cell_blk (hs.at_ 5).1).trans rfl, (cell_blk (hs.at_ 5).1).trans rfl⟩, ?_⟩
  generalize (makeS B 0 (file + 1)).1 = S' at *
  have hs : Eng.Sep w0 w_ (blk bx (lgC b bl (file + 1) (.slice AW ts.length cW) (.slice AR ws.length cR) (.slice AM ms.length cM) su) 65 :: logH bl' b (file + 1) [] 0 0 :: diskH b S' :: R) := by
    have h := hs.pull 5
    have h := (h.pull 3).drop
    have h := (h.pull 3).drop
    have h := (h.pull 3).drop
    have h := (h.pull 3).drop
    have h := (h.pull 3).drop
    exact (h.pull 3).drop
  refine g_v (fun wl hbl => by exact (r_move rfl)) ?_
  refine g_v (fun wl hbl => by exact (r_extract rfl rfl)) ?_
  refine g_v (fun wl hbl => by exact (r_extract rfl rfl)) ?_
  refine g_v (fun wl hbl => by exact (r_assign (v := .pointer _) rfl)) ?_
  refine g_nil ?_
  show OkL _ _ _ _ (_ :: _) _ _
  refine l_v (by first | exact (r_assign (v := iV _) rfl) | exact (r_assign rfl)) ?_
  refine l_nil (nrm_then ?_)
  refine c_seq ?_
  refine c_float [] 11 (by kernel_rfl) (by kernel_rfl) ?_
  intro hbF
  show OkF _ _ _ _ _ _ (_ :: _) 0 _ _
  refine f_v (fun wl hbl => by have hs := hs.below_ hbl; exact (r_move (v := .pointer _) rfl)) ?_
  refine f_v (fun wl hbl => by have hs := hs.below_ hbl; exact (r_move (v := .pointer _) rfl)) ?_
  refine f_v (fun wl hbl => by have hs := hs.below_ hbl; first | exact (r_nilCheck_p rfl) | exact (r_nilCheck_f rfl)) ?_
  refine f_v (fun wl hbl => by have hs := hs.below_ hbl; first | exact (r_fieldAddr0 (off := 0) (T := 36) (by kernel_rfl) rfl) | exact (r_fieldAddr (off := 0) (T := 36) (by kernel_rfl) rfl)) ?_
  refine f_v (fun wl hbl => by have hs := hs.below_ hbl; first | exact (r_load_at (i := 0) hs rfl Try.underlying36 rfl rfl) | exact (r_load_at (i := 1) hs rfl Try.underlying36 rfl rfl) | exact (r_load_at (i := 2) hs rfl Try.underlying36 rfl rfl) | exact (r_load_at (i := 3) hs rfl Try.underlying36 rfl rfl) | exact (r_load_at (i := 4) hs rfl Try.underlying36 rfl rfl) | exact (r_load_at (i := 5) hs rfl Try.underlying36 rfl rfl) | exact (r_load_at (i := 6) hs rfl Try.underlying36 rfl rfl)) ?_
  refine f_v (fun wl hbl => by have hs := hs.below_ hbl; exact (r_move (v := .pointer _) rfl)) ?_
  refine f_v (fun wl hbl => by have hs := hs.below_ hbl; exact (r_move (v := .pointer _) rfl)) ?_
  refine f_v (fun wl hbl => by have hs := hs.below_ hbl; first | exact (r_nilCheck_p rfl) | exact (r_nilCheck_f rfl)) ?_
  refine f_v (fun wl hbl => by have hs := hs.below_ hbl; first | exact (r_fieldAddr0 (off := 2) (T := 3) (by kernel_rfl) rfl) | exact (r_fieldAddr (off := 2) (T := 3) (by kernel_rfl) rfl)) ?_
  refine f_v (fun wl hbl => by have hs := hs.below_ hbl; first | exact (r_load_at (i := 0) hs rfl Try.underlying3 rfl rfl) | exact (r_load_at (i := 1) hs rfl Try.underlying3 rfl rfl) | exact (r_load_at (i := 2) hs rfl Try.underlying3 rfl rfl) | exact (r_load_at (i := 3) hs rfl Try.underlying3 rfl rfl) | exact (r_load_at (i := 4) hs rfl Try.underlying3 rfl rfl) | exact (r_load_at (i := 5) hs rfl Try.underlying3 rfl rfl) | exact (r_load_at (i := 6) hs rfl Try.underlying3 rfl rfl)) ?_
  refine f_v (fun wl hbl => by have hs := hs.below_ hbl; exact (r_build (l := [(0, dp b), (1, dp bl'), (2, iV (file + 1))]) rfl (built_logs b bl' (file + 1)))) ?_
  refine f_nil ?_
  have hs := hs.below_ hbF
  show OkL _ _ _ _ (_ :: _) _ _
  refine l_v (by first | exact (r_nilCheck_p rfl) | exact (r_nilCheck_f rfl)) ?_
  first | refine l_store_whole (i := 0) hs rfl I65 rfl rfl (by first | assumption | (simp; done)) (by first | assumption | (simp; done)) (by first | assumption | simp [Value.oneCell']) ?_ | refine l_store_whole (i := 1) hs rfl I65 rfl rfl (by first | assumption | (simp; done)) (by first | assumption | (simp; done)) (by first | assumption | simp [Value.oneCell']) ?_ | refine l_store_whole (i := 2) hs rfl I65 rfl rfl (by first | assumption | (simp; done)) (by first | assumption | (simp; done)) (by first | assumption | simp [Value.oneCell']) ?_ | refine l_store_whole (i := 3) hs rfl I65 rfl rfl (by first | assumption | (simp; done)) (by first | assumption | (simp; done)) (by first | assumption | simp [Value.oneCell']) ?_ | refine l_store_whole (i := 4) hs rfl I65 rfl rfl (by first | assumption | (simp; done)) (by first | assumption | (simp; done)) (by first | assumption | simp [Value.oneCell']) ?_ | refine l_store_whole (i := 5) hs rfl I65 rfl rfl (by first | assumption | (simp; done)) (by first | assumption | (simp; done)) (by first | assumption | simp [Value.oneCell']) ?_ | refine l_store_whole (i := 6) hs rfl I65 rfl rfl (by first | assumption | (simp; done)) (by first | assumption | (simp; done)) (by first | assumption | simp [Value.oneCell']) ?_
  intro w_ hs
  refine l_nil (nrm_then ?_)
  refine c_seq ?_
  refine c_float [4] 9 (by kernel_rfl) (by kernel_rfl) ?_
  intro hbF
  show OkF _ _ _ _ _ _ (_ :: _) 0 _ _
  refine f_v (fun wl hbl => by have hs := hs.below_ hbl; first | exact (r_move (v := iV _) rfl) | exact (r_move rfl)) ?_
  refine f_v (fun wl hbl => by have hs := hs.below_ hbl; exact (r_eqli rfl rfl)) ?_
  refine f_v (fun wl hbl => by have hs := hs.below_ hbl; first | exact (r_move (v := bV _) rfl) | exact (r_move rfl)) ?_
  refine f_vg (fun wl hbl => by have hs := hs.below_ hbl; exact (r_move (v := .pointer _) rfl)) rfl (rfl) ?_
  refine f_callg (r_call Try.func30 rfl rfl) rfl (rfl) ?_
  refine Calls.mono (lfile_c bl' b (file + 1) [] 0 0 w0 _ _ ((hs.below_ hbF).pull 1)) ?_
  rintro e w_ ⟨rfl, rfl⟩
  refine ⟨_, rfl, Below.refl _ _, ?_⟩
  refine f_vg (fun wl hbl => by have hs := hs.below_ hbl; exact (r_move (v := .pointer _) rfl)) rfl (rfl) ?_
  refine f_vg (fun wl hbl => by have hs := hs.below_ hbl; first | exact (r_nilCheck_p rfl) | exact (r_nilCheck_f rfl)) rfl (rfl) ?_
  refine f_vg (fun wl hbl => by have hs := hs.below_ hbl; first | exact (r_fieldAddr0 (off := 2) (T := 3) (by kernel_rfl) rfl) | exact (r_fieldAddr (off := 2) (T := 3) (by kernel_rfl) rfl)) rfl (rfl) ?_
  refine f_vg (fun wl hbl => by have hs := hs.below_ hbl; first | exact (r_load_at (i := 0) hs rfl Try.underlying3 rfl rfl) | exact (r_load_at (i := 1) hs rfl Try.underlying3 rfl rfl) | exact (r_load_at (i := 2) hs rfl Try.underlying3 rfl rfl) | exact (r_load_at (i := 3) hs rfl Try.underlying3 rfl rfl) | exact (r_load_at (i := 4) hs rfl Try.underlying3 rfl rfl) | exact (r_load_at (i := 5) hs rfl Try.underlying3 rfl rfl) | exact (r_load_at (i := 6) hs rfl Try.underlying3 rfl rfl)) rfl (rfl) ?_
  refine f_nil ?_
  have hs := hs.below_ hbF
  show OkL _ _ _ _ (_ :: _) _ _
  refine l_vg (r_eqli rfl rfl) rfl (rfl) ?_
  refine l_v (r_pick_t rfl rfl rfl) ?_
  refine l_v (by first | exact (r_assign (v := bV _) rfl) | exact (r_assign rfl)) ?_
  refine l_nil (nrm_then ?_)
  refine c_ret ?_
  show Fin _ _ _ _ _
  refine fin1 rfl ?_
  refine ⟨congrArg Ending.returned (congrArg Value.bool (decide_eq_true rfl)), bl', S', hp', ?_⟩
  have hs := wait_apart (vW := .slice none 0 0) (vM := .slice none 0 0) (ts := []) (ms := []) ((hs.rowNil 9 1).rowNil 9 1)
  have hs := hs.rowNil 9 1
  exact x_shut (vW := .slice none 0 0) (vM := .slice none 0 0) (vR := .slice none 0 0) ((hs.pull 1).pull 2)
end Go.Proofs.Ytlkljeghhahedaa.Wal
