/- The log in memory: Begin, Add, Write, Sync, Counts. -/
import Derived.Test.YtlkljeghhahedaaWalFew
import Derived.Test.YtlkljeghhahedaaDskOne
import Derived.Test.YtlkljeghhahedaaDskAdd
namespace Go.Proofs.Ytlkljeghhahedaa.Wal
open Go Go.RowKit Go.Proofs.Ytlkljeghhahedaa.Eng Go.Proofs.Ytlkljeghhahedaa.Six Go.Proofs.Ytlkljeghhahedaa.CrcFn Go.Proofs.Ytlkljeghhahedaa.Dsk
set_option linter.unusedVariables false
set_option maxRecDepth 100000
def logH (bl b : Nat) (file : Int) (ts : List (List UInt8)) (wr su : Int) : HP := Eng.ex fun v => stars [blk bl [dp b, iV file, v, iV wr, iV su] 91, rowS v ts]
theorem log_open {w0 w : World} {bl b : Nat} {file wr su : Int} {ts : List (List UInt8)} {R : List HP} (hs : Eng.Sep w0 w (logH bl b file ts wr su :: R)) : ∃ v, Eng.Sep w0 w (blk bl [dp b, iV file, v, iV wr, iV su] 91 :: rowS v ts :: R) := by
  obtain ⟨v, hs⟩ := hs.ex
  exact ⟨v, hs.unfold⟩
theorem log_shut {w0 w : World} {bl b : Nat} {file wr su : Int} {ts : List (List UInt8)} {v : Value} {R : List HP} (hs : Eng.Sep w0 w (blk bl [dp b, iV file, v, iV wr, iV su] 91 :: rowS v ts :: R)) : Eng.Sep w0 w (logH bl b file ts wr su :: R) :=
  Eng.Sep.inEx (F := fun v => stars [blk bl [dp b, iV file, v, iV wr, iV su] 91, rowS v ts]) v (Eng.Sep.fold (M := [_, _]) hs)
theorem built_log (b : Nat) (file : Int) : Program.built Try.prog 91 [(0, dp b), (1, iV file)] = some [dp b, iV file, .slice none 0 0, iV 0, iV 0].toArray := by
  refine built_of I91 (places := [(0, 1), (1, 1), (2, 1), (3, 1), (4, 1)]) (by kernel_rfl) (cs := [.pointer none, iV 0, .slice none 0 0, iV 0, iV 0]) rfl ?_
  refine fill_step (off := 0) (l := [dp b]) rfl rfl (by simp) ?_
  exact fill_step (off := 1) (l := [iV file]) rfl rfl (by simp) rfl
set_option maxHeartbeats 4000000 in
theorem begin_c (b : Nat) (S : DiskS) (hg : GoodS S) (hst : S.steps ≤ 4611686018427387904) (t n : Int) (w0 w : World) (R : List HP) (hs : Eng.Sep w0 w (diskH b S :: R)) :
    Calls Try.prog 21 #[dp b, iV t, iV n] w fun e w' => ∃ q : Option Nat, e = .returned (.tuple #[.pointer (q.map fun bl => ⟨bl, 0, none⟩), iV (makeS S t n).2]) ∧ (q = none ↔ (makeS S t n).2 ≠ 0) ∧ (match q with
      | none => Eng.Sep w0 w' (diskH b (makeS S t n).1 :: R)
      | some bl => Eng.Sep w0 w' (logH bl b n [] 0 0 :: diskH b (makeS S t n).1 :: R)) := by
  refine enter (P := Try.prog) Try.func21 rfl rfl ?_
  refine c_rseq ?_
  refine l_v (r_assign (v := .pointer _) rfl) ?_
  refine l_v (by first | exact (r_assign (v := iV _) rfl) | exact (r_assign rfl)) ?_
  refine l_nil (nrm_then ?_)
  refine c_seq ?_
  refine c_rseq ?_
  refine l_v (r_move (v := .pointer _) rfl) ?_
  refine l_v (by first | exact (r_move (v := iV _) rfl) | exact (r_move rfl)) ?_
  refine l_v (by first | exact (r_move (v := iV _) rfl) | exact (r_move rfl)) ?_
  refine l_call (r_call Try.func18 rfl rfl) ?_
  refine Calls.mono (make_c b S hg hst t n w0 _ _ hs) ?_
  rintro e w_ ⟨rfl, hs⟩
  refine ⟨_, rfl, ?_⟩
  generalize makeS S t n = M at *
  refine l_v (by first | exact (r_assign (v := iV _) rfl) | exact (r_assign rfl)) ?_
  refine l_nil (nrm_then ?_)
  refine c_rseq ?_
  refine l_v (by first | exact (r_move (v := iV _) rfl) | exact (r_move rfl)) ?_
  refine l_v (r_neqi rfl rfl) ?_
  refine l_nil (nrm_then ?_)
  refine c_cond rfl (fun h1 => ?_) (fun h1 => ?_)
  · replace h1 := of_decide_eq_true h1
    refine c_rseq ?_
    refine l_v (by first | exact (r_move (v := iV _) rfl) | exact (r_move rfl)) ?_
    refine l_v (r_assign (v := .pointer _) rfl) ?_
    refine l_v (by first | exact (r_assign (v := iV _) rfl) | exact (r_assign rfl)) ?_
    refine l_nil (nrm_then ?_)
    refine c_ret (ret_then ?_)
    show Fin _ _ _ _ _
    refine fin2 rfl ?_
    exact ⟨none, rfl, ⟨fun _ => h1, fun _ => rfl⟩, hs⟩
  · have h1' : M.2 = 0 := Decidable.of_not_not (of_decide_eq_false h1)
    replace h1 := of_decide_eq_false h1
    refine c_skip (nrm_then ?_)
    refine c_rseq ?_
    refine l_v (r_move (v := .pointer _) rfl) ?_
    refine l_v (by first | exact (r_move (v := iV _) rfl) | exact (r_move rfl)) ?_
    refine l_v (r_build (l := [(0, dp b), (1, iV n)]) rfl (built_log b n)) ?_
    refine l_box hs rfl ?_
    intro b19 w19 hs hB19 hlt19
    refine l_v (r_assign (v := .pointer _) rfl) ?_
    refine l_v (by first | exact (r_assign (v := iV _) rfl) | exact (r_assign rfl)) ?_
    refine l_nil (nrm_then ?_)
    refine c_ret ?_
    show Fin _ _ _ _ _
    refine fin2 rfl ?_
    rw [h1']
    refine ⟨some b19, rfl, ⟨fun h => (by cases h), fun h => absurd rfl h⟩, ?_⟩
    exact log_shut (ts := []) ((Eng.Sep.rowNil hs 9 1).pull 1)
set_option maxHeartbeats 4000000 in
theorem ladd_c (bl b : Nat) (file : Int) (ts : List (List UInt8)) (wr su : Int) (x : List UInt8) (hz : x.length ≤ 1048576) (hn : ts.length ≤ 100000) (w0 w : World) (R : List HP) (hs : Eng.Sep w0 w (logH bl b file ts wr su :: R)) :
    Calls Try.prog 22 #[dp bl, sV (ofL x)] w fun e w' => e = .returned (iV 0) ∧ Eng.Sep w0 w' (logH bl b file (ts ++ [x]) wr su :: R) := by
  have hzz : (ofL x).size = x.length := rfl
  obtain ⟨v, hs⟩ := log_open hs
  obtain ⟨A, c, rfl, hc⟩ := (hs.pull 1).rowForm
  have f10 : decide (((ofL x).size : Int) > 1048576) = false := decide_eq_false (by omega)
  refine enter (P := Try.prog) Try.func22 rfl rfl ?_
  refine c_rseq ?_
  refine l_v (by first | exact (r_assign (v := iV _) rfl) | exact (r_assign rfl)) ?_
  refine l_nil (nrm_then ?_)
  refine c_seq ?_
  refine c_block ?_
  refine c_rseq ?_
  refine l_v (r_move (v := .pointer _) rfl) ?_
  refine l_v (by first | exact (r_eqlp_some Try.underlying46 rfl rfl) | exact (r_eqlp_none Try.underlying46 rfl rfl)) ?_
  refine l_v (by first | exact (r_assign (v := bV _) rfl) | exact (r_assign rfl)) ?_
  refine l_nil (nrm_then ?_)
  refine c_false rfl (rfl) ?_
  refine c_rseq ?_
  refine l_v (by first | exact (r_move (v := sV _) rfl) | exact (r_move rfl)) ?_
  refine l_v (r_len_s Try.underlying9 rfl) ?_
  refine l_v (r_gtri rfl rfl) ?_
  refine l_v (by first | exact (r_assign (v := bV _) rfl) | exact (r_assign rfl)) ?_
  refine l_nil (nrm_then ?_)
  refine c_false rfl (f10) ?_
  refine c_skip (nrm_block (nrm_then ?_))
  refine c_rseq ?_
  refine l_v (r_move (v := .pointer _) rfl) ?_
  refine l_v (r_move (v := .pointer _) rfl) ?_
  refine l_v (by first | exact (r_nilCheck_p rfl) | exact (r_nilCheck_f rfl)) ?_
  refine l_v (by first | exact (r_fieldAddr0 (off := 2) (T := 22) (by kernel_rfl) rfl) | exact (r_fieldAddr (off := 2) (T := 22) (by kernel_rfl) rfl)) ?_
  refine l_v (by first | exact (r_load_at (i := 0) hs rfl Try.underlying22 rfl rfl) | exact (r_load_at (i := 1) hs rfl Try.underlying22 rfl rfl) | exact (r_load_at (i := 2) hs rfl Try.underlying22 rfl rfl) | exact (r_load_at (i := 3) hs rfl Try.underlying22 rfl rfl) | exact (r_load_at (i := 4) hs rfl Try.underlying22 rfl rfl) | exact (r_load_at (i := 5) hs rfl Try.underlying22 rfl rfl) | exact (r_load_at (i := 6) hs rfl Try.underlying22 rfl rfl)) ?_
  refine l_v (by first | exact (r_move (v := sV _) rfl) | exact (r_move rfl)) ?_
  have hs := hs.pull 1
  refine l_lit1 [sV _] hs Try.underlying22 I9 rfl (by simp [Value.oneCell']) rfl (by decide) (by decide) ?_
  intro b18 w18 hs hB18 hlt18
  refine l_append_lit Try.underlying22 I9 rfl (by decide) rfl rfl hs rfl (by simp [Value.oneCell']) (by omega) (by omega) ?_
  intro v19 w19 hs
  obtain ⟨A2, c2, rfl, hc2⟩ := hs.rowForm
  have hs := hs.pull 1
  refine l_v (by first | exact (r_nilCheck_p rfl) | exact (r_nilCheck_f rfl)) ?_
  refine l_v (by first | exact (r_fieldAddr0 (off := 2) (T := 22) (by kernel_rfl) rfl) | exact (r_fieldAddr (off := 2) (T := 22) (by kernel_rfl) rfl)) ?_
  first | refine l_store (i := 0) (v := .slice _ _ _) hs rfl I22 rfl rfl (by first | (simp; done) | (simp; omega) | omega) ?_ | refine l_store (i := 1) (v := .slice _ _ _) hs rfl I22 rfl rfl (by first | (simp; done) | (simp; omega) | omega) ?_ | refine l_store (i := 2) (v := .slice _ _ _) hs rfl I22 rfl rfl (by first | (simp; done) | (simp; omega) | omega) ?_ | refine l_store (i := 3) (v := .slice _ _ _) hs rfl I22 rfl rfl (by first | (simp; done) | (simp; omega) | omega) ?_ | refine l_store (i := 4) (v := .slice _ _ _) hs rfl I22 rfl rfl (by first | (simp; done) | (simp; omega) | omega) ?_ | refine l_store (i := 5) (v := .slice _ _ _) hs rfl I22 rfl rfl (by first | (simp; done) | (simp; omega) | omega) ?_ | refine l_store (i := 6) (v := .slice _ _ _) hs rfl I22 rfl rfl (by first | (simp; done) | (simp; omega) | omega) ?_
  intro w_ hs
  refine l_nil (nrm_then ?_)
  refine c_rseq ?_
  refine l_v (by first | exact (r_assign (v := iV _) rfl) | exact (r_assign rfl)) ?_
  refine l_nil (nrm_then ?_)
  refine c_ret ?_
  show Fin _ _ _ _ _
  refine fin1 rfl ?_
  exact ⟨rfl, log_shut (v := .slice A2 (ts.length + 1) c2) ((rowS_app (hs.pull 1)).pull 1)⟩
def writeS (S : DiskS) (file : Int) (ts : List (List UInt8)) : DiskS × Int := if ts = [] then (S, 0) else addS S file (FF ts ts.length)
abbrev owb (v : Value) (l : List UInt8) : HP := RowC 5 1 v l.length (l.map u8V)
set_option maxHeartbeats 8000000 in
theorem lwrite_c (bl b : Nat) (file : Int) (ts : List (List UInt8)) (wr su : Int) (S : DiskS) (hg : GoodS S) (hst : S.steps ≤ 4611686018427387904) (hx : ∀ x ∈ ts, x.length ≤ 1048576) (hZ : EE ts ts.length ≤ 1073741824) (hn : ts.length ≤ 100000) (hwr : 0 ≤ wr ∧ wr ≤ 4611686018427387904) (w0 w : World) (R : List HP) (hs : Eng.Sep w0 w (logH bl b file ts wr su :: diskH b S :: R)) :
    Calls Try.prog 24 #[dp bl] w fun e w' => e = .returned (iV (writeS S file ts).2) ∧ Eng.Sep w0 w' (logH bl b file (if (writeS S file ts).2 = 0 then [] else ts) (if (writeS S file ts).2 = 0 then wr + ts.length else wr) su :: diskH b (writeS S file ts).1 :: R) := by
  obtain ⟨v, hs⟩ := log_open hs
  obtain ⟨A, c, rfl, hc⟩ := (hs.pull 1).rowForm
  refine enter (P := Try.prog) Try.func24 rfl rfl ?_
  refine c_rseq ?_
  refine l_v (by first | exact (r_assign (v := iV _) rfl) | exact (r_assign rfl)) ?_
  refine l_nil (nrm_then ?_)
  refine c_seq ?_
  refine c_rseq ?_
  refine l_v (r_move (v := .pointer _) rfl) ?_
  refine l_v (by first | exact (r_eqlp_some Try.underlying46 rfl rfl) | exact (r_eqlp_none Try.underlying46 rfl rfl)) ?_
  refine l_nil (nrm_then ?_)
  refine c_false rfl (rfl) ?_
  refine c_skip (nrm_then ?_)
  refine c_seq ?_
  refine c_rseq ?_
  refine l_v (r_move (v := .pointer _) rfl) ?_
  refine l_v (by first | exact (r_nilCheck_p rfl) | exact (r_nilCheck_f rfl)) ?_
  refine l_v (by first | exact (r_fieldAddr0 (off := 2) (T := 22) (by kernel_rfl) rfl) | exact (r_fieldAddr (off := 2) (T := 22) (by kernel_rfl) rfl)) ?_
  refine l_v (by first | exact (r_load_at (i := 0) hs rfl Try.underlying22 rfl rfl) | exact (r_load_at (i := 1) hs rfl Try.underlying22 rfl rfl) | exact (r_load_at (i := 2) hs rfl Try.underlying22 rfl rfl) | exact (r_load_at (i := 3) hs rfl Try.underlying22 rfl rfl) | exact (r_load_at (i := 4) hs rfl Try.underlying22 rfl rfl) | exact (r_load_at (i := 5) hs rfl Try.underlying22 rfl rfl) | exact (r_load_at (i := 6) hs rfl Try.underlying22 rfl rfl)) ?_
  refine l_v (r_len_l Try.underlying22 rfl) ?_
  refine l_v (r_eqli rfl rfl) ?_
  refine l_nil (nrm_then ?_)
  refine c_cond rfl (fun h1 => ?_) (fun h1 => ?_)
  · have h1' : ts = [] := List.length_eq_zero_iff.1 (by have := of_decide_eq_true h1; omega)
    subst h1'
    replace h1 := of_decide_eq_true h1
    refine c_rseq ?_
    refine l_v (by first | exact (r_assign (v := iV _) rfl) | exact (r_assign rfl)) ?_
    refine l_nil (nrm_then ?_)
    refine c_ret (ret_then ?_)
    show Fin _ _ _ _ _
    refine fin1 rfl ?_
    refine ⟨rfl, ?_⟩
    have e : wr + ((([] : List (List UInt8)).length : Nat) : Int) = wr := by simp
    show Eng.Sep w0 w (logH bl b file [] (wr + ((([] : List (List UInt8)).length : Nat) : Int)) su :: diskH b S :: R)
    rw [e]
    exact log_shut hs
  · have h1' : ts ≠ [] := fun h => (of_decide_eq_false h1) (by rw [h]; rfl)
    have hW : writeS S file ts = addS S file (FF ts ts.length) := if_neg h1'
    rw [hW]
    replace h1 := of_decide_eq_false h1
    refine c_skip (nrm_then ?_)
    refine c_rseq ?_
    refine l_v (by first | exact (r_assign (v := .slice _ _ _) rfl) | exact (r_assign rfl)) ?_
    refine l_nil (nrm_then ?_)
    refine c_seq ?_
    refine c_rseq ?_
    refine l_v (r_move (v := .pointer _) rfl) ?_
    refine l_v (by first | exact (r_nilCheck_p rfl) | exact (r_nilCheck_f rfl)) ?_
    refine l_v (by first | exact (r_fieldAddr0 (off := 2) (T := 22) (by kernel_rfl) rfl) | exact (r_fieldAddr (off := 2) (T := 22) (by kernel_rfl) rfl)) ?_
    refine l_v (by first | exact (r_load_at (i := 0) hs rfl Try.underlying22 rfl rfl) | exact (r_load_at (i := 1) hs rfl Try.underlying22 rfl rfl) | exact (r_load_at (i := 2) hs rfl Try.underlying22 rfl rfl) | exact (r_load_at (i := 3) hs rfl Try.underlying22 rfl rfl) | exact (r_load_at (i := 4) hs rfl Try.underlying22 rfl rfl) | exact (r_load_at (i := 5) hs rfl Try.underlying22 rfl rfl) | exact (r_load_at (i := 6) hs rfl Try.underlying22 rfl rfl)) ?_
    refine l_v (r_len_l Try.underlying22 rfl) ?_
    refine l_v (by first | exact (r_move (v := iV _) rfl) | exact (r_move rfl)) ?_
    refine l_nil (nrm_then ?_)
    refine c_block ?_
    have hs := hs.rowNil 5 1
    refine c_loopn [0, 2, 18, 19] (fun m f' w' => ∃ i va, i + m = ts.length ∧ f' 20 = iV (i : Int) ∧ f' 3 = va ∧ Eng.Sep w0 w' (owb va (FF ts i) :: blk bl [dp b, iV file, .slice A ts.length c, iV wr, iV su] 91 :: rowS (.slice A ts.length c) ts :: diskH b S :: R)) ?_ ?_
    · exact ⟨ts.length, 0, .slice none 0 0, by omega, rfl, rfl, hs⟩
    · rintro m g w_ ⟨i, va, hi, h20, h3, hs⟩
      refine OkC.env ?_ (fixH (L := [(20, _), (3, _)]) ⟨h20, h3, trivial⟩)
      clear h20 h3
      refine c_rseq ?_
      refine l_v (r_lssi rfl rfl) ?_
      refine l_nil (nrm_then ?_)
      refine c_seq ?_
      refine c_cond rfl (fun h2 => ?_) (fun h2 => ?_)
      · have hil : i < ts.length := by have := of_decide_eq_true h2; omega
        obtain ⟨ad, rfl, _⟩ := (hs.pull 2).rd.ad (by omega)
        have hFn := FF_next hil
        have hEi := EE_next hil
        have hEm := EE_mono (xs := ts) (i := i + 1) (n := ts.length) (by omega)
        have hx1 := hx _ (List.getElem_mem hil)
        have hu : (ts.map fun t => sV (ofL t))[i]? = some (sV (ofL ts[i])) := by simp [hil]
        generalize ts[i] = x at *
        replace h2 := of_decide_eq_true h2
        refine c_skip (nrm_then ?_)
        refine c_seq ?_
        refine c_block ?_
        refine c_rseq ?_
        refine l_v (by first | exact (r_indexAddr_o1 Try.underlying22 I9 rfl rfl (by omega)) | exact (r_indexAddr_l1 Try.underlying22 I9 rfl rfl (by omega)) | exact (r_indexAddr_l Try.underlying22 I9 rfl rfl (by omega))) ?_
        refine l_v (r_load Try.underlying9 rfl ((hs.pull 2).rowAt hu)) ?_
        refine l_v (by first | exact (r_assign (v := sV _) rfl) | exact (r_assign rfl)) ?_
        refine l_nil (nrm_then ?_)
        refine c_region ?_
        refine l_v (by first | exact (r_move (v := .slice _ _ _) rfl) | exact (r_move rfl)) ?_
        refine l_v (by first | exact (r_move (v := sV _) rfl) | exact (r_move rfl)) ?_
        refine l_call (r_call Try.func11 rfl rfl) ?_
        refine Calls.mono (frame_c (ofL x) (by show x.length ≤ _; omega) _) ?_
        rintro e w_ ⟨rfl, hb3⟩
        refine ⟨_, rfl, ?_⟩
        have hs := hs.below_ hb3
        rw [Eng.toL_ofL]
        have hsz1 : (FF ts i).length = EE ts i := rfl
        have hsz2 : (ofL (frame x)).size = (frame x).length := rfl
        refine l_append_s Try.underlying34 Try.underlying9 I5 rfl rfl hs (by omega) ?_
        intro v27 w27 hs
        have hs := row_apps hs
        rw [Eng.toL_ofL, ← hFn] at hs
        refine l_v (by first | exact (r_assign (v := .slice _ _ _) rfl) | exact (r_assign rfl)) ?_
        refine l_nil (nrm_block (nrm_then ?_))
        refine c_region ?_
        refine l_v (r_addi rfl rfl (by omega)) ?_
        refine l_v (by first | exact (r_move (v := iV _) rfl) | exact (r_move rfl)) ?_
        refine l_nil (nrm_then ?_)
        refine And.intro (by refine ⟨?_, ?_, ?_, ?_, trivial⟩ <;> ((conv => lhs; whnf); (try conv => rhs; whnf))) ?_
        exact ⟨ts.length - (i + 1), by omega, i + 1, _, by omega, rfl, rfl, hs⟩
      · obtain rfl : i = ts.length := by have := of_decide_eq_false h2; omega
        obtain ⟨A2, c2, rfl, hc2⟩ := hs.rowForm
        replace h2 := of_decide_eq_false h2
        refine c_exit (ex_then (ex_then (ex_hit (nrm_then ?_))))
        refine c_seq ?_
        refine c_seq ?_
        refine c_float [] 10 (by kernel_rfl) (by kernel_rfl) ?_
        intro hbF
        show OkF _ _ _ _ _ _ (_ :: _) 0 _ _
        refine f_v (fun wl hbl => by have hs := hs.below_ hbl; exact (r_move (v := .pointer _) rfl)) ?_
        refine f_v (fun wl hbl => by have hs := hs.below_ hbl; first | exact (r_nilCheck_p rfl) | exact (r_nilCheck_f rfl)) ?_
        refine f_v (fun wl hbl => by have hs := hs.below_ hbl; first | exact (r_fieldAddr0 (off := 0) (T := 36) (by kernel_rfl) rfl) | exact (r_fieldAddr (off := 0) (T := 36) (by kernel_rfl) rfl)) ?_
        refine f_v (fun wl hbl => by have hs := hs.below_ hbl; first | exact (r_load_at (i := 0) hs rfl Try.underlying36 rfl rfl) | exact (r_load_at (i := 1) hs rfl Try.underlying36 rfl rfl) | exact (r_load_at (i := 2) hs rfl Try.underlying36 rfl rfl) | exact (r_load_at (i := 3) hs rfl Try.underlying36 rfl rfl) | exact (r_load_at (i := 4) hs rfl Try.underlying36 rfl rfl) | exact (r_load_at (i := 5) hs rfl Try.underlying36 rfl rfl) | exact (r_load_at (i := 6) hs rfl Try.underlying36 rfl rfl)) ?_
        refine f_v (fun wl hbl => by have hs := hs.below_ hbl; exact (r_move (v := .pointer _) rfl)) ?_
        refine f_v (fun wl hbl => by have hs := hs.below_ hbl; first | exact (r_nilCheck_p rfl) | exact (r_nilCheck_f rfl)) ?_
        refine f_v (fun wl hbl => by have hs := hs.below_ hbl; first | exact (r_fieldAddr0 (off := 1) (T := 3) (by kernel_rfl) rfl) | exact (r_fieldAddr (off := 1) (T := 3) (by kernel_rfl) rfl)) ?_
        refine f_v (fun wl hbl => by have hs := hs.below_ hbl; first | exact (r_load_at (i := 0) hs rfl Try.underlying3 rfl rfl) | exact (r_load_at (i := 1) hs rfl Try.underlying3 rfl rfl) | exact (r_load_at (i := 2) hs rfl Try.underlying3 rfl rfl) | exact (r_load_at (i := 3) hs rfl Try.underlying3 rfl rfl) | exact (r_load_at (i := 4) hs rfl Try.underlying3 rfl rfl) | exact (r_load_at (i := 5) hs rfl Try.underlying3 rfl rfl) | exact (r_load_at (i := 6) hs rfl Try.underlying3 rfl rfl)) ?_
        refine f_v (fun wl hbl => by have hs := hs.below_ hbl; first | exact (r_move (v := .slice _ _ _) rfl) | exact (r_move rfl)) ?_
        refine f_v (fun wl hbl => by have hs := hs.below_ hbl; exact (r_cv_bs (l := FF ts ts.length) Try.underlying34 Try.underlying5 Try.underlying9 rfl hs.rd)) ?_
        refine f_nil ?_
        have hs := hs.below_ hbF
        show OkL _ _ _ _ (_ :: _) _ _
        refine l_call (r_call Try.func19 rfl rfl) ?_
        refine Calls.mono (add_c b S hg hst file (ofL (FF ts ts.length)) (by show EE ts ts.length ≤ _; omega) w0 _ _ (hs.pull 3)) ?_
        rintro e w_ ⟨rfl, hs⟩
        refine ⟨_, rfl, ?_⟩
        rw [Eng.toL_ofL]
        rw [Eng.toL_ofL] at hs
        generalize addS S file (FF ts ts.length) = M at *
        have hs := hs.pull 2
        refine l_v (by first | exact (r_assign (v := iV _) rfl) | exact (r_assign rfl)) ?_
        refine l_nil (nrm_then ?_)
        refine c_rseq ?_
        refine l_v (by first | exact (r_move (v := iV _) rfl) | exact (r_move rfl)) ?_
        refine l_v (r_neqi rfl rfl) ?_
        refine l_nil (nrm_then ?_)
        refine c_cond rfl (fun h3 => ?_) (fun h3 => ?_)
        · replace h3 := of_decide_eq_true h3
          refine c_rseq ?_
          refine l_v (by first | exact (r_move (v := iV _) rfl) | exact (r_move rfl)) ?_
          refine l_v (by first | exact (r_assign (v := iV _) rfl) | exact (r_assign rfl)) ?_
          refine l_nil (nrm_then ?_)
          refine c_ret (ret_then ?_)
          show Fin _ _ _ _ _
          refine fin1 rfl ?_
          refine ⟨rfl, ?_⟩
          rw [if_neg h3, if_neg h3]
          exact log_shut ((((hs.pull 2).drop).pull 2).pull 1)
        · have h3' : M.2 = 0 := Decidable.of_not_not (of_decide_eq_false h3)
          rw [if_pos h3', if_pos h3', h3']
          replace h3 := of_decide_eq_false h3
          refine c_skip (nrm_then ?_)
          refine c_seq ?_
          refine c_tail 10 (by kernel_rfl) (by kernel_rfl) ?_
          have hs := hs.drew
          show OkS _ _ _ _ _ (_ :: _) _
          refine s_v (r_move (v := .pointer _) rfl) ?_
          refine s_v (by first | exact (r_nilCheck_p rfl) | exact (r_nilCheck_f rfl)) ?_
          refine s_v (by first | exact (r_fieldAddr0 (off := 3) (T := 3) (by kernel_rfl) rfl) | exact (r_fieldAddr (off := 3) (T := 3) (by kernel_rfl) rfl)) ?_
          refine s_v (by first | exact (r_load_at (i := 0) hs rfl Try.underlying3 rfl rfl) | exact (r_load_at (i := 1) hs rfl Try.underlying3 rfl rfl) | exact (r_load_at (i := 2) hs rfl Try.underlying3 rfl rfl) | exact (r_load_at (i := 3) hs rfl Try.underlying3 rfl rfl) | exact (r_load_at (i := 4) hs rfl Try.underlying3 rfl rfl) | exact (r_load_at (i := 5) hs rfl Try.underlying3 rfl rfl) | exact (r_load_at (i := 6) hs rfl Try.underlying3 rfl rfl)) ?_
          refine s_v (r_move (v := .pointer _) rfl) ?_
          refine s_v (by first | exact (r_nilCheck_p rfl) | exact (r_nilCheck_f rfl)) ?_
          refine s_v (by first | exact (r_fieldAddr0 (off := 2) (T := 22) (by kernel_rfl) rfl) | exact (r_fieldAddr (off := 2) (T := 22) (by kernel_rfl) rfl)) ?_
          refine s_v (by first | exact (r_load_at (i := 0) hs rfl Try.underlying22 rfl rfl) | exact (r_load_at (i := 1) hs rfl Try.underlying22 rfl rfl) | exact (r_load_at (i := 2) hs rfl Try.underlying22 rfl rfl) | exact (r_load_at (i := 3) hs rfl Try.underlying22 rfl rfl) | exact (r_load_at (i := 4) hs rfl Try.underlying22 rfl rfl) | exact (r_load_at (i := 5) hs rfl Try.underlying22 rfl rfl) | exact (r_load_at (i := 6) hs rfl Try.underlying22 rfl rfl)) ?_
          refine s_v (r_len_l Try.underlying22 rfl) ?_
          refine s_v (r_addi rfl rfl (by omega)) ?_
          refine s_nil ?_
          show OkL _ _ _ _ (_ :: _) _ _
          refine l_v (by first | exact (r_nilCheck_p rfl) | exact (r_nilCheck_f rfl)) ?_
          refine l_v (by first | exact (r_fieldAddr0 (off := 3) (T := 3) (by kernel_rfl) rfl) | exact (r_fieldAddr (off := 3) (T := 3) (by kernel_rfl) rfl)) ?_
          first | refine l_store (i := 0) (v := iV _) hs rfl I3 rfl rfl (by first | (simp; done) | (simp; omega) | omega) ?_ | refine l_store (i := 1) (v := iV _) hs rfl I3 rfl rfl (by first | (simp; done) | (simp; omega) | omega) ?_ | refine l_store (i := 2) (v := iV _) hs rfl I3 rfl rfl (by first | (simp; done) | (simp; omega) | omega) ?_ | refine l_store (i := 3) (v := iV _) hs rfl I3 rfl rfl (by first | (simp; done) | (simp; omega) | omega) ?_ | refine l_store (i := 4) (v := iV _) hs rfl I3 rfl rfl (by first | (simp; done) | (simp; omega) | omega) ?_ | refine l_store (i := 5) (v := iV _) hs rfl I3 rfl rfl (by first | (simp; done) | (simp; omega) | omega) ?_ | refine l_store (i := 6) (v := iV _) hs rfl I3 rfl rfl (by first | (simp; done) | (simp; omega) | omega) ?_
          intro w_ hs
          refine l_nil (nrm_then ?_)
          refine c_rseq ?_
          refine l_v (r_move (v := .pointer _) rfl) ?_
          refine l_v (by first | exact (r_nilCheck_p rfl) | exact (r_nilCheck_f rfl)) ?_
          refine l_v (by first | exact (r_fieldAddr0 (off := 2) (T := 22) (by kernel_rfl) rfl) | exact (r_fieldAddr (off := 2) (T := 22) (by kernel_rfl) rfl)) ?_
          first | refine l_store (i := 0) (v := .slice _ _ _) hs rfl I22 rfl rfl (by first | (simp; done) | (simp; omega) | omega) ?_ | refine l_store (i := 1) (v := .slice _ _ _) hs rfl I22 rfl rfl (by first | (simp; done) | (simp; omega) | omega) ?_ | refine l_store (i := 2) (v := .slice _ _ _) hs rfl I22 rfl rfl (by first | (simp; done) | (simp; omega) | omega) ?_ | refine l_store (i := 3) (v := .slice _ _ _) hs rfl I22 rfl rfl (by first | (simp; done) | (simp; omega) | omega) ?_ | refine l_store (i := 4) (v := .slice _ _ _) hs rfl I22 rfl rfl (by first | (simp; done) | (simp; omega) | omega) ?_ | refine l_store (i := 5) (v := .slice _ _ _) hs rfl I22 rfl rfl (by first | (simp; done) | (simp; omega) | omega) ?_ | refine l_store (i := 6) (v := .slice _ _ _) hs rfl I22 rfl rfl (by first | (simp; done) | (simp; omega) | omega) ?_
          intro w_ hs
          refine l_nil (nrm_then ?_)
          refine c_rseq ?_
          refine l_v (by first | exact (r_assign (v := iV _) rfl) | exact (r_assign rfl)) ?_
          refine l_nil (nrm_then ?_)
          refine c_ret ?_
          show Fin _ _ _ _ _
          refine fin1 rfl ?_
          refine ⟨rfl, ?_⟩
          exact log_shut (ts := []) ((Eng.Sep.rowNil (((hs.pull 2).drop).pull 2).drop 9 1).pull 1)
set_option maxHeartbeats 8000000 in
theorem lsync_c (bl b : Nat) (file : Int) (ts : List (List UInt8)) (wr su : Int) (S : DiskS) (hg : GoodS S) (hst : S.steps ≤ 4611686018427387904) (w0 w : World) (R : List HP) (hs : Eng.Sep w0 w (logH bl b file ts wr su :: diskH b S :: R)) :
    Calls Try.prog 28 #[dp bl] w fun e w' => e = .returned (iV (syncS S file).2) ∧ Eng.Sep w0 w' (logH bl b file ts wr (if (syncS S file).2 = 0 then wr else su) :: diskH b (syncS S file).1 :: R) := by
  obtain ⟨v, hs⟩ := log_open hs
  refine enter (P := Try.prog) Try.func28 rfl rfl ?_
  refine c_rseq ?_
  refine l_v (by first | exact (r_assign (v := iV _) rfl) | exact (r_assign rfl)) ?_
  refine l_nil (nrm_then ?_)
  refine c_seq ?_
  refine c_rseq ?_
  refine l_v (r_move (v := .pointer _) rfl) ?_
  refine l_v (by first | exact (r_eqlp_some Try.underlying46 rfl rfl) | exact (r_eqlp_none Try.underlying46 rfl rfl)) ?_
  refine l_nil (nrm_then ?_)
  refine c_false rfl (rfl) ?_
  refine c_skip (nrm_then ?_)
  refine c_seq ?_
  refine c_seq ?_
  refine c_float [] 8 (by kernel_rfl) (by kernel_rfl) ?_
  intro hbF
  show OkF _ _ _ _ _ _ (_ :: _) 0 _ _
  refine f_v (fun wl hbl => by have hs := hs.below_ hbl; exact (r_move (v := .pointer _) rfl)) ?_
  refine f_v (fun wl hbl => by have hs := hs.below_ hbl; first | exact (r_nilCheck_p rfl) | exact (r_nilCheck_f rfl)) ?_
  refine f_v (fun wl hbl => by have hs := hs.below_ hbl; first | exact (r_fieldAddr0 (off := 0) (T := 36) (by kernel_rfl) rfl) | exact (r_fieldAddr (off := 0) (T := 36) (by kernel_rfl) rfl)) ?_
  refine f_v (fun wl hbl => by have hs := hs.below_ hbl; first | exact (r_load_at (i := 0) hs rfl Try.underlying36 rfl rfl) | exact (r_load_at (i := 1) hs rfl Try.underlying36 rfl rfl) | exact (r_load_at (i := 2) hs rfl Try.underlying36 rfl rfl) | exact (r_load_at (i := 3) hs rfl Try.underlying36 rfl rfl) | exact (r_load_at (i := 4) hs rfl Try.underlying36 rfl rfl) | exact (r_load_at (i := 5) hs rfl Try.underlying36 rfl rfl) | exact (r_load_at (i := 6) hs rfl Try.underlying36 rfl rfl)) ?_
  refine f_v (fun wl hbl => by have hs := hs.below_ hbl; exact (r_move (v := .pointer _) rfl)) ?_
  refine f_v (fun wl hbl => by have hs := hs.below_ hbl; first | exact (r_nilCheck_p rfl) | exact (r_nilCheck_f rfl)) ?_
  refine f_v (fun wl hbl => by have hs := hs.below_ hbl; first | exact (r_fieldAddr0 (off := 1) (T := 3) (by kernel_rfl) rfl) | exact (r_fieldAddr (off := 1) (T := 3) (by kernel_rfl) rfl)) ?_
  refine f_v (fun wl hbl => by have hs := hs.below_ hbl; first | exact (r_load_at (i := 0) hs rfl Try.underlying3 rfl rfl) | exact (r_load_at (i := 1) hs rfl Try.underlying3 rfl rfl) | exact (r_load_at (i := 2) hs rfl Try.underlying3 rfl rfl) | exact (r_load_at (i := 3) hs rfl Try.underlying3 rfl rfl) | exact (r_load_at (i := 4) hs rfl Try.underlying3 rfl rfl) | exact (r_load_at (i := 5) hs rfl Try.underlying3 rfl rfl) | exact (r_load_at (i := 6) hs rfl Try.underlying3 rfl rfl)) ?_
  refine f_nil ?_
  have hs := hs.below_ hbF
  show OkL _ _ _ _ (_ :: _) _ _
  refine l_call (r_call Try.func48 rfl rfl) ?_
  refine Calls.mono (sync_c b S hg hst file w0 _ _ (hs.pull 2)) ?_
  rintro e w_ ⟨rfl, hs⟩
  refine ⟨_, rfl, ?_⟩
  generalize syncS S file = M at *
  have hs := hs.pull 1
  refine l_v (by first | exact (r_assign (v := iV _) rfl) | exact (r_assign rfl)) ?_
  refine l_nil (nrm_then ?_)
  refine c_rseq ?_
  refine l_v (by first | exact (r_move (v := iV _) rfl) | exact (r_move rfl)) ?_
  refine l_v (r_neqi rfl rfl) ?_
  refine l_nil (nrm_then ?_)
  refine c_cond rfl (fun h3 => ?_) (fun h3 => ?_)
  · replace h3 := of_decide_eq_true h3
    refine c_rseq ?_
    refine l_v (by first | exact (r_move (v := iV _) rfl) | exact (r_move rfl)) ?_
    refine l_v (by first | exact (r_assign (v := iV _) rfl) | exact (r_assign rfl)) ?_
    refine l_nil (nrm_then ?_)
    refine c_ret (ret_then ?_)
    show Fin _ _ _ _ _
    refine fin1 rfl ?_
    rw [if_neg h3]
    exact ⟨rfl, log_shut (hs.pull 2 |>.pull 1)⟩
  · have h3' : M.2 = 0 := Decidable.of_not_not (of_decide_eq_false h3)
    rw [if_pos h3', h3']
    replace h3 := of_decide_eq_false h3
    refine c_skip (nrm_then ?_)
    refine c_rseq ?_
    refine l_v (r_move (v := .pointer _) rfl) ?_
    refine l_v (r_move (v := .pointer _) rfl) ?_
    refine l_v (by first | exact (r_nilCheck_p rfl) | exact (r_nilCheck_f rfl)) ?_
    refine l_v (by first | exact (r_fieldAddr0 (off := 3) (T := 3) (by kernel_rfl) rfl) | exact (r_fieldAddr (off := 3) (T := 3) (by kernel_rfl) rfl)) ?_
    refine l_v (by first | exact (r_load_at (i := 0) hs rfl Try.underlying3 rfl rfl) | exact (r_load_at (i := 1) hs rfl Try.underlying3 rfl rfl) | exact (r_load_at (i := 2) hs rfl Try.underlying3 rfl rfl) | exact (r_load_at (i := 3) hs rfl Try.underlying3 rfl rfl) | exact (r_load_at (i := 4) hs rfl Try.underlying3 rfl rfl) | exact (r_load_at (i := 5) hs rfl Try.underlying3 rfl rfl) | exact (r_load_at (i := 6) hs rfl Try.underlying3 rfl rfl)) ?_
    refine l_v (by first | exact (r_nilCheck_p rfl) | exact (r_nilCheck_f rfl)) ?_
    refine l_v (by first | exact (r_fieldAddr0 (off := 4) (T := 3) (by kernel_rfl) rfl) | exact (r_fieldAddr (off := 4) (T := 3) (by kernel_rfl) rfl)) ?_
    first | refine l_store (i := 0) (v := iV _) hs rfl I3 rfl rfl (by first | (simp; done) | (simp; omega) | omega) ?_ | refine l_store (i := 1) (v := iV _) hs rfl I3 rfl rfl (by first | (simp; done) | (simp; omega) | omega) ?_ | refine l_store (i := 2) (v := iV _) hs rfl I3 rfl rfl (by first | (simp; done) | (simp; omega) | omega) ?_ | refine l_store (i := 3) (v := iV _) hs rfl I3 rfl rfl (by first | (simp; done) | (simp; omega) | omega) ?_ | refine l_store (i := 4) (v := iV _) hs rfl I3 rfl rfl (by first | (simp; done) | (simp; omega) | omega) ?_ | refine l_store (i := 5) (v := iV _) hs rfl I3 rfl rfl (by first | (simp; done) | (simp; omega) | omega) ?_ | refine l_store (i := 6) (v := iV _) hs rfl I3 rfl rfl (by first | (simp; done) | (simp; omega) | omega) ?_
    intro w_ hs
    refine l_nil (nrm_then ?_)
    refine c_rseq ?_
    refine l_v (by first | exact (r_assign (v := iV _) rfl) | exact (r_assign rfl)) ?_
    refine l_nil (nrm_then ?_)
    refine c_ret ?_
    show Fin _ _ _ _ _
    refine fin1 rfl ?_
    exact ⟨rfl, log_shut (hs.pull 2 |>.pull 1)⟩
set_option maxHeartbeats 4000000 in
theorem lcounts_c (bl b : Nat) (file : Int) (ts : List (List UInt8)) (wr su : Int) (w0 w : World) (R : List HP) (hs : Eng.Sep w0 w (logH bl b file ts wr su :: R)) :
    Calls Try.prog 25 #[dp bl] w fun e w' => e = .returned (.tuple #[iV (ts.length : Int), iV wr, iV su]) ∧ Below w.heap.size w w' := by
  obtain ⟨v, hs⟩ := log_open hs
  obtain ⟨A, c, rfl, hc⟩ := (hs.pull 1).rowForm
  refine enter (P := Try.prog) Try.func25 rfl rfl ?_
  have hb0 : Below w.heap.size w w := Below.refl _ _
  refine c_rseq ?_
  refine l_v (by first | exact (r_assign (v := iV _) rfl) | exact (r_assign rfl)) ?_
  refine l_v (by first | exact (r_assign (v := iV _) rfl) | exact (r_assign rfl)) ?_
  refine l_v (by first | exact (r_assign (v := iV _) rfl) | exact (r_assign rfl)) ?_
  refine l_nil (nrm_then ?_)
  refine c_seq ?_
  refine c_rseq ?_
  refine l_v (r_move (v := .pointer _) rfl) ?_
  refine l_v (by first | exact (r_eqlp_some Try.underlying46 rfl rfl) | exact (r_eqlp_none Try.underlying46 rfl rfl)) ?_
  refine l_nil (nrm_then ?_)
  refine c_false rfl (rfl) ?_
  refine c_skip (nrm_then ?_)
  refine c_seq ?_
  refine c_still (by kernel_rfl) (by kernel_rfl) ?_
  have hs := hs.drew
  refine s_v (r_move (v := .pointer _) rfl) ?_
  refine s_v (by first | exact (r_nilCheck_p rfl) | exact (r_nilCheck_f rfl)) ?_
  refine s_v (by first | exact (r_fieldAddr0 (off := 2) (T := 22) (by kernel_rfl) rfl) | exact (r_fieldAddr (off := 2) (T := 22) (by kernel_rfl) rfl)) ?_
  refine s_v (by first | exact (r_load_at (i := 0) hs rfl Try.underlying22 rfl rfl) | exact (r_load_at (i := 1) hs rfl Try.underlying22 rfl rfl) | exact (r_load_at (i := 2) hs rfl Try.underlying22 rfl rfl) | exact (r_load_at (i := 3) hs rfl Try.underlying22 rfl rfl) | exact (r_load_at (i := 4) hs rfl Try.underlying22 rfl rfl) | exact (r_load_at (i := 5) hs rfl Try.underlying22 rfl rfl) | exact (r_load_at (i := 6) hs rfl Try.underlying22 rfl rfl)) ?_
  refine s_v (r_len_l Try.underlying22 rfl) ?_
  refine s_v (r_move (v := .pointer _) rfl) ?_
  refine s_v (by first | exact (r_nilCheck_p rfl) | exact (r_nilCheck_f rfl)) ?_
  refine s_v (by first | exact (r_fieldAddr0 (off := 3) (T := 3) (by kernel_rfl) rfl) | exact (r_fieldAddr (off := 3) (T := 3) (by kernel_rfl) rfl)) ?_
  refine s_v (by first | exact (r_load_at (i := 0) hs rfl Try.underlying3 rfl rfl) | exact (r_load_at (i := 1) hs rfl Try.underlying3 rfl rfl) | exact (r_load_at (i := 2) hs rfl Try.underlying3 rfl rfl) | exact (r_load_at (i := 3) hs rfl Try.underlying3 rfl rfl) | exact (r_load_at (i := 4) hs rfl Try.underlying3 rfl rfl) | exact (r_load_at (i := 5) hs rfl Try.underlying3 rfl rfl) | exact (r_load_at (i := 6) hs rfl Try.underlying3 rfl rfl)) ?_
  refine s_v (r_move (v := .pointer _) rfl) ?_
  refine s_v (by first | exact (r_nilCheck_p rfl) | exact (r_nilCheck_f rfl)) ?_
  refine s_v (by first | exact (r_fieldAddr0 (off := 4) (T := 3) (by kernel_rfl) rfl) | exact (r_fieldAddr (off := 4) (T := 3) (by kernel_rfl) rfl)) ?_
  refine s_v (by first | exact (r_load_at (i := 0) hs rfl Try.underlying3 rfl rfl) | exact (r_load_at (i := 1) hs rfl Try.underlying3 rfl rfl) | exact (r_load_at (i := 2) hs rfl Try.underlying3 rfl rfl) | exact (r_load_at (i := 3) hs rfl Try.underlying3 rfl rfl) | exact (r_load_at (i := 4) hs rfl Try.underlying3 rfl rfl) | exact (r_load_at (i := 5) hs rfl Try.underlying3 rfl rfl) | exact (r_load_at (i := 6) hs rfl Try.underlying3 rfl rfl)) ?_
  refine s_v (by first | exact (r_assign (v := iV _) rfl) | exact (r_assign rfl)) ?_
  refine s_v (by first | exact (r_assign (v := iV _) rfl) | exact (r_assign rfl)) ?_
  refine s_v (by first | exact (r_assign (v := iV _) rfl) | exact (r_assign rfl)) ?_
  refine s_nil (nrm_then ?_)
  have hb0 := hb0.drew
  refine c_ret ?_
  show Fin _ _ _ _ _
  refine fin3 rfl ?_
  exact ⟨rfl, hb0⟩
end Go.Proofs.Ytlkljeghhahedaa.Wal
