/- awake, few, do; operations among the arguments. -/
import Derived.Test.YtnneoipoaoefkaaDskBack
import Derived.Test.YtnneoipoaoefkaaDskOne
import Derived.OpenShut
namespace Go.Proofs.Ytnneoipoaoefkaa.Dsk
open Go Go.RowKit Go.ChangeShapes Go.WideShapes Go.Proofs.Ytnneoipoaoefkaa.Eng
set_option linter.unusedVariables false
set_option maxRecDepth 100000
structure OpS where
  (kind tier file pos size : Int) (text : List UInt8) (A : Option Addr) (c : Nat) (keeps : List (Int × Int))
def opC (o : OpS) : List Value := [iV o.kind, iV o.tier, iV o.file, iV o.pos, iV o.size, sV (ofL o.text), .slice o.A o.keeps.length o.c]
abbrev opV (o : OpS) : Value := .agg (opC o).toArray
def opok (W : World) (o : OpS) : Prop := Rd W 2 o.A o.keeps.length (o.keeps.flatMap keepC) ∧ (-9223372036854775808 ≤ o.file ∧ o.file ≤ 9223372036854775807) ∧ (-9223372036854775808 ≤ o.pos ∧ o.pos ≤ 9223372036854775807) ∧ (-9223372036854775808 ≤ o.size ∧ o.size ≤ 9223372036854775807)
theorem op_one (o : OpS) : ∀ v ∈ opC o, v.oneCell' = true := by
  intro v hv
  simp only [opC, List.mem_cons, List.not_mem_nil, or_false] at hv
  rcases hv with rfl | rfl | rfl | rfl | rfl | rfl | rfl <;> rfl
section
variable {H : Type} {enc : TypeId × Value → H} {W : World} {base : Nat} {spare : Nat → Bool} {held : Bool}
theorem keep_open {fuel : Nat} {cs : List Value} {x : DataW H × List MemPlace} (h : DataW.trod enc Try.prog W base spare held fuel 53 cs = some x) : ∃ q : Int × Int, cs = keepC q ∧ True := by
  obtain ⟨xs, n, rfl, rfl, hl, hlen, hf⟩ := DataW.trod_struct Try.underlying53 h
  have c4 : Try.prog.cellsOf 53 = 2 := by kernel_rfl
  have ci : Try.prog.cellsOf 3 = 1 := by kernel_rfl
  rw [c4] at hl
  match xs, hlen with
  | [y0, y1], _ =>
    have h0 : DataW.trod enc Try.prog W base spare held n 3 ((cs.drop 0).take (Try.prog.cellsOf 3)) = some y0 := hf 0 _ rfl
    have h1 : DataW.trod enc Try.prog W base spare held n 3 ((cs.drop 1).take (Try.prog.cellsOf 3)) = some y1 := hf 1 _ rfl
    rw [ci] at h0 h1
    obtain ⟨a, e0, _, _⟩ := DataW.trod_int Try.underlying3 h0
    obtain ⟨b, e1, _, _⟩ := DataW.trod_int Try.underlying3 h1
    match cs, hl with
    | [z0, z1], _ =>
      simp at e0 e1
      subst e0; subst e1
      exact ⟨(a, b), rfl, trivial⟩
theorem keeps_open {a : Option Addr} {len cap : Nat} {d : DataW H} {ps : List MemPlace} (h : DataW.Trod enc Try.prog W base spare held 23 (.slice a len cap) d ps) : ∃ l : List (Int × Int), len = l.length ∧ Rd W 2 a l.length (l.flatMap keepC) ∧ l.length ≤ cap ∧ ∀ r ∈ l, True :=
  rows_open (gc := keepC) (fun _ => True) Try.underlying23 (by kernel_rfl) (fun r hr => rfl) (fun fuel cs x hx => keep_open hx) h
theorem slice_cell {fuel : Nat} {cs : List Value} {x : DataW H × List MemPlace} (h : DataW.trod enc Try.prog W base spare held fuel 23 cs = some x) : ∃ a l c, cs = [.slice a l c] := by
  rcases DataW.trod_slice Try.underlying23 h with ⟨hcs, _⟩ | ⟨x, l, c, elems, rest, n, _, hcs, _⟩
  · exact ⟨_, _, _, hcs⟩
  · exact ⟨_, _, _, hcs⟩
theorem op_open {fuel : Nat} {cs : List Value} {x : DataW H × List MemPlace} (h : DataW.trod enc Try.prog W base spare held fuel 32 cs = some x) : ∃ o : OpS, cs = opC o ∧ opok W o := by
  obtain ⟨xs, n, rfl, rfl, hl, hlen, hf⟩ := DataW.trod_struct Try.underlying32 h
  have c4 : Try.prog.cellsOf 32 = 7 := by kernel_rfl
  have ci : Try.prog.cellsOf 3 = 1 := by kernel_rfl
  have cst : Try.prog.cellsOf 9 = 1 := by kernel_rfl
  have csl : Try.prog.cellsOf 23 = 1 := by kernel_rfl
  rw [c4] at hl
  match xs, hlen with
  | [y0, y1, y2, y3, y4, y5, y6], _ =>
    have h0 : DataW.trod enc Try.prog W base spare held n 3 ((cs.drop 0).take (Try.prog.cellsOf 3)) = some y0 := hf 0 _ rfl
    have h1 : DataW.trod enc Try.prog W base spare held n 3 ((cs.drop 1).take (Try.prog.cellsOf 3)) = some y1 := hf 1 _ rfl
    have h2 : DataW.trod enc Try.prog W base spare held n 3 ((cs.drop 2).take (Try.prog.cellsOf 3)) = some y2 := hf 2 _ rfl
    have h3 : DataW.trod enc Try.prog W base spare held n 3 ((cs.drop 3).take (Try.prog.cellsOf 3)) = some y3 := hf 3 _ rfl
    have h4 : DataW.trod enc Try.prog W base spare held n 3 ((cs.drop 4).take (Try.prog.cellsOf 3)) = some y4 := hf 4 _ rfl
    have h5 : DataW.trod enc Try.prog W base spare held n 9 ((cs.drop 5).take (Try.prog.cellsOf 9)) = some y5 := hf 5 _ rfl
    have h6 : DataW.trod enc Try.prog W base spare held n 23 ((cs.drop 6).take (Try.prog.cellsOf 23)) = some y6 := hf 6 _ rfl
    rw [ci] at h0 h1 h2 h3 h4; rw [cst] at h5; rw [csl] at h6
    obtain ⟨a0, e0, _, _⟩ := DataW.trod_int Try.underlying3 h0
    obtain ⟨a1, e1, _, _⟩ := DataW.trod_int Try.underlying3 h1
    obtain ⟨a2, e2, _, w2⟩ := DataW.trod_int Try.underlying3 h2
    obtain ⟨a3, e3, _, w3⟩ := DataW.trod_int Try.underlying3 h3
    obtain ⟨a4, e4, _, w4⟩ := DataW.trod_int Try.underlying3 h4
    obtain ⟨s, e5, _, hs⟩ := DataW.trod_string Try.underlying9 h5
    obtain ⟨A, l, c, e6⟩ := slice_cell h6
    rw [e6] at h6
    obtain ⟨K, rfl, hr, _, _⟩ := keeps_open (d := y6.1) (ps := y6.2) ⟨n, h6⟩
    match cs, hl with
    | [z0, z1, z2, z3, z4, z5, z6], _ =>
      simp at e0 e1 e2 e3 e4 e5 e6
      subst e0; subst e1; subst e2; subst e3; subst e4; subst e5; subst e6
      exact ⟨⟨a0, a1, a2, a3, a4, toL s, A, c, K⟩, rfl, hr, bounds_i64 w2, bounds_i64 w3, bounds_i64 w4⟩
theorem ops_open {a : Option Addr} {len cap : Nat} {d : DataW H} {ps : List MemPlace} (h : DataW.Trod enc Try.prog W base spare held 22 (.slice a len cap) d ps) : ∃ l : List OpS, len = l.length ∧ Rd W 7 a l.length (l.flatMap opC) ∧ l.length ≤ cap ∧ ∀ r ∈ l, opok W r :=
  rows_open (gc := opC) (opok W) Try.underlying22 (by kernel_rfl) (fun r hr => rfl) (fun fuel cs x hx => op_open hx) h
end
def doS (S : DiskS) (o : OpS) : DiskS × Int :=
  if o.kind = 1 then makeS S o.tier o.file else if o.kind = 2 then addS S o.file o.text else if o.kind = 3 then syncS S o.file else
  if o.kind = 4 then dropS S o.file else if o.kind = 5 then pointS S o.file else if o.kind = 8 then (backS S o.keeps, 0) else (S, 0)
set_option maxHeartbeats 4000000 in
theorem do_c (b : Nat) (S : DiskS) (hg : GoodS S) (hst : S.steps ≤ 4611686018427387904) (o : OpS) (hz : o.text.length ≤ 1099511627776) (w0 w : World) (R : List HP) (hs : Eng.Sep w0 w (diskH b S :: R)) (ho : Rd w0 2 o.A o.keeps.length (o.keeps.flatMap keepC)) :
    Calls Try.prog 11 #[dp b, opV o] w fun e w' => e = .returned (iV (doS S o).2) ∧ Eng.Sep w0 w' (diskH b (doS S o).1 :: R) := by
  unfold doS
  refine enter (P := Try.prog) Try.func11 rfl rfl ?_
  refine c_rseq ?_
  refine l_box hs rfl ?_
  intro b3 w3 hs hB3 hlt3
  refine l_v (by first | exact (r_assign (v := iV _) rfl) | exact (r_assign rfl)) ?_
  refine l_nil (nrm_then ?_)
  refine c_seq ?_
  refine c_rseq ?_
  refine l_v (by first | exact (r_fieldAddr0 (off := 0) (T := 3) (by kernel_rfl) rfl) | exact (r_fieldAddr (off := 0) (T := 3) (by kernel_rfl) rfl)) ?_
  refine l_v (by first | exact (r_load_at (i := 0) hs rfl Try.underlying3 rfl rfl) | exact (r_load_at (i := 1) hs rfl Try.underlying3 rfl rfl) | exact (r_load_at (i := 2) hs rfl Try.underlying3 rfl rfl) | exact (r_load_at (i := 3) hs rfl Try.underlying3 rfl rfl) | exact (r_load_at (i := 4) hs rfl Try.underlying3 rfl rfl) | exact (r_load_at (i := 5) hs rfl Try.underlying3 rfl rfl) | exact (r_load_at (i := 6) hs rfl Try.underlying3 rfl rfl)) ?_
  refine l_nil (nrm_then ?_)
  refine c_block ?_
  refine c_rseq ?_
  refine l_v (r_eqli rfl rfl) ?_
  refine l_v (by first | exact (r_assign (v := bV _) rfl) | exact (r_assign rfl)) ?_
  refine l_nil (nrm_then ?_)
  have hs : Eng.Sep w0 w3 (blk b3 (opC o) 32 :: diskH b S :: R) := hs
  refine c_cond rfl (fun h1 => ?_) (fun h1 => ?_)
  · replace h1 := of_decide_eq_true h1
    refine c_rseq ?_
    refine l_v (r_move (v := .pointer _) rfl) ?_
    refine l_v (by first | exact (r_fieldAddr0 (off := 1) (T := 3) (by kernel_rfl) rfl) | exact (r_fieldAddr (off := 1) (T := 3) (by kernel_rfl) rfl)) ?_
    refine l_v (r_load_at (i := 0) hs rfl Try.underlying3 rfl rfl) ?_
    refine l_v (by first | exact (r_fieldAddr0 (off := 2) (T := 3) (by kernel_rfl) rfl) | exact (r_fieldAddr (off := 2) (T := 3) (by kernel_rfl) rfl)) ?_
    refine l_v (r_load_at (i := 0) hs rfl Try.underlying3 rfl rfl) ?_
    rw [if_pos h1]
    refine l_call (r_call Try.func13 rfl rfl) ?_
    refine Calls.mono (make_c b S hg hst o.tier o.file w0 _ _ (hs.pull 1)) ?_
    rintro e w_ ⟨rfl, hs⟩
    refine ⟨_, rfl, ?_⟩
    refine l_v (by first | exact (r_assign (v := iV _) rfl) | exact (r_assign rfl)) ?_
    refine l_nil (nrm_then ?_)
    refine c_ret (ret_block (ret_then ?_))
    show Fin _ _ _ _ _
    refine fin1 rfl ?_
    exact ⟨rfl, (hs.pull 1).drop⟩
  · replace h1 := of_decide_eq_false h1
    refine c_rseq ?_
    refine l_v (r_eqli rfl rfl) ?_
    refine l_v (by first | exact (r_assign (v := bV _) rfl) | exact (r_assign rfl)) ?_
    refine l_nil (nrm_then ?_)
    rw [if_neg h1]
    refine c_cond rfl (fun h2 => ?_) (fun h2 => ?_)
    · replace h2 := of_decide_eq_true h2
      refine c_rseq ?_
      refine l_v (r_move (v := .pointer _) rfl) ?_
      refine l_v (by first | exact (r_fieldAddr0 (off := 2) (T := 3) (by kernel_rfl) rfl) | exact (r_fieldAddr (off := 2) (T := 3) (by kernel_rfl) rfl)) ?_
      refine l_v (r_load_at (i := 0) hs rfl Try.underlying3 rfl rfl) ?_
      refine l_v (by first | exact (r_fieldAddr0 (off := 5) (T := 9) (by kernel_rfl) rfl) | exact (r_fieldAddr (off := 5) (T := 9) (by kernel_rfl) rfl)) ?_
      refine l_v (r_load_at (i := 0) hs rfl Try.underlying9 rfl rfl) ?_
      rw [if_pos h2]
      refine l_call (r_call Try.func16 rfl rfl) ?_
      refine Calls.mono (add_c b S hg hst o.file (ofL o.text) hz w0 _ _ (hs.pull 1)) ?_
      rintro e w_ ⟨rfl, hs⟩
      refine ⟨_, rfl, ?_⟩
      rw [Eng.toL_ofL]
      rw [Eng.toL_ofL] at hs
      refine l_v (by first | exact (r_assign (v := iV _) rfl) | exact (r_assign rfl)) ?_
      refine l_nil (nrm_then ?_)
      refine c_ret (ret_block (ret_then ?_))
      show Fin _ _ _ _ _
      refine fin1 rfl ?_
      exact ⟨rfl, (hs.pull 1).drop⟩
    · replace h2 := of_decide_eq_false h2
      refine c_rseq ?_
      refine l_v (r_eqli rfl rfl) ?_
      refine l_v (by first | exact (r_assign (v := bV _) rfl) | exact (r_assign rfl)) ?_
      refine l_nil (nrm_then ?_)
      rw [if_neg h2]
      refine c_cond rfl (fun h3 => ?_) (fun h3 => ?_)
      · replace h3 := of_decide_eq_true h3
        refine c_rseq ?_
        refine l_v (r_move (v := .pointer _) rfl) ?_
        refine l_v (by first | exact (r_fieldAddr0 (off := 2) (T := 3) (by kernel_rfl) rfl) | exact (r_fieldAddr (off := 2) (T := 3) (by kernel_rfl) rfl)) ?_
        refine l_v (r_load_at (i := 0) hs rfl Try.underlying3 rfl rfl) ?_
        rw [if_pos h3]
        refine l_call (r_call Try.func17 rfl rfl) ?_
        refine Calls.mono (sync_c b S hg hst o.file w0 _ _ (hs.pull 1)) ?_
        rintro e w_ ⟨rfl, hs⟩
        refine ⟨_, rfl, ?_⟩
        refine l_v (by first | exact (r_assign (v := iV _) rfl) | exact (r_assign rfl)) ?_
        refine l_nil (nrm_then ?_)
        refine c_ret (ret_block (ret_then ?_))
        show Fin _ _ _ _ _
        refine fin1 rfl ?_
        exact ⟨rfl, (hs.pull 1).drop⟩
      · replace h3 := of_decide_eq_false h3
        refine c_rseq ?_
        refine l_v (r_eqli rfl rfl) ?_
        refine l_v (by first | exact (r_assign (v := bV _) rfl) | exact (r_assign rfl)) ?_
        refine l_nil (nrm_then ?_)
        rw [if_neg h3]
        refine c_cond rfl (fun h4 => ?_) (fun h4 => ?_)
        · replace h4 := of_decide_eq_true h4
          refine c_rseq ?_
          refine l_v (r_move (v := .pointer _) rfl) ?_
          refine l_v (by first | exact (r_fieldAddr0 (off := 2) (T := 3) (by kernel_rfl) rfl) | exact (r_fieldAddr (off := 2) (T := 3) (by kernel_rfl) rfl)) ?_
          refine l_v (r_load_at (i := 0) hs rfl Try.underlying3 rfl rfl) ?_
          rw [if_pos h4]
          refine l_call (r_call Try.func20 rfl rfl) ?_
          refine Calls.mono (drop_c b S hg hst o.file w0 _ _ (hs.pull 1)) ?_
          rintro e w_ ⟨rfl, hs⟩
          refine ⟨_, rfl, ?_⟩
          refine l_v (by first | exact (r_assign (v := iV _) rfl) | exact (r_assign rfl)) ?_
          refine l_nil (nrm_then ?_)
          refine c_ret (ret_block (ret_then ?_))
          show Fin _ _ _ _ _
          refine fin1 rfl ?_
          exact ⟨rfl, (hs.pull 1).drop⟩
        · replace h4 := of_decide_eq_false h4
          refine c_rseq ?_
          refine l_v (r_eqli rfl rfl) ?_
          refine l_v (by first | exact (r_assign (v := bV _) rfl) | exact (r_assign rfl)) ?_
          refine l_nil (nrm_then ?_)
          rw [if_neg h4]
          refine c_cond rfl (fun h5 => ?_) (fun h5 => ?_)
          · replace h5 := of_decide_eq_true h5
            refine c_rseq ?_
            refine l_v (r_move (v := .pointer _) rfl) ?_
            refine l_v (by first | exact (r_fieldAddr0 (off := 2) (T := 3) (by kernel_rfl) rfl) | exact (r_fieldAddr (off := 2) (T := 3) (by kernel_rfl) rfl)) ?_
            refine l_v (r_load_at (i := 0) hs rfl Try.underlying3 rfl rfl) ?_
            rw [if_pos h5]
            refine l_call (r_call Try.func27 rfl rfl) ?_
            refine Calls.mono (point_c b S hg hst o.file w0 _ _ (hs.pull 1)) ?_
            rintro e w_ ⟨rfl, hs⟩
            refine ⟨_, rfl, ?_⟩
            refine l_v (by first | exact (r_assign (v := iV _) rfl) | exact (r_assign rfl)) ?_
            refine l_nil (nrm_then ?_)
            refine c_ret (ret_block (ret_then ?_))
            show Fin _ _ _ _ _
            refine fin1 rfl ?_
            exact ⟨rfl, (hs.pull 1).drop⟩
          · replace h5 := of_decide_eq_false h5
            refine c_rseq ?_
            refine l_v (r_eqli rfl rfl) ?_
            refine l_v (by first | exact (r_assign (v := bV _) rfl) | exact (r_assign rfl)) ?_
            refine l_nil (nrm_then ?_)
            rw [if_neg h5]
            refine c_cond rfl (fun h8 => ?_) (fun h8 => ?_)
            · replace h8 := of_decide_eq_true h8
              refine c_region ?_
              refine l_v (r_move (v := .pointer _) rfl) ?_
              refine l_v (by first | exact (r_fieldAddr0 (off := 6) (T := 23) (by kernel_rfl) rfl) | exact (r_fieldAddr (off := 6) (T := 23) (by kernel_rfl) rfl)) ?_
              refine l_v (r_load_at (i := 0) hs rfl Try.underlying23 rfl rfl) ?_
              rw [if_pos h8]
              refine l_call (r_call Try.func12 rfl rfl) ?_
              refine Calls.mono (back_c b S hg o.A o.c o.keeps w0 _ _ (hs.pull 1) (fun w' h => ho.below h.below)) ?_
              rintro e w_ ⟨⟨v, rfl⟩, hs⟩
              refine ⟨_, rfl, ?_⟩
              refine l_nil (nrm_block (nrm_then ?_))
              refine c_rseq ?_
              refine l_v (by first | exact (r_assign (v := iV _) rfl) | exact (r_assign rfl)) ?_
              refine l_nil (nrm_then ?_)
              refine c_ret ?_
              show Fin _ _ _ _ _
              refine fin1 rfl ?_
              exact ⟨rfl, (hs.pull 1).drop⟩
            · replace h8 := of_decide_eq_false h8
              refine c_skip (nrm_block (nrm_then ?_))
              refine c_rseq ?_
              refine l_v (by first | exact (r_assign (v := iV _) rfl) | exact (r_assign rfl)) ?_
              refine l_nil (nrm_then ?_)
              rw [if_neg h8]
              refine c_ret ?_
              show Fin _ _ _ _ _
              refine fin1 rfl ?_
              exact ⟨rfl, hs.drop⟩
set_option maxHeartbeats 8000000 in
theorem awake_c (w : World) : Calls Try.prog 8 #[] w fun e w' => e = .returned (bV true) ∧ Below w.heap.size w w' := by
  have hg0 := good_new (hot := 3) (cold := 0) (by decide) (by decide)
  have hg1 := good_one (hot := 3) (cold := 0) (by decide) (by decide)
  have hm := make_new (hot := 3) (cold := 0) (by decide)
  have ha1 : addS (oneS 3 0 ⟨0, [], -1⟩ 1 1) 1 (toL ⟨#[97, 98, 99]⟩) = (oneS 3 0 ⟨0, [97, 98, 99], -1⟩ 2 2, 0) := by rw [one_add, if_neg (by decide)]; rfl
  have hg2 := good_add hg1 1 (toL ⟨#[97, 98, 99]⟩)
  rw [ha1] at hg2
  have hs1 : syncS (oneS 3 0 ⟨0, [97, 98, 99], -1⟩ 2 2) 1 = (oneS 3 0 ⟨0, [97, 98, 99], 3⟩ 2 3, 0) := one_sync
  have hg3 := good_sync hg2 1
  rw [hs1] at hg3
  have ha2 : addS (oneS 3 0 ⟨0, [97, 98, 99], 3⟩ 2 3) 1 (toL ⟨#[100, 101]⟩) = (oneS 3 0 ⟨0, [97, 98, 99, 100, 101], 3⟩ 2 4, 0) := by rw [one_add, if_neg (by decide)]; rfl
  have hg4 := good_add hg3 1 (toL ⟨#[100, 101]⟩)
  rw [ha2] at hg4
  have hg5 := good_back hg4 [(1, 1)]
  obtain ⟨S5, hS5⟩ : ∃ S, S = backS (oneS 3 0 ⟨0, [97, 98, 99, 100, 101], 3⟩ 2 4) [(1, 1)] := ⟨_, rfl⟩
  have hr5 : readS S5 1 0 4 = ([97, 98, 99, 100], 0) := by rw [hS5]; rfl
  have hu5 : S5.used 0 = 2 := by rw [hS5]; rfl
  have hm5 : (makeS S5 1 2).2 = 7 := by rw [hS5]; rfl
  have hst5 : S5.steps = 4 := by rw [hS5]; rfl
  rw [← hS5] at hg5
  refine enter (P := Try.prog) Try.func8 rfl rfl ?_
  have hs := Sep.init w
  refine c_rseq ?_
  refine l_v (by first | exact (r_assign (v := bV _) rfl) | exact (r_assign rfl)) ?_
  refine l_nil (nrm_then ?_)
  refine c_rseq ?_
  refine l_call (r_call Try.func10 rfl rfl) ?_
  refine Calls.mono (new_ok 3 0 (by decide) w _ _ hs) ?_
  rintro e w_ ⟨b, rfl, hs⟩
  refine ⟨_, rfl, ?_⟩
  refine l_v (r_move rfl) ?_
  refine l_v (r_extract rfl rfl) ?_
  refine l_v (r_extract rfl rfl) ?_
  refine l_v (r_assign (v := .pointer _) rfl) ?_
  refine l_v (by first | exact (r_assign (v := iV _) rfl) | exact (r_assign rfl)) ?_
  refine l_nil (nrm_then ?_)
  refine c_seq ?_
  refine c_rseq ?_
  refine l_v (by first | exact (r_move (v := iV _) rfl) | exact (r_move rfl)) ?_
  refine l_v (r_neqi rfl rfl) ?_
  refine l_v (by first | exact (r_move (v := bV _) rfl) | exact (r_move rfl)) ?_
  refine l_vg (r_move (v := .pointer _) rfl) rfl (rfl) ?_
  refine l_callg (r_call Try.func13 rfl rfl) rfl (rfl) ?_
  refine Calls.mono (make_c b (newS 3 0) hg0 (by decide) 0 1 w _ _ hs) ?_
  rintro e w_ ⟨rfl, hs⟩
  refine ⟨_, rfl, ?_⟩
  rw [hm] at hs ⊢
  refine l_vg (r_neqi rfl rfl) rfl (rfl) ?_
  refine l_v (r_pick_f rfl rfl rfl) ?_
  refine l_v (by first | exact (r_move (v := bV _) rfl) | exact (r_move rfl)) ?_
  refine l_vg (r_move (v := .pointer _) rfl) rfl (rfl) ?_
  refine l_callg (r_call Try.func16 rfl rfl) rfl (rfl) ?_
  refine Calls.mono (add_c b _ hg1 (by decide) 1 ⟨#[97, 98, 99]⟩ (by decide) w _ _ hs) ?_
  rintro e w_ ⟨rfl, hs⟩
  refine ⟨_, rfl, ?_⟩
  rw [ha1] at hs ⊢
  refine l_vg (r_neqi rfl rfl) rfl (rfl) ?_
  refine l_v (r_pick_f rfl rfl rfl) ?_
  refine l_v (by first | exact (r_move (v := bV _) rfl) | exact (r_move rfl)) ?_
  refine l_vg (r_move (v := .pointer _) rfl) rfl (rfl) ?_
  refine l_callg (r_call Try.func17 rfl rfl) rfl (rfl) ?_
  refine Calls.mono (sync_c b _ hg2 (by decide) 1 w _ _ hs) ?_
  rintro e w_ ⟨rfl, hs⟩
  refine ⟨_, rfl, ?_⟩
  rw [hs1] at hs ⊢
  refine l_vg (r_neqi rfl rfl) rfl (rfl) ?_
  refine l_v (r_pick_f rfl rfl rfl) ?_
  refine l_v (by first | exact (r_move (v := bV _) rfl) | exact (r_move rfl)) ?_
  refine l_vg (r_move (v := .pointer _) rfl) rfl (rfl) ?_
  refine l_callg (r_call Try.func16 rfl rfl) rfl (rfl) ?_
  refine Calls.mono (add_c b _ hg3 (by decide) 1 ⟨#[100, 101]⟩ (by decide) w _ _ hs) ?_
  rintro e w_ ⟨rfl, hs⟩
  refine ⟨_, rfl, ?_⟩
  rw [ha2] at hs ⊢
  refine l_vg (r_neqi rfl rfl) rfl (rfl) ?_
  refine l_v (r_pick_f rfl rfl rfl) ?_
  refine l_nil (nrm_then ?_)
  refine c_false rfl (rfl) ?_
  refine c_skip (nrm_then ?_)
  refine c_rseq ?_
  refine l_v (r_move (v := .pointer _) rfl) ?_
  refine l_v (r_build (l := [(0, iV _), (1, iV _)]) rfl ((fun (x0 : Int) (x1 : Int) => (by kernel_rfl : Program.built Try.prog 53 [(0, iV x0), (1, iV x1)] = some #[iV x0, iV x1])) _ _)) ?_
  refine l_lit [.agg (keepC (1, 1)).toArray] hs Try.underlying23 I53 rfl (by intro u hu; rw [List.mem_singleton.1 hu]; rfl) (by decide) rfl (by decide) (by decide) ?_
  intro b33 w33 hs hB33 hlt33
  have hs : Eng.Sep w w33 (blk b33 [iV 1, iV 1] 53 :: diskH b (oneS 3 0 ⟨0, [97, 98, 99, 100, 101], 3⟩ 2 4) :: []) := hs
  refine l_call (r_call Try.func12 rfl rfl) ?_
  refine Calls.mono (back_c b _ hg4 (some ⟨b33, 0, none⟩) 1 [(1, 1)] w _ _ (hs.pull 1) (fun w' h => ⟨rfl, by decide, fun _ => ⟨_, rfl, fun j u hu => by rw [add_lit, Nat.zero_add, cell_blk (h.at_ 0).1]; exact hu⟩⟩)) ?_
  rintro e w_ ⟨⟨v, rfl⟩, hs⟩
  refine ⟨_, rfl, ?_⟩
  rw [← hS5] at hs
  refine l_nil (nrm_then ?_)
  refine c_rseq ?_
  refine l_v (r_move (v := .pointer _) rfl) ?_
  refine l_call (r_call Try.func15 rfl rfl) ?_
  refine Calls.mono (read_c b S5 hg5 1 0 4 (by decide) (by decide) w _ _ hs) ?_
  rintro e w_ ⟨rfl, hb⟩
  refine ⟨_, rfl, ?_⟩
  have hs := hs.below_ hb
  rw [hr5]
  refine l_v (r_move rfl) ?_
  refine l_v (r_extract rfl rfl) ?_
  refine l_v (r_extract rfl rfl) ?_
  refine l_v (by first | exact (r_assign (v := sV _) rfl) | exact (r_assign rfl)) ?_
  refine l_v (by first | exact (r_assign (v := iV _) rfl) | exact (r_assign rfl)) ?_
  refine l_nil (nrm_then ?_)
  refine c_rseq ?_
  refine l_v (by first | exact (r_move (v := sV _) rfl) | exact (r_move rfl)) ?_
  refine l_v (r_eqls rfl rfl) ?_
  refine l_v (by first | exact (r_move (v := bV _) rfl) | exact (r_move rfl)) ?_
  refine l_vg (by first | exact (r_move (v := iV _) rfl) | exact (r_move rfl)) rfl (rfl) ?_
  refine l_vg (r_eqli rfl rfl) rfl (rfl) ?_
  refine l_v (r_pick_t rfl rfl rfl) ?_
  refine l_v (by first | exact (r_move (v := bV _) rfl) | exact (r_move rfl)) ?_
  refine l_vg (r_move (v := .pointer _) rfl) rfl (rfl) ?_
  refine l_callg (r_call Try.func23 rfl rfl) rfl (rfl) ?_
  refine Calls.mono (used_c b S5 0 (by decide) w _ _ hs) ?_
  rintro e w_ ⟨rfl, hww⟩
  refine ⟨_, rfl, ?_⟩
  rw [hww, hu5]
  refine l_vg (r_eqli rfl rfl) rfl (rfl) ?_
  refine l_v (r_pick_t rfl rfl rfl) ?_
  refine l_v (by first | exact (r_move (v := bV _) rfl) | exact (r_move rfl)) ?_
  refine l_vg (r_move (v := .pointer _) rfl) rfl (rfl) ?_
  refine l_callg (r_call Try.func13 rfl rfl) rfl (rfl) ?_
  refine Calls.mono (make_c b S5 hg5 (by rw [hst5]; decide) 1 2 w _ _ hs) ?_
  rintro e w_ ⟨rfl, hs⟩
  refine ⟨_, rfl, ?_⟩
  rw [hm5]
  refine l_vg (r_eqli rfl rfl) rfl (rfl) ?_
  refine l_v (r_pick_t rfl rfl rfl) ?_
  refine l_v (by first | exact (r_assign (v := bV _) rfl) | exact (r_assign rfl)) ?_
  refine l_nil (nrm_then ?_)
  refine c_ret ?_
  show Fin _ _ _ _ _
  refine fin1 rfl ?_
  exact ⟨rfl, hs.below⟩
def txtN (os : List OpS) (i : Nat) : Nat := ((os.take i).map fun o => o.text.length).sum
set_option maxHeartbeats 4000000 in
theorem few_c (A : Option Addr) (c : Nat) (os : List OpS) (w : World) (hr : Rd w 7 A os.length (os.flatMap opC)) :
    Calls Try.prog 9 #[.slice A os.length c] w fun e w' => ∃ b, e = .returned (bV b) ∧ (b = true → os.length ≤ 200 ∧ (∀ o ∈ os, o.text.length ≤ 100000) ∧ txtN os os.length ≤ 200000) ∧ Below w.heap.size w w' := by
  have hn := hr.2.1
  refine enter (P := Try.prog) Try.func9 rfl rfl ?_
  have hs := Sep.init w
  refine c_rseq ?_
  refine l_v (by first | exact (r_assign (v := bV _) rfl) | exact (r_assign rfl)) ?_
  refine l_nil (nrm_then ?_)
  refine c_rseq ?_
  refine l_v (by first | exact (r_assign (v := iV _) rfl) | exact (r_assign rfl)) ?_
  refine l_nil (nrm_then ?_)
  refine c_seq ?_
  refine c_rseq ?_
  refine l_v (by first | exact (r_assign (v := iV _) rfl) | exact (r_assign rfl)) ?_
  refine l_nil (nrm_then ?_)
  refine c_block ?_
  refine c_loopn [0] (fun m f' w' => ∃ i, i + m = os.length ∧ f' 4 = iV (i : Int) ∧ f' 3 = iV ((txtN os i : Nat) : Int) ∧ w' = w ∧ i ≤ 200 ∧ txtN os i ≤ 100000 * i ∧ ∀ o ∈ os.take i, o.text.length ≤ 100000) ?_ ?_
  · exact ⟨os.length, 0, by omega, rfl, rfl, rfl, by omega, by simp [txtN], by simp⟩
  · rintro m g w_ ⟨i, hi, h4, h3, hw, hi2, hz, hall⟩
    subst hw
    refine OkC.env ?_ (fixH (L := [(4, _), (3, _)]) ⟨h4, h3, trivial⟩)
    clear h4 h3
    refine c_seq ?_
    refine c_rseq ?_
    refine l_v (by first | exact (r_move (v := iV _) rfl) | exact (r_move rfl)) ?_
    refine l_v (by first | exact (r_move (v := .slice _ _ _) rfl) | exact (r_move rfl)) ?_
    refine l_v (r_len_l Try.underlying22 rfl) ?_
    refine l_v (r_lssi rfl rfl) ?_
    refine l_nil (nrm_then ?_)
    refine c_cond rfl (fun h1 => ?_) (fun h1 => ?_)
    · have hil : i < os.length := by have := of_decide_eq_true h1; omega
      obtain ⟨o, hoi⟩ : ∃ o, os[i]? = some o := ⟨os[i], List.getElem?_eq_getElem hil⟩
      have htk : os.take (i + 1) = os.take i ++ [o] := by rw [List.take_add_one, hoi]; rfl
      have htn : txtN os (i + 1) = txtN os i + o.text.length := by unfold txtN; rw [htk, List.map_append, List.sum_append]; simp
      have hsz : (ofL o.text).size = o.text.length := rfl
      obtain ⟨ad, rfl, _⟩ := hr.ad (by omega)
      have hX := rd_item hr (fun y _ => rfl) (by decide) hoi
      have hX5 := hX 5 (sV (ofL o.text)) rfl
      have hX6 := hX 6 (.slice o.A o.keeps.length o.c) rfl
      replace h1 := of_decide_eq_true h1
      refine c_skip (nrm_then ?_)
      refine c_seq ?_
      refine c_block ?_
      refine c_seq ?_
      refine c_rseq ?_
      refine l_v (by first | exact (r_move (v := iV _) rfl) | exact (r_move rfl)) ?_
      refine l_v (r_geqi rfl rfl) ?_
      by_cases h2 : (i : Int) ≥ 200
      · have f2 : decide ((i : Int) ≥ 200) = true := decide_eq_true h2
        refine l_v (by first | exact (r_move (v := bV _) rfl) | exact (r_move rfl)) ?_
        refine l_no rfl (f2) ?_
        refine l_no rfl (f2) ?_
        refine l_no rfl (f2) ?_
        refine l_no rfl (f2) ?_
        refine l_no rfl (f2) ?_
        refine l_no rfl (f2) ?_
        refine l_no rfl (f2) ?_
        refine l_v (r_pick_t rfl f2 rfl) ?_
        refine l_v (by first | exact (r_move (v := bV _) rfl) | exact (r_move rfl)) ?_
        refine l_no rfl (rfl) ?_
        refine l_no rfl (rfl) ?_
        refine l_no rfl (rfl) ?_
        refine l_no rfl (rfl) ?_
        refine l_no rfl (rfl) ?_
        refine l_no rfl (rfl) ?_
        refine l_no rfl (rfl) ?_
        refine l_v (r_pick_t rfl rfl rfl) ?_
        refine l_nil (nrm_then ?_)
        refine c_true rfl (rfl) ?_
        refine c_rseq ?_
        refine l_v (by first | exact (r_assign (v := bV _) rfl) | exact (r_assign rfl)) ?_
        refine l_nil (nrm_then ?_)
        refine c_ret (ret_then (ret_block (ret_then (ret_then (ret_block (ret_then ?_))))))
        show Fin _ _ _ _ _
        refine fin1 rfl ?_
        exact ⟨false, rfl, fun h => (by cases h), hs.below⟩
      · have f2 : decide ((i : Int) ≥ 200) = false := decide_eq_false h2
        refine l_v (by first | exact (r_move (v := bV _) rfl) | exact (r_move rfl)) ?_
        refine l_vg (by first | exact (r_move (v := .slice _ _ _) rfl) | exact (r_move rfl)) rfl (f2) ?_
        refine l_vg (by first | exact (r_move (v := iV _) rfl) | exact (r_move rfl)) rfl (f2) ?_
        refine l_vg (r_indexAddr_l (k := i) Try.underlying22 I32 rfl rfl hil) rfl (f2) ?_
        refine l_vg (r_fieldAddrP (off := 5) (T := 9) (by kernel_rfl) rfl) rfl (f2) ?_
        refine l_vg (r_load Try.underlying9 rfl hX5) rfl (f2) ?_
        refine l_vg (r_len_s Try.underlying9 rfl) rfl (f2) ?_
        refine l_vg (r_gtri rfl rfl) rfl (f2) ?_
        refine l_v (r_pick_f rfl f2 rfl) ?_
        by_cases h3 : (((ofL o.text).size : Nat) : Int) > 100000
        · have f3 : decide ((((ofL o.text).size : Nat) : Int) > 100000) = true := decide_eq_true h3
          refine l_v (by first | exact (r_move (v := bV _) rfl) | exact (r_move rfl)) ?_
          refine l_no rfl (f3) ?_
          refine l_no rfl (f3) ?_
          refine l_no rfl (f3) ?_
          refine l_no rfl (f3) ?_
          refine l_no rfl (f3) ?_
          refine l_no rfl (f3) ?_
          refine l_no rfl (f3) ?_
          refine l_v (r_pick_t rfl f3 rfl) ?_
          refine l_nil (nrm_then ?_)
          refine c_true rfl (rfl) ?_
          refine c_rseq ?_
          refine l_v (by first | exact (r_assign (v := bV _) rfl) | exact (r_assign rfl)) ?_
          refine l_nil (nrm_then ?_)
          refine c_ret (ret_then (ret_block (ret_then (ret_then (ret_block (ret_then ?_))))))
          show Fin _ _ _ _ _
          refine fin1 rfl ?_
          exact ⟨false, rfl, fun h => (by cases h), hs.below⟩
        · have f3 : decide ((((ofL o.text).size : Nat) : Int) > 100000) = false := decide_eq_false h3
          refine l_v (by first | exact (r_move (v := bV _) rfl) | exact (r_move rfl)) ?_
          refine l_vg (by first | exact (r_move (v := .slice _ _ _) rfl) | exact (r_move rfl)) rfl (f3) ?_
          refine l_vg (by first | exact (r_move (v := iV _) rfl) | exact (r_move rfl)) rfl (f3) ?_
          refine l_vg (r_indexAddr_l (k := i) Try.underlying22 I32 rfl rfl hil) rfl (f3) ?_
          refine l_vg (r_fieldAddrP (off := 6) (T := 23) (by kernel_rfl) rfl) rfl (f3) ?_
          refine l_vg (r_load Try.underlying23 rfl hX6) rfl (f3) ?_
          refine l_vg (r_len_l Try.underlying23 rfl) rfl (f3) ?_
          refine l_vg (r_gtri rfl rfl) rfl (f3) ?_
          refine l_v (r_pick_f rfl f3 rfl) ?_
          refine l_nil (nrm_then ?_)
          refine c_cond rfl (fun h5 => ?_) (fun h5 => ?_)
          · replace h5 := of_decide_eq_true h5
            refine c_rseq ?_
            refine l_v (by first | exact (r_assign (v := bV _) rfl) | exact (r_assign rfl)) ?_
            refine l_nil (nrm_then ?_)
            refine c_ret (ret_then (ret_block (ret_then (ret_then (ret_block (ret_then ?_))))))
            show Fin _ _ _ _ _
            refine fin1 rfl ?_
            exact ⟨false, rfl, fun h => (by cases h), hs.below⟩
          · replace h5 := of_decide_eq_false h5
            refine c_skip (nrm_then ?_)
            refine c_region ?_
            refine l_v (by first | exact (r_move (v := iV _) rfl) | exact (r_move rfl)) ?_
            refine l_v (by first | exact (r_move (v := .slice _ _ _) rfl) | exact (r_move rfl)) ?_
            refine l_v (by first | exact (r_move (v := iV _) rfl) | exact (r_move rfl)) ?_
            refine l_v (r_indexAddr_l (k := i) Try.underlying22 I32 rfl rfl hil) ?_
            refine l_v (r_fieldAddrP (off := 5) (T := 9) (by kernel_rfl) rfl) ?_
            refine l_v (r_load Try.underlying9 rfl hX5) ?_
            refine l_v (r_len_s Try.underlying9 rfl) ?_
            refine l_v (r_addi rfl rfl (by omega)) ?_
            refine l_v (by first | exact (r_assign (v := iV _) rfl) | exact (r_assign rfl)) ?_
            refine l_nil (nrm_block (nrm_then ?_))
            refine c_region ?_
            refine l_v (by first | exact (r_move (v := iV _) rfl) | exact (r_move rfl)) ?_
            refine l_v (r_addi rfl rfl (by omega)) ?_
            refine l_v (by first | exact (r_assign (v := iV _) rfl) | exact (r_assign rfl)) ?_
            refine l_nil (nrm_then ?_)
            refine And.intro (by refine ⟨?_, trivial⟩ <;> ((conv => lhs; whnf); (try conv => rhs; whnf))) ?_
            refine ⟨os.length - (i + 1), by omega, i + 1, by omega, rfl, by rw [htn]; rfl, rfl, by omega, by omega, fun o' ho' => ?_⟩
            rw [htk] at ho'
            rcases List.mem_append.1 ho' with h | h
            · exact hall o' h
            · rw [List.mem_singleton.1 h]; omega
    · obtain rfl : i = os.length := by have := of_decide_eq_false h1; omega
      rw [List.take_length] at hall
      replace h1 := of_decide_eq_false h1
      refine c_exit (ex_then (ex_then (ex_hit (nrm_then ?_))))
      refine c_rseq ?_
      refine l_v (by first | exact (r_move (v := iV _) rfl) | exact (r_move rfl)) ?_
      refine l_v (r_leqi rfl rfl) ?_
      refine l_v (by first | exact (r_assign (v := bV _) rfl) | exact (r_assign rfl)) ?_
      refine l_nil (nrm_then ?_)
      refine c_ret ?_
      show Fin _ _ _ _ _
      refine fin1 rfl ?_
      refine ⟨_, rfl, fun h => ⟨hi2, hall, ?_⟩, hs.below⟩
      have := of_decide_eq_true h
      omega
end Go.Proofs.Ytnneoipoaoefkaa.Dsk
