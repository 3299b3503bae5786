/- The walk of the law DeltaPieces. -/
import Derived.Test.YtmeikcifobfolaaDelPatch
import Derived.Test.YtmeikcifobfolaaRowArr
namespace Go.Proofs.Ytmeikcifobfolaa.Del
open Go Go.RowKit Go.ChangeShapes Go.WideShapes Go.Proofs.Ytmeikcifobfolaa.Eng Go.Proofs.Ytmeikcifobfolaa.Six
set_option linter.unusedVariables false
set_option maxRecDepth 100000
abbrev rowP (v : Value) (rs : List Pr) : HP := RowC 32 4 v rs.length (rs.flatMap prC)
theorem rowP_app {w0 w : World} {v : Value} {rs : List Pr} {x : Pr} {L : List HP} (hs : Eng.Sep w0 w (RowC 32 4 v (rs.length + 1) (rs.flatMap prC ++ prC x) :: L)) : Eng.Sep w0 w (rowP v (rs ++ [x]) :: L) := by
  unfold rowP; rw [List.length_append, List.flatMap_append]; simp only [List.flatMap_cons, List.flatMap_nil, List.append_nil]; exact hs
theorem pr_one (x : Pr) : ∀ v ∈ prC x, v.oneCell' = true := by
  intro v hv
  simp [prC] at hv
  rcases hv with rfl | rfl | rfl | rfl <;> rfl
def WW (bs : List UInt8) (qs : List Pr) : List UInt8 := (qs.map toPc).flatMap (pmade bs)
theorem WW_app {bs : List UInt8} {qs : List Pr} {x : Pr} : WW bs (qs ++ [x]) = WW bs qs ++ pmade bs (toPc x) := by
  unfold WW; rw [List.map_append, List.flatMap_append]; simp
theorem patch_len {qs : List Pr} (h : ∀ q ∈ qs, prsmall q) (n : Nat) (hn : n ≤ 4097) : (patch n (qs.map toPc)).length ≤ 11 + 9022 * qs.length := by
  have hen := enc_len 64 n (by omega)
  have key : ∀ l : List Pr, (∀ q ∈ l, prsmall q) → ((l.map toPc).flatMap pbytes).length ≤ 9022 * l.length := by
    intro l
    induction l with
    | nil => intro _; simp
    | cons x l ih =>
      intro h
      have h1 := pbytes_len (h x (List.mem_cons_self ..))
      have h2 := ih (fun q hq => h q (List.mem_cons_of_mem _ hq))
      rw [List.map_cons, List.flatMap_cons, List.length_append, List.length_cons]; omega
  have := key qs h
  unfold patch
  rw [List.length_append]; omega
def prok (r : Pr) : Prop := r.text.size ≤ 9223372036854775807
theorem pr_open {H : Type} {enc : TypeId × Value → H} {W : World} {base : Nat} {spare : Nat → Bool} {held : Bool} {fuel : Nat} {cs : List Value} {x : DataW H × List MemPlace} (h : DataW.trod enc Try.prog W base spare held fuel 32 cs = some x) :
    ∃ r : Pr, cs = prC r ∧ prok r := by
  obtain ⟨xs, n, rfl, rfl, hl, hlen, hf⟩ := DataW.trod_struct Try.underlying32 h
  have c4 : Try.prog.cellsOf 32 = 4 := by kernel_rfl
  have cb : Try.prog.cellsOf 4 = 1 := by kernel_rfl
  have ci : Try.prog.cellsOf 3 = 1 := by kernel_rfl
  have cst : Try.prog.cellsOf 9 = 1 := by kernel_rfl
  rw [c4] at hl
  match xs, hlen with
  | [y0, y1, y2, y3], _ =>
    have h0 : DataW.trod enc Try.prog W base spare held n 4 ((cs.drop 0).take (Try.prog.cellsOf 4)) = some y0 := hf 0 _ rfl
    have h1 : DataW.trod enc Try.prog W base spare held n 3 ((cs.drop 1).take (Try.prog.cellsOf 3)) = some y1 := hf 1 _ rfl
    have h2 : DataW.trod enc Try.prog W base spare held n 9 ((cs.drop 2).take (Try.prog.cellsOf 9)) = some y2 := hf 2 _ rfl
    have h3 : DataW.trod enc Try.prog W base spare held n 3 ((cs.drop 3).take (Try.prog.cellsOf 3)) = some y3 := hf 3 _ rfl
    rw [cb] at h0; rw [ci] at h1 h3; rw [cst] at h2
    obtain ⟨b, e0, _⟩ := DataW.trod_bool Try.underlying4 h0
    obtain ⟨a, e1, _, _⟩ := DataW.trod_int Try.underlying3 h1
    obtain ⟨s, e2, _, hs⟩ := DataW.trod_string Try.underlying9 h2
    obtain ⟨l, e3, _, _⟩ := DataW.trod_int Try.underlying3 h3
    match cs, hl with
    | [z0, z1, z2, z3], _ =>
      simp at e0 e1 e2 e3
      subst e0; subst e1; subst e2; subst e3
      exact ⟨⟨b, a, s, l⟩, rfl, by unfold prok; unfold maxLen at hs; omega⟩
theorem prs_open {H : Type} {enc : TypeId × Value → H} {W : World} {base : Nat} {spare : Nat → Bool} {held : Bool} {a : Option Addr} {len cap : Nat} {d : DataW H} {ps : List MemPlace}
    (h : DataW.Trod enc Try.prog W base spare held 30 (.slice a len cap) d ps) : ∃ l : List Pr, len = l.length ∧ Rd W 4 a l.length (l.flatMap prC) ∧ l.length ≤ cap ∧ ∀ r ∈ l, prok r :=
  rows_open (gc := prC) prok Try.underlying30 (by kernel_rfl) (fun r hr => rfl) (fun fuel cs x hx => pr_open hx) h
set_option maxHeartbeats 8000000 in
theorem pieces_walk {w : World} (A : Option Addr) (c : Nat) (bs : List UInt8) (hr : Rd w 1 A bs.length (bs.map u8V)) (hcap : bs.length ≤ c) (A2 : Option Addr) (c2 : Nat) (rs : List Pr) (hr2 : Rd w 4 A2 rs.length (rs.flatMap prC)) (hcap2 : rs.length ≤ c2) (hg : ∀ r ∈ rs, prok r) :
    Calls Try.prog 4 #[.slice A bs.length c, .slice A2 rs.length c2] w fun e w' => e = .returned (bV true) ∧ Below w.heap.size w w' := by
  have hn := hr.2.1
  refine enter (P := Try.prog) Try.func4 rfl rfl ?_
  have hs := Sep.init w
  refine c_rseq ?_
  refine l_v (by first | exact (r_assign (v := bV _) rfl) | exact (r_assign rfl)) ?_
  refine l_nil (nrm_then ?_)
  refine c_seq ?_
  refine c_rseq ?_
  refine l_call (r_call Try.func7 rfl rfl) ?_
  refine Calls.mono (awake_c _) ?_
  rintro e w_ ⟨rfl, hb⟩
  refine ⟨_, rfl, ?_⟩
  have hs := hs.below_ hb
  refine l_v (r_not rfl) ?_
  refine l_v (by first | exact (r_move (v := bV _) rfl) | exact (r_move rfl)) ?_
  refine l_vg (by first | exact (r_move (v := .slice _ _ _) rfl) | exact (r_move rfl)) rfl (rfl) ?_
  refine l_vg (r_len_l Try.underlying22 rfl) rfl (rfl) ?_
  refine l_vg (r_gtri rfl rfl) rfl (rfl) ?_
  refine l_v (r_pick_f rfl rfl rfl) ?_
  by_cases hb9 : (bs.length : Int) > 9000
  · have f : decide ((bs.length : Int) > 9000) = true := decide_eq_true hb9
    refine l_v (by first | exact (r_move (v := bV _) rfl) | exact (r_move rfl)) ?_
    refine l_no rfl (f) ?_
    refine l_no rfl (f) ?_
    refine l_no rfl (f) ?_
    refine l_v (r_pick_t rfl f rfl) ?_
    refine l_nil (nrm_then ?_)
    refine c_true rfl (rfl) ?_
    refine c_rseq ?_
    refine l_call (r_call Try.func7 rfl rfl) ?_
    refine Calls.mono (awake_c _) ?_
    rintro e w_ ⟨rfl, hb2⟩
    refine ⟨_, rfl, ?_⟩
    have hs := hs.below_ hb2
    refine l_v (by first | exact (r_assign (v := bV _) rfl) | exact (r_assign rfl)) ?_
    refine l_nil (nrm_then ?_)
    refine c_ret (ret_then ?_)
    show Fin _ _ _ _ _
    refine fin1 rfl ?_
    exact ⟨rfl, hs.below⟩
  · have f : decide ((bs.length : Int) > 9000) = false := decide_eq_false hb9
    refine l_v (by first | exact (r_move (v := bV _) rfl) | exact (r_move rfl)) ?_
    refine l_vg (by first | exact (r_move (v := .slice _ _ _) rfl) | exact (r_move rfl)) rfl (f) ?_
    refine l_vg (r_len_l Try.underlying30 rfl) rfl (f) ?_
    refine l_vg (r_gtri rfl rfl) rfl (f) ?_
    refine l_v (r_pick_f rfl f rfl) ?_
    refine l_nil (nrm_then ?_)
    refine c_cond rfl (fun h3 => ?_) (fun h3 => ?_)
    · replace h3 := of_decide_eq_true h3
      refine c_rseq ?_
      refine l_call (r_call Try.func7 rfl rfl) ?_
      refine Calls.mono (awake_c _) ?_
      rintro e w_ ⟨rfl, hb2⟩
      refine ⟨_, rfl, ?_⟩
      have hs := hs.below_ hb2
      refine l_v (by first | exact (r_assign (v := bV _) rfl) | exact (r_assign rfl)) ?_
      refine l_nil (nrm_then ?_)
      refine c_ret (ret_then ?_)
      show Fin _ _ _ _ _
      refine fin1 rfl ?_
      exact ⟨rfl, hs.below⟩
    · have h300 : rs.length ≤ 300 := by have h := of_decide_eq_false h3; omega
      have hbs : bs.length ≤ 9000 := by omega
      replace h3 := of_decide_eq_false h3
      refine c_skip (nrm_then ?_)
      refine c_rseq ?_
      refine l_v (by first | exact (r_assign (v := sV _) rfl) | exact (r_assign rfl)) ?_
      refine l_nil (nrm_then ?_)
      refine c_rseq ?_
      refine l_v (by first | exact (r_assign (v := .slice _ _ _) rfl) | exact (r_assign rfl)) ?_
      refine l_nil (nrm_then ?_)
      refine c_seq ?_
      refine c_rseq ?_
      refine l_v (by first | exact (r_assign (v := iV _) rfl) | exact (r_assign rfl)) ?_
      refine l_nil (nrm_then ?_)
      refine c_block ?_
      have hs := hs.rowNil 32 4
      refine c_loopn [0, 1] (fun m f' w' => ∃ (i : Nat) (v : Value) (qs : List Pr), i + m = rs.length ∧ f' 7 = iV (i : Int) ∧ f' 5 = sV (ofL (WW bs qs)) ∧ f' 6 = v ∧ Eng.Sep w w' (rowP v qs :: []) ∧ qs.length ≤ i ∧ (∀ q ∈ qs, pgood bs (toPc q) ∧ prsmall q) ∧ (WW bs qs).length ≤ 14000) ?_ ?_
      · exact ⟨rs.length, 0, .slice none 0 0, [], by omega, rfl, rfl, rfl, hs, by simp, (fun q h => by cases h), by simp [WW]⟩
      · rintro m g w_ ⟨i, v, qs, hi, h7, h5, h6, hs, hqi, hgq0, hWl⟩
        refine OkC.env ?_ (fixH (L := [(7, _), (5, _), (6, _)]) ⟨h7, h5, h6, trivial⟩)
        clear h7 h5 h6
        refine c_seq ?_
        refine c_rseq ?_
        refine l_v (by first | exact (r_move (v := iV _) rfl) | exact (r_move rfl)) ?_
        refine l_v (by first | exact (r_move (v := .slice _ _ _) rfl) | exact (r_move rfl)) ?_
        refine l_v (r_len_l Try.underlying30 rfl) ?_
        refine l_v (r_lssi rfl rfl) ?_
        refine l_nil (nrm_then ?_)
        refine c_cond rfl (fun h4 => ?_) (fun h4 => ?_)
        · have hil : i < rs.length := by have := of_decide_eq_true h4; omega
          obtain ⟨x, hxi⟩ : ∃ x, rs[i]? = some x := ⟨rs[i], List.getElem?_eq_getElem hil⟩
          obtain ⟨ad, rfl, _⟩ := hr2.ad (by omega)
          have hB := rd_item (hr2.below hs.below) (fun y _ => rfl) (by decide) hxi
          have hone := pr_one x
          have hl4 : (prC x).length = 4 := rfl
          have hWz : (ofL (WW bs qs)).size = (WW bs qs).length := rfl
          replace h4 := of_decide_eq_true h4
          refine c_skip (nrm_then ?_)
          refine c_seq ?_
          refine c_block ?_
          refine c_rseq ?_
          refine l_v (by first | exact (r_move (v := .slice _ _ _) rfl) | exact (r_move rfl)) ?_
          refine l_v (by first | exact (r_move (v := iV _) rfl) | exact (r_move rfl)) ?_
          refine l_v (r_indexAddr_l (k := i) Try.underlying30 I32 rfl rfl hil) ?_
          refine l_v (r_load_aggP Try.underlying32 I32 rfl hB rfl) ?_
          refine l_alloc hs I32 ?_
          intro b8 w8 hs hB8 hlt8
          first | refine l_store_whole (i := 0) hs rfl I32 rfl rfl (by first | assumption | (simp; done)) (by first | assumption | (simp; done)) (by first | assumption | simp [Value.oneCell']) ?_ | refine l_store_whole (i := 1) hs rfl I32 rfl rfl (by first | assumption | (simp; done)) (by first | assumption | (simp; done)) (by first | assumption | simp [Value.oneCell']) ?_ | refine l_store_whole (i := 2) hs rfl I32 rfl rfl (by first | assumption | (simp; done)) (by first | assumption | (simp; done)) (by first | assumption | simp [Value.oneCell']) ?_ | refine l_store_whole (i := 3) hs rfl I32 rfl rfl (by first | assumption | (simp; done)) (by first | assumption | (simp; done)) (by first | assumption | simp [Value.oneCell']) ?_ | refine l_store_whole (i := 4) hs rfl I32 rfl rfl (by first | assumption | (simp; done)) (by first | assumption | (simp; done)) (by first | assumption | simp [Value.oneCell']) ?_ | refine l_store_whole (i := 5) hs rfl I32 rfl rfl (by first | assumption | (simp; done)) (by first | assumption | (simp; done)) (by first | assumption | simp [Value.oneCell']) ?_ | refine l_store_whole (i := 6) hs rfl I32 rfl rfl (by first | assumption | (simp; done)) (by first | assumption | (simp; done)) (by first | assumption | simp [Value.oneCell']) ?_
          intro w_ hs
          refine l_nil (nrm_then ?_)
          refine c_seq ?_
          refine c_rseq ?_
          have hs : Eng.Sep w _ (blk b8 (prC x) 32 :: rowP v qs :: []) := hs
          refine l_v (by first | exact (r_fieldAddr0 (off := 2) (T := 9) (by kernel_rfl) rfl) | exact (r_fieldAddr (off := 2) (T := 9) (by kernel_rfl) rfl)) ?_
          refine l_v (r_load_at (i := 0) hs rfl Try.underlying9 rfl rfl) ?_
          refine l_v (r_len_s Try.underlying9 rfl) ?_
          refine l_v (r_gtri rfl rfl) ?_
          by_cases hx9 : (x.text.size : Int) > 9000
          · have f5 : decide ((x.text.size : Int) > 9000) = true := decide_eq_true hx9
            refine l_v (by first | exact (r_move (v := bV _) rfl) | exact (r_move rfl)) ?_
            refine l_no rfl (f5) ?_
            refine l_no rfl (f5) ?_
            refine l_no rfl (f5) ?_
            refine l_v (r_pick_t rfl f5 rfl) ?_
            refine l_nil (nrm_then ?_)
            refine c_true rfl (rfl) ?_
            refine c_rseq ?_
            refine l_v (by first | exact (r_assign (v := bV _) rfl) | exact (r_assign rfl)) ?_
            refine l_nil (nrm_then ?_)
            refine c_ret (ret_then (ret_block (ret_then (ret_then (ret_block (ret_then ?_))))))
            show Fin _ _ _ _ _
            refine fin1 rfl ?_
            exact ⟨rfl, hs.below⟩
          · have f5 : decide ((x.text.size : Int) > 9000) = false := decide_eq_false hx9
            refine l_v (by first | exact (r_move (v := bV _) rfl) | exact (r_move rfl)) ?_
            refine l_vg (by first | exact (r_move (v := sV _) rfl) | exact (r_move rfl)) rfl (f5) ?_
            refine l_vg (r_len_s Try.underlying9 rfl) rfl (f5) ?_
            refine l_vg (r_gtri rfl rfl) rfl (f5) ?_
            refine l_v (r_pick_f rfl f5 rfl) ?_
            refine l_nil (nrm_then ?_)
            refine c_cond rfl (fun h6 => ?_) (fun h6 => ?_)
            · replace h6 := of_decide_eq_true h6
              refine c_rseq ?_
              refine l_v (by first | exact (r_assign (v := bV _) rfl) | exact (r_assign rfl)) ?_
              refine l_nil (nrm_then ?_)
              refine c_ret (ret_then (ret_block (ret_then (ret_then (ret_block (ret_then ?_))))))
              show Fin _ _ _ _ _
              refine fin1 rfl ?_
              exact ⟨rfl, hs.below⟩
            · have hW4 : (WW bs qs).length ≤ 4096 := by have h := of_decide_eq_false h6; omega
              replace h6 := of_decide_eq_false h6
              refine c_skip (nrm_then ?_)
              refine c_seq ?_
              refine c_rseq ?_
              refine l_v (by first | exact (r_fieldAddr0 (off := 0) (T := 4) (by kernel_rfl) rfl) | exact (r_fieldAddr (off := 0) (T := 4) (by kernel_rfl) rfl)) ?_
              refine l_v (r_load_at (i := 0) hs rfl Try.underlying4 rfl rfl) ?_
              refine l_nil (nrm_then ?_)
              rcases Bool.eq_false_or_eq_true x.copy with hc | hc
              · refine c_true rfl (hc) ?_
                refine c_seq ?_
                refine c_rseq ?_
                refine l_v (by first | exact (r_move (v := .slice _ _ _) rfl) | exact (r_move rfl)) ?_
                refine l_v (r_len_l Try.underlying22 rfl) ?_
                refine l_v (r_eqli rfl rfl) ?_
                refine l_nil (nrm_then ?_)
                refine c_cond rfl (fun h8 => ?_) (fun h8 => ?_)
                · have hs := hs.drop
                  replace h8 := of_decide_eq_true h8
                  refine c_exit (ex_then (ex_then (ex_hit (nrm_then ?_))))
                  refine c_region ?_
                  refine l_v (by first | exact (r_move (v := iV _) rfl) | exact (r_move rfl)) ?_
                  refine l_v (r_addi rfl rfl (by omega)) ?_
                  refine l_v (by first | exact (r_assign (v := iV _) rfl) | exact (r_assign rfl)) ?_
                  refine l_nil (nrm_then ?_)
                  refine And.intro (by refine ⟨?_, ?_, trivial⟩ <;> ((conv => lhs; whnf); (try conv => rhs; whnf))) ?_
                  exact ⟨rs.length - (i + 1), by omega, i + 1, v, qs, by omega, rfl, rfl, rfl, hs, by omega, hgq0, hWl⟩
                · have hb1 : 1 ≤ bs.length := by have h := of_decide_eq_false h8; omega
                  have hN1 : (BitVec.ofInt 64 (bs.length : Int)).toNat = bs.length := by rw [BitVec.toNat_ofInt]; omega
                  obtain ⟨k, hk, hlt⟩ : ∃ k, (BitVec.ofInt 64 x.at_ % BitVec.ofInt 64 (bs.length : Int)).toNat = k ∧ k < bs.length := ⟨_, rfl, by rw [BitVec.toNat_umod, hN1]; exact Nat.mod_lt _ (by omega)⟩
                  have hN2 : (BitVec.ofInt 64 ((bs.length : Int) - (k : Int))).toNat = bs.length - k := by rw [BitVec.toNat_ofInt]; omega
                  obtain ⟨j, hj, hlt2⟩ : ∃ j, (BitVec.ofInt 64 x.len % BitVec.ofInt 64 ((bs.length : Int) - (k : Int))).toNat = j ∧ j < bs.length - k := ⟨_, rfl, by rw [BitVec.toNat_umod, hN2]; exact Nat.mod_lt _ (by omega)⟩
                  replace h8 := of_decide_eq_false h8
                  refine c_skip (nrm_then ?_)
                  refine c_rseq ?_
                  refine l_v (by first | exact (r_fieldAddr0 (off := 1) (T := 3) (by kernel_rfl) rfl) | exact (r_fieldAddr (off := 1) (T := 3) (by kernel_rfl) rfl)) ?_
                  refine l_v (r_load_at (i := 0) hs rfl Try.underlying3 rfl rfl) ?_
                  refine l_v (r_cv_i64 Try.underlying3 Try.underlying33 rfl) ?_
                  refine l_v (by first | exact (r_move (v := .slice _ _ _) rfl) | exact (r_move rfl)) ?_
                  refine l_v (r_len_l Try.underlying22 rfl) ?_
                  refine l_v (r_cv_i64 Try.underlying3 Try.underlying33 rfl) ?_
                  refine l_v (r_rem64 rfl rfl (by rw [hN1]; omega)) ?_
                  refine l_v (r_cv_64n hk Try.underlying33 Try.underlying3 rfl (by omega)) ?_
                  refine l_v (by first | exact (r_fieldAddr0 (off := 1) (T := 3) (by kernel_rfl) rfl) | exact (r_fieldAddr (off := 1) (T := 3) (by kernel_rfl) rfl)) ?_
                  refine l_store (i := 0) hs rfl I3 rfl rfl (by show 1 < 4; decide) ?_
                  intro w13 hs
                  have hs : Eng.Sep w w13 (blk b8 [bV x.copy, iV (k : Int), sV x.text, iV x.len] 32 :: rowP v qs :: []) := hs
                  refine l_nil (nrm_then ?_)
                  refine c_rseq ?_
                  refine l_v (by first | exact (r_fieldAddr0 (off := 3) (T := 3) (by kernel_rfl) rfl) | exact (r_fieldAddr (off := 3) (T := 3) (by kernel_rfl) rfl)) ?_
                  refine l_v (r_load_at (i := 0) hs rfl Try.underlying3 rfl rfl) ?_
                  refine l_v (r_cv_i64 Try.underlying3 Try.underlying33 rfl) ?_
                  refine l_v (by first | exact (r_move (v := .slice _ _ _) rfl) | exact (r_move rfl)) ?_
                  refine l_v (r_len_l Try.underlying22 rfl) ?_
                  refine l_v (by first | exact (r_fieldAddr0 (off := 1) (T := 3) (by kernel_rfl) rfl) | exact (r_fieldAddr (off := 1) (T := 3) (by kernel_rfl) rfl)) ?_
                  refine l_v (r_load_at (i := 0) hs rfl Try.underlying3 rfl rfl) ?_
                  refine l_v (r_subi rfl rfl (by omega)) ?_
                  refine l_v (r_cv_i64 Try.underlying3 Try.underlying33 rfl) ?_
                  refine l_v (r_rem64 rfl rfl (by rw [hN2]; omega)) ?_
                  refine l_v (r_cv_64n hj Try.underlying33 Try.underlying3 rfl (by omega)) ?_
                  refine l_v (r_addi rfl rfl (by omega)) ?_
                  refine l_v (by first | exact (r_fieldAddr0 (off := 3) (T := 3) (by kernel_rfl) rfl) | exact (r_fieldAddr (off := 3) (T := 3) (by kernel_rfl) rfl)) ?_
                  refine l_store (i := 0) hs rfl I3 rfl rfl (by show 3 < 4; decide) ?_
                  intro w14 hs
                  have hs : Eng.Sep w w14 (blk b8 [bV x.copy, iV (k : Int), sV x.text, iV (1 + (j : Int))] 32 :: rowP v qs :: []) := hs
                  have hsub := rd_sub (hr.below hs.below) (l := k) (h := k + (1 + j)) (by omega) (by omega) hcap
                  have em : ((bs.map u8V).drop k).take (k + (1 + j) - k) = ((bs.drop k).take (1 + j)).map u8V := by rw [← List.map_drop, ← List.map_take, Nat.add_sub_cancel_left]
                  rw [em] at hsub
                  have hml : (ofL ((bs.drop k).take (1 + j))).size = 1 + j := by show ((bs.drop k).take (1 + j)).length = _; rw [List.length_take, List.length_drop]; omega
                  refine l_nil (nrm_then ?_)
                  refine c_region ?_
                  refine l_v (by first | exact (r_move (v := sV _) rfl) | exact (r_move rfl)) ?_
                  refine l_v (by first | exact (r_move (v := .slice _ _ _) rfl) | exact (r_move rfl)) ?_
                  refine l_v (by first | exact (r_fieldAddr0 (off := 1) (T := 3) (by kernel_rfl) rfl) | exact (r_fieldAddr (off := 1) (T := 3) (by kernel_rfl) rfl)) ?_
                  refine l_v (r_load_at (i := 0) hs rfl Try.underlying3 rfl rfl) ?_
                  refine l_v (by first | exact (r_fieldAddr0 (off := 1) (T := 3) (by kernel_rfl) rfl) | exact (r_fieldAddr (off := 1) (T := 3) (by kernel_rfl) rfl)) ?_
                  refine l_v (r_load_at (i := 0) hs rfl Try.underlying3 rfl rfl) ?_
                  refine l_v (by first | exact (r_fieldAddr0 (off := 3) (T := 3) (by kernel_rfl) rfl) | exact (r_fieldAddr (off := 3) (T := 3) (by kernel_rfl) rfl)) ?_
                  refine l_v (r_load_at (i := 0) hs rfl Try.underlying3 rfl rfl) ?_
                  refine l_v (r_addi rfl rfl (by omega)) ?_
                  refine l_v (r_slice_plh k (k + (1 + j)) Try.underlying22 I5 rfl rfl (congrArg (fun z => some (iV z)) (by omega)) (by omega)) ?_
                  refine l_v (r_cv_bs (l := (bs.drop k).take (1 + j)) Try.underlying22 Try.underlying5 Try.underlying9 rfl hsub) ?_
                  refine l_v (r_adds rfl rfl (by omega)) ?_
                  refine l_v (by first | exact (r_assign (v := sV _) rfl) | exact (r_assign rfl)) ?_
                  refine l_nil (nrm_then ?_)
                  refine c_region ?_
                  have hqm : pmade bs (toPc ⟨x.copy, (k : Int), x.text, 1 + (j : Int)⟩) = (bs.drop k).take (1 + j) := by
                    unfold pmade toPc
                    rw [if_pos hc]
                    dsimp only
                    rw [Int.toNat_natCast, show (1 + (j : Int)).toNat = 1 + j by omega]
                  have hql : (pmade bs (toPc ⟨x.copy, (k : Int), x.text, 1 + (j : Int)⟩)).length = 1 + j := by rw [hqm]; exact hml
                  have hW : sV (ofL (WW bs qs) ++ ofL ((bs.drop k).take (1 + j))) = sV (ofL (WW bs (qs ++ [⟨x.copy, (k : Int), x.text, 1 + (j : Int)⟩]))) := congrArg sV (Eng.toL_inj (by rw [Eng.toL_append, WW_app, hqm]))
                  have hgq : ∀ q ∈ qs ++ [(⟨x.copy, (k : Int), x.text, 1 + (j : Int)⟩ : Pr)], pgood bs (toPc q) ∧ prsmall q := by
                    intro q hq
                    rcases List.mem_append.1 hq with h | h
                    · exact hgq0 q h
                    · rw [List.mem_singleton.1 h]
                      refine ⟨?_, ⟨fun _ => by dsimp only; omega, by dsimp only; omega⟩⟩
                      unfold pgood toPc
                      rw [if_pos hc]
                      dsimp only
                      omega
                  refine l_v (by first | exact (r_move (v := .slice _ _ _) rfl) | exact (r_move rfl)) ?_
                  refine l_v (r_load_whole (i := 0) hs rfl Try.underlying32 I32 rfl rfl) ?_
                  have hs := hs.drop
                  refine l_lit [.agg (prC (⟨x.copy, (k : Int), x.text, 1 + (j : Int)⟩ : Pr)).toArray] hs Try.underlying30 I32 rfl (by intro u hu; rw [List.mem_singleton.1 hu]; rfl) (by decide) rfl (by decide) (by decide) ?_
                  intro b95 w95 hs hB95 hlt95
                  have hs : Eng.Sep w w95 (blk b95 (prC (⟨x.copy, (k : Int), x.text, 1 + (j : Int)⟩ : Pr)) 32 :: rowP v qs :: []) := hs
                  refine l_append_lit Try.underlying30 I32 (by kernel_rfl) (by decide) rfl rfl hs rfl (pr_one _) (by omega) (by omega) ?_
                  intro v96 w96 hs
                  have hs := rowP_app (x := (⟨x.copy, (k : Int), x.text, 1 + (j : Int)⟩ : Pr)) hs
                  refine l_v (by first | exact (r_assign (v := .slice _ _ _) rfl) | exact (r_assign rfl)) ?_
                  refine l_nil (nrm_block (nrm_then ?_))
                  refine c_region ?_
                  refine l_v (by first | exact (r_move (v := iV _) rfl) | exact (r_move rfl)) ?_
                  refine l_v (r_addi rfl rfl (by omega)) ?_
                  refine l_v (by first | exact (r_assign (v := iV _) rfl) | exact (r_assign rfl)) ?_
                  refine l_nil (nrm_then ?_)
                  refine And.intro (by refine ⟨?_, ?_, trivial⟩ <;> ((conv => lhs; whnf); (try conv => rhs; whnf))) ?_
                  exact ⟨rs.length - (i + 1), by omega, i + 1, v96, qs ++ [(⟨x.copy, (k : Int), x.text, 1 + (j : Int)⟩ : Pr)], by omega, rfl, hW, rfl, hs, by rw [List.length_append]; simp only [List.length_cons, List.length_nil]; omega, hgq, by rw [WW_app, List.length_append, hql]; omega⟩
              · skip
                refine c_false rfl (hc) ?_
                refine c_seq ?_
                refine c_rseq ?_
                refine l_v (by first | exact (r_fieldAddr0 (off := 2) (T := 9) (by kernel_rfl) rfl) | exact (r_fieldAddr (off := 2) (T := 9) (by kernel_rfl) rfl)) ?_
                refine l_v (r_load_at (i := 0) hs rfl Try.underlying9 rfl rfl) ?_
                refine l_v (r_eqls rfl rfl) ?_
                refine l_nil (nrm_then ?_)
                refine c_cond rfl (fun h8 => ?_) (fun h8 => ?_)
                · have hs := hs.drop
                  replace h8 := of_decide_eq_true h8
                  refine c_exit (ex_then (ex_then (ex_hit (nrm_then ?_))))
                  refine c_region ?_
                  refine l_v (by first | exact (r_move (v := iV _) rfl) | exact (r_move rfl)) ?_
                  refine l_v (r_addi rfl rfl (by omega)) ?_
                  refine l_v (by first | exact (r_assign (v := iV _) rfl) | exact (r_assign rfl)) ?_
                  refine l_nil (nrm_then ?_)
                  refine And.intro (by refine ⟨?_, ?_, trivial⟩ <;> ((conv => lhs; whnf); (try conv => rhs; whnf))) ?_
                  exact ⟨rs.length - (i + 1), by omega, i + 1, v, qs, by omega, rfl, rfl, rfl, hs, by omega, hgq0, hWl⟩
                · have hxz := Eng.toL_size x.text
                  have h1 : 1 ≤ x.text.size := by
                    rcases Nat.eq_zero_or_pos x.text.size with h | h
                    · exact absurd (Eng.toL_inj (List.length_eq_zero_iff.1 (by rw [hxz, h]))) (of_decide_eq_false h8)
                    · exact h
                  replace h8 := of_decide_eq_false h8
                  refine c_skip (nrm_then ?_)
                  refine c_region ?_
                  refine l_v (by first | exact (r_move (v := sV _) rfl) | exact (r_move rfl)) ?_
                  refine l_v (by first | exact (r_fieldAddr0 (off := 2) (T := 9) (by kernel_rfl) rfl) | exact (r_fieldAddr (off := 2) (T := 9) (by kernel_rfl) rfl)) ?_
                  refine l_v (r_load_at (i := 0) hs rfl Try.underlying9 rfl rfl) ?_
                  refine l_v (r_adds rfl rfl (by omega)) ?_
                  refine l_v (by first | exact (r_assign (v := sV _) rfl) | exact (r_assign rfl)) ?_
                  refine l_nil (nrm_then ?_)
                  refine c_region ?_
                  have hqm : pmade bs (toPc x) = toL x.text := if_neg (by show ¬ x.copy = true; rw [hc]; decide)
                  have hql : (pmade bs (toPc x)).length = x.text.size := by rw [hqm]; exact hxz
                  have hW : sV (ofL (WW bs qs) ++ x.text) = sV (ofL (WW bs (qs ++ [x]))) := congrArg sV (Eng.toL_inj (by rw [Eng.toL_append, WW_app, hqm]))
                  have hgq : ∀ q ∈ qs ++ [x], pgood bs (toPc q) ∧ prsmall q := by
                    intro q hq
                    rcases List.mem_append.1 hq with h | h
                    · exact hgq0 q h
                    · rw [List.mem_singleton.1 h]
                      refine ⟨?_, ⟨(fun h => by rw [hc] at h; cases h), by omega⟩⟩
                      unfold pgood
                      rw [if_neg (by show ¬ x.copy = true; rw [hc]; decide)]
                      show 1 ≤ (toL x.text).length ∧ (toL x.text).length ≤ _
                      omega
                  refine l_v (by first | exact (r_move (v := .slice _ _ _) rfl) | exact (r_move rfl)) ?_
                  refine l_v (r_load_whole (i := 0) hs rfl Try.underlying32 I32 rfl rfl) ?_
                  have hs := hs.drop
                  refine l_lit [.agg (prC x).toArray] hs Try.underlying30 I32 rfl (by intro u hu; rw [List.mem_singleton.1 hu]; rfl) (by decide) rfl (by decide) (by decide) ?_
                  intro b95 w95 hs hB95 hlt95
                  have hs : Eng.Sep w w95 (blk b95 (prC x) 32 :: rowP v qs :: []) := hs
                  refine l_append_lit Try.underlying30 I32 (by kernel_rfl) (by decide) rfl rfl hs rfl (pr_one _) (by omega) (by omega) ?_
                  intro v96 w96 hs
                  have hs := rowP_app (x := x) hs
                  refine l_v (by first | exact (r_assign (v := .slice _ _ _) rfl) | exact (r_assign rfl)) ?_
                  refine l_nil (nrm_block (nrm_then ?_))
                  refine c_region ?_
                  refine l_v (by first | exact (r_move (v := iV _) rfl) | exact (r_move rfl)) ?_
                  refine l_v (r_addi rfl rfl (by omega)) ?_
                  refine l_v (by first | exact (r_assign (v := iV _) rfl) | exact (r_assign rfl)) ?_
                  refine l_nil (nrm_then ?_)
                  refine And.intro (by refine ⟨?_, ?_, trivial⟩ <;> ((conv => lhs; whnf); (try conv => rhs; whnf))) ?_
                  exact ⟨rs.length - (i + 1), by omega, i + 1, v96, qs ++ [x], by omega, rfl, hW, rfl, hs, by rw [List.length_append]; simp only [List.length_cons, List.length_nil]; omega, hgq, by rw [WW_app, List.length_append, hql]; omega⟩
        · replace h4 := of_decide_eq_false h4
          refine c_exit (ex_then (ex_then (ex_hit (nrm_then ?_))))
          refine c_seq ?_
          refine c_rseq ?_
          refine l_v (by first | exact (r_move (v := sV _) rfl) | exact (r_move rfl)) ?_
          refine l_v (r_len_s Try.underlying9 rfl) ?_
          refine l_v (r_gtri rfl rfl) ?_
          refine l_nil (nrm_then ?_)
          refine c_cond rfl (fun h9 => ?_) (fun h9 => ?_)
          · replace h9 := of_decide_eq_true h9
            refine c_rseq ?_
            refine l_v (by first | exact (r_assign (v := bV _) rfl) | exact (r_assign rfl)) ?_
            refine l_nil (nrm_then ?_)
            refine c_ret (ret_then ?_)
            show Fin _ _ _ _ _
            refine fin1 rfl ?_
            exact ⟨rfl, hs.below⟩
          · have hWz : (ofL (WW bs qs)).size = (WW bs qs).length := rfl
            have hW4 : (WW bs qs).length ≤ 4096 := by have h := of_decide_eq_false h9; omega
            obtain ⟨Aq, cq, rfl, hcq⟩ := hs.rowForm
            have hq1 : qs.length ≤ 300 := by omega
            have hqs : ∀ q ∈ qs, prsmall q := fun q h => (hgq0 q h).2
            have hqg : ∀ p ∈ qs.map toPc, pgood bs p := fun p hp => by
              obtain ⟨q, hq, rfl⟩ := List.mem_map.1 hp
              exact (hgq0 q hq).1
            have hp1 := patch_len hqs (WW bs qs).length (by omega)
            have hp2 := patch_len hqs ((WW bs qs).length + 1) (by omega)
            have l1 : apply bs (patch (WW bs qs).length (qs.map toPc)) = (WW bs qs, 0) := patch_whole (by omega) hqg hW4
            have l2 : apply bs (patch (WW bs qs).length (qs.map toPc) ++ [64]) = ([], 5) := patch_tail (by omega) hqg hW4
            have l3 : apply bs (patch ((WW bs qs).length + 1) (qs.map toPc)) = ([], if (WW bs qs).length = 4096 then 6 else 2) := patch_short (by omega) hqg hW4
            replace h9 := of_decide_eq_false h9
            refine c_skip (nrm_then ?_)
            refine c_rseq ?_
            refine l_v (by first | exact (r_move (v := .slice _ _ _) rfl) | exact (r_move rfl)) ?_
            refine l_v (by first | exact (r_move (v := sV _) rfl) | exact (r_move rfl)) ?_
            refine l_v (r_len_s Try.underlying9 rfl) ?_
            refine l_v (by first | exact (r_move (v := .slice _ _ _) rfl) | exact (r_move rfl)) ?_
            refine l_call (r_call Try.func10 rfl rfl) ?_
            refine Calls.mono (patch_c (WW bs qs).length (by omega) Aq cq qs hq1 hqs _ hs.rd) ?_
            rintro e w_ ⟨rfl, hb1⟩
            refine ⟨_, rfl, ?_⟩
            have hs := hs.below_ hb1
            refine l_call (r_call Try.func8 rfl rfl) ?_
            refine Calls.mono (apply_c A bs.length c bs (ofL (patch (WW bs qs).length (qs.map toPc))) (by show (patch (WW bs qs).length (qs.map toPc)).length ≤ _; omega) w _ _ hr hcap hs hs.below.size) ?_
            rintro e w_ ⟨v1, rfl, hs⟩
            refine ⟨_, rfl, ?_⟩
            rw [Eng.toL_ofL, l1] at *
            obtain ⟨A3, c3, rfl, hc3⟩ := hs.rowForm
            refine l_v (r_move rfl) ?_
            refine l_v (r_extract rfl rfl) ?_
            refine l_v (r_extract rfl rfl) ?_
            refine l_v (by first | exact (r_assign (v := .slice _ _ _) rfl) | exact (r_assign rfl)) ?_
            refine l_v (by first | exact (r_assign (v := iV _) rfl) | exact (r_assign rfl)) ?_
            refine l_nil (nrm_then ?_)
            refine c_rseq ?_
            refine l_v (by first | exact (r_move (v := .slice _ _ _) rfl) | exact (r_move rfl)) ?_
            refine l_v (by first | exact (r_move (v := sV _) rfl) | exact (r_move rfl)) ?_
            refine l_v (r_len_s Try.underlying9 rfl) ?_
            refine l_v (by first | exact (r_move (v := .slice _ _ _) rfl) | exact (r_move rfl)) ?_
            refine l_call (r_call Try.func10 rfl rfl) ?_
            refine Calls.mono (patch_c (WW bs qs).length (by omega) Aq cq qs hq1 hqs _ (hs.pull 1).rd) ?_
            rintro e w_ ⟨rfl, hb2⟩
            refine ⟨_, rfl, ?_⟩
            have hs := hs.below_ hb2
            have e64 : ofL (patch (WW bs qs).length (qs.map toPc)) ++ (⟨#[64]⟩ : ByteArray) = ofL (patch (WW bs qs).length (qs.map toPc) ++ [64]) := Eng.toL_inj (by rw [Eng.toL_append])
            refine l_v (r_adds rfl rfl (by show (patch (WW bs qs).length (qs.map toPc)).length + 1 ≤ _; omega)) ?_
            rw [e64]
            refine l_call (r_call Try.func8 rfl rfl) ?_
            refine Calls.mono (apply_c A bs.length c bs (ofL (patch (WW bs qs).length (qs.map toPc) ++ [64])) (by show (patch (WW bs qs).length (qs.map toPc) ++ [64]).length ≤ _; rw [List.length_append]; simp only [List.length_cons, List.length_nil]; omega) w _ _ hr hcap hs hs.below.size) ?_
            rintro e w_ ⟨v2, rfl, hs⟩
            refine ⟨_, rfl, ?_⟩
            rw [Eng.toL_ofL, l2] at *
            obtain ⟨A4, c4, rfl, hc4⟩ := hs.rowForm
            refine l_v (r_move rfl) ?_
            refine l_v (r_extract rfl rfl) ?_
            refine l_v (r_extract rfl rfl) ?_
            refine l_v (by first | exact (r_assign (v := .slice _ _ _) rfl) | exact (r_assign rfl)) ?_
            refine l_v (by first | exact (r_assign (v := iV _) rfl) | exact (r_assign rfl)) ?_
            refine l_nil (nrm_then ?_)
            refine c_rseq ?_
            refine l_v (by first | exact (r_move (v := .slice _ _ _) rfl) | exact (r_move rfl)) ?_
            refine l_v (by first | exact (r_move (v := sV _) rfl) | exact (r_move rfl)) ?_
            refine l_v (r_len_s Try.underlying9 rfl) ?_
            refine l_v (r_addi rfl rfl (by omega)) ?_
            refine l_v (by first | exact (r_move (v := .slice _ _ _) rfl) | exact (r_move rfl)) ?_
            refine l_call (r_call Try.func10 rfl rfl) ?_
            refine Calls.mono (patch_c ((WW bs qs).length + 1) (by omega) Aq cq qs hq1 hqs _ (hs.pull 2).rd) ?_
            rintro e w_ ⟨rfl, hb3⟩
            refine ⟨_, rfl, ?_⟩
            have hs := hs.below_ hb3
            refine l_call (r_call Try.func8 rfl rfl) ?_
            refine Calls.mono (apply_c A bs.length c bs (ofL (patch ((WW bs qs).length + 1) (qs.map toPc))) (by show (patch ((WW bs qs).length + 1) (qs.map toPc)).length ≤ _; omega) w _ _ hr hcap hs hs.below.size) ?_
            rintro e w_ ⟨v3, rfl, hs⟩
            refine ⟨_, rfl, ?_⟩
            rw [Eng.toL_ofL, l3] at *
            obtain ⟨A5, c5, rfl, hc5⟩ := hs.rowForm
            have hrb : Rd w_ 1 A3 (WW bs qs).length ((WW bs qs).map u8V) := (hs.pull 2).rd
            have f1 : decide (ofL (WW bs qs) = ofL (WW bs qs)) = true := decide_eq_true rfl
            refine l_v (r_move rfl) ?_
            refine l_v (r_extract rfl rfl) ?_
            refine l_v (r_extract rfl rfl) ?_
            refine l_v (by first | exact (r_assign (v := .slice _ _ _) rfl) | exact (r_assign rfl)) ?_
            refine l_v (by first | exact (r_assign (v := iV _) rfl) | exact (r_assign rfl)) ?_
            refine l_nil (nrm_then ?_)
            refine c_rseq ?_
            refine l_v (by first | exact (r_move (v := iV _) rfl) | exact (r_move rfl)) ?_
            refine l_v (r_eqli rfl rfl) ?_
            refine l_v (by first | exact (r_move (v := bV _) rfl) | exact (r_move rfl)) ?_
            refine l_vg (by first | exact (r_move (v := .slice _ _ _) rfl) | exact (r_move rfl)) rfl (rfl) ?_
            refine l_vg (r_cv_bs (l := WW bs qs) Try.underlying22 Try.underlying5 Try.underlying9 rfl hrb) rfl (rfl) ?_
            refine l_vg (by first | exact (r_move (v := sV _) rfl) | exact (r_move rfl)) rfl (rfl) ?_
            refine l_vg (r_eqls rfl rfl) rfl (rfl) ?_
            refine l_v (r_pick_t rfl rfl rfl) ?_
            refine l_v (by first | exact (r_move (v := bV _) rfl) | exact (r_move rfl)) ?_
            refine l_vg (by first | exact (r_move (v := iV _) rfl) | exact (r_move rfl)) rfl (f1) ?_
            refine l_vg (r_eqli rfl rfl) rfl (f1) ?_
            refine l_v (r_pick_t rfl f1 rfl) ?_
            refine l_v (by first | exact (r_move (v := bV _) rfl) | exact (r_move rfl)) ?_
            refine l_vg (by first | exact (r_move (v := .slice _ _ _) rfl) | exact (r_move rfl)) rfl (rfl) ?_
            refine l_vg (r_len_l Try.underlying22 rfl) rfl (rfl) ?_
            refine l_vg (r_eqli rfl rfl) rfl (rfl) ?_
            refine l_v (r_pick_t rfl rfl rfl) ?_
            refine l_v (by first | exact (r_move (v := bV _) rfl) | exact (r_move rfl)) ?_
            refine l_vg (by first | exact (r_move (v := iV _) rfl) | exact (r_move rfl)) rfl (rfl) ?_
            by_cases h46 : (WW bs qs).length = 4096
            · rw [if_pos h46] at *
              have f152 : decide (((ofL (WW bs qs)).size : Int) = 4096) = true := decide_eq_true (by omega)
              refine l_vg (r_eqli rfl rfl) rfl (rfl) ?_
              refine l_vg (by first | exact (r_move (v := bV _) rfl) | exact (r_move rfl)) rfl (rfl) ?_
              refine l_vg (by first | exact (r_move (v := sV _) rfl) | exact (r_move rfl)) rfl (rfl) ?_
              refine l_vg (r_len_s Try.underlying9 rfl) rfl (rfl) ?_
              refine l_vg (r_eqli rfl rfl) rfl (rfl) ?_
              refine l_vg (by first | exact (r_move (v := bV _) rfl) | exact (r_move rfl)) rfl (rfl) ?_
              refine l_vg (by first | exact (r_move (v := iV _) rfl) | exact (r_move rfl)) rfl (f152) ?_
              refine l_vg (r_eqli rfl rfl) rfl (f152) ?_
              refine l_vg (r_pick_t rfl f152 rfl) rfl (rfl) ?_
              refine l_vg (r_pick_f rfl rfl rfl) rfl (rfl) ?_
              refine l_v (r_pick_t rfl rfl rfl) ?_
              refine l_v (by first | exact (r_move (v := bV _) rfl) | exact (r_move rfl)) ?_
              refine l_vg (by first | exact (r_move (v := .slice _ _ _) rfl) | exact (r_move rfl)) rfl (rfl) ?_
              refine l_vg (r_len_l Try.underlying22 rfl) rfl (rfl) ?_
              refine l_vg (r_eqli rfl rfl) rfl (rfl) ?_
              refine l_v (r_pick_t rfl rfl rfl) ?_
              refine l_v (by first | exact (r_assign (v := bV _) rfl) | exact (r_assign rfl)) ?_
              refine l_nil (nrm_then ?_)
              refine c_ret ?_
              show Fin _ _ _ _ _
              refine fin1 rfl ?_
              exact ⟨rfl, hs.below⟩
            · rw [if_neg h46] at *
              refine l_vg (r_eqli rfl rfl) rfl (rfl) ?_
              refine l_vg (by first | exact (r_move (v := bV _) rfl) | exact (r_move rfl)) rfl (rfl) ?_
              refine l_no rfl (rfl) ?_
              refine l_no rfl (rfl) ?_
              refine l_no rfl (rfl) ?_
              refine l_no rfl (rfl) ?_
              refine l_skip (.inr rfl) ?_
              refine l_skip (.inr rfl) ?_
              refine l_no rfl (rfl) ?_
              refine l_vg (r_pick_t rfl rfl rfl) rfl (rfl) ?_
              refine l_v (r_pick_t rfl rfl rfl) ?_
              refine l_v (by first | exact (r_move (v := bV _) rfl) | exact (r_move rfl)) ?_
              refine l_vg (by first | exact (r_move (v := .slice _ _ _) rfl) | exact (r_move rfl)) rfl (rfl) ?_
              refine l_vg (r_len_l Try.underlying22 rfl) rfl (rfl) ?_
              refine l_vg (r_eqli rfl rfl) rfl (rfl) ?_
              refine l_v (r_pick_t rfl rfl rfl) ?_
              refine l_v (by first | exact (r_assign (v := bV _) rfl) | exact (r_assign rfl)) ?_
              refine l_nil (nrm_then ?_)
              refine c_ret ?_
              show Fin _ _ _ _ _
              refine fin1 rfl ?_
              exact ⟨rfl, hs.below⟩
end Go.Proofs.Ytmeikcifobfolaa.Del
