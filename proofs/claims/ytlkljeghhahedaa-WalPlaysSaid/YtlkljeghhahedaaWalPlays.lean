/- The walk of the law WalPlays. -/
import Derived.Test.YtlkljeghhahedaaWalBack
import Derived.Test.YtlkljeghhahedaaRowArr
import Derived.Test.YtlkljeghhahedaaStructs
import Derived.SizedLaws
namespace Go.Proofs.Ytlkljeghhahedaa.Wal
open Go Go.RowKit Go.ChangeShapes Go.WideShapes Go.Proofs.Ytlkljeghhahedaa.Eng Go.Proofs.Ytlkljeghhahedaa.Six Go.Proofs.Ytlkljeghhahedaa.CrcFn Go.Proofs.Ytlkljeghhahedaa.Dsk
set_option linter.unusedVariables false
set_option maxRecDepth 100000
structure PlOp where
  kind : Int
  n : Int
  text : List UInt8
abbrev plC (o : PlOp) : List Value := [iV o.kind, iV o.n, sV (ofL o.text)]
def plok (o : PlOp) : Prop := o.n ≤ 9223372036854775807
section
variable {H : Type} {enc : TypeId × Value → H} {W : World} {base : Nat} {spare : Nat → Bool} {held : Bool}
theorem plop_open {fuel : Nat} {cs : List Value} {x : DataW H × List MemPlace} (h : DataW.trod enc Try.prog W base spare held fuel 62 cs = some x) : ∃ o : PlOp, cs = plC o ∧ plok o := by
  obtain ⟨xs, n, rfl, rfl, hl, hlen, hf⟩ := DataW.trod_struct Try.underlying62 h
  have c4 : Try.prog.cellsOf 62 = 3 := by kernel_rfl
  have ci : Try.prog.cellsOf 3 = 1 := by kernel_rfl
  have cst : Try.prog.cellsOf 9 = 1 := by kernel_rfl
  rw [c4] at hl
  match xs, hlen with
  | [y0, y1, y2], _ =>
    have h0 : DataW.trod enc Try.prog W base spare held n 3 ((cs.drop 0).take (Try.prog.cellsOf 3)) = some y0 := hf 0 _ rfl
    have h1 : DataW.trod enc Try.prog W base spare held n 3 ((cs.drop 1).take (Try.prog.cellsOf 3)) = some y1 := hf 1 _ rfl
    have h2 : DataW.trod enc Try.prog W base spare held n 9 ((cs.drop 2).take (Try.prog.cellsOf 9)) = some y2 := hf 2 _ rfl
    rw [ci] at h0 h1; rw [cst] at h2
    obtain ⟨a0, e0, _, _⟩ := DataW.trod_int Try.underlying3 h0
    obtain ⟨a1, e1, _, w1⟩ := DataW.trod_int Try.underlying3 h1
    obtain ⟨s, e2, _, hs⟩ := DataW.trod_string Try.underlying9 h2
    match cs, hl with
    | [z0, z1, z2], _ =>
      simp at e0 e1 e2
      subst e0; subst e1; subst e2
      exact ⟨⟨a0, a1, toL s⟩, rfl, (bounds_i64 w1).2⟩
theorem plops_open {a : Option Addr} {len cap : Nat} {d : DataW H} {ps : List MemPlace} (h : DataW.Trod enc Try.prog W base spare held 60 (.slice a len cap) d ps) : ∃ l : List PlOp, len = l.length ∧ Rd W 3 a l.length (l.flatMap plC) ∧ l.length ≤ cap ∧ ∀ r ∈ l, plok r :=
  rows_open (gc := plC) plok Try.underlying60 (by kernel_rfl) (fun r hr => rfl) (fun fuel cs x hx => plop_open hx) h
theorem rows_reach {P : Program} {ts : List TypeId} {ds : List (DataW H)} (hsz : (DataW.weightsEach P ts ds).all (· ≤ reachBytes) = true) {j : Nat} {t e : TypeId} {a : Option Addr} {len cap by_ : Nat} {d : DataW H} {ps : List MemPlace}
    (ht : ts[j]? = some t) (hd : ds[j]? = some d) (hu : P.underlying t = some (.slice e)) (hb : P.bytesOf e = by_) (h : DataW.Trod enc P W base spare held t (.slice a len cap) d ps) : len * by_ ≤ reachBytes := by
  obtain ⟨fuel, hf⟩ := h
  rcases DataW.trod_slice hu hf with ⟨hcs, _⟩ | ⟨x, l, c, elems, rest, n, _, hcs, hx, _, hl, hm, hel, _⟩
  · simp [Value.cells] at hcs
    rw [hcs.2.1]; simp
  · simp [Value.cells] at hcs
    have hd2 : d = .slice (elems.map (·.1)) (rest.map (·.1)) := (Prod.mk.inj hx).1
    rw [hd2] at hd
    have h1 := sized_slice hsz ht hd hu
    rw [hb, List.length_map] at h1
    have h2 : len = elems.length := by omega
    exact Nat.le_trans (Nat.mul_le_mul_right _ (by omega)) h1
end
set_option maxHeartbeats 16000000 in
theorem walPlays_walk {w : World} (A : Option Addr) (c : Nat) (os : List PlOp) (hr : Rd w 3 A os.length (os.flatMap plC)) (hcap : os.length ≤ c) (hok : ∀ o ∈ os, plok o) (hrc : os.length * 32 ≤ reachBytes) :
    Calls Try.prog 8 #[.slice A os.length c] w fun e w' => e = .returned (bV true) ∧ Below w.heap.size w w' := by
  have hn := hr.2.1
  have hrb : reachBytes = 140737488351232 := rfl
  refine enter (P := Try.prog) Try.func8 rfl rfl ?_
  have hs := Sep.init w
  refine c_rseq ?_
  refine l_v (by first | exact (r_assign (v := bV _) rfl) | exact (r_assign rfl)) ?_
  refine l_nil (nrm_then ?_)
  refine c_rseq ?_
  refine l_v (by first | exact (r_assign (v := .slice _ _ _) rfl) | exact (r_assign rfl)) ?_
  refine l_nil (nrm_then ?_)
  refine c_seq ?_
  refine c_rseq ?_
  refine l_v (by first | exact (r_assign (v := iV _) rfl) | exact (r_assign rfl)) ?_
  refine l_nil (nrm_then ?_)
  refine c_block ?_
  have hs := hs.rowNil 9 1
  obtain ⟨xs, hxs⟩ : ∃ xs, xs = os.map PlOp.text := ⟨_, rfl⟩
  have hxl : xs.length = os.length := by rw [hxs, List.length_map]
  refine c_loopn [0, 2] (fun m f' w' => ∃ (i : Nat) (v : Value), i + m = os.length ∧ f' 4 = iV (i : Int) ∧ f' 3 = v ∧ Eng.Sep w w' (rowS v (xs.take i) :: [])) ?_ ?_
  · exact ⟨os.length, 0, .slice none 0 0, by omega, rfl, rfl, hs⟩
  · rintro m g w_ ⟨i, v, hi, h4, h3, hs⟩
    refine OkC.env ?_ (fixH (L := [(4, _), (3, _)]) ⟨h4, h3, trivial⟩)
    clear h4 h3
    refine c_seq ?_
    refine c_rseq ?_
    refine l_v (by first | exact (r_move (v := iV _) rfl) | exact (r_move rfl)) ?_
    refine l_v (by first | exact (r_move (v := .slice _ _ _) rfl) | exact (r_move rfl)) ?_
    refine l_v (r_len_l Try.underlying60 rfl) ?_
    refine l_v (r_lssi rfl rfl) ?_
    refine l_nil (nrm_then ?_)
    refine c_cond rfl (fun h1 => ?_) (fun h1 => ?_)
    · have hil : i < os.length := by have := of_decide_eq_true h1; omega
      obtain ⟨o, hoi⟩ : ∃ o, os[i]? = some o := ⟨os[i], List.getElem?_eq_getElem hil⟩
      have hxi : xs[i]? = some o.text := by rw [hxs, List.getElem?_map, hoi]; rfl
      have htk : xs.take (i + 1) = xs.take i ++ [o.text] := by rw [List.take_add_one, hxi]; rfl
      have htl : (xs.take i).length = i := by rw [List.length_take]; omega
      obtain ⟨ad, rfl, _⟩ := hr.ad (by omega)
      have hX := rd_item (hr.below hs.below) (fun y _ => rfl) (by decide) hoi
      replace h1 := of_decide_eq_true h1
      refine c_skip (nrm_then ?_)
      refine c_seq ?_
      refine c_block ?_
      refine c_region ?_
      refine l_v (by first | exact (r_move (v := .slice _ _ _) rfl) | exact (r_move rfl)) ?_
      refine l_v (by first | exact (r_move (v := .slice _ _ _) rfl) | exact (r_move rfl)) ?_
      refine l_v (by first | exact (r_move (v := iV _) rfl) | exact (r_move rfl)) ?_
      refine l_v (r_indexAddr_l (k := i) Try.underlying60 I62 rfl rfl hil) ?_
      refine l_v (r_fieldAddrP (off := 2) (T := 9) (by kernel_rfl) rfl) ?_
      refine l_v (r_load Try.underlying9 rfl (hX 2 _ rfl)) ?_
      refine l_lit1 [sV _] hs Try.underlying22 I9 rfl (by simp [Value.oneCell']) rfl (by decide) (by decide) ?_
      intro b23 w23 hs hB23 hlt23
      refine l_append_lit Try.underlying22 I9 rfl (by decide) rfl rfl hs rfl (by simp [Value.oneCell']) (by omega) (by omega) ?_
      intro v24 w24 hs
      have hs := rowS_app hs
      rw [← htk] at hs
      refine l_v (by first | exact (r_assign (v := .slice _ _ _) rfl) | exact (r_assign rfl)) ?_
      refine l_nil (nrm_block (nrm_then ?_))
      refine c_region ?_
      refine l_v (by first | exact (r_move (v := iV _) rfl) | exact (r_move rfl)) ?_
      refine l_v (r_addi rfl rfl (by omega)) ?_
      refine l_v (by first | exact (r_assign (v := iV _) rfl) | exact (r_assign rfl)) ?_
      refine l_nil (nrm_then ?_)
      refine And.intro (by refine ⟨?_, ?_, trivial⟩ <;> ((conv => lhs; whnf); (try conv => rhs; whnf))) ?_
      exact ⟨os.length - (i + 1), by omega, i + 1, _, by omega, rfl, rfl, hs⟩
    · obtain rfl : i = os.length := by have := of_decide_eq_false h1; omega
      rw [← hxl, List.take_length] at hs
      obtain ⟨A3, c3, rfl, hc3⟩ := hs.rowForm
      replace h1 := of_decide_eq_false h1
      refine c_exit (ex_then (ex_then (ex_hit (nrm_then ?_))))
      refine c_seq ?_
      refine c_rseq ?_
      refine l_call (r_call Try.func9 rfl rfl) ?_
      refine Calls.mono (awake_c _) ?_
      rintro e w_ ⟨rfl, hb⟩
      refine ⟨_, rfl, ?_⟩
      have hs := hs.below_ hb
      refine l_v (r_not rfl) ?_
      refine l_v (by first | exact (r_move (v := bV _) rfl) | exact (r_move rfl)) ?_
      refine l_vg (by first | exact (r_move (v := .slice _ _ _) rfl) | exact (r_move rfl)) rfl (rfl) ?_
      refine l_callg (r_call Try.func10 rfl rfl) rfl (rfl) ?_
      refine Calls.mono (few_c A3 c3 xs _ (rowS_rd rfl hs)) ?_
      rintro e w_ ⟨bf, rfl, hfew, hb2⟩
      refine ⟨_, rfl, ?_⟩
      have hs := hs.below_ hb2
      refine l_vg (r_not rfl) rfl (rfl) ?_
      refine l_v (r_pick_f rfl rfl rfl) ?_
      refine l_nil (nrm_then ?_)
      rcases Bool.eq_false_or_eq_true bf with hbf | hbf
      · obtain ⟨hl2, hx3, hz3⟩ := hfew hbf
        have hEE := fun (i : Nat) (h : i ≤ xs.length) => EE_bound (bnd_big hx3) h
        have hEn := (hEE xs.length (Nat.le_refl _)).2
        have hup := fun (i : Nat) (h : i ≤ xs.length) => EE_up (xs := xs) h
        refine c_false rfl ((by rw [hbf]; rfl)) ?_
        refine c_skip (nrm_then ?_)
        refine c_rseq ?_
        refine l_call (r_call Try.func17 rfl rfl) ?_
        refine Calls.mono (new_ok 20000 0 (by decide) w _ _ hs) ?_
        rintro e w_ ⟨b, rfl, hs⟩
        refine ⟨_, rfl, ?_⟩
        refine l_v (r_move rfl) ?_
        refine l_v (r_extract rfl rfl) ?_
        refine l_v (r_extract rfl rfl) ?_
        refine l_v (r_assign (v := .pointer _) rfl) ?_
        refine l_v (by first | exact (r_assign (v := iV _) rfl) | exact (r_assign rfl)) ?_
        refine l_nil (nrm_then ?_)
        refine c_rseq ?_
        refine l_v (r_move (v := .pointer _) rfl) ?_
        have hm := make_new (hot := 20000) (cold := 0) (by decide)
        have hg0 := good_new (hot := 20000) (cold := 0) (by decide) (by decide)
        refine l_call (r_call Try.func21 rfl rfl) ?_
        refine Calls.mono (begin_c b (newS 20000 0) hg0 (show (0 : Int) ≤ 4611686018427387904 by decide) 0 1 w _ _ hs) ?_
        rintro e w_ ⟨q, rfl, hq, hs⟩
        refine ⟨_, rfl, ?_⟩
        rw [hm] at hs hq ⊢
        obtain ⟨bl, rfl⟩ : ∃ bl, q = some bl := by
          cases q with
          | none => exact absurd (hq.1 rfl) (fun h => h rfl)
          | some bl => exact ⟨bl, rfl⟩
        have hp0 := pl_start
        generalize oneS 20000 0 ⟨0, [], -1⟩ 1 1 = S0 at *
        have hs : Eng.Sep w w_ (logH bl b 1 [] 0 0 :: diskH b S0 :: rowS (.slice A3 xs.length c3) xs :: []) := hs
        refine l_v (r_move rfl) ?_
        refine l_v (r_extract rfl rfl) ?_
        refine l_v (r_extract rfl rfl) ?_
        refine l_v (r_assign (v := .pointer _) rfl) ?_
        refine l_v (by first | exact (r_assign (v := iV _) rfl) | exact (r_assign rfl)) ?_
        refine l_nil (nrm_then ?_)
        refine c_rseq ?_
        refine l_v (r_move (v := .pointer _) rfl) ?_
        refine l_v (r_move (v := .pointer _) rfl) ?_
        refine l_v (r_build (l := [(0, dp b), (1, dp bl), (2, iV 1)]) rfl (built_logs b bl 1)) ?_
        refine l_box hs rfl ?_
        intro b45 w45 hs hB45 hlt45
        refine l_v (r_assign (v := .pointer _) rfl) ?_
        refine l_nil (nrm_then ?_)
        refine c_seq ?_
        refine c_rseq ?_
        refine l_v (by first | exact (r_move (v := iV _) rfl) | exact (r_move rfl)) ?_
        refine l_v (r_neqi rfl rfl) ?_
        refine l_nil (nrm_then ?_)
        refine c_false rfl (rfl) ?_
        refine c_skip (nrm_then ?_)
        refine c_seq ?_
        refine c_rseq ?_
        refine l_v (by first | exact (r_assign (v := iV _) rfl) | exact (r_assign rfl)) ?_
        refine l_nil (nrm_then ?_)
        refine c_block ?_
        have hs : Eng.Sep w w45 (logsX b45 b bl S0 1 [] [] [] 0 :: []) := by
          have h := ((hs.pull 3).drop.rowNil 9 1).rowNil 9 1
          have h := wait_apart (vW := .slice none 0 0) (vM := .slice none 0 0) (ts := []) (ms := []) h
          have h := h.rowNil 9 1
          exact x_shut (vW := .slice none 0 0) (vM := .slice none 0 0) (vR := .slice none 0 0) ((h.pull 1).pull 2)
        refine c_loopn [0, 9] (fun m f' w' => ∃ (i : Nat) (bl : Nat) (S : DiskS) (file : Int) (ts ws ms : List (List UInt8)) (su : Nat), i + m = os.length ∧ f' 10 = iV (i : Int) ∧ Pl i (EE xs i) S file ts ws ms su ∧ Eng.Sep w w' (logsX b45 b bl S file ts ws ms su :: [])) ?_ ?_
        · exact ⟨os.length, 0, bl, S0, 1, [], [], [], 0, by omega, rfl, hp0, hs⟩
        · rintro m g w_ ⟨i, bl, S, file, ts, ws, ms, su, hi, h10, hp, hs⟩
          refine OkC.env ?_ (fixH (L := [(10, _)]) ⟨h10, trivial⟩)
          clear h10
          refine c_seq ?_
          refine c_rseq ?_
          refine l_v (by first | exact (r_move (v := iV _) rfl) | exact (r_move rfl)) ?_
          refine l_v (by first | exact (r_move (v := .slice _ _ _) rfl) | exact (r_move rfl)) ?_
          refine l_v (r_len_l Try.underlying60 rfl) ?_
          refine l_v (r_lssi rfl rfl) ?_
          refine l_nil (nrm_then ?_)
          refine c_cond rfl (fun h1 => ?_) (fun h1 => ?_)
          · have hil : i < os.length := by have := of_decide_eq_true h1; omega
            obtain ⟨o, hoi⟩ : ∃ o, os[i]? = some o := ⟨os[i], List.getElem?_eq_getElem hil⟩
            have hxi : xs[i]? = some o.text := by rw [hxs, List.getElem?_map, hoi]; rfl
            have hgi : xs[i] = o.text := (List.getElem?_eq_some_iff.1 hxi).2
            have hEn1 := EE_next (xs := xs) (i := i) (by omega)
            rw [hgi] at hEn1
            have hu1 := hup (i + 1) (by omega)
            obtain ⟨ad, rfl, _⟩ := hr.ad (by omega)
            have hX := rd_item (hr.below hs.below) (fun y _ => rfl) (by decide) hoi
            replace h1 := of_decide_eq_true h1
            refine c_skip (nrm_then ?_)
            refine c_seq ?_
            refine c_block ?_
            refine c_rseq ?_
            refine l_v (r_move (v := .pointer _) rfl) ?_
            refine l_v (by first | exact (r_move (v := .slice _ _ _) rfl) | exact (r_move rfl)) ?_
            refine l_v (by first | exact (r_move (v := iV _) rfl) | exact (r_move rfl)) ?_
            refine l_v (r_indexAddr_l (k := i) Try.underlying60 I62 rfl rfl hil) ?_
            refine l_v (r_load_aggP Try.underlying62 I62 rfl hX rfl) ?_
            refine l_call (r_call Try.func31 rfl rfl) ?_
            refine Calls.mono (step_c xback_c o.kind o.n o.text (hx3 _ (List.mem_of_getElem? hxi)) (hok o (List.mem_of_getElem? hoi)) i (EE xs i) S file ts ws ms su b45 b bl hp (by omega) (by omega) w _ [] hs) ?_
            rintro e w_ ⟨rfl, bl', S', file', ts', ws', ms', su', hp', hs⟩
            refine ⟨_, rfl, ?_⟩
            rw [← hEn1] at hp'
            refine l_v (r_not rfl) ?_
            refine l_nil (nrm_then ?_)
            refine c_false rfl (rfl) ?_
            refine c_skip (nrm_block (nrm_then ?_))
            refine c_region ?_
            refine l_v (by first | exact (r_move (v := iV _) rfl) | exact (r_move rfl)) ?_
            refine l_v (r_addi rfl rfl (by omega)) ?_
            refine l_v (by first | exact (r_assign (v := iV _) rfl) | exact (r_assign rfl)) ?_
            refine l_nil (nrm_then ?_)
            refine And.intro (by refine ⟨?_, ?_, trivial⟩ <;> ((conv => lhs; whnf); (try conv => rhs; whnf))) ?_
            exact ⟨os.length - (i + 1), by omega, i + 1, bl', S', file', ts', ws', ms', su', by omega, rfl, hp', hs⟩
          · obtain rfl : i = os.length := by have := of_decide_eq_false h1; omega
            have hu1 := hup os.length (by omega)
            replace h1 := of_decide_eq_false h1
            refine c_exit (ex_then (ex_then (ex_hit (nrm_then ?_))))
            refine c_rseq ?_
            refine l_v (r_move (v := .pointer _) rfl) ?_
            refine l_call (r_call Try.func32 rfl rfl) ?_
            refine Calls.mono (xback_c 0 os.length (EE xs os.length) S file ts ws ms su b45 b bl hp (by omega) (by omega) w _ [] hs) ?_
            rintro e w_ ⟨rfl, bl', S', hp', hs⟩
            refine ⟨_, rfl, ?_⟩
            refine l_v (by first | exact (r_assign (v := bV _) rfl) | exact (r_assign rfl)) ?_
            refine l_nil (nrm_then ?_)
            refine c_ret ?_
            show Fin _ _ _ _ _
            refine fin1 rfl ?_
            exact ⟨rfl, hs.below⟩
      · skip
        refine c_true rfl ((by rw [hbf]; rfl)) ?_
        refine c_rseq ?_
        refine l_call (r_call Try.func9 rfl rfl) ?_
        refine Calls.mono (awake_c _) ?_
        rintro e w_ ⟨rfl, hb⟩
        refine ⟨_, rfl, ?_⟩
        have hs := hs.below_ hb
        refine l_v (by first | exact (r_assign (v := bV _) rfl) | exact (r_assign rfl)) ?_
        refine l_nil (nrm_then ?_)
        refine c_ret (ret_then ?_)
        show Fin _ _ _ _ _
        refine fin1 rfl ?_
        exact ⟨rfl, hs.below⟩
end Go.Proofs.Ytlkljeghhahedaa.Wal
