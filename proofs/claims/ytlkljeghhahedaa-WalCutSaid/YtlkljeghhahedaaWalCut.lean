/- The walk of the law WalCut. -/
import Derived.Test.YtlkljeghhahedaaWalFew
namespace Go.Proofs.Ytlkljeghhahedaa.Wal
open Go Go.RowKit Go.Proofs.Ytlkljeghhahedaa.Eng Go.Proofs.Ytlkljeghhahedaa.Six Go.Proofs.Ytlkljeghhahedaa.CrcFn Go.Proofs.Ytlkljeghhahedaa.Crc
set_option linter.unusedVariables false
set_option maxRecDepth 100000
abbrev rowE (xs : List (List UInt8)) (v : Value) (i : Nat) : HP := RowC 3 1 v i ((List.range i).map fun j => iV ((EE xs (j + 1) : Nat) : Int))
theorem rowE_app {w0 w : World} {xs : List (List UInt8)} {v : Value} {i : Nat} {L : List HP} (hs : Eng.Sep w0 w (RowC 3 1 v (i + 1) (((List.range i).map fun j => iV ((EE xs (j + 1) : Nat) : Int)) ++ [iV ((EE xs (i + 1) : Nat) : Int)]) :: L)) : Eng.Sep w0 w (rowE xs v (i + 1) :: L) := by
  unfold rowE; rw [List.range_succ, List.map_append]; exact hs
theorem ends_get {xs : List (List UInt8)} {i n : Nat} (h : i < n) : ((List.range n).map fun j => iV ((EE xs (j + 1) : Nat) : Int))[i]? = some (iV ((EE xs (i + 1) : Nat) : Int)) := by
  rw [List.getElem?_map, List.getElem?_range h]; rfl
theorem buf_set (l : List UInt8) (r o : Nat) (x : UInt8) (h : o < l.length) : (bufCells l r).set o (u8V x) = bufCells (l.set o x) r := by
  rw [bufCells, List.set_append_left _ _ (by simpa using h), bufCells, List.map_set]
set_option maxHeartbeats 8000000 in
theorem cut_main (A : Option Addr) (c : Nat) (xs : List (List UInt8)) (a : Int) (x8 : UInt8) (w : World) (hr : Rd w 1 A xs.length (xV xs)) (hcap : xs.length ≤ c) :
    Calls Try.prog 4 #[.slice A xs.length c, iV a, u8V x8] w fun e w' => e = .returned (bV true) ∧ Below w.heap.size w w' := by
  have hn := hr.2.1
  refine enter (P := Try.prog) Try.func4 rfl rfl ?_
  have hs := Sep.init w
  refine c_rseq ?_
  refine l_v (by first | exact (r_assign (v := bV _) rfl) | exact (r_assign rfl)) ?_
  refine l_nil (nrm_then ?_)
  refine c_seq ?_
  refine c_rseq ?_
  refine l_call (r_call Try.func9 rfl rfl) ?_
  refine Calls.mono (awake_c _) ?_
  rintro e w_ ⟨rfl, hb⟩
  refine ⟨_, rfl, ?_⟩
  have hs := hs.below_ hb
  refine l_v (r_not rfl) ?_
  refine l_v (by first | exact (r_move (v := bV _) rfl) | exact (r_move rfl)) ?_
  refine l_vg (by first | exact (r_move (v := .slice _ _ _) rfl) | exact (r_move rfl)) rfl (rfl) ?_
  refine l_callg (r_call Try.func10 rfl rfl) rfl (rfl) ?_
  refine Calls.mono (few_c A c xs _ (hr.below hs.below)) ?_
  rintro e w_ ⟨bf, rfl, hfew, hb2⟩
  refine ⟨_, rfl, ?_⟩
  have hs := hs.below_ hb2
  refine l_vg (r_not rfl) rfl (rfl) ?_
  refine l_v (r_pick_f rfl rfl rfl) ?_
  refine l_nil (nrm_then ?_)
  rcases Bool.eq_false_or_eq_true bf with hbf | hbf
  · have f : (!bf) = false := by rw [hbf]; rfl
    obtain ⟨hl2, hx3, hz3⟩ := hfew hbf
    have hx : ∀ x ∈ xs, x.length ≤ 1048576 := fun x hm => Nat.le_trans (hx3 x hm) (by decide)
    have hEn : EE xs xs.length ≤ 33000 := by have := (EE_bound hx (Nat.le_refl _)).2; omega
    refine c_false rfl (f) ?_
    refine c_skip (nrm_then ?_)
    refine c_rseq ?_
    refine l_v (by first | exact (r_assign (v := sV _) rfl) | exact (r_assign rfl)) ?_
    refine l_nil (nrm_then ?_)
    refine c_rseq ?_
    refine l_v (by first | exact (r_assign (v := .slice _ _ _) rfl) | exact (r_assign rfl)) ?_
    refine l_nil (nrm_then ?_)
    refine c_seq ?_
    refine c_rseq ?_
    refine l_v (by first | exact (r_assign (v := iV _) rfl) | exact (r_assign rfl)) ?_
    refine l_nil (nrm_then ?_)
    refine c_block ?_
    have hs := hs.rowNil 3 1
    refine c_loopn [0, 1, 2, 6] (fun m f' w' => ∃ i v, i + m = xs.length ∧ f' 9 = iV (i : Int) ∧ f' 7 = sV (ofL (FF xs i)) ∧ f' 8 = v ∧ Eng.Sep w w' (rowE xs v i :: [])) ?_ ?_
    · exact ⟨xs.length, 0, .slice none 0 0, by omega, rfl, rfl, rfl, hs⟩
    · rintro m g w_ ⟨i, v, hi, h9, h7, h8, hs⟩
      refine OkC.env ?_ (fixH (L := [(9, _), (7, _), (8, _)]) ⟨h9, h7, h8, trivial⟩)
      clear h9 h7 h8
      refine c_seq ?_
      refine c_rseq ?_
      refine l_v (by first | exact (r_move (v := iV _) rfl) | exact (r_move rfl)) ?_
      refine l_v (by first | exact (r_move (v := .slice _ _ _) rfl) | exact (r_move rfl)) ?_
      refine l_v (r_len_l Try.underlying22 rfl) ?_
      refine l_v (r_lssi rfl rfl) ?_
      refine l_nil (nrm_then ?_)
      refine c_cond rfl (fun h1 => ?_) (fun h1 => ?_)
      · have hil : i < xs.length := by have := of_decide_eq_true h1; omega
        have hu := xV_get hil
        obtain ⟨ad, rfl, _⟩ := hr.ad (by omega)
        have hFn := FF_next hil
        have hEi := EE_next hil
        have hEm := EE_mono (xs := xs) (i := i + 1) (n := xs.length) (by omega)
        have hfs := frame_size xs[i] (hx _ (List.getElem_mem hil))
        have hx1 := hx3 _ (List.getElem_mem hil)
        generalize xs[i] = x at *
        replace h1 := of_decide_eq_true h1
        refine c_skip (nrm_then ?_)
        refine c_seq ?_
        refine c_block ?_
        refine c_rseq ?_
        refine l_v (by first | exact (r_move (v := sV _) rfl) | exact (r_move rfl)) ?_
        refine l_v (by first | exact (r_move (v := .slice _ _ _) rfl) | exact (r_move rfl)) ?_
        refine l_v (by first | exact (r_move (v := iV _) rfl) | exact (r_move rfl)) ?_
        refine l_v (by first | exact (r_indexAddr_o1 Try.underlying22 I9 rfl rfl (by omega)) | exact (r_indexAddr_l1 Try.underlying22 I9 rfl rfl (by omega)) | exact (r_indexAddr_l Try.underlying22 I9 rfl rfl (by omega))) ?_
        refine l_v (r_load Try.underlying9 rfl (rd_get hr hs.below hu)) ?_
        refine l_call (r_call Try.func11 rfl rfl) ?_
        refine Calls.mono (frame_c (ofL x) (by show x.length ≤ _; omega) _) ?_
        rintro e w_ ⟨rfl, hb3⟩
        refine ⟨_, rfl, ?_⟩
        have hs := hs.below_ hb3
        rw [Eng.toL_ofL]
        have hsz1 : (ofL (FF xs i)).size = EE xs i := rfl
        have hsz2 : (ofL (frame x)).size = (frame x).length := rfl
        refine l_v (r_adds rfl rfl (by omega)) ?_
        refine l_v (by first | exact (r_assign (v := sV _) rfl) | exact (r_assign rfl)) ?_
        refine l_nil (nrm_then ?_)
        refine c_region ?_
        refine l_v (by first | exact (r_move (v := .slice _ _ _) rfl) | exact (r_move rfl)) ?_
        refine l_v (by first | exact (r_move (v := sV _) rfl) | exact (r_move rfl)) ?_
        refine l_v (r_len_s Try.underlying9 rfl) ?_
        refine l_lit1 [iV _] hs Try.underlying31 I3 rfl (by simp [Value.oneCell']) rfl (by decide) (by decide) ?_
        intro b39 w39 hs hB39 hlt39
        have e35 : ofL (FF xs i) ++ ofL (frame x) = ofL (FF xs (i + 1)) := Eng.toL_inj (by rw [Eng.toL_append, hFn])
        rw [e35]
        refine l_append_lit Try.underlying31 I3 rfl (by decide) rfl rfl hs rfl (by simp [Value.oneCell']) (by omega) (by omega) ?_
        intro v40 w40 hs
        have e36 : iV ((EE xs (i + 1) : Nat) : Int) = iV (((ofL (FF xs i) ++ ofL (frame x)).size : Nat) : Int) := by rw [e35]; rfl
        have hs := rowE_app (xs := xs) (i := i) (by rw [e36]; exact hs)
        refine l_v (by first | exact (r_assign (v := .slice _ _ _) rfl) | exact (r_assign rfl)) ?_
        refine l_nil (nrm_block (nrm_then ?_))
        refine c_region ?_
        refine l_v (by first | exact (r_move (v := iV _) rfl) | exact (r_move rfl)) ?_
        refine l_v (r_addi rfl rfl (by omega)) ?_
        refine l_v (by first | exact (r_assign (v := iV _) rfl) | exact (r_assign rfl)) ?_
        refine l_nil (nrm_then ?_)
        refine And.intro (by refine ⟨?_, ?_, ?_, ?_, trivial⟩ <;> ((conv => lhs; whnf); (try conv => rhs; whnf))) ?_
        exact ⟨xs.length - (i + 1), by omega, i + 1, v40, by omega, rfl, rfl, rfl, hs⟩
      · obtain rfl : i = xs.length := by have := of_decide_eq_false h1; omega
        obtain ⟨A2, c2, rfl, hc2⟩ := hs.rowForm
        have hsz : (ofL (FF xs xs.length)).size = EE xs xs.length := rfl
        have hN : (BitVec.ofInt 64 (((ofL (FF xs xs.length)).size : Int) + 1)).toNat = EE xs xs.length + 1 := by rw [BitVec.toNat_ofInt, hsz]; omega
        obtain ⟨K, hK, hlt⟩ : ∃ K, (BitVec.ofInt 64 a % BitVec.ofInt 64 (((ofL (FF xs xs.length)).size : Int) + 1)).toNat = K ∧ K < EE xs xs.length + 1 :=
          ⟨_, rfl, by rw [BitVec.toNat_umod, hN]; exact Nat.mod_lt _ (by omega)⟩
        replace h1 := of_decide_eq_false h1
        refine c_exit (ex_then (ex_then (ex_hit (nrm_then ?_))))
        refine c_rseq ?_
        refine l_v (by first | exact (r_move (v := iV _) rfl) | exact (r_move rfl)) ?_
        refine l_v (r_cv_i64 Try.underlying3 Try.underlying32 rfl) ?_
        refine l_v (by first | exact (r_move (v := sV _) rfl) | exact (r_move rfl)) ?_
        refine l_v (r_len_s Try.underlying9 rfl) ?_
        refine l_v (r_addi rfl rfl (by omega)) ?_
        refine l_v (r_cv_i64 Try.underlying3 Try.underlying32 rfl) ?_
        refine l_v (r_rem64 rfl rfl (by rw [hN]; omega)) ?_
        refine l_v (r_cv_64n hK Try.underlying32 Try.underlying3 rfl (by omega)) ?_
        refine l_v (by first | exact (r_assign (v := iV _) rfl) | exact (r_assign rfl)) ?_
        refine l_nil (nrm_then ?_)
        refine c_rseq ?_
        refine l_v (by first | exact (r_assign (v := iV _) rfl) | exact (r_assign rfl)) ?_
        refine l_nil (nrm_then ?_)
        refine c_seq ?_
        refine c_block ?_
        refine c_loopn [0, 2, 6, 7, 8, 10] (fun m f' w' => ∃ i, i + m = xs.length ∧ f' 11 = iV (i : Int) ∧ Eng.Sep w w' (rowE xs (.slice A2 xs.length c2) xs.length :: []) ∧ EE xs i ≤ K) ?_ ?_
        · exact ⟨xs.length, 0, by omega, rfl, hs, by simp [EE, FF]⟩
        · rintro m g w_ ⟨i, hi, h11, hs, hE⟩
          refine OkC.env ?_ (fixH (L := [(11, _)]) ⟨h11, trivial⟩)
          clear h11
          refine c_seq ?_
          refine c_seq ?_
          refine c_mid [0, 2, 6, 7, 8, 10, 11] (fun f' w' => w' = w_ ∧ f' 60 = bV (decide (i < xs.length ∧ EE xs (i + 1) ≤ K))) ?_ ?_
          · by_cases hil : i < xs.length
            · have f53 : decide ((i : Int) < (xs.length : Int)) = true := decide_eq_true (by omega)
              obtain ⟨ad2, rfl, _⟩ := hs.rd.ad (by omega)
              refine c_region ?_
              refine l_v (by first | exact (r_move (v := iV _) rfl) | exact (r_move rfl)) ?_
              refine l_v (by first | exact (r_move (v := .slice _ _ _) rfl) | exact (r_move rfl)) ?_
              refine l_v (r_len_l Try.underlying31 rfl) ?_
              refine l_v (r_lssi rfl rfl) ?_
              refine l_v (by first | exact (r_move (v := bV _) rfl) | exact (r_move rfl)) ?_
              refine l_vg (by first | exact (r_move (v := .slice _ _ _) rfl) | exact (r_move rfl)) rfl (f53) ?_
              refine l_vg (by first | exact (r_move (v := iV _) rfl) | exact (r_move rfl)) rfl (f53) ?_
              refine l_vg (by first | exact (r_indexAddr_o1 Try.underlying31 I3 rfl rfl (by omega)) | exact (r_indexAddr_l1 Try.underlying31 I3 rfl rfl (by omega)) | exact (r_indexAddr_l Try.underlying31 I3 rfl rfl (by omega))) rfl (f53) ?_
              refine l_vg (r_load Try.underlying3 rfl (hs.rowAt (ends_get hil))) rfl (f53) ?_
              refine l_vg (by first | exact (r_move (v := iV _) rfl) | exact (r_move rfl)) rfl (f53) ?_
              refine l_vg (r_leqi rfl rfl) rfl (f53) ?_
              refine l_v (r_pick_t rfl f53 rfl) ?_
              refine l_nil (nrm_then ?_)
              refine And.intro (by refine ⟨?_, ?_, ?_, ?_, ?_, ?_, ?_, trivial⟩ <;> ((conv => lhs; whnf); (try conv => rhs; whnf))) ?_
              exact ⟨rfl, congrArg Value.bool (decide_eq_decide.2 ⟨fun h => ⟨hil, by omega⟩, fun h => by omega⟩)⟩
            · have f53 : decide ((i : Int) < (xs.length : Int)) = false := decide_eq_false (by omega)
              refine c_region ?_
              refine l_v (by first | exact (r_move (v := iV _) rfl) | exact (r_move rfl)) ?_
              refine l_v (by first | exact (r_move (v := .slice _ _ _) rfl) | exact (r_move rfl)) ?_
              refine l_v (r_len_l Try.underlying31 rfl) ?_
              refine l_v (r_lssi rfl rfl) ?_
              refine l_v (by first | exact (r_move (v := bV _) rfl) | exact (r_move rfl)) ?_
              refine l_no rfl (f53) ?_
              refine l_no rfl (f53) ?_
              refine l_no rfl (f53) ?_
              refine l_no rfl (f53) ?_
              refine l_no rfl (f53) ?_
              refine l_no rfl (f53) ?_
              refine l_v (r_pick_f rfl f53 rfl) ?_
              refine l_nil (nrm_then ?_)
              refine And.intro (by refine ⟨?_, ?_, ?_, ?_, ?_, ?_, ?_, trivial⟩ <;> ((conv => lhs; whnf); (try conv => rhs; whnf))) ?_
              exact ⟨rfl, congrArg Value.bool (decide_eq_false (fun h => hil h.1)).symm⟩
          · rintro g w_ ⟨rfl, h60⟩
            show OkC _ _ _ _ _ _
            refine OkC.env ?_ (fixH (L := [(60, _)]) ⟨h60, trivial⟩)
            clear h60
            refine c_cond rfl (fun hcc => ?_) (fun hcc => ?_)
            · replace hcc := of_decide_eq_true hcc
              refine c_skip (nrm_then ?_)
              refine c_block ?_
              refine c_region ?_
              refine l_v (by first | exact (r_move (v := iV _) rfl) | exact (r_move rfl)) ?_
              refine l_v (r_addi rfl rfl (by omega)) ?_
              refine l_v (by first | exact (r_assign (v := iV _) rfl) | exact (r_assign rfl)) ?_
              refine l_nil (nrm_block (nrm_then ?_))
              refine And.intro (by refine ⟨?_, ?_, ?_, ?_, ?_, ?_, trivial⟩ <;> ((conv => lhs; whnf); (try conv => rhs; whnf))) ?_
              exact ⟨xs.length - (i + 1), by omega, i + 1, by omega, rfl, hs, by omega⟩
            · have hlt2 : i < xs.length → K < EE xs (i + 1) := fun h => by have h2 := of_decide_eq_false hcc; omega
              have hi' : i ≤ xs.length := by omega
              have hKL : K ≤ EE xs xs.length := by omega
              have hiE := (EE_bound hx hi').1
              have htl : (xs.take i).length = i := by rw [List.length_take]; omega
              replace hcc := of_decide_eq_false hcc
              refine c_exit (ex_then (ex_then (ex_hit (nrm_then ?_))))
              refine c_rseq ?_
              refine l_v (by first | exact (r_move (v := sV _) rfl) | exact (r_move rfl)) ?_
              refine l_v (by first | exact (r_move (v := iV _) rfl) | exact (r_move rfl)) ?_
              refine l_v (r_slice_sh (K : Int) Try.underlying9 rfl rfl (by omega)) ?_
              have ex : (ofL (FF xs xs.length)).extract 0 ((K : Int)).toNat = ofL ((FF xs xs.length).take K) := by rw [Int.toNat_natCast, extract_take]
              rw [ex]
              have hkl : ((FF xs xs.length).take K).length = K := by rw [List.length_take]; exact Nat.min_eq_left hKL
              have hlaw : splitA ((ofL ((FF xs xs.length).take K)).size + 1) [] 0 (toL (ofL ((FF xs xs.length).take K))) = (xs.take i, EE xs i) := cut_law hx hi' hKL hE hlt2 (by show i ≤ ((FF xs xs.length).take K).length; rw [hkl]; omega)
              refine l_call (r_call Try.func12 rfl rfl) ?_
              refine Calls.mono (split_c (ofL ((FF xs xs.length).take K)) (by show ((FF xs xs.length).take K).length ≤ _; omega) w _ _ hs) ?_
              rintro e w_ ⟨v3, rfl, hs⟩
              refine ⟨_, rfl, ?_⟩
              rw [hlaw] at hs ⊢
              obtain ⟨A3, c3, rfl, hc3⟩ := hs.rowForm
              refine l_v (r_move rfl) ?_
              refine l_v (r_extract rfl rfl) ?_
              refine l_v (r_extract rfl rfl) ?_
              refine l_v (by first | exact (r_assign (v := .slice _ _ _) rfl) | exact (r_assign rfl)) ?_
              refine l_v (by first | exact (r_assign (v := iV _) rfl) | exact (r_assign rfl)) ?_
              refine l_nil (nrm_then ?_)
              refine c_seq ?_
              refine c_seq ?_
              refine c_mid [0, 2, 6, 7, 8, 10, 11] (fun f' w' => f' 96 = bV false ∧ Eng.Sep w w' (rowS (.slice A3 (xs.take i).length c3) (xs.take i) :: rowE xs (.slice A2 xs.length c2) xs.length :: [])) ?_ ?_
              · refine c_region ?_
                refine l_v (by first | exact (r_move (v := .slice _ _ _) rfl) | exact (r_move rfl)) ?_
                refine l_v (by first | exact (r_move (v := .slice _ _ _) rfl) | exact (r_move rfl)) ?_
                refine l_v (by first | exact (r_move (v := iV _) rfl) | exact (r_move rfl)) ?_
                refine l_v (r_slice_ph i Try.underlying22 I9 rfl rfl (by omega)) ?_
                have hrt : ∀ w', Below w.heap.size w w' → Rd w' 1 A i (((xs.take i).map ofL).map sV) := fun w' hb => by
                  have h := rd_take (hr.below hb) hi'
                  rwa [xV, ← List.map_take, ← List.map_take] at h
                refine l_call (r_call Try.func15 rfl rfl) ?_
                refine Calls.mono (same_n A3 A c3 c (xs.take i).length i ((xs.take i).map ofL) ((xs.take i).map ofL) (by rw [List.length_map]) (by rw [List.length_map, htl]) _ (rowS_rd rfl hs) (hrt _ hs.below)) ?_
                rintro e w_ ⟨rfl, hb4⟩
                refine ⟨_, rfl, ?_⟩
                have hs := hs.below_ hb4
                have f75 : (!decide ((xs.take i).map ofL = (xs.take i).map ofL)) = false := by simp
                refine l_v (r_not rfl) ?_
                refine l_v (by first | exact (r_move (v := bV _) rfl) | exact (r_move rfl)) ?_
                refine l_vg (by first | exact (r_move (v := iV _) rfl) | exact (r_move rfl)) rfl (f75) ?_
                refine l_vg (r_gtri rfl rfl) rfl (f75) ?_
                by_cases hi0 : (i : Int) > 0
                · have f78 : decide ((i : Int) > 0) = true := decide_eq_true hi0
                  have f86 : decide (((EE xs i : Nat) : Int) ≠ ((EE xs i : Nat) : Int)) = false := by simp
                  have f91 : decide ((i : Int) = 0) = false := decide_eq_false (by omega)
                  have hs1 := hs.pull 1
                  have hu3 := ends_get (xs := xs) (i := i - 1) (n := xs.length) (by omega)
                  rw [show i - 1 + 1 = i by omega] at hu3
                  obtain ⟨ad2, rfl, _⟩ := hs1.rd.ad (by omega)
                  refine l_vg (by first | exact (r_move (v := bV _) rfl) | exact (r_move rfl)) rfl (f75) ?_
                  refine l_vg (by first | exact (r_move (v := iV _) rfl) | exact (r_move rfl)) rfl (f78) ?_
                  refine l_vg (by first | exact (r_move (v := .slice _ _ _) rfl) | exact (r_move rfl)) rfl (f78) ?_
                  refine l_vg (by first | exact (r_move (v := iV _) rfl) | exact (r_move rfl)) rfl (f78) ?_
                  refine l_vg (r_subi rfl rfl (by omega)) rfl (f78) ?_
                  refine l_vg (r_indexAddr_l1 (k := i - 1) Try.underlying31 I3 rfl (congrArg iV (by omega)) (by omega)) rfl (f78) ?_
                  refine l_vg (r_load Try.underlying3 rfl (hs1.rowAt hu3)) rfl (f78) ?_
                  refine l_vg (r_neqi rfl rfl) rfl (f78) ?_
                  refine l_vg (r_pick_t rfl f78 rfl) rfl (f75) ?_
                  refine l_v (r_pick_f rfl f75 rfl) ?_
                  refine l_v (by first | exact (r_move (v := bV _) rfl) | exact (r_move rfl)) ?_
                  refine l_vg (by first | exact (r_move (v := iV _) rfl) | exact (r_move rfl)) rfl (f86) ?_
                  refine l_vg (r_eqli rfl rfl) rfl (f86) ?_
                  refine l_vg (by first | exact (r_move (v := bV _) rfl) | exact (r_move rfl)) rfl (f86) ?_
                  refine l_no rfl (f91) ?_
                  refine l_no rfl (f91) ?_
                  refine l_vg (r_pick_f rfl f91 rfl) rfl (f86) ?_
                  refine l_v (r_pick_f rfl f86 rfl) ?_
                  refine l_nil (nrm_then ?_)
                  refine And.intro (by refine ⟨?_, ?_, ?_, ?_, ?_, ?_, ?_, trivial⟩ <;> ((conv => lhs; whnf); (try conv => rhs; whnf))) ?_
                  exact ⟨rfl, hs⟩
                · have f78 : decide ((i : Int) > 0) = false := decide_eq_false hi0
                  have hz : i = 0 := by omega
                  have f91 : decide ((i : Int) = 0) = true := decide_eq_true (by omega)
                  have f94 : decide (((EE xs i : Nat) : Int) ≠ 0) = false := by subst hz; simp [EE, FF]
                  refine l_vg (by first | exact (r_move (v := bV _) rfl) | exact (r_move rfl)) rfl (f75) ?_
                  refine l_no rfl (f78) ?_
                  refine l_no rfl (f78) ?_
                  refine l_no rfl (f78) ?_
                  refine l_no rfl (f78) ?_
                  refine l_no rfl (f78) ?_
                  refine l_no rfl (f78) ?_
                  refine l_no rfl (f78) ?_
                  refine l_vg (r_pick_f rfl f78 rfl) rfl (f75) ?_
                  refine l_v (r_pick_f rfl f75 rfl) ?_
                  refine l_v (by first | exact (r_move (v := bV _) rfl) | exact (r_move rfl)) ?_
                  refine l_vg (by first | exact (r_move (v := iV _) rfl) | exact (r_move rfl)) rfl (rfl) ?_
                  refine l_vg (r_eqli rfl rfl) rfl (rfl) ?_
                  refine l_vg (by first | exact (r_move (v := bV _) rfl) | exact (r_move rfl)) rfl (rfl) ?_
                  refine l_vg (by first | exact (r_move (v := iV _) rfl) | exact (r_move rfl)) rfl (f91) ?_
                  refine l_vg (r_neqi rfl rfl) rfl (f91) ?_
                  refine l_vg (r_pick_t rfl f91 rfl) rfl (rfl) ?_
                  refine l_v (r_pick_f rfl rfl rfl) ?_
                  refine l_nil (nrm_then ?_)
                  refine And.intro (by refine ⟨?_, ?_, ?_, ?_, ?_, ?_, ?_, trivial⟩ <;> ((conv => lhs; whnf); (try conv => rhs; whnf))) ?_
                  exact ⟨congrArg Value.bool f94, hs⟩
              · rintro g w_ ⟨h96, hs⟩
                show OkC _ _ _ _ _ _
                refine OkC.env ?_ (fixH (L := [(96, _)]) ⟨h96, trivial⟩)
                clear h96
                refine c_false rfl (rfl) ?_
                refine c_skip (nrm_then ?_)
                refine c_seq ?_
                refine c_seq ?_
                refine c_mid [0, 2, 6, 7, 10, 11] (fun f' w' => (∃ bb, f' 121 = bV bb ∧ (bb = false → K < EE xs xs.length)) ∧ Eng.Sep w w' (rowS (.slice A3 (xs.take i).length c3) (xs.take i) :: rowE xs (.slice A2 xs.length c2) xs.length :: [])) ?_ ?_
                · by_cases hq : (K : Int) = (((ofL (FF xs xs.length)).size : Nat) : Int)
                  · have f100 : decide ((K : Int) = (((ofL (FF xs xs.length)).size : Nat) : Int)) = true := decide_eq_true hq
                    refine c_region ?_
                    refine l_v (by first | exact (r_move (v := iV _) rfl) | exact (r_move rfl)) ?_
                    refine l_v (by first | exact (r_move (v := sV _) rfl) | exact (r_move rfl)) ?_
                    refine l_v (r_len_s Try.underlying9 rfl) ?_
                    refine l_v (r_eqli rfl rfl) ?_
                    refine l_v (by first | exact (r_move (v := bV _) rfl) | exact (r_move rfl)) ?_
                    refine l_no rfl (f100) ?_
                    refine l_no rfl (f100) ?_
                    refine l_no rfl (f100) ?_
                    refine l_no rfl (f100) ?_
                    refine l_no rfl (f100) ?_
                    refine l_skip (.inr rfl) ?_
                    refine l_skip (.inr rfl) ?_
                    refine l_skip (.inr rfl) ?_
                    refine l_skip (.inr rfl) ?_
                    refine l_skip (.inr rfl) ?_
                    refine l_no rfl (f100) ?_
                    refine l_no rfl (f100) ?_
                    refine l_skip (.inr rfl) ?_
                    refine l_skip (.inr rfl) ?_
                    refine l_skip (.inr rfl) ?_
                    refine l_skip (.inr rfl) ?_
                    refine l_skip (.inr rfl) ?_
                    refine l_skip (.inr rfl) ?_
                    refine l_no rfl (f100) ?_
                    refine l_v (r_pick_t rfl f100 rfl) ?_
                    refine l_nil (nrm_then ?_)
                    refine And.intro (by refine ⟨?_, ?_, ?_, ?_, ?_, ?_, trivial⟩ <;> ((conv => lhs; whnf); (try conv => rhs; whnf))) ?_
                    exact ⟨⟨true, rfl, fun h => by cases h⟩, hs⟩
                  · have f100 : decide ((K : Int) = (((ofL (FF xs xs.length)).size : Nat) : Int)) = false := decide_eq_false hq
                    have hKl : K < EE xs xs.length := by omega
                    have hil : i < xs.length := by
                      rcases Nat.lt_or_ge i xs.length with h | h
                      · exact h
                      · have e : i = xs.length := by omega
                        rw [e] at hE; omega
                    have f105 : decide ((i : Int) < (xs.length : Int)) = true := decide_eq_true (by omega)
                    have hs1 := hs.pull 1
                    refine c_region ?_
                    refine l_v (by first | exact (r_move (v := iV _) rfl) | exact (r_move rfl)) ?_
                    refine l_v (by first | exact (r_move (v := sV _) rfl) | exact (r_move rfl)) ?_
                    refine l_v (r_len_s Try.underlying9 rfl) ?_
                    refine l_v (r_eqli rfl rfl) ?_
                    refine l_v (by first | exact (r_move (v := bV _) rfl) | exact (r_move rfl)) ?_
                    refine l_vg (by first | exact (r_move (v := iV _) rfl) | exact (r_move rfl)) rfl (f100) ?_
                    refine l_vg (by first | exact (r_move (v := .slice _ _ _) rfl) | exact (r_move rfl)) rfl (f100) ?_
                    refine l_vg (r_len_l Try.underlying22 rfl) rfl (f100) ?_
                    refine l_vg (r_lssi rfl rfl) rfl (f100) ?_
                    refine l_vg (by first | exact (r_move (v := bV _) rfl) | exact (r_move rfl)) rfl (f100) ?_
                    refine l_vg (by first | exact (r_move (v := iV _) rfl) | exact (r_move rfl)) rfl (f105) ?_
                    refine l_vg (by first | exact (r_move (v := .slice _ _ _) rfl) | exact (r_move rfl)) rfl (f105) ?_
                    refine l_vg (by first | exact (r_move (v := iV _) rfl) | exact (r_move rfl)) rfl (f105) ?_
                    refine l_callg (r_call Try.func16 rfl rfl) rfl (f105) ?_
                    refine Calls.mono (end_c A2 c2 xs.length i xs hi' _ hs1.rd) ?_
                    rintro e w_ ⟨rfl, rfl⟩
                    refine ⟨_, rfl, ?_⟩
                    refine l_vg (r_eqli rfl rfl) rfl (f105) ?_
                    refine l_vg (r_pick_t rfl f105 rfl) rfl (f100) ?_
                    by_cases hq2 : (K : Int) = ((EE xs i : Nat) : Int)
                    · have f111 : decide ((K : Int) = ((EE xs i : Nat) : Int)) = true := decide_eq_true hq2
                      obtain ⟨ad, rfl, _⟩ := hr.ad (by omega)
                      refine l_vg (by first | exact (r_move (v := bV _) rfl) | exact (r_move rfl)) rfl (f100) ?_
                      refine l_vg (by first | exact (r_move (v := .slice _ _ _) rfl) | exact (r_move rfl)) rfl (f111) ?_
                      refine l_vg (by first | exact (r_move (v := iV _) rfl) | exact (r_move rfl)) rfl (f111) ?_
                      refine l_vg (by first | exact (r_indexAddr_o1 Try.underlying22 I9 rfl rfl (by omega)) | exact (r_indexAddr_l1 Try.underlying22 I9 rfl rfl (by omega)) | exact (r_indexAddr_l Try.underlying22 I9 rfl rfl (by omega))) rfl (f111) ?_
                      refine l_vg (r_load Try.underlying9 rfl (rd_get hr hs.below (xV_get hil))) rfl (f111) ?_
                      refine l_vg (r_len_s Try.underlying9 rfl) rfl (f111) ?_
                      refine l_vg (r_gtri rfl rfl) rfl (f111) ?_
                      refine l_vg (r_pick_t rfl f111 rfl) rfl (f100) ?_
                      refine l_v (r_pick_f rfl f100 rfl) ?_
                      refine l_nil (nrm_then ?_)
                      refine And.intro (by refine ⟨?_, ?_, ?_, ?_, ?_, ?_, trivial⟩ <;> ((conv => lhs; whnf); (try conv => rhs; whnf))) ?_
                      exact ⟨⟨_, rfl, fun _ => hKl⟩, hs⟩
                    · have f111 : decide ((K : Int) = ((EE xs i : Nat) : Int)) = false := decide_eq_false hq2
                      refine l_vg (by first | exact (r_move (v := bV _) rfl) | exact (r_move rfl)) rfl (f100) ?_
                      refine l_no rfl (f111) ?_
                      refine l_no rfl (f111) ?_
                      refine l_no rfl (f111) ?_
                      refine l_no rfl (f111) ?_
                      refine l_no rfl (f111) ?_
                      refine l_no rfl (f111) ?_
                      refine l_vg (r_pick_f rfl f111 rfl) rfl (f100) ?_
                      refine l_v (r_pick_f rfl f100 rfl) ?_
                      refine l_nil (nrm_then ?_)
                      refine And.intro (by refine ⟨?_, ?_, ?_, ?_, ?_, ?_, trivial⟩ <;> ((conv => lhs; whnf); (try conv => rhs; whnf))) ?_
                      exact ⟨⟨_, rfl, fun _ => hKl⟩, hs⟩
                · rintro g w_ ⟨⟨bb, h121, hbb⟩, hs⟩
                  show OkC _ _ _ _ _ _
                  refine OkC.env ?_ (fixH (L := [(121, _)]) ⟨h121, trivial⟩)
                  clear h121
                  rcases Bool.eq_false_or_eq_true bb with hq | hq
                  · refine c_true rfl (hq) ?_
                    refine c_rseq ?_
                    refine l_v (by first | exact (r_assign (v := bV _) rfl) | exact (r_assign rfl)) ?_
                    refine l_nil (nrm_then ?_)
                    refine c_ret (ret_then ?_)
                    show Fin _ _ _ _ _
                    refine fin1 rfl ?_
                    exact ⟨rfl, hs.below⟩
                  · have hKl := hbb hq
                    refine c_false rfl (hq) ?_
                    refine c_skip (nrm_then ?_)
                    refine c_rseq ?_
                    refine l_v (by first | exact (r_move (v := sV _) rfl) | exact (r_move rfl)) ?_
                    refine l_cv_sb hs Try.underlying9 Try.underlying34 Try.underlying5 rfl ?_
                    intro b14 r w1 hs hB1 hlt1
                    refine l_v (by first | exact (r_assign (v := .slice _ _ _) rfl) | exact (r_assign rfl)) ?_
                    refine l_nil (nrm_then ?_)
                    refine c_rseq ?_
                    refine l_v (by first | exact (r_move (v := .slice _ _ _) rfl) | exact (r_move rfl)) ?_
                    refine l_v (by first | exact (r_move (v := iV _) rfl) | exact (r_move rfl)) ?_
                    have hv : (bufCells (toL (ofL (FF xs xs.length))) r)[K]? = some (u8V ((FF xs xs.length).getD K 0)) := by
                      rw [Eng.toL_ofL, List.getElem?_append_left (by rw [List.length_map]; exact hKl), List.getElem?_map, List.getD_eq_getElem?_getD, List.getElem?_eq_getElem hKl]; rfl
                    have h8 : (x8 % 8).toNat < 8 := by rw [UInt8.toNat_mod]; exact Nat.mod_lt _ (by decide)
                    obtain ⟨c8, hc8⟩ : ∃ c8, c8 = (FF xs xs.length).getD K 0 ^^^ ((1 : UInt8) <<< UInt8.ofNat (x8 % 8).toNat) := ⟨_, rfl⟩
                    refine l_v (r_indexAddr_o1 (k := K) Try.underlying34 I5 rfl rfl (by omega)) ?_
                    refine l_v (r_load_atF (i := 0) hs rfl Try.underlying5 rfl hv) ?_
                    refine l_v (by first | exact (r_move (v := u8V _) rfl) | exact (r_move rfl)) ?_
                    refine l_v (r_rem8 (b := 8) rfl rfl (by first | decide | omega)) ?_
                    refine l_v (r_shl8 (a := 1) (b := (x8 % 8).toNat) rfl rfl h8) ?_
                    refine l_v (r_xor8 rfl rfl) ?_
                    refine l_v (r_indexAddr_o1 (k := K) Try.underlying34 I5 rfl rfl (by omega)) ?_
                    refine l_storeF (i := 0) hs rfl I5 rfl rfl (by rw [List.length_append, List.length_map]; show K < EE xs xs.length + _; omega) (by omega) ?_
                    intro w2 hs2
                    have hsl : ((FF xs xs.length).set K c8).length = EE xs xs.length := by rw [List.length_set]; rfl
                    have hs : Eng.Sep w w2 (blkF b14 (bufCells ((FF xs xs.length).set K c8) r) 5 (EE xs xs.length + r, EE xs xs.length + r + 1) :: rowS (.slice A3 (xs.take i).length c3) (xs.take i) :: rowE xs (.slice A2 xs.length c2) xs.length :: []) := by
                      rw [← buf_set _ _ _ _ hKl, hc8]
                      exact hs2
                    have hrd : Rd w2 1 (some ⟨b14, 0, none⟩) (EE xs xs.length) (((FF xs xs.length).set K c8).map u8V) := ⟨by rw [List.length_map, hsl]; omega, by omega, fun _ => ⟨_, rfl, fun j u hu => by
                      rw [add_lit, Nat.zero_add, cell_blk (hs.at_ 0).1, List.getElem?_append_left (by have := (List.getElem?_eq_some_iff.1 hu).1; exact this)]; exact hu⟩⟩
                    refine l_nil (nrm_then ?_)
                    refine c_rseq ?_
                    refine l_v (by first | exact (r_move (v := .slice _ _ _) rfl) | exact (r_move rfl)) ?_
                    refine l_v (r_cv_bs (l := (FF xs xs.length).set K c8) Try.underlying34 Try.underlying5 Try.underlying9 rfl hrd) ?_
                    have hpre : xs.take i <+: (splitA ((ofL ((FF xs xs.length).set K c8)).size + 1) [] 0 (toL (ofL ((FF xs xs.length).set K c8)))).1 := turn_law hx c8 hi' hE (by show i ≤ ((FF xs xs.length).set K c8).length; omega)
                    refine l_call (r_call Try.func12 rfl rfl) ?_
                    refine Calls.mono (split_c (ofL ((FF xs xs.length).set K c8)) (by show ((FF xs xs.length).set K c8).length ≤ _; omega) w _ _ hs) ?_
                    rintro e w_ ⟨v4, rfl, hs⟩
                    refine ⟨_, rfl, ?_⟩
                    generalize splitA ((ofL ((FF xs xs.length).set K c8)).size + 1) [] 0 (toL (ofL ((FF xs xs.length).set K c8))) = SP at *
                    obtain ⟨A4, c4, rfl, hc4⟩ := hs.rowForm
                    obtain ⟨hpl, hpt⟩ := prefix_take hpre
                    rw [htl] at hpl hpt
                    have f142 : decide (((SP.1.length : Nat) : Int) ≥ (i : Int)) = true := decide_eq_true (by omega)
                    have hrt : ∀ w', Below w.heap.size w w' → Rd w' 1 A i (((xs.take i).map ofL).map sV) := fun w' hb => by
                      have h := rd_take (hr.below hb) hi'
                      rwa [xV, ← List.map_take, ← List.map_take] at h
                    have hrl := rd_take (rowS_rd rfl hs) hpl
                    rw [← List.map_take, ← List.map_take, hpt] at hrl
                    refine l_v (r_move rfl) ?_
                    refine l_v (r_extract rfl rfl) ?_
                    refine l_v (r_extract rfl rfl) ?_
                    refine l_v (by first | exact (r_assign (v := .slice _ _ _) rfl) | exact (r_assign rfl)) ?_
                    refine l_nil (nrm_then ?_)
                    refine c_seq ?_
                    have hrl2 : Rd w_ 1 A4 i (((xs.take i).map ofL).map sV) := hrl
                    refine c_float [] 11 (by kernel_rfl) (by kernel_rfl) ?_
                    intro hbF
                    show OkF _ _ _ _ _ _ (_ :: _) 0 _ _
                    refine f_v (fun wl hbl => by have hs := hs.below_ hbl; first | exact (r_move (v := .slice _ _ _) rfl) | exact (r_move rfl)) ?_
                    refine f_v (fun wl hbl => by have hs := hs.below_ hbl; exact (r_len_l Try.underlying22 rfl)) ?_
                    refine f_v (fun wl hbl => by have hs := hs.below_ hbl; first | exact (r_move (v := iV _) rfl) | exact (r_move rfl)) ?_
                    refine f_v (fun wl hbl => by have hs := hs.below_ hbl; exact (r_geqi rfl rfl)) ?_
                    refine f_v (fun wl hbl => by have hs := hs.below_ hbl; first | exact (r_move (v := bV _) rfl) | exact (r_move rfl)) ?_
                    refine f_vg (fun wl hbl => by have hs := hs.below_ hbl; first | exact (r_move (v := .slice _ _ _) rfl) | exact (r_move rfl)) rfl (f142) ?_
                    refine f_vg (fun wl hbl => by have hs := hs.below_ hbl; first | exact (r_move (v := iV _) rfl) | exact (r_move rfl)) rfl (f142) ?_
                    refine f_vg (fun wl hbl => by have hs := hs.below_ hbl; exact (r_slice_ph i Try.underlying22 I9 rfl rfl (by omega))) rfl (f142) ?_
                    refine f_vg (fun wl hbl => by have hs := hs.below_ hbl; first | exact (r_move (v := .slice _ _ _) rfl) | exact (r_move rfl)) rfl (f142) ?_
                    refine f_vg (fun wl hbl => by have hs := hs.below_ hbl; first | exact (r_move (v := iV _) rfl) | exact (r_move rfl)) rfl (f142) ?_
                    refine f_vg (fun wl hbl => by have hs := hs.below_ hbl; exact (r_slice_ph i Try.underlying22 I9 rfl rfl (by omega))) rfl (f142) ?_
                    refine f_nil ?_
                    have hs := hs.below_ hbF
                    show OkL _ _ _ _ (_ :: _) _ _
                    refine l_callg (r_call Try.func15 rfl rfl) rfl (f142) ?_
                    refine Calls.mono (same_n A4 A c4 c i i ((xs.take i).map ofL) ((xs.take i).map ofL) (by rw [List.length_map, htl]) (by rw [List.length_map, htl]) _ hrl2 (hrt _ hs.below)) ?_
                    rintro e w_ ⟨rfl, hb⟩
                    refine ⟨_, rfl, ?_⟩
                    have hs := hs.below_ hb
                    refine l_v (r_pick_t rfl f142 rfl) ?_
                    refine l_v (by first | exact (r_assign (v := bV _) rfl) | exact (r_assign rfl)) ?_
                    refine l_nil (nrm_then ?_)
                    refine c_ret ?_
                    show Fin _ _ _ _ _
                    refine fin1 rfl ?_
                    exact ⟨congrArg Ending.returned (congrArg Value.bool (decide_eq_true rfl)), hs.below⟩
  · have f : (!bf) = true := by rw [hbf]; rfl
    refine c_true rfl (f) ?_
    refine c_rseq ?_
    refine l_call (r_call Try.func9 rfl rfl) ?_
    refine Calls.mono (awake_c _) ?_
    rintro e w_ ⟨rfl, hb3⟩
    refine ⟨_, rfl, ?_⟩
    have hs := hs.below_ hb3
    refine l_v (by first | exact (r_assign (v := bV _) rfl) | exact (r_assign rfl)) ?_
    refine l_nil (nrm_then ?_)
    refine c_ret (ret_then ?_)
    show Fin _ _ _ _ _
    refine fin1 rfl ?_
    exact ⟨rfl, hs.below⟩
end Go.Proofs.Ytlkljeghhahedaa.Wal
