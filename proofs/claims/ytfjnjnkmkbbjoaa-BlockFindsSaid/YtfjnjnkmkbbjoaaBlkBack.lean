/- The laws BlockBack and BlockFinds: the walks. -/
import Derived.Test.YtfjnjnkmkbbjoaaBlkFind
import Derived.Test.YtfjnjnkmkbbjoaaBlkFlip
namespace Go.Proofs.Ytfjnjnkmkbbjoaa.Blk
open Go Go.RowKit Go.Proofs.Ytfjnjnkmkbbjoaa.Eng Go.Proofs.Ytfjnjnkmkbbjoaa.Six Go.Proofs.Ytfjnjnkmkbbjoaa.CrcFn
set_option linter.unusedVariables false
set_option maxRecDepth 100000
theorem buf_set (l : List UInt8) (r o : Nat) (x : UInt8) (h : o < l.length) : (bufCells l r).set o (u8V x) = bufCells (l.set o x) r := by
  rw [bufCells, List.set_append_left _ _ (by simpa using h), bufCells, List.map_set]
theorem rising_ok {ys : List Ent} {n : Nat} (hn : n ≤ 3001) (h1 : sorted ys) (h2 : ∀ y ∈ ys, good y) (h3 : ys.length ≤ n) : check ys = 0 ∧ (packR ys).length ≤ 1099511627776 ∧ 5 ≤ (packR ys).length := by
  have hc := check_sorted (by omega) h1 h2
  refine ⟨hc, ?_⟩
  have hp : packR ys = put (packB ys) := if_pos hc
  have h4 := enc_len 64 ys.length (by omega)
  have h5 := enc_pos 64 ys.length
  have h6 := packL_len (xs := ys) (fun x hx => by have := h2 x hx; unfold good at this; omega) []
  rw [hp]
  unfold put packB
  rw [List.length_append, List.length_append, four_length]
  omega
set_option maxHeartbeats 8000000 in
theorem blockBack_walk {w : World} (A : Option Addr) (c : Nat) (xs : List Ent) (hr : Rd w 3 A xs.length (xs.flatMap entC)) (hcap : xs.length ≤ c) (hg : ∀ r ∈ xs, eok r) (a : Int) (ha : (Lit.int .i64 a).wf = true) (by_ : Int) (hby : (Lit.int .u8 by_).wf = true) :
    Calls Try.prog 5 #[.slice A xs.length c, iV a, .int .u8 by_] w fun e w' => e = .returned (bV true) ∧ Below w.heap.size w w' := by
  have hn := hr.2.1
  obtain ⟨bb, hbb⟩ : ∃ bb : UInt8, Value.int .u8 by_ = u8V bb := ⟨UInt8.ofNat by_.toNat, by
    have h0 : IntKind.u8.min ≤ by_ ∧ by_ ≤ IntKind.u8.max := by simpa [Lit.wf] using hby
    have h : (0 : Int) ≤ by_ ∧ by_ ≤ 255 := h0
    unfold u8V
    congr 1
    rw [UInt8.toNat_ofNat']
    omega⟩
  rw [hbb]
  refine enter (P := Try.prog) Try.func5 rfl rfl ?_
  have hs := Sep.init w
  refine c_rseq ?_
  refine l_v (by first | exact (r_assign (v := bV _) rfl) | exact (r_assign rfl)) ?_
  refine l_nil (nrm_then ?_)
  refine c_seq ?_
  refine c_rseq ?_
  refine l_call (r_call Try.func7 rfl rfl) ?_
  refine Calls.mono (awake_c _) ?_
  rintro e w_ ⟨rfl, hb⟩
  refine ⟨_, rfl, ?_⟩
  have hs := hs.below_ hb
  refine l_v (r_not rfl) ?_
  refine l_v (by first | exact (r_move (v := bV _) rfl) | exact (r_move rfl)) ?_
  refine l_vg (by first | exact (r_move (v := .slice _ _ _) rfl) | exact (r_move rfl)) rfl (rfl) ?_
  refine l_callg (r_call Try.func8 rfl rfl) rfl (rfl) ?_
  refine Calls.mono (few_c A c xs _ (hr.below hs.below)) ?_
  rintro e w_ ⟨bf, rfl, hbf, hb⟩
  refine ⟨_, rfl, ?_⟩
  have hs := hs.below_ hb
  refine l_vg (r_not rfl) rfl (rfl) ?_
  rcases Bool.eq_false_or_eq_true bf with hq | hq
  · obtain ⟨hn1, hn2, hn3⟩ := hbf hq
    have f : (!bf) = false := by rw [hq]; rfl
    refine l_v (r_pick_f rfl rfl rfl) ?_
    refine l_nil (nrm_then ?_)
    refine c_false rfl (f) ?_
    refine c_skip (nrm_then ?_)
    refine c_rseq ?_
    refine l_v (by first | exact (r_move (v := .slice _ _ _) rfl) | exact (r_move rfl)) ?_
    refine l_call (r_call Try.func17 rfl rfl) ?_
    refine Calls.mono (rising_c A c xs (fun x hx => hn2 x hx) hn1 w _ _ (hr.below hs.below) hs (fun _ _ => trivial)) ?_
    rintro e w_ ⟨v, ys, rfl, hso, hgo, hyl, hs⟩
    refine ⟨_, rfl, ?_⟩
    obtain ⟨hck, hpl, hp5⟩ := rising_ok hn1 hso hgo hyl
    have hpz : (ofL (packR ys)).size = (packR ys).length := rfl
    obtain ⟨A2, c2, rfl, hc2⟩ := hs.rowForm
    refine l_v (by first | exact (r_assign (v := .slice _ _ _) rfl) | exact (r_assign rfl)) ?_
    refine l_nil (nrm_then ?_)
    refine c_rseq ?_
    refine l_v (by first | exact (r_move (v := .slice _ _ _) rfl) | exact (r_move rfl)) ?_
    refine l_call (r_call Try.func9 rfl rfl) ?_
    refine Calls.mono (pack_c A2 c2 ys _ hs.rd) ?_
    rintro e w_ ⟨rfl, hb⟩
    refine ⟨_, rfl, ?_⟩
    have hs := hs.below_ hb
    rw [hck]
    refine l_v (r_move rfl) ?_
    refine l_v (r_extract rfl rfl) ?_
    refine l_v (r_extract rfl rfl) ?_
    refine l_v (by first | exact (r_assign (v := sV _) rfl) | exact (r_assign rfl)) ?_
    refine l_v (by first | exact (r_assign (v := iV _) rfl) | exact (r_assign rfl)) ?_
    refine l_nil (nrm_then ?_)
    refine c_rseq ?_
    refine l_v (by first | exact (r_move (v := sV _) rfl) | exact (r_move rfl)) ?_
    refine l_call (r_call Try.func15 rfl rfl) ?_
    refine Calls.mono (open_c (ofL (packR ys)) (by omega) w _ _ hs) ?_
    rintro e w_ ⟨v3, rfl, hs⟩
    refine ⟨_, rfl, ?_⟩
    have hop := openB_pack hck
    rw [Eng.toL_ofL, hop] at hs ⊢
    obtain ⟨A3, c3, rfl, hc3⟩ := hs.rowForm
    have hrd3 := hs.rd
    have hrd2 := (hs.pull 1).rd
    have f2 : (!decide (ys = ys)) = false := by rw [decide_eq_true rfl]; rfl
    have f5 : decide (((ofL (packR ys)).size : Int) < 5) = false := decide_eq_false (by omega)
    refine l_v (r_move rfl) ?_
    refine l_v (r_extract rfl rfl) ?_
    refine l_v (r_extract rfl rfl) ?_
    refine l_v (by first | exact (r_assign (v := .slice _ _ _) rfl) | exact (r_assign rfl)) ?_
    refine l_v (by first | exact (r_assign (v := iV _) rfl) | exact (r_assign rfl)) ?_
    refine l_nil (nrm_then ?_)
    refine c_seq ?_
    refine c_rseq ?_
    refine l_v (by first | exact (r_move (v := iV _) rfl) | exact (r_move rfl)) ?_
    refine l_v (r_neqi rfl rfl) ?_
    refine l_v (by first | exact (r_move (v := bV _) rfl) | exact (r_move rfl)) ?_
    refine l_vg (by first | exact (r_move (v := iV _) rfl) | exact (r_move rfl)) rfl (rfl) ?_
    refine l_vg (r_neqi rfl rfl) rfl (rfl) ?_
    refine l_v (r_pick_f rfl rfl rfl) ?_
    refine l_v (by first | exact (r_move (v := bV _) rfl) | exact (r_move rfl)) ?_
    refine l_vg (by first | exact (r_move (v := .slice _ _ _) rfl) | exact (r_move rfl)) rfl (rfl) ?_
    refine l_vg (by first | exact (r_move (v := .slice _ _ _) rfl) | exact (r_move rfl)) rfl (rfl) ?_
    refine l_callg (r_call Try.func12 rfl rfl) rfl (rfl) ?_
    refine Calls.mono (same_c A3 A2 c3 c2 _ _ ys ys rfl rfl _ hrd3 hrd2) ?_
    rintro e w_ ⟨rfl, hb⟩
    refine ⟨_, rfl, ?_⟩
    have hs := hs.below_ hb
    refine l_vg (r_not rfl) rfl (rfl) ?_
    refine l_v (r_pick_f rfl rfl rfl) ?_
    refine l_v (by first | exact (r_move (v := bV _) rfl) | exact (r_move rfl)) ?_
    refine l_vg (by first | exact (r_move (v := sV _) rfl) | exact (r_move rfl)) rfl (f2) ?_
    refine l_vg (r_len_s Try.underlying9 rfl) rfl (f2) ?_
    refine l_vg (r_lssi rfl rfl) rfl (f2) ?_
    refine l_v (r_pick_f rfl f2 rfl) ?_
    refine l_nil (nrm_then ?_)
    refine c_false rfl (f5) ?_
    refine c_skip (nrm_then ?_)
    refine c_rseq ?_
    refine l_v (by first | exact (r_move (v := sV _) rfl) | exact (r_move rfl)) ?_
    refine l_cv_sb hs Try.underlying9 Try.underlying39 Try.underlying5 rfl ?_
    intro b r w52 hs hB52 hlt52
    rw [Eng.toL_ofL, hpz] at hs
    rw [hpz]
    have hN : (BitVec.ofInt 64 ((packR ys).length : Int)).toNat = (packR ys).length := by rw [BitVec.toNat_ofInt]; omega
    obtain ⟨st, hst, hlt⟩ : ∃ st, (BitVec.ofInt 64 a % BitVec.ofInt 64 ((packR ys).length : Int)).toNat = st ∧ st < (packR ys).length :=
      ⟨_, rfl, by rw [BitVec.toNat_umod, hN]; exact Nat.mod_lt _ (by omega)⟩
    have hv : (bufCells (packR ys) r)[st]? = some (u8V (packR ys)[st]) := by
      rw [List.getElem?_append_left (by simpa using hlt), List.getElem?_map, List.getElem?_eq_getElem hlt]; rfl
    refine l_v (by first | exact (r_assign (v := .slice _ _ _) rfl) | exact (r_assign rfl)) ?_
    refine l_nil (nrm_then ?_)
    refine c_rseq ?_
    refine l_v (by first | exact (r_move (v := .slice _ _ _) rfl) | exact (r_move rfl)) ?_
    refine l_v (by first | exact (r_move (v := iV _) rfl) | exact (r_move rfl)) ?_
    refine l_v (r_cv_i64 Try.underlying3 Try.underlying40 rfl) ?_
    refine l_v (by first | exact (r_move (v := .slice _ _ _) rfl) | exact (r_move rfl)) ?_
    refine l_v (r_len_l Try.underlying39 rfl) ?_
    refine l_v (r_cv_i64 Try.underlying3 Try.underlying40 rfl) ?_
    refine l_v (r_rem64 rfl rfl (by rw [hN]; omega)) ?_
    refine l_v (r_cv_64n hst Try.underlying40 Try.underlying3 rfl (by omega)) ?_
    refine l_v (r_indexAddr_o1 (k := st) Try.underlying39 I5 rfl rfl hlt) ?_
    refine l_v (r_load_atF (i := 0) hs rfl Try.underlying5 rfl hv) ?_
    refine l_v (by first | exact (r_move (v := u8V _) rfl) | exact (r_move rfl)) ?_
    refine l_v (r_xor8 rfl rfl) ?_
    refine l_v (r_indexAddr_o1 (k := st) Try.underlying39 I5 rfl rfl hlt) ?_
    refine l_storeF (i := 0) hs rfl I5 rfl rfl (by simp; omega) (by omega) ?_
    intro w65 hs
    have hbuf := buf_set (packR ys) r st ((packR ys)[st] ^^^ bb) hlt
    have hs : Eng.Sep w w65 (blkF b (bufCells ((packR ys).set st ((packR ys)[st] ^^^ bb)) r) 5 ((packR ys).length + r, (packR ys).length + r + 1) :: rowE (.slice A3 ys.length c3) ys :: rowE (.slice A2 ys.length c2) ys :: []) := by
      rw [← hbuf]; exact hs
    have hflip := openB_flip (b := bb) hck hlt
    have hsl : ((packR ys).set st ((packR ys)[st] ^^^ bb)).length = (packR ys).length := List.length_set ..
    generalize (packR ys).set st ((packR ys)[st] ^^^ bb) = S at *
    have hrdS : Rd w65 1 (some ⟨b, 0, none⟩) (packR ys).length (S.map u8V) := ⟨by simp; omega, by omega, fun _ => ⟨_, rfl, fun j u hu => by
      rw [add_lit, Nat.zero_add, cell_blk (hs.at_ 0).1, List.getElem?_append_left (by have := (List.getElem?_eq_some_iff.1 hu).1; exact this)]; exact hu⟩⟩
    have hSz : (ofL S).size = (packR ys).length := hsl
    refine l_nil (nrm_then ?_)
    refine c_rseq ?_
    refine l_v (by first | exact (r_move (v := .slice _ _ _) rfl) | exact (r_move rfl)) ?_
    refine l_v (r_cv_bs (l := S) Try.underlying39 Try.underlying5 Try.underlying9 rfl hrdS) ?_
    refine l_call (r_call Try.func15 rfl rfl) ?_
    refine Calls.mono (open_c (ofL S) (by omega) w _ _ hs) ?_
    rintro e w_ ⟨v4, rfl, hs⟩
    refine ⟨_, rfl, ?_⟩
    rw [Eng.toL_ofL, hflip] at hs ⊢
    refine l_v (r_move rfl) ?_
    refine l_v (r_extract rfl rfl) ?_
    refine l_v (r_extract rfl rfl) ?_
    refine l_v (by first | exact (r_assign (v := .slice _ _ _) rfl) | exact (r_assign rfl)) ?_
    refine l_v (by first | exact (r_assign (v := iV _) rfl) | exact (r_assign rfl)) ?_
    refine l_nil (nrm_then ?_)
    refine c_seq ?_
    refine c_rseq ?_
    refine l_v (by first | exact (r_move (v := u8V _) rfl) | exact (r_move rfl)) ?_
    refine l_v (r_eql8 (b := 0) rfl rfl) ?_
    refine l_nil (nrm_then ?_)
    by_cases hb0 : bb = 0
    · rw [if_pos hb0] at hs ⊢
      obtain ⟨A4, c4, rfl, hc4⟩ := hs.rowForm
      have hrd4 := hs.rd
      have hrd2 := ((hs.pull 3)).rd
      refine c_true rfl (decide_eq_true hb0) ?_
      refine c_rseq ?_
      refine l_v (by first | exact (r_move (v := iV _) rfl) | exact (r_move rfl)) ?_
      refine l_v (r_eqli rfl rfl) ?_
      refine l_v (by first | exact (r_move (v := bV _) rfl) | exact (r_move rfl)) ?_
      refine l_vg (by first | exact (r_move (v := .slice _ _ _) rfl) | exact (r_move rfl)) rfl (rfl) ?_
      refine l_vg (by first | exact (r_move (v := .slice _ _ _) rfl) | exact (r_move rfl)) rfl (rfl) ?_
      refine l_callg (r_call Try.func12 rfl rfl) rfl (rfl) ?_
      refine Calls.mono (same_c A4 A2 c4 c2 _ _ ys ys rfl rfl _ hrd4 hrd2) ?_
      rintro e w_ ⟨rfl, hb⟩
      refine ⟨_, rfl, ?_⟩
      have hs := hs.below_ hb
      refine l_v (r_pick_t rfl rfl rfl) ?_
      refine l_v (by first | exact (r_assign (v := bV _) rfl) | exact (r_assign rfl)) ?_
      refine l_nil (nrm_then ?_)
      refine c_ret (ret_then ?_)
      show Fin _ _ _ _ _
      refine fin1 rfl ?_
      exact ⟨congrArg Ending.returned (congrArg Value.bool (decide_eq_true rfl)), hs.below⟩
    · rw [if_neg hb0] at hs ⊢
      obtain ⟨A4, c4, rfl, hc4⟩ := hs.rowForm
      refine c_false rfl (decide_eq_false hb0) ?_
      refine c_skip (nrm_then ?_)
      refine c_rseq ?_
      refine l_v (by first | exact (r_move (v := iV _) rfl) | exact (r_move rfl)) ?_
      refine l_v (r_eqli rfl rfl) ?_
      refine l_v (by first | exact (r_move (v := bV _) rfl) | exact (r_move rfl)) ?_
      refine l_vg (by first | exact (r_move (v := .slice _ _ _) rfl) | exact (r_move rfl)) rfl (rfl) ?_
      refine l_vg (r_len_l Try.underlying22 rfl) rfl (rfl) ?_
      refine l_vg (r_eqli rfl rfl) rfl (rfl) ?_
      refine l_v (r_pick_t rfl rfl rfl) ?_
      refine l_v (by first | exact (r_assign (v := bV _) rfl) | exact (r_assign rfl)) ?_
      refine l_nil (nrm_then ?_)
      refine c_ret ?_
      show Fin _ _ _ _ _
      refine fin1 rfl ?_
      exact ⟨rfl, hs.below⟩
  · have f : (!bf) = true := by rw [hq]; rfl
    refine l_v (r_pick_f rfl rfl rfl) ?_
    refine l_nil (nrm_then ?_)
    refine c_true rfl (f) ?_
    refine c_rseq ?_
    refine l_call (r_call Try.func7 rfl rfl) ?_
    refine Calls.mono (awake_c _) ?_
    rintro e w_ ⟨rfl, hb⟩
    refine ⟨_, rfl, ?_⟩
    have hs := hs.below_ hb
    refine l_v (by first | exact (r_assign (v := bV _) rfl) | exact (r_assign rfl)) ?_
    refine l_nil (nrm_then ?_)
    refine c_ret (ret_then ?_)
    show Fin _ _ _ _ _
    refine fin1 rfl ?_
    exact ⟨rfl, hs.below⟩
set_option maxHeartbeats 8000000 in
theorem blockFinds_walk {w : World} (A : Option Addr) (c : Nat) (xs : List Ent) (hr : Rd w 3 A xs.length (xs.flatMap entC)) (hcap : xs.length ≤ c) (hg : ∀ r ∈ xs, eok r) (key : ByteArray) (hkz : key.size ≤ 140737488351232) :
    Calls Try.prog 6 #[.slice A xs.length c, sV key] w fun e w' => e = .returned (bV true) ∧ Below w.heap.size w w' := by
  have hn := hr.2.1
  have hkey : key = ofL (toL key) := rfl
  refine enter (P := Try.prog) Try.func6 rfl rfl ?_
  have hs := Sep.init w
  refine c_rseq ?_
  refine l_v (by first | exact (r_assign (v := bV _) rfl) | exact (r_assign rfl)) ?_
  refine l_nil (nrm_then ?_)
  refine c_seq ?_
  refine c_rseq ?_
  refine l_call (r_call Try.func7 rfl rfl) ?_
  refine Calls.mono (awake_c _) ?_
  rintro e w_ ⟨rfl, hb⟩
  refine ⟨_, rfl, ?_⟩
  have hs := hs.below_ hb
  refine l_v (r_not rfl) ?_
  refine l_v (by first | exact (r_move (v := bV _) rfl) | exact (r_move rfl)) ?_
  refine l_vg (by first | exact (r_move (v := .slice _ _ _) rfl) | exact (r_move rfl)) rfl (rfl) ?_
  refine l_callg (r_call Try.func8 rfl rfl) rfl (rfl) ?_
  refine Calls.mono (few_c A c xs _ (hr.below hs.below)) ?_
  rintro e w_ ⟨bf, rfl, hbf, hb⟩
  refine ⟨_, rfl, ?_⟩
  have hs := hs.below_ hb
  refine l_vg (r_not rfl) rfl (rfl) ?_
  rcases Bool.eq_false_or_eq_true bf with hq | hq
  · obtain ⟨hn1, hn2, hn3⟩ := hbf hq
    have f : (!bf) = false := by rw [hq]; rfl
    refine l_v (r_pick_f rfl rfl rfl) ?_
    refine l_nil (nrm_then ?_)
    refine c_false rfl (f) ?_
    refine c_skip (nrm_then ?_)
    refine c_rseq ?_
    refine l_v (by first | exact (r_move (v := .slice _ _ _) rfl) | exact (r_move rfl)) ?_
    refine l_v (by first | exact (r_move (v := sV _) rfl) | exact (r_move rfl)) ?_
    refine l_call (r_call Try.func18 rfl rfl) ?_
    refine Calls.mono (find_c A c xs (toL key) (by omega) _ (hr.below hs.below)) ?_
    rintro e w_ ⟨n, rfl, hbl, hb⟩
    refine ⟨_, rfl, ?_⟩
    have hs := hs.below_ hb
    have hbl1 := hbl.1
    have f1 : decide ((n : Int) < 0) = false := decide_eq_false (by omega)
    have f2 : decide ((n : Int) > (xs.length : Int)) = false := decide_eq_false (by omega)
    refine l_v (by first | exact (r_assign (v := iV _) rfl) | exact (r_assign rfl)) ?_
    refine l_nil (nrm_then ?_)
    refine c_seq ?_
    refine c_rseq ?_
    refine l_v (by first | exact (r_move (v := iV _) rfl) | exact (r_move rfl)) ?_
    refine l_v (r_lssi rfl rfl) ?_
    refine l_v (by first | exact (r_move (v := bV _) rfl) | exact (r_move rfl)) ?_
    refine l_vg (by first | exact (r_move (v := iV _) rfl) | exact (r_move rfl)) rfl (f1) ?_
    refine l_vg (by first | exact (r_move (v := .slice _ _ _) rfl) | exact (r_move rfl)) rfl (f1) ?_
    refine l_vg (r_len_l Try.underlying22 rfl) rfl (f1) ?_
    refine l_vg (r_gtri rfl rfl) rfl (f1) ?_
    refine l_v (r_pick_f rfl f1 rfl) ?_
    refine l_nil (nrm_then ?_)
    refine c_false rfl (f2) ?_
    refine c_skip (nrm_then ?_)
    refine c_rseq ?_
    refine l_v (by first | exact (r_move (v := .slice _ _ _) rfl) | exact (r_move rfl)) ?_
    refine l_call (r_call Try.func17 rfl rfl) ?_
    refine Calls.mono (rising_c A c xs (fun x hx => hn2 x hx) hn1 w _ _ (hr.below hs.below) hs (fun _ _ => trivial)) ?_
    rintro e w_ ⟨v, ys, rfl, hso, hgo, hyl, hs⟩
    refine ⟨_, rfl, ?_⟩
    obtain ⟨A2, c2, rfl, hc2⟩ := hs.rowForm
    refine l_v (by first | exact (r_assign (v := .slice _ _ _) rfl) | exact (r_assign rfl)) ?_
    refine l_nil (nrm_then ?_)
    refine c_rseq ?_
    refine l_v (by first | exact (r_move (v := .slice _ _ _) rfl) | exact (r_move rfl)) ?_
    refine l_v (by first | exact (r_move (v := sV _) rfl) | exact (r_move rfl)) ?_
    refine l_call (r_call Try.func18 rfl rfl) ?_
    refine Calls.mono (find_c A2 c2 ys (toL key) (by omega) _ hs.rd) ?_
    rintro e w_ ⟨n2, rfl, hbl2, hb⟩
    refine ⟨_, rfl, ?_⟩
    have hs := hs.below_ hb
    have hbl3 := hbl2.1
    refine l_v (by first | exact (r_assign (v := iV _) rfl) | exact (r_assign rfl)) ?_
    refine l_nil (nrm_then ?_)
    refine c_seq ?_
    refine c_rseq ?_
    refine l_v (by first | exact (r_assign (v := iV _) rfl) | exact (r_assign rfl)) ?_
    refine l_nil (nrm_then ?_)
    refine c_block ?_
    refine c_loopn [0, 1, 5] (fun m f' w' => ∃ i : Nat, i + m = ys.length ∧ f' 6 = iV (i : Int) ∧ Eng.Sep w w' [rowE (.slice A2 ys.length c2) ys]) ?_ ?_
    · exact ⟨ys.length, 0, by omega, rfl, hs⟩
    · rintro m g w_ ⟨i, hi, h6, hs⟩
      refine OkC.env ?_ (fixH (L := [(6, _)]) ⟨h6, trivial⟩)
      clear h6
      refine c_seq ?_
      refine c_rseq ?_
      refine l_v (by first | exact (r_move (v := iV _) rfl) | exact (r_move rfl)) ?_
      refine l_v (by first | exact (r_move (v := .slice _ _ _) rfl) | exact (r_move rfl)) ?_
      refine l_v (r_len_l Try.underlying22 rfl) ?_
      refine l_v (r_lssi rfl rfl) ?_
      refine l_nil (nrm_then ?_)
      refine c_cond rfl (fun h1 => ?_) (fun h1 => ?_)
      · have hil : i < ys.length := by have := of_decide_eq_true h1; omega
        obtain ⟨x, hxi⟩ : ∃ x, ys[i]? = some x := ⟨ys[i], List.getElem?_eq_getElem hil⟩
        have hk := hbl2.2 hso i x hxi
        have hsK := hs
        obtain ⟨ad, rfl, _⟩ := hs.rd.ad (by omega)
        have hs := hsK
        have hX := rd_item hs.rd (fun y _ => rfl) (by decide) hxi
        have hk2 : sLt (ofL x.key) key = decide ((i : Int) < (n2 : Int)) := by
          have e : decide ((i : Int) < (n2 : Int)) = decide (i < n2) := decide_eq_decide.2 (by omega)
          rw [e]; exact hk
        replace h1 := of_decide_eq_true h1
        refine c_skip (nrm_then ?_)
        refine c_seq ?_
        refine c_block ?_
        refine c_rseq ?_
        refine l_v (by first | exact (r_move (v := .slice _ _ _) rfl) | exact (r_move rfl)) ?_
        refine l_v (by first | exact (r_move (v := iV _) rfl) | exact (r_move rfl)) ?_
        refine l_v (r_indexAddr_l (k := i) Try.underlying22 I44 rfl rfl hil) ?_
        refine l_v (r_fieldAddrP (off := 0) (T := 9) (by kernel_rfl) rfl) ?_
        refine l_v (r_load Try.underlying9 rfl (hX 0 _ rfl)) ?_
        refine l_v (by first | exact (r_move (v := sV _) rfl) | exact (r_move rfl)) ?_
        refine l_v (r_lsss rfl rfl) ?_
        refine l_v (by first | exact (r_move (v := iV _) rfl) | exact (r_move rfl)) ?_
        refine l_v (by first | exact (r_move (v := iV _) rfl) | exact (r_move rfl)) ?_
        refine l_v (r_lssi rfl rfl) ?_
        rw [hk2]
        refine l_v (r_neqb Try.underlying4 rfl rfl) ?_
        refine l_nil (nrm_then ?_)
        refine c_false rfl (bne_self_eq_false _) ?_
        refine c_skip (nrm_block (nrm_then ?_))
        refine c_region ?_
        refine l_v (by first | exact (r_move (v := iV _) rfl) | exact (r_move rfl)) ?_
        refine l_v (r_addi rfl rfl (by omega)) ?_
        refine l_v (by first | exact (r_assign (v := iV _) rfl) | exact (r_assign rfl)) ?_
        refine l_nil (nrm_then ?_)
        refine And.intro (by refine ⟨?_, ?_, ?_, trivial⟩ <;> ((conv => lhs; whnf); (try conv => rhs; whnf))) ?_
        exact ⟨ys.length - (i + 1), by omega, i + 1, by omega, rfl, hs⟩
      · replace h1 := of_decide_eq_false h1
        refine c_exit (ex_then (ex_then (ex_hit (nrm_then ?_))))
        refine c_rseq ?_
        refine l_v (by first | exact (r_move (v := iV _) rfl) | exact (r_move rfl)) ?_
        refine l_v (r_geqi rfl rfl) ?_
        refine l_v (by first | exact (r_move (v := bV _) rfl) | exact (r_move rfl)) ?_
        have f3 : decide ((n2 : Int) ≥ 0) = true := decide_eq_true (by omega)
        refine l_vg (by first | exact (r_move (v := iV _) rfl) | exact (r_move rfl)) rfl (f3) ?_
        refine l_vg (by first | exact (r_move (v := .slice _ _ _) rfl) | exact (r_move rfl)) rfl (f3) ?_
        refine l_vg (r_len_l Try.underlying22 rfl) rfl (f3) ?_
        refine l_vg (r_leqi rfl rfl) rfl (f3) ?_
        refine l_v (r_pick_t rfl f3 rfl) ?_
        refine l_v (by first | exact (r_assign (v := bV _) rfl) | exact (r_assign rfl)) ?_
        refine l_nil (nrm_then ?_)
        refine c_ret ?_
        show Fin _ _ _ _ _
        refine fin1 rfl ?_
        exact ⟨congrArg Ending.returned (congrArg Value.bool (decide_eq_true (by omega))), hs.below⟩
  · have f : (!bf) = true := by rw [hq]; rfl
    refine l_v (r_pick_f rfl rfl rfl) ?_
    refine l_nil (nrm_then ?_)
    refine c_true rfl (f) ?_
    refine c_rseq ?_
    refine l_call (r_call Try.func7 rfl rfl) ?_
    refine Calls.mono (awake_c _) ?_
    rintro e w_ ⟨rfl, hb⟩
    refine ⟨_, rfl, ?_⟩
    have hs := hs.below_ hb
    refine l_v (by first | exact (r_assign (v := bV _) rfl) | exact (r_assign rfl)) ?_
    refine l_nil (nrm_then ?_)
    refine c_ret (ret_then ?_)
    show Fin _ _ _ _ _
    refine fin1 rfl ?_
    exact ⟨rfl, hs.below⟩
end Go.Proofs.Ytfjnjnkmkbbjoaa.Blk
