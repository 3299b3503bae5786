/- The walks of places and Has. -/
import Derived.Test.YtbimboibllboeaaDoorBlmIter
namespace Go.Proofs.YtbimboibllboeaaDoor.Blm
open Go Go.RowKit Go.Proofs.YtbimboibllboeaaDoor.Eng Go.Proofs.YtbimboibllboeaaDoor.Sha
set_option linter.unusedVariables false
set_option maxRecDepth 100000
theorem places_c (bf : Nat) (key : ByteArray) (w0 w : World) (R : List HP) (hs : Eng.Sep w0 w R) :
    Calls Tryd.prog 18 #[.pointer (some ⟨bf, 0, none⟩), sV key] w fun e w' => ∃ b2 b3, e = .returned (.func (.func 33) #[] #[.pointer (some ⟨b3, 0, none⟩), .pointer (some ⟨b2, 0, none⟩)]) ∧ Eng.Sep w0 w' (blk b3 [sV key] 9 :: blk b2 [.pointer (some ⟨bf, 0, none⟩)] 25 :: R) := by
  refine enter (P := Tryd.prog) Tryd.func18 rfl rfl ?_
  refine c_rseq ?_
  refine l_box hs rfl ?_
  intro b2 w2 hs hB2 hlt2
  refine l_box hs rfl ?_
  intro b3 w3 hs hB3 hlt3
  refine l_v (by first | exact (r_assign (v := .func _ _ _) rfl) | exact (r_assign (v := .nilFunc) rfl) | exact (r_assign rfl)) ?_
  refine l_nil (nrm_then ?_)
  refine c_rseq ?_
  refine l_v (r_makeFunc rfl rfl) ?_
  refine l_v (by first | exact (r_assign (v := .func _ _ _) rfl) | exact (r_assign (v := .nilFunc) rfl) | exact (r_assign rfl)) ?_
  refine l_nil (nrm_then ?_)
  refine c_ret ?_
  show Fin _ _ _ _ _
  refine fin1 rfl ?_
  exact ⟨_, _, rfl, hs⟩
theorem plV_inv {key : List UInt8} {z h k : Nat} {v : Value} (hv : (plV key z h)[k]? = some v) : k < h ∧ v = iV (place key z k : Int) := by
  have hk : k < h := by have := (List.getElem?_eq_some_iff.1 hv).1; rwa [plV_len] at this
  rw [plV_get key z hk] at hv
  injection hv with hv
  exact ⟨hk, hv.symm⟩
def allTo (b key : List UInt8) (k : Nat) : Prop := ∀ j, j < k → tstB b (place key b.length j) = true
theorem all_has {b key : List UInt8} {h : Nat} (ha : allTo b key h) : hasB h b key = true := by
  unfold hasB places
  rw [List.all_eq_true]
  intro n hn
  obtain ⟨i, hi, rfl⟩ := List.mem_map.1 hn
  exact ha i (List.mem_range.1 hi)
theorem not_has {b key : List UInt8} {h k : Nat} (hk : k < h) (ht : tstB b (place key b.length k) = false) : hasB h b key = false := by
  cases hb : hasB h b key with
  | false => rfl
  | true =>
    unfold hasB places at hb
    rw [List.all_eq_true] at hb
    have := hb _ (List.mem_map.2 ⟨k, List.mem_range.2 hk, rfl⟩)
    rw [ht] at this; cases this
set_option maxHeartbeats 8000000 in
theorem has_c (bf h c : Nat) (A : Option Addr) (b : List UInt8) (key : ByteArray) (hk : key.size ≤ 9223372036854775807) (w : World) (h0 : Ok0 w) (hz : 0 < b.length) (hz2 : b.length ≤ 1099511627776) (hh : h ≤ 8)
    (hc0 : w.cell? ⟨bf, 0, none⟩ = some (iV (h : Int))) (hc1 : w.cell? ⟨bf, 1, none⟩ = some (.slice A b.length c)) (hr : Rd w 1 A b.length (b.map u8V)) :
    Calls Tryd.prog 15 #[.pointer (some ⟨bf, 0, none⟩), sV key] w fun e w' => e = .returned (bV (hasB h b (toL key))) ∧ Below w.heap.size w w' := by
  have lt0 := World.block_lt_of_cell? w _ hc0
  have hcb0 : ∀ W L, Eng.Sep w W L → W.cell? ⟨bf, 0, none⟩ = some (iV (h : Int)) := fun W L hs => (hs.below.cell lt0).trans hc0
  have hcb1 : ∀ W L, Eng.Sep w W L → W.cell? ⟨bf, 1, none⟩ = some (.slice A b.length c) := fun W L hs => (hs.below.cell (World.block_lt_of_cell? w _ hc1)).trans hc1
  obtain ⟨ad, rfl, _⟩ := hr.ad hz
  have hrd : ∀ W L, Eng.Sep w W L → Rd W 1 (some ad) b.length (b.map u8V) := fun W L hs => hr.below hs.below
  refine enterI (P := Tryd.prog) Tryd.func15 rfl rfl ?_
  have hs := Eng.Sep.init w
  refine ci_rseq ?_
  refine l_box hs rfl ?_
  intro b2 w2 hs hB2 hlt2
  refine l_alloc hs I4 ?_
  intro b4 w4 hs hB4 hlt4
  refine l_nil (nrm_n ?_)
  refine ci_seq ?_
  refine ci_rseq ?_
  refine l_v (by first | exact (r_load_at (i := 0) hs rfl Tryd.underlying25 rfl rfl) | exact (r_load_at (i := 1) hs rfl Tryd.underlying25 rfl rfl) | exact (r_load_at (i := 2) hs rfl Tryd.underlying25 rfl rfl) | exact (r_load_at (i := 3) hs rfl Tryd.underlying25 rfl rfl) | exact (r_load_at (i := 4) hs rfl Tryd.underlying25 rfl rfl) | exact (r_load_at (i := 5) hs rfl Tryd.underlying25 rfl rfl) | exact (r_load_at (i := 6) hs rfl Tryd.underlying25 rfl rfl)) ?_
  refine l_v (by first | exact (r_eqlp_some Tryd.underlying25 rfl rfl) | exact (r_eqlp_none Tryd.underlying25 rfl rfl)) ?_
  refine l_nil (nrm_n ?_)
  refine ci_false rfl (rfl) ?_
  refine ci_skip (nrm_thenI ?_)
  refine ci_seq ?_
  refine ci_rseq ?_
  refine l_v (by first | exact (r_load_at (i := 0) hs rfl Tryd.underlying25 rfl rfl) | exact (r_load_at (i := 1) hs rfl Tryd.underlying25 rfl rfl) | exact (r_load_at (i := 2) hs rfl Tryd.underlying25 rfl rfl) | exact (r_load_at (i := 3) hs rfl Tryd.underlying25 rfl rfl) | exact (r_load_at (i := 4) hs rfl Tryd.underlying25 rfl rfl) | exact (r_load_at (i := 5) hs rfl Tryd.underlying25 rfl rfl) | exact (r_load_at (i := 6) hs rfl Tryd.underlying25 rfl rfl)) ?_
  refine l_v (by first | exact (r_move (v := sV _) rfl) | exact (r_move rfl)) ?_
  refine l_call (r_call Tryd.func18 rfl rfl) ?_
  refine Calls.mono (places_c bf key w _ _ hs) ?_
  rintro e w_ ⟨bp, bk, rfl, hs⟩
  refine ⟨_, rfl, ?_⟩
  have hs : Eng.Sep w w_ (blk bk [sV key] 9 :: blk bp [.pointer (some ⟨bf, 0, none⟩)] 25 :: blk b4 [bV false] 4 :: blk b2 [.pointer (some ⟨bf, 0, none⟩)] 25 :: []) := hs
  refine l_nil (nrm_n ?_)
  refine ci_block ?_
  refine ci_range (w0 := w) (vs := plV (toL key) b.length h) (fun k => [pur (allTo b (toL key) k) (blk bk [sV key] 9), blk bp [.pointer (some ⟨bf, 0, none⟩)] 25, blk b4 [bV false] 4, blk b2 [.pointer (some ⟨bf, 0, none⟩)] 25]) [pur (hasB h b (toL key) = false) (blk bk [sV key] 9), blk bp [.pointer (some ⟨bf, 0, none⟩)] 25, blk b4 [bV false] 4, blk b2 [.pointer (some ⟨bf, 0, none⟩)] 25] 5 rfl Tryd.func33 rfl rfl (hs.inPur (fun j hj => by omega)) ?_ ?_ ?_ ?_ ?_
  · intro W l T Tx hsT hTk
    refine iter_c key hk h b.length bf bp bk (some ad) c T Tx w W l h0 hz hz2 hh (fun k W _ hsk => ?_) hsT
    obtain ⟨M, e⟩ := hTk k
    rw [e] at hsk
    have hp := hsk.pur.2
    exact ⟨(cell_blk hp.get.1).trans rfl, (cell_blk (hsk.at_ 1).1).trans rfl, hcb0 _ _ hsk, hcb1 _ _ hsk⟩
  · intro l v W
    refine ci_region ?_
    refine l_v (by first | exact (r_assign (v := iV _) rfl) | exact (r_assign rfl)) ?_
    refine l_nil (nrm_n ?_)
    exact ⟨rfl, rfl, rfl⟩
  · intro l k v hv W L hs
    obtain ⟨hkh, rfl⟩ := plV_inv hv
    obtain ⟨hall, hs⟩ := Eng.Sep.pur hs
    have hpl := place_lt (toL key) hz k
    have hbn : b[place (toL key) b.length k / 8]? = some (b.getD (place (toL key) b.length k / 8) 0) := by
      rw [List.getD_eq_getElem?_getD, List.getElem?_eq_getElem (by omega)]; rfl
    have hbv : (b.map u8V)[place (toL key) b.length k / 8]? = some (u8V (b.getD (place (toL key) b.length k / 8) 0)) := by rw [List.getElem?_map, hbn]; rfl
    have hcell := (hrd _ _ hs).2.2 hz
    obtain ⟨ad', he, hcell⟩ := hcell
    injection he with he
    subst he
    have hcell := hcell _ _ hbv
    have hcf := hcb1 _ _ hs
    have hdv : (place (toL key) b.length k : Int) / 8 = ((place (toL key) b.length k / 8 : Nat) : Int) := by omega
    have hmv : (place (toL key) b.length k : Int) % 8 = ((place (toL key) b.length k % 8 : Nat) : Int) := by omega
    have htst : tstB b (place (toL key) b.length k) = !decide ((b.getD (place (toL key) b.length k / 8) 0 >>> UInt8.ofNat (place (toL key) b.length k % 8)) &&& 1 = 0) := rfl
    generalize b.getD (place (toL key) b.length k / 8) 0 = c8 at *
    generalize hn : place (toL key) b.length k = n at *
    refine ci_block ?_
    refine ci_rseq ?_
    refine l_v (by first | exact (r_load_at (i := 0) hs rfl Tryd.underlying25 rfl rfl) | exact (r_load_at (i := 1) hs rfl Tryd.underlying25 rfl rfl) | exact (r_load_at (i := 2) hs rfl Tryd.underlying25 rfl rfl) | exact (r_load_at (i := 3) hs rfl Tryd.underlying25 rfl rfl) | exact (r_load_at (i := 4) hs rfl Tryd.underlying25 rfl rfl) | exact (r_load_at (i := 5) hs rfl Tryd.underlying25 rfl rfl) | exact (r_load_at (i := 6) hs rfl Tryd.underlying25 rfl rfl)) ?_
    refine l_v (by first | exact (r_nilCheck_p rfl) | exact (r_nilCheck_f rfl)) ?_
    refine l_v (by first | exact (r_fieldAddr0 (off := 1) (T := 44) (by kernel_rfl) rfl) | exact (r_fieldAddr (off := 1) (T := 44) (by kernel_rfl) rfl)) ?_
    refine l_v (r_load Tryd.underlying44 rfl hcf) ?_
    refine l_v (by first | exact (r_move (v := iV _) rfl) | exact (r_move rfl)) ?_
    refine l_v (r_quoi rfl rfl (by omega) (by decide)) ?_
    rw [hdv]
    refine l_v (r_indexAddr_l1 (k := n / 8) Tryd.underlying44 I5 rfl rfl (by omega)) ?_
    refine l_v (r_load Tryd.underlying5 rfl hcell) ?_
    refine l_v (by first | exact (r_move (v := iV _) rfl) | exact (r_move rfl)) ?_
    refine l_v (r_remi rfl rfl (by omega) (by decide)) ?_
    rw [hmv]
    refine l_v (r_shr8 (b := n % 8) rfl rfl (by omega)) ?_
    refine l_v (r_and8 (b := 1) rfl rfl) ?_
    refine l_v (r_eql8 (b := 0) rfl rfl) ?_
    refine l_nil (nrm_n ?_)
    refine ci_cond rfl (fun h1 => ?_) (fun h1 => ?_)
    · replace h1 := of_decide_eq_true h1
      refine ci_rseq ?_
      first | refine l_store (i := 0) (v := bV _) hs rfl I4 rfl rfl (by first | (simp; done) | (simp; omega) | omega) ?_ | refine l_store (i := 1) (v := bV _) hs rfl I4 rfl rfl (by first | (simp; done) | (simp; omega) | omega) ?_ | refine l_store (i := 2) (v := bV _) hs rfl I4 rfl rfl (by first | (simp; done) | (simp; omega) | omega) ?_ | refine l_store (i := 3) (v := bV _) hs rfl I4 rfl rfl (by first | (simp; done) | (simp; omega) | omega) ?_ | refine l_store (i := 4) (v := bV _) hs rfl I4 rfl rfl (by first | (simp; done) | (simp; omega) | omega) ?_ | refine l_store (i := 5) (v := bV _) hs rfl I4 rfl rfl (by first | (simp; done) | (simp; omega) | omega) ?_ | refine l_store (i := 6) (v := bV _) hs rfl I4 rfl rfl (by first | (simp; done) | (simp; omega) | omega) ?_
      intro w_ hs
      refine l_nil (nrm_n ?_)
      refine ci_ret (ret_blockI ?_)
      show Eng.Sep _ _ _
      have hno : hasB h b (toL key) = false := not_has hkh (by rw [hn, htst, decide_eq_true h1]; rfl)
      exact Eng.Sep.inPur hno hs
    · replace h1 := of_decide_eq_false h1
      refine ci_skip (nrm_blockI ?_)
      have hyes : tstB b n = true := by rw [htst, decide_eq_false h1]; rfl
      show Eng.Sep _ _ _
      refine Eng.Sep.inPur (fun j hj => ?_) hs
      rcases Nat.lt_or_ge j k with hjk | hjk
      · exact hall j hjk
      · have : j = k := by omega
        rw [this, hn]; exact hyes
  · intro D W hs
    have hs := hs.pull 1
    obtain ⟨hall, hs⟩ := Eng.Sep.pur hs
    rw [plV_len] at hall
    have hs : Eng.Sep w W (blk bk [sV key] 9 :: dfr D :: blk bp [.pointer (some ⟨bf, 0, none⟩)] 25 :: blk b4 [bV false] 4 :: blk b2 [.pointer (some ⟨bf, 0, none⟩)] 25 :: []) := hs
    refine (nrm_blockI (nrm_thenI ?_))
    refine ci_rseq ?_
    first | refine l_store (i := 0) (v := bV _) hs rfl I4 rfl rfl (by first | (simp; done) | (simp; omega) | omega) ?_ | refine l_store (i := 1) (v := bV _) hs rfl I4 rfl rfl (by first | (simp; done) | (simp; omega) | omega) ?_ | refine l_store (i := 2) (v := bV _) hs rfl I4 rfl rfl (by first | (simp; done) | (simp; omega) | omega) ?_ | refine l_store (i := 3) (v := bV _) hs rfl I4 rfl rfl (by first | (simp; done) | (simp; omega) | omega) ?_ | refine l_store (i := 4) (v := bV _) hs rfl I4 rfl rfl (by first | (simp; done) | (simp; omega) | omega) ?_ | refine l_store (i := 5) (v := bV _) hs rfl I4 rfl rfl (by first | (simp; done) | (simp; omega) | omega) ?_ | refine l_store (i := 6) (v := bV _) hs rfl I4 rfl rfl (by first | (simp; done) | (simp; omega) | omega) ?_
    intro w_ hs
    refine l_nil (nrm_n ?_)
    refine ci_ret ?_
    show FinI _ _ _ _ _ _
    refine finIs [D] _ (hs.pull 1) (fun w' hs => ?_)
    show Fin _ _ _ _ _
    refine fin1c rfl rfl (run_loadVar_one Tryd.underlying4 rfl ((cell_blk (hs.at_ 2).1).trans rfl)) ?_
    exact ⟨by rw [all_has hall], hs.below⟩
  · intro D W hs
    have hs := hs.pull 1
    obtain ⟨hno, hs⟩ := Eng.Sep.pur hs
    have hs : Eng.Sep w W (blk bk [sV key] 9 :: dfr D :: blk bp [.pointer (some ⟨bf, 0, none⟩)] 25 :: blk b4 [bV false] 4 :: blk b2 [.pointer (some ⟨bf, 0, none⟩)] 25 :: []) := hs
    refine (ret_blockI (ret_thenI ?_))
    show FinI _ _ _ _ _ _
    refine finIs [D] _ (hs.pull 1) (fun w' hs => ?_)
    show Fin _ _ _ _ _
    refine fin1c rfl rfl (run_loadVar_one Tryd.underlying4 rfl ((cell_blk (hs.at_ 2).1).trans rfl)) ?_
    exact ⟨by rw [hno], hs.below⟩
end Go.Proofs.YtbimboibllboeaaDoor.Blm
