/- The walk of Make. -/
import Derived.Test.YtbimboibllboeaaDoorBlmHas
import Derived.Test.YtbimboibllboeaaDoorParts
namespace Go.Proofs.YtbimboibllboeaaDoor.Blm
open Go Go.RowKit Go.Proofs.YtbimboibllboeaaDoor.Eng Go.Proofs.YtbimboibllboeaaDoor.Sha
set_option linter.unusedVariables false
set_option maxRecDepth 100000
abbrev filC (h bb z : Nat) : List Value := [iV (h : Int), .slice (some ⟨bb, 0, none⟩) z z]
theorem built_fil (h : Int) (v : Value) (hv : v.oneCell' = true) : Program.built Tryd.prog 46 [(0, iV h), (1, v)] = some [iV h, v].toArray := by
  refine built_of I46 (places := [(0, 1), (1, 1)]) (by kernel_rfl) (cs := [iV 0, .slice none 0 0]) rfl ?_
  refine fill_step (off := 0) (l := [iV h]) rfl rfl (by simp) ?_
  exact fill_step (off := 1) (l := [v]) rfl (cells_one hv) (by simp) rfl
theorem dropA {w0 w : World} {L : List HP} : ∀ (A : List HP), Eng.Sep w0 w (A ++ L) → Eng.Sep w0 w L
  | [], h => h
  | a :: A, h => dropA A (Eng.Sep.drop h)
set_option maxHeartbeats 16000000 in
theorem make_c (per : Int) (A : Option Addr) (c : Nat) (keys : List ByteArray) (hz : ∀ s ∈ keys, s.size ≤ 9223372036854775807) (w0 w : World) (R : List HP) (h0 : Ok0 w0) (hn : keys.length ≤ 9223372036854775807) (hs : Eng.Sep w0 w R) (hr0 : ∀ w', Eng.Sep w0 w' R → Rd w' 1 A keys.length (keys.map sV)) :
    Calls Tryd.prog 10 #[iV per, .slice A keys.length c] w fun e w' => ∃ q : Option Nat, e = .returned (.tuple #[.pointer (q.map fun b => ⟨b, 0, none⟩), iV (makeE per keys.length)]) ∧ (q = none ↔ makeE per keys.length ≠ 0) ∧ (match q with
      | none => Eng.Sep w0 w' R
      | some bf => ∃ bb, Eng.Sep w0 w' (blk bf (filC (hashN per.toNat) bb (8 * wordsN per.toNat keys.length)) 46 :: blk bb ((makeB (hashN per.toNat) (8 * wordsN per.toNat keys.length) (keys.map toL)).map u8V) 5 :: R)) := by
  unfold makeE
  refine enterI (P := Tryd.prog) Tryd.func10 rfl rfl ?_
  refine ci_rseq ?_
  refine l_v (r_assign (v := .pointer _) rfl) ?_
  refine l_v (by first | exact (r_assign (v := iV _) rfl) | exact (r_assign rfl)) ?_
  refine l_nil (nrm_n ?_)
  refine ci_seq ?_
  refine ci_block ?_
  refine ci_rseq ?_
  refine l_v (by first | exact (r_move (v := iV _) rfl) | exact (r_move rfl)) ?_
  refine l_v (r_lssi rfl rfl) ?_
  by_cases h1 : per < 1
  · have f1 : decide (per < 1) = true := decide_eq_true h1
    rw [if_pos (Or.inl h1)]
    refine l_v (by first | exact (r_move (v := bV _) rfl) | exact (r_move rfl)) ?_
    refine l_no rfl (f1) ?_
    refine l_no rfl (f1) ?_
    refine l_v (r_pick_t rfl f1 rfl) ?_
    refine l_v (by first | exact (r_assign (v := bV _) rfl) | exact (r_assign rfl)) ?_
    refine l_nil (nrm_n ?_)
    refine ci_true rfl (rfl) ?_
    refine ci_rseq ?_
    refine l_v (r_assign (v := .pointer _) rfl) ?_
    refine l_v (by first | exact (r_assign (v := iV _) rfl) | exact (r_assign rfl)) ?_
    refine l_nil (nrm_n ?_)
    refine ci_ret (ret_blockI (ret_thenI ?_))
    show FinI _ _ _ _ _ _
    refine finI0 ?_
    show Fin _ _ _ _ _
    refine fin2 rfl ?_
    exact ⟨none, rfl, ⟨fun _ => by decide, fun _ => rfl⟩, hs⟩
  · have f1 : decide (per < 1) = false := decide_eq_false h1
    refine l_v (by first | exact (r_move (v := bV _) rfl) | exact (r_move rfl)) ?_
    refine l_vg (by first | exact (r_move (v := iV _) rfl) | exact (r_move rfl)) rfl (f1) ?_
    refine l_vg (r_gtri rfl rfl) rfl (f1) ?_
    refine l_v (r_pick_f rfl f1 rfl) ?_
    refine l_v (by first | exact (r_assign (v := bV _) rfl) | exact (r_assign rfl)) ?_
    refine l_nil (nrm_n ?_)
    refine ci_cond rfl (fun h2 => ?_) (fun h2 => ?_)
    · replace h2 := of_decide_eq_true h2
      refine ci_rseq ?_
      refine l_v (r_assign (v := .pointer _) rfl) ?_
      refine l_v (by first | exact (r_assign (v := iV _) rfl) | exact (r_assign rfl)) ?_
      refine l_nil (nrm_n ?_)
      rw [if_pos (Or.inr h2)]
      refine ci_ret (ret_blockI (ret_thenI ?_))
      show FinI _ _ _ _ _ _
      refine finI0 ?_
      show Fin _ _ _ _ _
      refine fin2 rfl ?_
      exact ⟨none, rfl, ⟨fun _ => by decide, fun _ => rfl⟩, hs⟩
    · rw [if_neg (fun h => h.elim h1 (of_decide_eq_false h2))]
      replace h2 := of_decide_eq_false h2
      refine ci_rseq ?_
      refine l_v (by first | exact (r_move (v := .slice _ _ _) rfl) | exact (r_move rfl)) ?_
      refine l_v (r_len_l Tryd.underlying22 rfl) ?_
      refine l_v (r_gtri rfl rfl) ?_
      refine l_v (by first | exact (r_assign (v := bV _) rfl) | exact (r_assign rfl)) ?_
      refine l_nil (nrm_n ?_)
      refine ci_cond rfl (fun h3 => ?_) (fun h3 => ?_)
      · replace h3 := of_decide_eq_true h3
        refine ci_rseq ?_
        refine l_v (r_assign (v := .pointer _) rfl) ?_
        refine l_v (by first | exact (r_assign (v := iV _) rfl) | exact (r_assign rfl)) ?_
        refine l_nil (nrm_n ?_)
        rw [if_pos (by omega)]
        refine ci_ret (ret_blockI (ret_thenI ?_))
        show FinI _ _ _ _ _ _
        refine finI0 ?_
        show Fin _ _ _ _ _
        refine fin2 rfl ?_
        exact ⟨none, rfl, ⟨fun _ => by decide, fun _ => rfl⟩, hs⟩
      · obtain ⟨p, rfl⟩ : ∃ p : Nat, per = (p : Int) := ⟨per.toNat, by omega⟩
        have hp1 : 1 ≤ p ∧ p ≤ 32 := by omega
        have hn6 : keys.length ≤ 65536 := by have := of_decide_eq_false h3; omega
        have hnp : keys.length * p ≤ 65536 * 32 := Nat.mul_le_mul hn6 hp1.2
        have enp : (keys.length : Int) * (p : Int) = ((keys.length * p : Nat) : Int) := by rw [Int.natCast_mul]
        have hW : (if (((keys.length * p : Nat) : Int) + 63) / 64 > 1 then (((keys.length * p : Nat) : Int) + 63) / 64 else 1) = ((wordsN p keys.length : Nat) : Int) := by
          unfold wordsN; split <;> omega
        have hH : (if (8 : Int) < (if (p : Int) * 7 / 10 > 1 then (p : Int) * 7 / 10 else 1) then 8 else (if (p : Int) * 7 / 10 > 1 then (p : Int) * 7 / 10 else 1)) = ((hashN p : Nat) : Int) := by
          unfold hashN; split <;> split <;> omega
        have hwn : 1 ≤ wordsN p keys.length ∧ wordsN p keys.length ≤ 65536 := by unfold wordsN; omega
        have hhn : hashN p ≤ 8 := by unfold hashN; omega
        rw [Int.toNat_natCast]
        generalize wordsN p keys.length = zz at *
        generalize hashN p = hh at *
        rw [if_neg (by omega)]
        replace h3 := of_decide_eq_false h3
        refine ci_skip (nrm_blockI (nrm_thenI ?_))
        refine ci_rseq ?_
        refine l_v (by first | exact (r_move (v := .slice _ _ _) rfl) | exact (r_move rfl)) ?_
        refine l_v (r_len_l Tryd.underlying22 rfl) ?_
        refine l_v (by first | exact (r_move (v := iV _) rfl) | exact (r_move rfl)) ?_
        refine l_v (r_muli rfl rfl (by omega)) ?_
        rw [enp]
        refine l_v (r_addi rfl rfl (by omega)) ?_
        refine l_v (r_quoi rfl rfl (by omega) (by decide)) ?_
        refine l_v (r_max rfl rfl) ?_
        rw [hW]
        refine l_v (by first | exact (r_assign (v := iV _) rfl) | exact (r_assign rfl)) ?_
        refine l_nil (nrm_n ?_)
        refine ci_rseq ?_
        refine l_v (by first | exact (r_move (v := iV _) rfl) | exact (r_move rfl)) ?_
        refine l_v (r_muli rfl rfl (by omega)) ?_
        refine l_v (r_quoi rfl rfl (by omega) (by decide)) ?_
        refine l_v (r_max rfl rfl) ?_
        refine l_v (r_min rfl rfl) ?_
        rw [hH]
        refine l_v (by first | exact (r_move (v := iV _) rfl) | exact (r_move rfl)) ?_
        refine l_v (r_muli rfl rfl (by omega)) ?_
        have e8 : (8 : Int) * (zz : Int) = ((8 * zz : Nat) : Int) := by omega
        rw [e8]
        refine l_make (l := 8 * zz) (c := 8 * zz) hs Tryd.underlying44 I5 rfl rfl (Nat.le_refl _) (by omega) (by omega) ?_
        intro b36 w36 hs hB36 hlt36
        refine l_v (r_build (l := [(0, iV (hh : Int)), (1, .slice (some ⟨b36, 0, none⟩) (8 * zz) (8 * zz))]) rfl (built_fil (hh : Int) _ rfl)) ?_
        refine l_box hs rfl ?_
        intro b38 w38 hs hB38 hlt38
        refine l_alloc hs I25 ?_
        intro b7 w7 hs hB7 hlt7
        first | refine l_store (i := 0) (v := .pointer _) hs rfl I25 rfl rfl (by first | (simp; done) | (simp; omega) | omega) ?_ | refine l_store (i := 1) (v := .pointer _) hs rfl I25 rfl rfl (by first | (simp; done) | (simp; omega) | omega) ?_ | refine l_store (i := 2) (v := .pointer _) hs rfl I25 rfl rfl (by first | (simp; done) | (simp; omega) | omega) ?_ | refine l_store (i := 3) (v := .pointer _) hs rfl I25 rfl rfl (by first | (simp; done) | (simp; omega) | omega) ?_ | refine l_store (i := 4) (v := .pointer _) hs rfl I25 rfl rfl (by first | (simp; done) | (simp; omega) | omega) ?_ | refine l_store (i := 5) (v := .pointer _) hs rfl I25 rfl rfl (by first | (simp; done) | (simp; omega) | omega) ?_ | refine l_store (i := 6) (v := .pointer _) hs rfl I25 rfl rfl (by first | (simp; done) | (simp; omega) | omega) ?_
        intro w_ hs
        refine l_nil (nrm_n ?_)
        refine ci_seq ?_
        refine ci_rseq ?_
        refine l_v (by first | exact (r_move (v := .slice _ _ _) rfl) | exact (r_move rfl)) ?_
        refine l_v (r_len_l Tryd.underlying22 rfl) ?_
        refine l_v (by first | exact (r_move (v := iV _) rfl) | exact (r_move rfl)) ?_
        refine l_nil (nrm_n ?_)
        refine ci_block ?_
        have hz0 : (madeCells (Value.int .u8 0).cells (8 * zz * 1)).toList = (makeK hh (8 * zz) (keys.map toL) 0).map u8V := by
          rw [makeK_zero, Nat.mul_one, List.map_replicate]
          exact toList_madeCells_one _ _
        have hs : Eng.Sep w0 w_ (blk b7 [.pointer (some ⟨b38, 0, none⟩)] 25 :: blk b38 (filC hh b36 (8 * zz)) 46 :: blk b36 ((makeK hh (8 * zz) (keys.map toL) 0).map u8V) 5 :: (([] : List Nat).map dfr ++ R)) := by
          rw [← hz0]; exact hs
        refine ci_loopn [4, 5, 7, 39, 40, 48] (fun m ds f' w' => ∃ (i : Nat) (Ds : List Nat), i + m = keys.length ∧ ds = Ds.map markOf ∧ f' 41 = iV (i : Int) ∧ Eng.Sep w0 w' (blk b7 [.pointer (some ⟨b38, 0, none⟩)] 25 :: blk b38 (filC hh b36 (8 * zz)) 46 :: blk b36 ((makeK hh (8 * zz) (keys.map toL) i).map u8V) 5 :: (Ds.map dfr ++ R))) ?_ ?_
        · exact ⟨keys.length, 0, [], by omega, rfl, rfl, hs⟩
        · rintro m ds g w_ ⟨i, Ds, hi, hds, h41, hs⟩
          subst hds
          refine OkI.env ?_ (fixH (L := [(41, _)]) ⟨h41, trivial⟩)
          clear h41
          refine ci_rseq ?_
          refine l_v (r_lssi rfl rfl) ?_
          refine l_nil (nrm_n ?_)
          refine ci_seq ?_
          refine ci_cond rfl (fun h4 => ?_) (fun h4 => ?_)
          · have hil : i < keys.length := by have := of_decide_eq_true h4; omega
            obtain ⟨s, hsi⟩ : ∃ s, keys[i]? = some s := ⟨keys[i], List.getElem?_eq_getElem hil⟩
            have hsm := List.mem_of_getElem? hsi
            have hmk := makeK_next hh (8 * zz) (keys := keys.map toL) (i := i) (key := toL s) (by rw [List.getElem?_map, hsi]; rfl)
            have hBl : (makeK hh (8 * zz) (keys.map toL) i).length = 8 * zz := makeB_len _ _ _
            have hrk := hr0 _ (dropA _ hs.drop.drop.drop)
            obtain ⟨ad, rfl, _⟩ := hrk.ad (by omega)
            have hcell := (hrk.2.2 (by omega))
            obtain ⟨ad', he, hcell⟩ := hcell
            injection he with he
            subst he
            have hcell := hcell i (sV s) (by rw [List.getElem?_map, hsi]; rfl)
            generalize makeK hh (8 * zz) (keys.map toL) i = B at *
            replace h4 := of_decide_eq_true h4
            refine ci_skip (nrm_thenI ?_)
            refine ci_seq ?_
            refine ci_block ?_
            refine ci_rseq ?_
            refine l_v (r_indexAddr_l1 (k := i) Tryd.underlying22 I9 rfl rfl hil) ?_
            refine l_v (r_load Tryd.underlying9 rfl hcell) ?_
            refine l_v (by first | exact (r_assign (v := sV _) rfl) | exact (r_assign rfl)) ?_
            refine l_nil (nrm_n ?_)
            refine ci_rseq ?_
            refine l_v (by first | exact (r_load_at (i := 0) hs rfl Tryd.underlying25 rfl rfl) | exact (r_load_at (i := 1) hs rfl Tryd.underlying25 rfl rfl) | exact (r_load_at (i := 2) hs rfl Tryd.underlying25 rfl rfl) | exact (r_load_at (i := 3) hs rfl Tryd.underlying25 rfl rfl) | exact (r_load_at (i := 4) hs rfl Tryd.underlying25 rfl rfl) | exact (r_load_at (i := 5) hs rfl Tryd.underlying25 rfl rfl) | exact (r_load_at (i := 6) hs rfl Tryd.underlying25 rfl rfl)) ?_
            refine l_v (by first | exact (r_move (v := sV _) rfl) | exact (r_move rfl)) ?_
            refine l_call (r_call Tryd.func18 rfl rfl) ?_
            refine Calls.mono (places_c b38 s w0 _ _ hs) ?_
            rintro e w_ ⟨bp, bk, rfl, hs⟩
            refine ⟨_, rfl, ?_⟩
            refine l_nil (nrm_n ?_)
            refine ci_block ?_
            have hs : Eng.Sep w0 w_ (blk b36 (B.map u8V) 5 :: blk bk [sV s] 9 :: blk bp [.pointer (some ⟨b38, 0, none⟩)] 25 :: blk b7 [.pointer (some ⟨b38, 0, none⟩)] 25 :: blk b38 (filC hh b36 (8 * zz)) 46 :: (Ds.map dfr ++ R)) := ((hs.pull 4))
            refine ci_range (w0 := w0) (vs := plV (toL s) (8 * zz) hh) (fun k => blk b36 ((putK B (toL s) (8 * zz) hh k).map u8V) 5 :: blk bk [sV s] 9 :: blk bp [.pointer (some ⟨b38, 0, none⟩)] 25 :: blk b7 [.pointer (some ⟨b38, 0, none⟩)] 25 :: blk b38 (filC hh b36 (8 * zz)) 46 :: (Ds.map dfr ++ R)) [pur False (blk b36 [] 5)] 10 rfl Tryd.func33 rfl rfl hs ?_ ?_ ?_ ?_ ?_
            · intro W l T Tx hsT hTk
              refine iter_c s (hz s hsm) hh (8 * zz) b38 bp bk (some ⟨b36, 0, none⟩) (8 * zz) T Tx w0 W l h0 (by omega) (by omega) hhn (fun k W _ hsk => ?_) hsT
              obtain ⟨M, e⟩ := hTk k
              rw [e] at hsk
              exact ⟨(cell_blk (hsk.at_ 1).1).trans rfl, (cell_blk (hsk.at_ 2).1).trans rfl, (cell_blk (hsk.at_ 4).1).trans rfl, (cell_blk (hsk.at_ 4).1).trans rfl⟩
            · intro l v W
              refine ci_region ?_
              refine l_v (by first | exact (r_assign (v := iV _) rfl) | exact (r_assign rfl)) ?_
              refine l_nil (nrm_n ?_)
              exact ⟨rfl, rfl, rfl⟩
            · intro l k v hv W L hs
              obtain ⟨hkh, rfl⟩ := plV_inv hv
              have hnx := putK_next B (toL s) (8 * zz) hkh
              have hpl := place_lt (toL s) (show 0 < 8 * zz by omega) k
              have hPl : (putK B (toL s) (8 * zz) hh k).length = 8 * zz := (putK_len ..).trans hBl
              generalize hn9 : place (toL s) (8 * zz) k = n at *
              have hdv : (n : Int) / 8 = ((n / 8 : Nat) : Int) := by omega
              have hmv : (n : Int) % 8 = ((n % 8 : Nat) : Int) := by omega
              have hbv : ((putK B (toL s) (8 * zz) hh k).map u8V)[n / 8]? = some (u8V ((putK B (toL s) (8 * zz) hh k).getD (n / 8) 0)) := by
                rw [List.getElem?_map, List.getD_eq_getElem?_getD, List.getElem?_eq_getElem (by omega)]; rfl
              have hs : Eng.Sep w0 W (blk b36 ((putK B (toL s) (8 * zz) hh k).map u8V) 5 :: (blk bk [sV s] 9 :: blk bp [.pointer (some ⟨b38, 0, none⟩)] 25 :: blk b7 [.pointer (some ⟨b38, 0, none⟩)] 25 :: blk b38 (filC hh b36 (8 * zz)) 46 :: (Ds.map dfr ++ R)) ++ L) := hs
              refine ci_block ?_
              have hs := hs.drew
              refine ci_floatG (fun w' => Eng.Sep w0 w' (blk b36 ((putK B (toL s) (8 * zz) hh k).map u8V) 5 :: (blk bk [sV s] 9 :: blk bp [.pointer (some ⟨b38, 0, none⟩)] 25 :: blk b7 [.pointer (some ⟨b38, 0, none⟩)] 25 :: blk b38 (filC hh b36 (8 * zz)) 46 :: (Ds.map dfr ++ R)) ++ L)) [] 11 (by kernel_rfl) (by kernel_rfl) (by kernel_rfl) (hs) ?_
              show OkG _ _ _ _ _ _ (_ :: _) 0 _ _
              refine g_v (fun wl hbl => by have hs := hbl; first | exact (r_load_at (i := 0) hs rfl Tryd.underlying25 rfl rfl) | exact (r_load_at (i := 1) hs rfl Tryd.underlying25 rfl rfl) | exact (r_load_at (i := 2) hs rfl Tryd.underlying25 rfl rfl) | exact (r_load_at (i := 3) hs rfl Tryd.underlying25 rfl rfl) | exact (r_load_at (i := 4) hs rfl Tryd.underlying25 rfl rfl) | exact (r_load_at (i := 5) hs rfl Tryd.underlying25 rfl rfl) | exact (r_load_at (i := 6) hs rfl Tryd.underlying25 rfl rfl)) ?_
              refine g_v (fun wl hbl => by have hs := hbl; first | exact (r_nilCheck_p rfl) | exact (r_nilCheck_f rfl)) ?_
              refine g_v (fun wl hbl => by have hs := hbl; first | exact (r_fieldAddr0 (off := 1) (T := 44) (by kernel_rfl) rfl) | exact (r_fieldAddr (off := 1) (T := 44) (by kernel_rfl) rfl)) ?_
              refine g_v (fun wl hbl => by have hs := hbl; first | exact (r_load_at (i := 0) hs rfl Tryd.underlying44 rfl rfl) | exact (r_load_at (i := 1) hs rfl Tryd.underlying44 rfl rfl) | exact (r_load_at (i := 2) hs rfl Tryd.underlying44 rfl rfl) | exact (r_load_at (i := 3) hs rfl Tryd.underlying44 rfl rfl) | exact (r_load_at (i := 4) hs rfl Tryd.underlying44 rfl rfl) | exact (r_load_at (i := 5) hs rfl Tryd.underlying44 rfl rfl) | exact (r_load_at (i := 6) hs rfl Tryd.underlying44 rfl rfl)) ?_
              refine g_v (fun wl hbl => by have hs := hbl; first | exact (r_move (v := iV _) rfl) | exact (r_move rfl)) ?_
              refine g_v (fun wl hbl => by have hs := hbl; exact (r_quoi rfl rfl (by omega) (by decide))) ?_
              refine g_v (fun wl hbl => by have hs := hbl; exact (r_indexAddr_o1 (k := n / 8) Tryd.underlying44 I5 rfl (congrArg iV hdv) (by omega))) ?_
              refine g_v (fun wl hbl => by have hs := hbl; exact (r_load_at (i := 0) hs rfl Tryd.underlying5 rfl hbv)) ?_
              refine g_v (fun wl hbl => by have hs := hbl; first | exact (r_move (v := iV _) rfl) | exact (r_move rfl)) ?_
              refine g_v (fun wl hbl => by have hs := hbl; exact (r_remi rfl rfl (by omega) (by decide))) ?_
              refine g_v (fun wl hbl => by have hs := hbl; exact (r_shl8 (a := 1) (b := n % 8) rfl (congrArg iV hmv) (by omega))) ?_
              refine g_nil ?_
              show OkIL _ _ _ _ _ (_ :: _) _ _ _
              refine il_of (by kernel_rfl) ?_
              show OkL _ _ _ _ (_ :: _) _ _
              refine l_v (r_or8 rfl rfl) ?_
              refine l_v (r_indexAddr_o1 (k := n / 8) Tryd.underlying44 I5 rfl (congrArg iV hdv) (by omega)) ?_
              refine l_store (i := 0) hs rfl I5 rfl rfl (by rw [List.length_map]; omega) ?_
              intro w8 hs
              refine l_nil (nrm_n (nrm_blockI ?_))
              show Eng.Sep _ _ _
              show Eng.Sep w0 w8 ((blk b36 ((putK B (toL s) (8 * zz) hh (k + 1)).map u8V) 5 :: (blk bk [sV s] 9 :: blk bp [.pointer (some ⟨b38, 0, none⟩)] 25 :: blk b7 [.pointer (some ⟨b38, 0, none⟩)] 25 :: blk b38 (filC hh b36 (8 * zz)) 46 :: (Ds.map dfr ++ R))) ++ L)
              rw [hnx]
              have e9 := set_u8 (putK B (toL s) (8 * zz) hh k) (n / 8) ((putK B (toL s) (8 * zz) hh k).getD (n / 8) 0 ||| (1 <<< UInt8.ofNat (n % 8)))
              unfold putB
              rw [← e9]
              exact hs
            · intro D W hs
              rw [plV_len, putK_all, ← hmk] at hs
              have hs : Eng.Sep w0 W (dfr D :: blk b36 ((makeK hh (8 * zz) (keys.map toL) (i + 1)).map u8V) 5 :: blk bk [sV s] 9 :: blk bp [.pointer (some ⟨b38, 0, none⟩)] 25 :: blk b7 [.pointer (some ⟨b38, 0, none⟩)] 25 :: blk b38 (filC hh b36 (8 * zz)) 46 :: (Ds.map dfr ++ R)) := hs
              refine (nrm_blockI (nrm_blockI (nrm_thenI ?_)))
              refine ci_region ?_
              refine l_v (r_addi rfl rfl (by omega)) ?_
              refine l_v (by first | exact (r_move (v := iV _) rfl) | exact (r_move rfl)) ?_
              refine l_nil (nrm_n (nrm_thenI ?_))
              refine And.intro (by refine ⟨?_, ?_, ?_, ?_, ?_, ?_, trivial⟩ <;> ((conv => lhs; whnf); (try conv => rhs; whnf))) ?_
              refine ⟨keys.length - (i + 1), by omega, i + 1, D :: Ds, by omega, rfl, rfl, ?_⟩
              have h := (hs.pull 2).drop
              have h := (h.pull 2).drop
              exact (((h.pull 1).pull 3).pull 3)
            · intro D W hs
              exact (Eng.Sep.pur hs.drop).1.elim
          · obtain rfl : i = keys.length := by have := of_decide_eq_false h4; omega
            replace h4 := of_decide_eq_false h4
            refine ci_exit (ex_thenI (ex_thenI (ex_hitI (nrm_thenI ?_))))
            refine ci_rseq ?_
            refine l_v (by first | exact (r_load_at (i := 0) hs rfl Tryd.underlying25 rfl rfl) | exact (r_load_at (i := 1) hs rfl Tryd.underlying25 rfl rfl) | exact (r_load_at (i := 2) hs rfl Tryd.underlying25 rfl rfl) | exact (r_load_at (i := 3) hs rfl Tryd.underlying25 rfl rfl) | exact (r_load_at (i := 4) hs rfl Tryd.underlying25 rfl rfl) | exact (r_load_at (i := 5) hs rfl Tryd.underlying25 rfl rfl) | exact (r_load_at (i := 6) hs rfl Tryd.underlying25 rfl rfl)) ?_
            refine l_v (r_assign (v := .pointer _) rfl) ?_
            refine l_v (by first | exact (r_assign (v := iV _) rfl) | exact (r_assign rfl)) ?_
            refine l_nil (nrm_n ?_)
            refine ci_ret ?_
            show FinI _ _ _ _ _ _
            refine finIs Ds _ (hs.perm (List.perm_append_comm_assoc [_, _, _] _ _)) (fun w' hs => ?_)
            show Fin _ _ _ _ _
            refine fin2 rfl ?_
            refine ⟨some b38, rfl, ⟨fun h => (by cases h), fun h => absurd rfl h⟩, b36, ?_⟩
            have hs : Eng.Sep w0 w' (blk b7 [.pointer (some ⟨b38, 0, none⟩)] 25 :: blk b38 (filC hh b36 (8 * zz)) 46 :: blk b36 ((makeK hh (8 * zz) (keys.map toL) keys.length).map u8V) 5 :: R) := hs
            have e : makeK hh (8 * zz) (keys.map toL) keys.length = makeB hh (8 * zz) (keys.map toL) := by
              unfold makeK
              rw [List.take_of_length_le (by rw [List.length_map]; omega)]
            rw [e] at hs
            exact hs.drop
end Go.Proofs.YtbimboibllboeaaDoor.Blm
