/- The walk of Make, with its closure. -/
import Derived.Test.YtmeikcifobfolaaDelMkFn
import Derived.Test.YtmeikcifobfolaaDelPatch
namespace Go.Proofs.Ytmeikcifobfolaa.Del
open Go Go.RowKit Go.Proofs.Ytmeikcifobfolaa.Eng Go.Proofs.Ytmeikcifobfolaa.Six
set_option linter.unusedVariables false
set_option maxRecDepth 100000
theorem rd_mid {w : World} {A : Option Addr} {n c l h : Nat} {bs : List UInt8} (hr : Rd w 1 A n (bs.map u8V)) (hlh : l ≤ h) (hn : h ≤ n) (hc : n ≤ c) : Rd w 1 (if c = l then A else A.map (·.add l)) (h - l) (((bs.drop l).take (h - l)).map u8V) := by
  have := rd_sub hr hlh hn hc
  rwa [← List.map_drop, ← List.map_take] at this
set_option maxHeartbeats 4000000 in
theorem insert_c (e bg : Nat) (A : Option Addr) (c : Nat) (ts : List UInt8) (hts : ts.length ≤ 4096) (hcap : ts.length ≤ c) (he : e ≤ ts.length) (hbe : bg ≤ e) (bw b8 b9 b3 : Nat) (l : List UInt8) (hl : l.length ≤ 16777216) (w0 w : World) (R : List HP) (hr : Rd w 1 A ts.length (ts.map u8V)) (hr0 : Rd w0 1 A ts.length (ts.map u8V))
    (hs : Eng.Sep w0 w (wtr bw l :: blk b8 [at_ bw] 50 :: blk b9 [iV (bg : Int)] 3 :: blk b3 [.slice A ts.length c] 22 :: R)) :
    Calls Try.prog 20 #[iV (e : Int), at_ b9, at_ b8, at_ b3] w fun e_ w' => (∃ v, e_ = .returned v) ∧ Eng.Sep w0 w' (wtr bw (l ++ (insL ((ts.drop bg).take (e - bg))).flatMap pbytes) :: blk b8 [at_ bw] 50 :: blk b9 [iV (bg : Int)] 3 :: blk b3 [.slice A ts.length c] 22 :: R) := by
  have hml := mid_len ts hbe he
  rw [insL_bytes]
  refine enter (P := Try.prog) Try.func20 rfl rfl ?_
  refine c_rseq ?_
  refine l_v (by first | exact (r_load_at (i := 0) hs rfl Try.underlying3 rfl rfl) | exact (r_load_at (i := 1) hs rfl Try.underlying3 rfl rfl) | exact (r_load_at (i := 2) hs rfl Try.underlying3 rfl rfl) | exact (r_load_at (i := 3) hs rfl Try.underlying3 rfl rfl) | exact (r_load_at (i := 4) hs rfl Try.underlying3 rfl rfl) | exact (r_load_at (i := 5) hs rfl Try.underlying3 rfl rfl) | exact (r_load_at (i := 6) hs rfl Try.underlying3 rfl rfl)) ?_
  refine l_v (by first | exact (r_move (v := iV _) rfl) | exact (r_move rfl)) ?_
  refine l_v (r_lssi rfl rfl) ?_
  refine l_nil (nrm_then ?_)
  refine c_cond rfl (fun h1 => ?_) (fun h1 => ?_)
  · have hne : ¬ (ts.drop bg).take (e - bg) = [] := fun h => by
      have h1' := of_decide_eq_true h1
      have := congrArg List.length h
      rw [hml] at this
      simp only [List.length_nil] at this
      omega
    rw [if_neg hne, hml]
    replace h1 := of_decide_eq_true h1
    refine c_rseq ?_
    refine l_v (by first | exact (r_load_at (i := 0) hs rfl Try.underlying50 rfl rfl) | exact (r_load_at (i := 1) hs rfl Try.underlying50 rfl rfl) | exact (r_load_at (i := 2) hs rfl Try.underlying50 rfl rfl) | exact (r_load_at (i := 3) hs rfl Try.underlying50 rfl rfl) | exact (r_load_at (i := 4) hs rfl Try.underlying50 rfl rfl) | exact (r_load_at (i := 5) hs rfl Try.underlying50 rfl rfl) | exact (r_load_at (i := 6) hs rfl Try.underlying50 rfl rfl)) ?_
    refine l_v (by first | exact (r_move (v := iV _) rfl) | exact (r_move rfl)) ?_
    refine l_v (by first | exact (r_load_at (i := 0) hs rfl Try.underlying3 rfl rfl) | exact (r_load_at (i := 1) hs rfl Try.underlying3 rfl rfl) | exact (r_load_at (i := 2) hs rfl Try.underlying3 rfl rfl) | exact (r_load_at (i := 3) hs rfl Try.underlying3 rfl rfl) | exact (r_load_at (i := 4) hs rfl Try.underlying3 rfl rfl) | exact (r_load_at (i := 5) hs rfl Try.underlying3 rfl rfl) | exact (r_load_at (i := 6) hs rfl Try.underlying3 rfl rfl)) ?_
    refine l_v (r_subi rfl rfl (by omega)) ?_
    refine l_v (r_muli rfl rfl (by omega)) ?_
    have e12 : (2 : Int) * ((e : Int) - (bg : Int)) = ((2 * (e - bg) : Nat) : Int) := by omega
    rw [e12]
    refine l_call (r_call Try.func19 rfl rfl) ?_
    refine Calls.mono (wcount_c ((2 * (e - bg) : Nat) : Int) (by omega) l (by omega) bw w0 _ _ hs) ?_
    rintro e w_ ⟨rfl, hs⟩
    refine ⟨_, rfl, ?_⟩
    rw [if_neg (by omega), Int.toNat_natCast] at hs
    have hel := enc_short 64 (2 * (e - bg)) 2 (by omega)
    refine l_nil (nrm_then ?_)
    refine c_float [] 6 (by kernel_rfl) (by kernel_rfl) ?_
    intro hbF
    show OkF _ _ _ _ _ _ (_ :: _) 0 _ _
    refine f_v (fun wl hbl => by have hs := hs.below_ hbl; first | exact (r_load_at (i := 0) hs rfl Try.underlying50 rfl rfl) | exact (r_load_at (i := 1) hs rfl Try.underlying50 rfl rfl) | exact (r_load_at (i := 2) hs rfl Try.underlying50 rfl rfl) | exact (r_load_at (i := 3) hs rfl Try.underlying50 rfl rfl) | exact (r_load_at (i := 4) hs rfl Try.underlying50 rfl rfl) | exact (r_load_at (i := 5) hs rfl Try.underlying50 rfl rfl) | exact (r_load_at (i := 6) hs rfl Try.underlying50 rfl rfl)) ?_
    refine f_v (fun wl hbl => by have hs := hs.below_ hbl; first | exact (r_load_at (i := 0) hs rfl Try.underlying22 rfl rfl) | exact (r_load_at (i := 1) hs rfl Try.underlying22 rfl rfl) | exact (r_load_at (i := 2) hs rfl Try.underlying22 rfl rfl) | exact (r_load_at (i := 3) hs rfl Try.underlying22 rfl rfl) | exact (r_load_at (i := 4) hs rfl Try.underlying22 rfl rfl) | exact (r_load_at (i := 5) hs rfl Try.underlying22 rfl rfl) | exact (r_load_at (i := 6) hs rfl Try.underlying22 rfl rfl)) ?_
    refine f_v (fun wl hbl => by have hs := hs.below_ hbl; first | exact (r_load_at (i := 0) hs rfl Try.underlying3 rfl rfl) | exact (r_load_at (i := 1) hs rfl Try.underlying3 rfl rfl) | exact (r_load_at (i := 2) hs rfl Try.underlying3 rfl rfl) | exact (r_load_at (i := 3) hs rfl Try.underlying3 rfl rfl) | exact (r_load_at (i := 4) hs rfl Try.underlying3 rfl rfl) | exact (r_load_at (i := 5) hs rfl Try.underlying3 rfl rfl) | exact (r_load_at (i := 6) hs rfl Try.underlying3 rfl rfl)) ?_
    refine f_v (fun wl hbl => by have hs := hs.below_ hbl; first | exact (r_move (v := iV _) rfl) | exact (r_move rfl)) ?_
    refine f_v (fun wl hbl => by have hs := hs.below_ hbl; exact (r_slice_plh bg e Try.underlying22 I5 rfl rfl rfl (by omega))) ?_
    refine f_v (fun wl hbl => by have hs := hs.below_ hbl; exact (r_cv_bs (l := (ts.drop bg).take (e - bg)) Try.underlying22 Try.underlying5 Try.underlying9 rfl (rd_mid (hr0.below hs.below) hbe he hcap))) ?_
    refine f_nil ?_
    have hs := hs.below_ hbF
    show OkL _ _ _ _ (_ :: _) _ _
    have elen : (l ++ enc 64 (2 * (e - bg))).length + (ofL ((ts.drop bg).take (e - bg))).size ≤ 140737488355328 := by
      rw [List.length_append]; show _ + ((ts.drop bg).take (e - bg)).length ≤ _; omega
    refine l_call (r_call Try.func21 rfl rfl) ?_
    refine Calls.mono (wraw_c (ofL ((ts.drop bg).take (e - bg))) _ elen bw w0 _ _ hs) ?_
    rintro e w_ ⟨rfl, hs⟩
    refine ⟨_, rfl, ?_⟩
    rw [Eng.toL_ofL, List.append_assoc] at hs
    refine l_nil ?_
    show Fin _ _ _ _ _
    refine fin0 rfl ?_
    exact ⟨⟨_, rfl⟩, hs⟩
  · have hnil : (ts.drop bg).take (e - bg) = [] := by
      have h1' := of_decide_eq_false h1
      rw [show e - bg = 0 by omega, List.take_zero]
    rw [if_pos hnil, List.append_nil]
    replace h1 := of_decide_eq_false h1
    refine c_skip ?_
    show Fin _ _ _ _ _
    refine fin0 rfl ?_
    exact ⟨⟨_, rfl⟩, hs⟩
section
variable {P : Program} {ρ : Operand → Value} {w : World} {dst : Option Tmp} {ty : TypeId} {pos : String} {aft : Array Edge} {g : Option (Nat × Bool)}
theorem r_min_l {x y : Operand} {tt : Array TypeId} {a b : Int} (hx : ρ x = iV a) (hy : ρ y = iV b) (h : a ≤ b) : Run P ρ ⟨dst, .call { callee := .builtin .min, args := #[x, y], argTypes := tt }, ty, pos, aft, g⟩ w (iV a) w := by
  have h2 := r_min (P := P) (w := w) (dst := dst) (ty := ty) (pos := pos) (aft := aft) (g := g) (ts := tt) hx hy
  rwa [if_neg (by omega)] at h2
theorem r_min_r {x y : Operand} {tt : Array TypeId} {a b : Int} (hx : ρ x = iV a) (hy : ρ y = iV b) (h : b < a) : Run P ρ ⟨dst, .call { callee := .builtin .min, args := #[x, y], argTypes := tt }, ty, pos, aft, g⟩ w (iV b) w := by
  have h2 := r_min (P := P) (w := w) (dst := dst) (ty := ty) (pos := pos) (aft := aft) (g := g) (ts := tt) hx hy
  rwa [if_pos h] at h2
end
theorem patch_app (n : Nat) (ps qs : List Pc) : patch n (ps ++ qs) = patch n ps ++ qs.flatMap pbytes := by unfold patch; rw [List.flatMap_append, List.append_assoc]
def made (bs ts : List UInt8) (ps : List Pc) : Prop :=
  (∀ p ∈ ps, pgood bs p) ∧ ps.flatMap (pmade bs) = ts ∧ (patch ts.length ps).length ≤ ts.length + 8 ∧ (bs = ts → 8 ≤ ts.length → (patch ts.length ps).length ≤ 8)
set_option maxHeartbeats 16000000 in
theorem make_c (A B : Option Addr) (c d : Nat) (bs ts : List UInt8) (hca : bs.length ≤ c) (hcb : ts.length ≤ d) (w : World) (hra : Rd w 1 A bs.length (bs.map u8V)) (hrb : Rd w 1 B ts.length (ts.map u8V)) :
    Calls Try.prog 11 #[.slice A bs.length c, .slice B ts.length d] w fun e w' => (∃ s n, e = .returned (.tuple #[sV s, iV n]) ∧ ((4096 < bs.length ∨ 4096 < ts.length) → s = ofL [] ∧ n = 6) ∧ (bs.length ≤ 4096 → ts.length ≤ 4096 → n = 0 ∧ ∃ ps, made bs ts ps ∧ s = ofL (patch ts.length ps))) ∧ Below w.heap.size w w' := by
  have hbn := hra.2.1
  have htn := hrb.2.1
  refine enter (P := Try.prog) Try.func11 rfl rfl ?_
  have hs := Sep.init w
  refine c_rseq ?_
  refine l_box hs rfl ?_
  intro b3 w3 hs hB3 hlt3
  refine l_v (by first | exact (r_assign (v := sV _) rfl) | exact (r_assign rfl)) ?_
  refine l_v (by first | exact (r_assign (v := iV _) rfl) | exact (r_assign rfl)) ?_
  refine l_nil (nrm_then ?_)
  refine c_seq ?_
  refine c_rseq ?_
  refine l_v (by first | exact (r_move (v := .slice _ _ _) rfl) | exact (r_move rfl)) ?_
  refine l_v (r_len_l Try.underlying22 rfl) ?_
  refine l_v (r_gtri rfl rfl) ?_
  have hs : Eng.Sep w w3 [blk b3 [.slice B ts.length d] 22] := hs
  by_cases hb4 : 4096 < bs.length
  · have f1 : decide ((bs.length : Int) > 4096) = true := decide_eq_true (by omega)
    refine l_v (by first | exact (r_move (v := bV _) rfl) | exact (r_move rfl)) ?_
    refine l_no rfl (f1) ?_
    refine l_no rfl (f1) ?_
    refine l_no rfl (f1) ?_
    refine l_v (r_pick_t rfl f1 rfl) ?_
    refine l_nil (nrm_then ?_)
    refine c_true rfl (rfl) ?_
    refine c_rseq ?_
    refine l_v (by first | exact (r_assign (v := sV _) rfl) | exact (r_assign rfl)) ?_
    refine l_v (by first | exact (r_assign (v := iV _) rfl) | exact (r_assign rfl)) ?_
    refine l_nil (nrm_then ?_)
    refine c_ret (ret_then ?_)
    show Fin _ _ _ _ _
    refine fin2 rfl ?_
    exact ⟨⟨_, _, rfl, fun _ => ⟨rfl, rfl⟩, fun h => by omega⟩, hs.below⟩
  · have f1 : decide ((bs.length : Int) > 4096) = false := decide_eq_false (by omega)
    refine l_v (by first | exact (r_move (v := bV _) rfl) | exact (r_move rfl)) ?_
    refine l_vg (by first | exact (r_load_at (i := 0) hs rfl Try.underlying22 rfl rfl) | exact (r_load_at (i := 1) hs rfl Try.underlying22 rfl rfl) | exact (r_load_at (i := 2) hs rfl Try.underlying22 rfl rfl) | exact (r_load_at (i := 3) hs rfl Try.underlying22 rfl rfl) | exact (r_load_at (i := 4) hs rfl Try.underlying22 rfl rfl) | exact (r_load_at (i := 5) hs rfl Try.underlying22 rfl rfl) | exact (r_load_at (i := 6) hs rfl Try.underlying22 rfl rfl)) rfl (f1) ?_
    refine l_vg (r_len_l Try.underlying22 rfl) rfl (f1) ?_
    refine l_vg (r_gtri rfl rfl) rfl (f1) ?_
    refine l_v (r_pick_f rfl f1 rfl) ?_
    refine l_nil (nrm_then ?_)
    refine c_cond rfl (fun h2 => ?_) (fun h2 => ?_)
    · replace h2 := of_decide_eq_true h2
      refine c_rseq ?_
      refine l_v (by first | exact (r_assign (v := sV _) rfl) | exact (r_assign rfl)) ?_
      refine l_v (by first | exact (r_assign (v := iV _) rfl) | exact (r_assign rfl)) ?_
      refine l_nil (nrm_then ?_)
      refine c_ret (ret_then ?_)
      show Fin _ _ _ _ _
      refine fin2 rfl ?_
      exact ⟨⟨_, _, rfl, fun _ => ⟨rfl, rfl⟩, fun _ h => by omega⟩, hs.below⟩
    · replace h2 := of_decide_eq_false h2
      refine c_skip (nrm_then ?_)
      refine c_rseq ?_
      have hb4' : bs.length ≤ 4096 := by omega
      have ht4 : ts.length ≤ 4096 := by omega
      refine l_makeMap .string hs ?_
      intro b6 w6 hs
      refine l_v (r_assign (v := .map _) rfl) ?_
      refine l_nil (nrm_then ?_)
      refine c_seq ?_
      refine c_rseq ?_
      refine l_v (by first | exact (r_move (v := .slice _ _ _) rfl) | exact (r_move rfl)) ?_
      refine l_v (r_len_l Try.underlying22 rfl) ?_
      refine l_v (r_subi rfl rfl (by omega)) ?_
      refine l_v (by first | exact (r_assign (v := iV _) rfl) | exact (r_assign rfl)) ?_
      refine l_nil (nrm_then ?_)
      refine c_block ?_
      refine c_loopn [0, 3, 4, 5, 6] (fun m f' w' => ∃ (a : Int) (F : MapF), f' 7 = iV a ∧ a + 8 ≤ bs.length ∧ -8 ≤ a ∧ Places bs (a + 1).toNat F ∧ m = (a + 1).toNat ∧ Eng.Sep w w' [mapH .string b6 F, blk b3 [.slice B ts.length d] 22]) ?_ ?_
      · exact ⟨_, (bs.length : Int) - 8, _, rfl, by omega, by omega, places0 (by omega), rfl, hs⟩
      · rintro m g w_ ⟨a, F, h7, ha1, ha2, hF, hm, hs⟩
        refine OkC.env ?_ (fixH (L := [(7, _)]) ⟨h7, trivial⟩)
        clear h7
        refine c_seq ?_
        refine c_rseq ?_
        refine l_v (by first | exact (r_move (v := iV _) rfl) | exact (r_move rfl)) ?_
        refine l_v (r_geqi rfl rfl) ?_
        refine l_nil (nrm_then ?_)
        refine c_cond rfl (fun h3 => ?_) (fun h3 => ?_)
        · obtain ⟨p, rfl⟩ : ∃ p : Nat, a = (p : Int) := ⟨a.toNat, by have := of_decide_eq_true h3; omega⟩
          have hra1 := hra.below hs.below
          have e1 : ((p : Int) + 1).toNat = p + 1 := by omega
          rw [e1] at hF
          have hmid := rd_mid hra1 (l := p) (h := p + 8) (by omega) (by omega) hca
          rw [Nat.add_sub_cancel_left] at hmid
          replace h3 := of_decide_eq_true h3
          refine c_skip (nrm_then ?_)
          refine c_seq ?_
          refine c_block ?_
          refine c_region ?_
          refine l_v (r_move (v := .map _) rfl) ?_
          refine l_v (by first | exact (r_move (v := .slice _ _ _) rfl) | exact (r_move rfl)) ?_
          refine l_v (by first | exact (r_move (v := iV _) rfl) | exact (r_move rfl)) ?_
          refine l_v (by first | exact (r_move (v := iV _) rfl) | exact (r_move rfl)) ?_
          refine l_v (r_addi rfl rfl (by omega)) ?_
          refine l_v (r_slice_plh p (p + 8) Try.underlying22 I5 rfl rfl rfl (by omega)) ?_
          refine l_v (r_cv_bs (l := (bs.drop p).take 8) Try.underlying22 Try.underlying5 Try.underlying9 rfl (by rw [Nat.add_sub_cancel_left]; exact hmid)) ?_
          refine l_v (by first | exact (r_move (v := iV _) rfl) | exact (r_move rfl)) ?_
          refine l_mapUpdate (k := gram bs p) (v := iV (p : Int)) hs Try.underlying49 Try.underlying9 rfl rfl rfl trivial ?_
          intro w38 hs
          refine l_nil (nrm_block (nrm_then ?_))
          refine c_region ?_
          refine l_v (by first | exact (r_move (v := iV _) rfl) | exact (r_move rfl)) ?_
          refine l_v (r_subi rfl rfl (by omega)) ?_
          refine l_v (by first | exact (r_assign (v := iV _) rfl) | exact (r_assign rfl)) ?_
          refine l_nil (nrm_then ?_)
          refine And.intro (by refine ⟨?_, ?_, ?_, ?_, ?_, trivial⟩ <;> ((conv => lhs; whnf); (try conv => rhs; whnf))) ?_
          exact ⟨p, by omega, (p : Int) - 1, _, rfl, by omega, by omega, by rw [show ((p : Int) - 1 + 1).toNat = p by omega]; exact places_put hF (by omega), by omega, hs⟩
        · replace h3 := of_decide_eq_false h3
          refine c_exit (ex_then (ex_then (ex_hit (nrm_then ?_))))
          refine c_rseq ?_
          have hF0 : Places bs 0 F := by rw [show (a + 1).toNat = 0 by omega] at hF; exact hF
          refine l_call (r_call Try.func18 rfl rfl) ?_
          refine Calls.mono (new_c w _ _ hs) ?_
          rintro e w_ ⟨bw, rfl, hs⟩
          refine ⟨_, rfl, ?_⟩
          refine l_alloc hs I50 ?_
          intro b8 w8 hs hB8 hlt8
          first | refine l_store (i := 0) (v := .pointer _) hs rfl I50 rfl rfl (by first | (simp; done) | (simp; omega) | omega) ?_ | refine l_store (i := 1) (v := .pointer _) hs rfl I50 rfl rfl (by first | (simp; done) | (simp; omega) | omega) ?_ | refine l_store (i := 2) (v := .pointer _) hs rfl I50 rfl rfl (by first | (simp; done) | (simp; omega) | omega) ?_ | refine l_store (i := 3) (v := .pointer _) hs rfl I50 rfl rfl (by first | (simp; done) | (simp; omega) | omega) ?_ | refine l_store (i := 4) (v := .pointer _) hs rfl I50 rfl rfl (by first | (simp; done) | (simp; omega) | omega) ?_ | refine l_store (i := 5) (v := .pointer _) hs rfl I50 rfl rfl (by first | (simp; done) | (simp; omega) | omega) ?_ | refine l_store (i := 6) (v := .pointer _) hs rfl I50 rfl rfl (by first | (simp; done) | (simp; omega) | omega) ?_
          intro w_ hs
          refine l_nil (nrm_then ?_)
          refine c_rseq ?_
          refine l_v (by first | exact (r_load_at (i := 0) hs rfl Try.underlying50 rfl rfl) | exact (r_load_at (i := 1) hs rfl Try.underlying50 rfl rfl) | exact (r_load_at (i := 2) hs rfl Try.underlying50 rfl rfl) | exact (r_load_at (i := 3) hs rfl Try.underlying50 rfl rfl) | exact (r_load_at (i := 4) hs rfl Try.underlying50 rfl rfl) | exact (r_load_at (i := 5) hs rfl Try.underlying50 rfl rfl) | exact (r_load_at (i := 6) hs rfl Try.underlying50 rfl rfl)) ?_
          refine l_v (by first | exact (r_load_at (i := 0) hs rfl Try.underlying22 rfl rfl) | exact (r_load_at (i := 1) hs rfl Try.underlying22 rfl rfl) | exact (r_load_at (i := 2) hs rfl Try.underlying22 rfl rfl) | exact (r_load_at (i := 3) hs rfl Try.underlying22 rfl rfl) | exact (r_load_at (i := 4) hs rfl Try.underlying22 rfl rfl) | exact (r_load_at (i := 5) hs rfl Try.underlying22 rfl rfl) | exact (r_load_at (i := 6) hs rfl Try.underlying22 rfl rfl)) ?_
          refine l_v (r_len_l Try.underlying22 rfl) ?_
          have hs : Eng.Sep w w_ [wtr bw [], blk b8 [at_ bw] 50, mapH .string b6 F, blk b3 [.slice B ts.length d] 22] := hs.pull 1
          refine l_call (r_call Try.func19 rfl rfl) ?_
          refine Calls.mono (wcount_c (ts.length : Int) (by omega) [] (by decide) bw w _ _ hs) ?_
          rintro e w_ ⟨rfl, hs⟩
          refine ⟨_, rfl, ?_⟩
          rw [if_neg (by omega), Int.toNat_natCast, List.nil_append] at hs
          refine l_nil (nrm_then ?_)
          refine c_rseq ?_
          refine l_alloc hs I3 ?_
          intro b9 w9 hs hB9 hlt9
          first | refine l_store (i := 0) (v := iV _) hs rfl I3 rfl rfl (by first | (simp; done) | (simp; omega) | omega) ?_ | refine l_store (i := 1) (v := iV _) hs rfl I3 rfl rfl (by first | (simp; done) | (simp; omega) | omega) ?_ | refine l_store (i := 2) (v := iV _) hs rfl I3 rfl rfl (by first | (simp; done) | (simp; omega) | omega) ?_ | refine l_store (i := 3) (v := iV _) hs rfl I3 rfl rfl (by first | (simp; done) | (simp; omega) | omega) ?_ | refine l_store (i := 4) (v := iV _) hs rfl I3 rfl rfl (by first | (simp; done) | (simp; omega) | omega) ?_ | refine l_store (i := 5) (v := iV _) hs rfl I3 rfl rfl (by first | (simp; done) | (simp; omega) | omega) ?_ | refine l_store (i := 6) (v := iV _) hs rfl I3 rfl rfl (by first | (simp; done) | (simp; omega) | omega) ?_
          intro w_ hs
          refine l_nil (nrm_then ?_)
          refine c_rseq ?_
          refine l_v (r_makeFunc rfl rfl) ?_
          refine l_v (by first | exact (r_assign (v := .func _ _ _) rfl) | exact (r_assign (v := .nilFunc) rfl) | exact (r_assign rfl)) ?_
          refine l_nil (nrm_then ?_)
          refine c_seq ?_
          refine c_rseq ?_
          refine l_v (by first | exact (r_assign (v := iV _) rfl) | exact (r_assign rfl)) ?_
          refine l_nil (nrm_then ?_)
          refine c_block ?_
          have hs : Eng.Sep w w_ [blk b9 [iV ((0 : Nat) : Int)] 3, wtr bw (enc 64 ts.length), blk b8 [at_ bw] 50, mapH .string b6 F, blk b3 [.slice B ts.length d] 22] := hs
          have hs := (hs.pull 3)
          have hpat : ∀ ps : List Pc, enc 64 ts.length ++ ps.flatMap pbytes = patch ts.length ps := fun _ => rfl
          refine c_loopn [0, 3, 4, 5, 6, 8, 9, 10] (fun m f' w' => ∃ (a bg : Nat) (ps : List Pc), f' 11 = iV (a : Int) ∧ MkInv bs ts a bg ps ∧ m = ts.length - a ∧ Eng.Sep w w' [mapH .string b6 F, wtr bw (patch ts.length ps), blk b8 [at_ bw] 50, blk b9 [iV (bg : Int)] 3, blk b3 [.slice B ts.length d] 22]) ?_ ?_
          · exact ⟨_, 0, 0, [], rfl, mk0 bs ts, rfl, by unfold patch; rw [List.flatMap_nil, List.append_nil]; exact (hs.pull 1).pull 3 |>.pull 3 |>.pull 3⟩
          · rintro m g w_ ⟨a, bg, ps, h11, hI, hm, hs⟩
            have hIb := hI.hb
            have hIa := hI.ha
            have hIc := hI.cost
            have hpl : (patch ts.length ps).length ≤ 3 + bg := by
              have := enc_short 64 ts.length 2 (by omega)
              unfold patch; rw [List.length_append]; omega
            have hra1 := hra.below hs.below
            have hrb1 := hrb.below hs.below
            refine OkC.env ?_ (fixH (L := [(11, _)]) ⟨h11, trivial⟩)
            clear h11
            refine c_seq ?_
            refine c_rseq ?_
            refine l_v (by first | exact (r_move (v := iV _) rfl) | exact (r_move rfl)) ?_
            refine l_v (by first | exact (r_load_at (i := 0) hs rfl Try.underlying22 rfl rfl) | exact (r_load_at (i := 1) hs rfl Try.underlying22 rfl rfl) | exact (r_load_at (i := 2) hs rfl Try.underlying22 rfl rfl) | exact (r_load_at (i := 3) hs rfl Try.underlying22 rfl rfl) | exact (r_load_at (i := 4) hs rfl Try.underlying22 rfl rfl) | exact (r_load_at (i := 5) hs rfl Try.underlying22 rfl rfl) | exact (r_load_at (i := 6) hs rfl Try.underlying22 rfl rfl)) ?_
            refine l_v (r_len_l Try.underlying22 rfl) ?_
            refine l_v (r_lssi rfl rfl) ?_
            refine l_nil (nrm_then ?_)
            refine c_cond rfl (fun h4 => ?_) (fun h4 => ?_)
            · have hal : a < ts.length := by have := of_decide_eq_true h4; omega
              have hsK := hs
              obtain ⟨adb, rfl, hcb0⟩ := hrb.ad (by omega)
              have hs := hsK
              have hcellB : ∀ j u, (ts.map u8V)[j]? = some u → w_.cell? (adb.add j) = some u := by
                obtain ⟨_, e, hc⟩ := hrb1.ad (by omega)
                cases e
                exact hc
              replace h4 := of_decide_eq_true h4
              refine c_skip (nrm_then ?_)
              refine c_block ?_
              refine c_rseq ?_
              refine l_v (r_move (v := .map _) rfl) ?_
              refine l_v (by first | exact (r_load_at (i := 0) hs rfl Try.underlying22 rfl rfl) | exact (r_load_at (i := 1) hs rfl Try.underlying22 rfl rfl) | exact (r_load_at (i := 2) hs rfl Try.underlying22 rfl rfl) | exact (r_load_at (i := 3) hs rfl Try.underlying22 rfl rfl) | exact (r_load_at (i := 4) hs rfl Try.underlying22 rfl rfl) | exact (r_load_at (i := 5) hs rfl Try.underlying22 rfl rfl) | exact (r_load_at (i := 6) hs rfl Try.underlying22 rfl rfl)) ?_
              refine l_v (by first | exact (r_move (v := iV _) rfl) | exact (r_move rfl)) ?_
              refine l_v (by first | exact (r_move (v := iV _) rfl) | exact (r_move rfl)) ?_
              refine l_v (r_addi rfl rfl (by omega)) ?_
              refine l_v (by first | exact (r_load_at (i := 0) hs rfl Try.underlying22 rfl rfl) | exact (r_load_at (i := 1) hs rfl Try.underlying22 rfl rfl) | exact (r_load_at (i := 2) hs rfl Try.underlying22 rfl rfl) | exact (r_load_at (i := 3) hs rfl Try.underlying22 rfl rfl) | exact (r_load_at (i := 4) hs rfl Try.underlying22 rfl rfl) | exact (r_load_at (i := 5) hs rfl Try.underlying22 rfl rfl) | exact (r_load_at (i := 6) hs rfl Try.underlying22 rfl rfl)) ?_
              refine l_v (r_len_l Try.underlying22 rfl) ?_
              by_cases hfit : a + 8 ≤ ts.length
              · have hmid := rd_mid hrb1 (l := a) (h := a + 8) (by omega) hfit hcb
                rw [Nat.add_sub_cancel_left] at hmid
                have f70 : decide ((a : Int) + 8 > (ts.length : Int)) = false := decide_eq_false (by omega)
                refine l_v (r_min_l rfl rfl (by omega)) ?_
                refine l_v (r_slice_plh a (a + 8) Try.underlying22 I5 rfl rfl rfl (by omega)) ?_
                refine l_v (r_cv_bs (l := (ts.drop a).take 8) Try.underlying22 Try.underlying5 Try.underlying9 rfl (by rw [Nat.add_sub_cancel_left]; exact hmid)) ?_
                refine l_v (r_look_ok (k := gram ts a) hs Try.underlying49 Try.underlying9 I3 rfl rfl trivial) ?_
                refine l_v (r_move rfl) ?_
                refine l_v (r_extract rfl rfl) ?_
                refine l_v (r_extract rfl rfl) ?_
                refine l_v (by first | exact (r_assign (v := iV _) rfl) | exact (r_assign rfl)) ?_
                refine l_v (by first | exact (r_assign (v := bV _) rfl) | exact (r_assign rfl)) ?_
                refine l_nil (nrm_then ?_)
                refine c_seq ?_
                refine c_seq ?_
                rcases hFk : F (gram ts a) with _ | v
                · refine c_region ?_
                  refine l_v (by first | exact (r_move (v := bV _) rfl) | exact (r_move rfl)) ?_
                  refine l_v (r_not rfl) ?_
                  refine l_v (by first | exact (r_move (v := bV _) rfl) | exact (r_move rfl)) ?_
                  refine l_no rfl (rfl) ?_
                  refine l_no rfl (rfl) ?_
                  refine l_no rfl (rfl) ?_
                  refine l_no rfl (rfl) ?_
                  refine l_no rfl (rfl) ?_
                  refine l_v (r_pick_t rfl rfl rfl) ?_
                  refine l_nil (nrm_then ?_)
                  refine c_true rfl (rfl) ?_
                  refine c_rseq ?_
                  refine l_v (by first | exact (r_move (v := iV _) rfl) | exact (r_move rfl)) ?_
                  refine l_v (r_addi rfl rfl (by omega)) ?_
                  refine l_v (by first | exact (r_assign (v := iV _) rfl) | exact (r_assign rfl)) ?_
                  refine l_nil (nrm_then ?_)
                  refine c_exit (ex_then (ex_hit (nrm_then ?_)))
                  refine And.intro (by refine ⟨?_, ?_, ?_, ?_, ?_, ?_, ?_, ?_, trivial⟩ <;> ((conv => lhs; whnf); (try conv => rhs; whnf))) ?_
                  refine ⟨ts.length - (a + 1), by omega, a + 1, bg, ps, rfl, mk_miss hI hal (fun e1 e2 e3 => ?_), rfl, hs⟩
                  subst e3
                  obtain ⟨i, h1, _⟩ := hF0.has 0 (by omega) (by rw [e1]; omega)
                  rw [e1, hFk] at h1
                  cases h1
                · obtain ⟨i, rfl, hil, hgk⟩ := hF0.is _ _ hFk
                  have hgi := gram_inj hgk
                  have hsK := hs
                  obtain ⟨ada, rfl, hca0⟩ := hra.ad (by omega)
                  have hs := hsK
                  have hcellA : ∀ j u, (bs.map u8V)[j]? = some u → w_.cell? (ada.add j) = some u := by
                    obtain ⟨_, e, hc⟩ := hra1.ad (by omega)
                    cases e
                    exact hc
                  refine c_region ?_
                  refine l_v (by first | exact (r_move (v := bV _) rfl) | exact (r_move rfl)) ?_
                  refine l_v (r_not rfl) ?_
                  refine l_v (by first | exact (r_move (v := bV _) rfl) | exact (r_move rfl)) ?_
                  refine l_vg (by first | exact (r_move (v := iV _) rfl) | exact (r_move rfl)) rfl (rfl) ?_
                  refine l_vg (r_addi rfl rfl (by omega)) rfl (rfl) ?_
                  refine l_vg (by first | exact (r_load_at (i := 0) hs rfl Try.underlying22 rfl rfl) | exact (r_load_at (i := 1) hs rfl Try.underlying22 rfl rfl) | exact (r_load_at (i := 2) hs rfl Try.underlying22 rfl rfl) | exact (r_load_at (i := 3) hs rfl Try.underlying22 rfl rfl) | exact (r_load_at (i := 4) hs rfl Try.underlying22 rfl rfl) | exact (r_load_at (i := 5) hs rfl Try.underlying22 rfl rfl) | exact (r_load_at (i := 6) hs rfl Try.underlying22 rfl rfl)) rfl (rfl) ?_
                  refine l_vg (r_len_l Try.underlying22 rfl) rfl (rfl) ?_
                  refine l_vg (r_gtri rfl rfl) rfl (rfl) ?_
                  refine l_v (r_pick_f rfl rfl rfl) ?_
                  refine l_nil (nrm_then ?_)
                  refine c_false rfl (f70) ?_
                  refine c_skip (nrm_then ?_)
                  refine c_rseq ?_
                  refine l_v (by first | exact (r_assign (v := iV _) rfl) | exact (r_assign rfl)) ?_
                  refine l_nil (nrm_then ?_)
                  refine c_seq ?_
                  refine c_block ?_
                  refine c_loopn [0, 3, 4, 5, 6, 8, 9, 10, 11, 12] (fun m f' w' => ∃ n : Nat, f' 14 = iV (n : Int) ∧ Eng.Sep w w' [mapH .string b6 F, wtr bw (patch ts.length ps), blk b8 [at_ bw] 50, blk b9 [iV (bg : Int)] 3, blk b3 [.slice (some adb) ts.length d] 22] ∧ 8 ≤ n ∧ a + n ≤ ts.length ∧ i + n ≤ bs.length ∧ (ts.drop a).take n = (bs.drop i).take n ∧ m = ts.length - (a + n)) ?_ ?_
                  · exact ⟨_, 8, rfl, hs, by omega, hfit, hil, hgi, rfl⟩
                  · rintro m g w_ ⟨n, h14, hs, hn8, hna, hni, heq, hm2⟩
                    refine OkC.env ?_ (fixH (L := [(14, _)]) ⟨h14, trivial⟩)
                    clear h14
                    refine c_seq ?_
                    refine c_seq ?_
                    have hstop : ∀ hx : a + n = ts.length ∨ i + n = bs.length ∨ ts[a + n]? ≠ bs[i + n]?, MkInv bs ts (a + n) (a + n) (ps ++ (insL ((ts.drop bg).take (a - bg)) ++ [cpy i n])) := fun hx =>
                      mk_hit hb4' ht4 hI hn8 hna hni heq (fun e1 e2 => by
                        subst e2
                        obtain ⟨i', h1, h2⟩ := hF0.has 0 (by omega) (by rw [e1]; omega)
                        rw [e1, hFk] at h1
                        injection h1 with h1
                        injection h1 with _ h1
                        have hi0 : i = 0 := by omega
                        refine ⟨hi0, ?_⟩
                        subst hi0
                        rw [e1] at hx
                        rcases hx with hx | hx | hx
                        · omega
                        · omega
                        · exact absurd rfl hx)
                    have hcellB : ∀ j u, (ts.map u8V)[j]? = some u → w_.cell? (adb.add j) = some u := by
                      obtain ⟨_, e, hc⟩ := (hrb.below hs.below).ad (by omega)
                      cases e
                      exact hc
                    have hcellA : ∀ j u, (bs.map u8V)[j]? = some u → w_.cell? (ada.add j) = some u := by
                      obtain ⟨_, e, hc⟩ := (hra.below hs.below).ad (by omega)
                      cases e
                      exact hc
                    by_cases c1 : a + n < ts.length
                    · have f79 : decide ((a : Int) + (n : Int) < (ts.length : Int)) = true := decide_eq_true (by omega)
                      by_cases c2 : i + n < bs.length
                      · have f86 : decide ((i : Int) + (n : Int) < (bs.length : Int)) = true := decide_eq_true (by omega)
                        have hu1 : (ts.map u8V)[a + n]? = some (u8V ts[a + n]) := by simp [c1]
                        have hu2 : (bs.map u8V)[i + n]? = some (u8V bs[i + n]) := by simp [c2]
                        refine c_still (by kernel_rfl) (by kernel_rfl) ?_
                        have hs := hs.drew
                        refine s_v (by first | exact (r_move (v := iV _) rfl) | exact (r_move rfl)) ?_
                        refine s_v (by first | exact (r_move (v := iV _) rfl) | exact (r_move rfl)) ?_
                        refine s_v (r_addi rfl rfl (by omega)) ?_
                        refine s_v (by first | exact (r_load_at (i := 0) hs rfl Try.underlying22 rfl rfl) | exact (r_load_at (i := 1) hs rfl Try.underlying22 rfl rfl) | exact (r_load_at (i := 2) hs rfl Try.underlying22 rfl rfl) | exact (r_load_at (i := 3) hs rfl Try.underlying22 rfl rfl) | exact (r_load_at (i := 4) hs rfl Try.underlying22 rfl rfl) | exact (r_load_at (i := 5) hs rfl Try.underlying22 rfl rfl) | exact (r_load_at (i := 6) hs rfl Try.underlying22 rfl rfl)) ?_
                        refine s_v (r_len_l Try.underlying22 rfl) ?_
                        refine s_v (r_lssi rfl rfl) ?_
                        refine s_v (by first | exact (r_move (v := bV _) rfl) | exact (r_move rfl)) ?_
                        refine s_vg (by first | exact (r_move (v := iV _) rfl) | exact (r_move rfl)) rfl (f79) ?_
                        refine s_vg (by first | exact (r_move (v := iV _) rfl) | exact (r_move rfl)) rfl (f79) ?_
                        refine s_vg (r_addi rfl rfl (by omega)) rfl (f79) ?_
                        refine s_vg (by first | exact (r_move (v := .slice _ _ _) rfl) | exact (r_move rfl)) rfl (f79) ?_
                        refine s_vg (r_len_l Try.underlying22 rfl) rfl (f79) ?_
                        refine s_vg (r_lssi rfl rfl) rfl (f79) ?_
                        refine s_v (r_pick_t rfl f79 rfl) ?_
                        refine s_v (by first | exact (r_move (v := bV _) rfl) | exact (r_move rfl)) ?_
                        refine s_vg (by first | exact (r_load_at (i := 0) hs rfl Try.underlying22 rfl rfl) | exact (r_load_at (i := 1) hs rfl Try.underlying22 rfl rfl) | exact (r_load_at (i := 2) hs rfl Try.underlying22 rfl rfl) | exact (r_load_at (i := 3) hs rfl Try.underlying22 rfl rfl) | exact (r_load_at (i := 4) hs rfl Try.underlying22 rfl rfl) | exact (r_load_at (i := 5) hs rfl Try.underlying22 rfl rfl) | exact (r_load_at (i := 6) hs rfl Try.underlying22 rfl rfl)) rfl (f86) ?_
                        refine s_vg (by first | exact (r_move (v := iV _) rfl) | exact (r_move rfl)) rfl (f86) ?_
                        refine s_vg (by first | exact (r_move (v := iV _) rfl) | exact (r_move rfl)) rfl (f86) ?_
                        refine s_vg (r_addi rfl rfl (by omega)) rfl (f86) ?_
                        refine s_vg (r_indexAddr_l1 (k := a + n) Try.underlying22 I5 rfl rfl c1) rfl (f86) ?_
                        refine s_vg (r_load Try.underlying5 rfl (hcellB _ _ hu1)) rfl (f86) ?_
                        refine s_vg (by first | exact (r_move (v := .slice _ _ _) rfl) | exact (r_move rfl)) rfl (f86) ?_
                        refine s_vg (by first | exact (r_move (v := iV _) rfl) | exact (r_move rfl)) rfl (f86) ?_
                        refine s_vg (by first | exact (r_move (v := iV _) rfl) | exact (r_move rfl)) rfl (f86) ?_
                        refine s_vg (r_addi rfl rfl (by omega)) rfl (f86) ?_
                        refine s_vg (r_indexAddr_l1 (k := i + n) Try.underlying22 I5 rfl rfl c2) rfl (f86) ?_
                        refine s_vg (r_load Try.underlying5 rfl (hcellA _ _ hu2)) rfl (f86) ?_
                        refine s_vg (r_eql8 rfl rfl) rfl (f86) ?_
                        refine s_v (r_pick_t rfl f86 rfl) ?_
                        refine s_nil (nrm_then ?_)
                        refine c_cond rfl (fun h5 => ?_) (fun h5 => ?_)
                        · replace h5 := of_decide_eq_true h5
                          refine c_skip (nrm_then ?_)
                          refine c_block ?_
                          refine c_region ?_
                          refine l_v (by first | exact (r_move (v := iV _) rfl) | exact (r_move rfl)) ?_
                          refine l_v (r_addi rfl rfl (by omega)) ?_
                          refine l_v (by first | exact (r_assign (v := iV _) rfl) | exact (r_assign rfl)) ?_
                          refine l_nil (nrm_block (nrm_then ?_))
                          refine And.intro (by refine ⟨?_, ?_, ?_, ?_, ?_, ?_, ?_, ?_, ?_, ?_, trivial⟩ <;> ((conv => lhs; whnf); (try conv => rhs; whnf))) ?_
                          exact ⟨ts.length - (a + (n + 1)), by omega, n + 1, rfl, hs, by omega, by omega, by omega, take_more heq c1 c2 h5, rfl⟩
                        · have hmk := hstop (.inr (.inr (by rw [List.getElem?_eq_getElem c1, List.getElem?_eq_getElem c2]; intro h; exact (of_decide_eq_false h5) (Option.some.inj h))))
                          replace h5 := of_decide_eq_false h5
                          refine c_exit (ex_then (ex_then (ex_hit (nrm_then ?_))))
                          refine c_rseq ?_
                          refine l_v (by first | exact (r_move (v := .func _ _ _) rfl) | exact (r_move (v := .nilFunc) rfl) | exact (r_move rfl)) ?_
                          refine l_v (by first | exact (r_move (v := iV _) rfl) | exact (r_move rfl)) ?_
                          have hs4 := (((hs.pull 4).pull 4).pull 4).pull 4
                          refine l_call (r_call Try.func20 rfl rfl) ?_
                          refine Calls.mono (insert_c a bg (some adb) d ts ht4 hcb (by omega) hIb bw b8 b9 b3 _ (by omega) w _ _ (hrb.below hs.below) hrb hs4) ?_
                          rintro e w_ ⟨⟨vv, rfl⟩, hs⟩
                          refine ⟨_, rfl, ?_⟩
                          have hil2 := insL_cost (t := (ts.drop bg).take (a - bg)) (by rw [mid_len ts hIb hIa]; omega)
                          have hmll := mid_len ts hIb hIa
                          rw [← patch_app] at hs
                          have hpl2 : (patch ts.length (ps ++ insL ((ts.drop bg).take (a - bg)))).length ≤ 12288 := by rw [patch_app, List.length_append]; omega
                          refine l_nil (nrm_then ?_)
                          refine c_rseq ?_
                          refine l_v (by first | exact (r_load_at (i := 0) hs rfl Try.underlying50 rfl rfl) | exact (r_load_at (i := 1) hs rfl Try.underlying50 rfl rfl) | exact (r_load_at (i := 2) hs rfl Try.underlying50 rfl rfl) | exact (r_load_at (i := 3) hs rfl Try.underlying50 rfl rfl) | exact (r_load_at (i := 4) hs rfl Try.underlying50 rfl rfl) | exact (r_load_at (i := 5) hs rfl Try.underlying50 rfl rfl) | exact (r_load_at (i := 6) hs rfl Try.underlying50 rfl rfl)) ?_
                          refine l_v (by first | exact (r_move (v := iV _) rfl) | exact (r_move rfl)) ?_
                          refine l_v (r_muli rfl rfl (by omega)) ?_
                          refine l_v (r_addi rfl rfl (by omega)) ?_
                          refine l_call (r_call Try.func19 rfl rfl) ?_
                          refine Calls.mono (wcount_c (2 * (n : Int) + 1) (by omega) _ (by omega) bw w _ _ hs) ?_
                          rintro e w_ ⟨rfl, hs⟩
                          refine ⟨_, rfl, ?_⟩
                          rw [if_neg (by omega), show (2 * (n : Int) + 1).toNat = 2 * n + 1 by omega] at hs
                          have hen := enc_short 64 (2 * n + 1) 2 (by omega)
                          refine l_nil (nrm_then ?_)
                          refine c_rseq ?_
                          refine l_v (by first | exact (r_load_at (i := 0) hs rfl Try.underlying50 rfl rfl) | exact (r_load_at (i := 1) hs rfl Try.underlying50 rfl rfl) | exact (r_load_at (i := 2) hs rfl Try.underlying50 rfl rfl) | exact (r_load_at (i := 3) hs rfl Try.underlying50 rfl rfl) | exact (r_load_at (i := 4) hs rfl Try.underlying50 rfl rfl) | exact (r_load_at (i := 5) hs rfl Try.underlying50 rfl rfl) | exact (r_load_at (i := 6) hs rfl Try.underlying50 rfl rfl)) ?_
                          refine l_v (by first | exact (r_move (v := iV _) rfl) | exact (r_move rfl)) ?_
                          refine l_call (r_call Try.func19 rfl rfl) ?_
                          refine Calls.mono (wcount_c (i : Int) (by omega) _ (by rw [List.length_append]; omega) bw w _ _ hs) ?_
                          rintro e w_ ⟨rfl, hs⟩
                          refine ⟨_, rfl, ?_⟩
                          rw [if_neg (by omega), Int.toNat_natCast] at hs
                          refine l_nil (nrm_then ?_)
                          refine c_rseq ?_
                          refine l_v (by first | exact (r_move (v := iV _) rfl) | exact (r_move rfl)) ?_
                          refine l_v (by first | exact (r_move (v := iV _) rfl) | exact (r_move rfl)) ?_
                          refine l_v (r_addi rfl rfl (by omega)) ?_
                          refine l_v (by first | exact (r_assign (v := iV _) rfl) | exact (r_assign rfl)) ?_
                          refine l_nil (nrm_then ?_)
                          refine c_region ?_
                          refine l_v (by first | exact (r_move (v := iV _) rfl) | exact (r_move rfl)) ?_
                          first | refine l_store (i := 0) (v := iV _) hs rfl I3 rfl rfl (by first | (simp; done) | (simp; omega) | omega) ?_ | refine l_store (i := 1) (v := iV _) hs rfl I3 rfl rfl (by first | (simp; done) | (simp; omega) | omega) ?_ | refine l_store (i := 2) (v := iV _) hs rfl I3 rfl rfl (by first | (simp; done) | (simp; omega) | omega) ?_ | refine l_store (i := 3) (v := iV _) hs rfl I3 rfl rfl (by first | (simp; done) | (simp; omega) | omega) ?_ | refine l_store (i := 4) (v := iV _) hs rfl I3 rfl rfl (by first | (simp; done) | (simp; omega) | omega) ?_ | refine l_store (i := 5) (v := iV _) hs rfl I3 rfl rfl (by first | (simp; done) | (simp; omega) | omega) ?_ | refine l_store (i := 6) (v := iV _) hs rfl I3 rfl rfl (by first | (simp; done) | (simp; omega) | omega) ?_
                          intro w_ hs
                          refine l_nil (nrm_block (nrm_then ?_))
                          refine And.intro (by refine ⟨?_, ?_, ?_, ?_, ?_, ?_, ?_, ?_, trivial⟩ <;> ((conv => lhs; whnf); (try conv => rhs; whnf))) ?_
                          have e1 : patch ts.length (ps ++ insL ((ts.drop bg).take (a - bg))) ++ enc 64 (2 * n + 1) ++ enc 64 i = patch ts.length (ps ++ (insL ((ts.drop bg).take (a - bg)) ++ [cpy i n])) := by
                            rw [← List.append_assoc, patch_app _ (ps ++ _)]; simp [cpy_bytes]
                          rw [e1] at hs
                          exact ⟨ts.length - (a + n), by omega, a + n, a + n, _, rfl, hmk, rfl, hs.pull 4⟩
                      · have f86 : decide ((i : Int) + (n : Int) < (bs.length : Int)) = false := decide_eq_false (by omega)
                        have hmk := hstop (.inr (.inl (by omega)))
                        refine c_still (by kernel_rfl) (by kernel_rfl) ?_
                        have hs := hs.drew
                        refine s_v (by first | exact (r_move (v := iV _) rfl) | exact (r_move rfl)) ?_
                        refine s_v (by first | exact (r_move (v := iV _) rfl) | exact (r_move rfl)) ?_
                        refine s_v (r_addi rfl rfl (by omega)) ?_
                        refine s_v (by first | exact (r_load_at (i := 0) hs rfl Try.underlying22 rfl rfl) | exact (r_load_at (i := 1) hs rfl Try.underlying22 rfl rfl) | exact (r_load_at (i := 2) hs rfl Try.underlying22 rfl rfl) | exact (r_load_at (i := 3) hs rfl Try.underlying22 rfl rfl) | exact (r_load_at (i := 4) hs rfl Try.underlying22 rfl rfl) | exact (r_load_at (i := 5) hs rfl Try.underlying22 rfl rfl) | exact (r_load_at (i := 6) hs rfl Try.underlying22 rfl rfl)) ?_
                        refine s_v (r_len_l Try.underlying22 rfl) ?_
                        refine s_v (r_lssi rfl rfl) ?_
                        refine s_v (by first | exact (r_move (v := bV _) rfl) | exact (r_move rfl)) ?_
                        refine s_vg (by first | exact (r_move (v := iV _) rfl) | exact (r_move rfl)) rfl (f79) ?_
                        refine s_vg (by first | exact (r_move (v := iV _) rfl) | exact (r_move rfl)) rfl (f79) ?_
                        refine s_vg (r_addi rfl rfl (by omega)) rfl (f79) ?_
                        refine s_vg (by first | exact (r_move (v := .slice _ _ _) rfl) | exact (r_move rfl)) rfl (f79) ?_
                        refine s_vg (r_len_l Try.underlying22 rfl) rfl (f79) ?_
                        refine s_vg (r_lssi rfl rfl) rfl (f79) ?_
                        refine s_v (r_pick_t rfl f79 rfl) ?_
                        refine s_v (by first | exact (r_move (v := bV _) rfl) | exact (r_move rfl)) ?_
                        refine s_skip (dj := 88) (b := true) (.inl (by first | rfl | (rw [show _ = _ from f86]; rfl) | exact congrArg Value.bool (f86))) ?_
                        refine s_skip (dj := 88) (b := true) (.inl (by first | rfl | (rw [show _ = _ from f86]; rfl) | exact congrArg Value.bool (f86))) ?_
                        refine s_skip (dj := 88) (b := true) (.inl (by first | rfl | (rw [show _ = _ from f86]; rfl) | exact congrArg Value.bool (f86))) ?_
                        refine s_skip (dj := 88) (b := true) (.inl (by first | rfl | (rw [show _ = _ from f86]; rfl) | exact congrArg Value.bool (f86))) ?_
                        refine s_skip (dj := 88) (b := true) (.inl (by first | rfl | (rw [show _ = _ from f86]; rfl) | exact congrArg Value.bool (f86))) ?_
                        refine s_skip (dj := 88) (b := true) (.inl (by first | rfl | (rw [show _ = _ from f86]; rfl) | exact congrArg Value.bool (f86))) ?_
                        refine s_skip (dj := 88) (b := true) (.inl (by first | rfl | (rw [show _ = _ from f86]; rfl) | exact congrArg Value.bool (f86))) ?_
                        refine s_skip (dj := 88) (b := true) (.inl (by first | rfl | (rw [show _ = _ from f86]; rfl) | exact congrArg Value.bool (f86))) ?_
                        refine s_skip (dj := 88) (b := true) (.inl (by first | rfl | (rw [show _ = _ from f86]; rfl) | exact congrArg Value.bool (f86))) ?_
                        refine s_skip (dj := 88) (b := true) (.inl (by first | rfl | (rw [show _ = _ from f86]; rfl) | exact congrArg Value.bool (f86))) ?_
                        refine s_skip (dj := 88) (b := true) (.inl (by first | rfl | (rw [show _ = _ from f86]; rfl) | exact congrArg Value.bool (f86))) ?_
                        refine s_skip (dj := 88) (b := true) (.inl (by first | rfl | (rw [show _ = _ from f86]; rfl) | exact congrArg Value.bool (f86))) ?_
                        refine s_skip (dj := 88) (b := true) (.inl (by first | rfl | (rw [show _ = _ from f86]; rfl) | exact congrArg Value.bool (f86))) ?_
                        refine s_v (r_pick_f rfl f86 rfl) ?_
                        refine s_nil (nrm_then ?_)
                        refine c_false rfl (rfl) ?_
                        refine c_exit (ex_then (ex_then (ex_hit (nrm_then ?_))))
                        refine c_rseq ?_
                        refine l_v (by first | exact (r_move (v := .func _ _ _) rfl) | exact (r_move (v := .nilFunc) rfl) | exact (r_move rfl)) ?_
                        refine l_v (by first | exact (r_move (v := iV _) rfl) | exact (r_move rfl)) ?_
                        have hs4 := (((hs.pull 4).pull 4).pull 4).pull 4
                        refine l_call (r_call Try.func20 rfl rfl) ?_
                        refine Calls.mono (insert_c a bg (some adb) d ts ht4 hcb (by omega) hIb bw b8 b9 b3 _ (by omega) w _ _ (hrb.below hs.below) hrb hs4) ?_
                        rintro e w_ ⟨⟨vv, rfl⟩, hs⟩
                        refine ⟨_, rfl, ?_⟩
                        have hil2 := insL_cost (t := (ts.drop bg).take (a - bg)) (by rw [mid_len ts hIb hIa]; omega)
                        have hmll := mid_len ts hIb hIa
                        rw [← patch_app] at hs
                        have hpl2 : (patch ts.length (ps ++ insL ((ts.drop bg).take (a - bg)))).length ≤ 12288 := by rw [patch_app, List.length_append]; omega
                        refine l_nil (nrm_then ?_)
                        refine c_rseq ?_
                        refine l_v (by first | exact (r_load_at (i := 0) hs rfl Try.underlying50 rfl rfl) | exact (r_load_at (i := 1) hs rfl Try.underlying50 rfl rfl) | exact (r_load_at (i := 2) hs rfl Try.underlying50 rfl rfl) | exact (r_load_at (i := 3) hs rfl Try.underlying50 rfl rfl) | exact (r_load_at (i := 4) hs rfl Try.underlying50 rfl rfl) | exact (r_load_at (i := 5) hs rfl Try.underlying50 rfl rfl) | exact (r_load_at (i := 6) hs rfl Try.underlying50 rfl rfl)) ?_
                        refine l_v (by first | exact (r_move (v := iV _) rfl) | exact (r_move rfl)) ?_
                        refine l_v (r_muli rfl rfl (by omega)) ?_
                        refine l_v (r_addi rfl rfl (by omega)) ?_
                        refine l_call (r_call Try.func19 rfl rfl) ?_
                        refine Calls.mono (wcount_c (2 * (n : Int) + 1) (by omega) _ (by omega) bw w _ _ hs) ?_
                        rintro e w_ ⟨rfl, hs⟩
                        refine ⟨_, rfl, ?_⟩
                        rw [if_neg (by omega), show (2 * (n : Int) + 1).toNat = 2 * n + 1 by omega] at hs
                        have hen := enc_short 64 (2 * n + 1) 2 (by omega)
                        refine l_nil (nrm_then ?_)
                        refine c_rseq ?_
                        refine l_v (by first | exact (r_load_at (i := 0) hs rfl Try.underlying50 rfl rfl) | exact (r_load_at (i := 1) hs rfl Try.underlying50 rfl rfl) | exact (r_load_at (i := 2) hs rfl Try.underlying50 rfl rfl) | exact (r_load_at (i := 3) hs rfl Try.underlying50 rfl rfl) | exact (r_load_at (i := 4) hs rfl Try.underlying50 rfl rfl) | exact (r_load_at (i := 5) hs rfl Try.underlying50 rfl rfl) | exact (r_load_at (i := 6) hs rfl Try.underlying50 rfl rfl)) ?_
                        refine l_v (by first | exact (r_move (v := iV _) rfl) | exact (r_move rfl)) ?_
                        refine l_call (r_call Try.func19 rfl rfl) ?_
                        refine Calls.mono (wcount_c (i : Int) (by omega) _ (by rw [List.length_append]; omega) bw w _ _ hs) ?_
                        rintro e w_ ⟨rfl, hs⟩
                        refine ⟨_, rfl, ?_⟩
                        rw [if_neg (by omega), Int.toNat_natCast] at hs
                        refine l_nil (nrm_then ?_)
                        refine c_rseq ?_
                        refine l_v (by first | exact (r_move (v := iV _) rfl) | exact (r_move rfl)) ?_
                        refine l_v (by first | exact (r_move (v := iV _) rfl) | exact (r_move rfl)) ?_
                        refine l_v (r_addi rfl rfl (by omega)) ?_
                        refine l_v (by first | exact (r_assign (v := iV _) rfl) | exact (r_assign rfl)) ?_
                        refine l_nil (nrm_then ?_)
                        refine c_region ?_
                        refine l_v (by first | exact (r_move (v := iV _) rfl) | exact (r_move rfl)) ?_
                        first | refine l_store (i := 0) (v := iV _) hs rfl I3 rfl rfl (by first | (simp; done) | (simp; omega) | omega) ?_ | refine l_store (i := 1) (v := iV _) hs rfl I3 rfl rfl (by first | (simp; done) | (simp; omega) | omega) ?_ | refine l_store (i := 2) (v := iV _) hs rfl I3 rfl rfl (by first | (simp; done) | (simp; omega) | omega) ?_ | refine l_store (i := 3) (v := iV _) hs rfl I3 rfl rfl (by first | (simp; done) | (simp; omega) | omega) ?_ | refine l_store (i := 4) (v := iV _) hs rfl I3 rfl rfl (by first | (simp; done) | (simp; omega) | omega) ?_ | refine l_store (i := 5) (v := iV _) hs rfl I3 rfl rfl (by first | (simp; done) | (simp; omega) | omega) ?_ | refine l_store (i := 6) (v := iV _) hs rfl I3 rfl rfl (by first | (simp; done) | (simp; omega) | omega) ?_
                        intro w_ hs
                        refine l_nil (nrm_block (nrm_then ?_))
                        refine And.intro (by refine ⟨?_, ?_, ?_, ?_, ?_, ?_, ?_, ?_, trivial⟩ <;> ((conv => lhs; whnf); (try conv => rhs; whnf))) ?_
                        have e1 : patch ts.length (ps ++ insL ((ts.drop bg).take (a - bg))) ++ enc 64 (2 * n + 1) ++ enc 64 i = patch ts.length (ps ++ (insL ((ts.drop bg).take (a - bg)) ++ [cpy i n])) := by
                          rw [← List.append_assoc, patch_app _ (ps ++ _)]; simp [cpy_bytes]
                        rw [e1] at hs
                        exact ⟨ts.length - (a + n), by omega, a + n, a + n, _, rfl, hmk, rfl, hs.pull 4⟩
                    · have f79 : decide ((a : Int) + (n : Int) < (ts.length : Int)) = false := decide_eq_false (by omega)
                      have hmk := hstop (.inl (by omega))
                      refine c_still (by kernel_rfl) (by kernel_rfl) ?_
                      have hs := hs.drew
                      refine s_v (by first | exact (r_move (v := iV _) rfl) | exact (r_move rfl)) ?_
                      refine s_v (by first | exact (r_move (v := iV _) rfl) | exact (r_move rfl)) ?_
                      refine s_v (r_addi rfl rfl (by omega)) ?_
                      refine s_v (by first | exact (r_load_at (i := 0) hs rfl Try.underlying22 rfl rfl) | exact (r_load_at (i := 1) hs rfl Try.underlying22 rfl rfl) | exact (r_load_at (i := 2) hs rfl Try.underlying22 rfl rfl) | exact (r_load_at (i := 3) hs rfl Try.underlying22 rfl rfl) | exact (r_load_at (i := 4) hs rfl Try.underlying22 rfl rfl) | exact (r_load_at (i := 5) hs rfl Try.underlying22 rfl rfl) | exact (r_load_at (i := 6) hs rfl Try.underlying22 rfl rfl)) ?_
                      refine s_v (r_len_l Try.underlying22 rfl) ?_
                      refine s_v (r_lssi rfl rfl) ?_
                      refine s_v (by first | exact (r_move (v := bV _) rfl) | exact (r_move rfl)) ?_
                      refine s_skip (dj := 80) (b := true) (.inl (by first | rfl | (rw [show _ = _ from f79]; rfl) | exact congrArg Value.bool (f79))) ?_
                      refine s_skip (dj := 80) (b := true) (.inl (by first | rfl | (rw [show _ = _ from f79]; rfl) | exact congrArg Value.bool (f79))) ?_
                      refine s_skip (dj := 80) (b := true) (.inl (by first | rfl | (rw [show _ = _ from f79]; rfl) | exact congrArg Value.bool (f79))) ?_
                      refine s_skip (dj := 80) (b := true) (.inl (by first | rfl | (rw [show _ = _ from f79]; rfl) | exact congrArg Value.bool (f79))) ?_
                      refine s_skip (dj := 80) (b := true) (.inl (by first | rfl | (rw [show _ = _ from f79]; rfl) | exact congrArg Value.bool (f79))) ?_
                      refine s_skip (dj := 80) (b := true) (.inl (by first | rfl | (rw [show _ = _ from f79]; rfl) | exact congrArg Value.bool (f79))) ?_
                      refine s_v (r_pick_f rfl f79 rfl) ?_
                      refine s_v (by first | exact (r_move (v := bV _) rfl) | exact (r_move rfl)) ?_
                      refine s_skip (dj := 88) (b := true) (.inl (by first | rfl | (rw [show _ = _ from rfl]; rfl) | exact congrArg Value.bool (rfl))) ?_
                      refine s_skip (dj := 88) (b := true) (.inl (by first | rfl | (rw [show _ = _ from rfl]; rfl) | exact congrArg Value.bool (rfl))) ?_
                      refine s_skip (dj := 88) (b := true) (.inl (by first | rfl | (rw [show _ = _ from rfl]; rfl) | exact congrArg Value.bool (rfl))) ?_
                      refine s_skip (dj := 88) (b := true) (.inl (by first | rfl | (rw [show _ = _ from rfl]; rfl) | exact congrArg Value.bool (rfl))) ?_
                      refine s_skip (dj := 88) (b := true) (.inl (by first | rfl | (rw [show _ = _ from rfl]; rfl) | exact congrArg Value.bool (rfl))) ?_
                      refine s_skip (dj := 88) (b := true) (.inl (by first | rfl | (rw [show _ = _ from rfl]; rfl) | exact congrArg Value.bool (rfl))) ?_
                      refine s_skip (dj := 88) (b := true) (.inl (by first | rfl | (rw [show _ = _ from rfl]; rfl) | exact congrArg Value.bool (rfl))) ?_
                      refine s_skip (dj := 88) (b := true) (.inl (by first | rfl | (rw [show _ = _ from rfl]; rfl) | exact congrArg Value.bool (rfl))) ?_
                      refine s_skip (dj := 88) (b := true) (.inl (by first | rfl | (rw [show _ = _ from rfl]; rfl) | exact congrArg Value.bool (rfl))) ?_
                      refine s_skip (dj := 88) (b := true) (.inl (by first | rfl | (rw [show _ = _ from rfl]; rfl) | exact congrArg Value.bool (rfl))) ?_
                      refine s_skip (dj := 88) (b := true) (.inl (by first | rfl | (rw [show _ = _ from rfl]; rfl) | exact congrArg Value.bool (rfl))) ?_
                      refine s_skip (dj := 88) (b := true) (.inl (by first | rfl | (rw [show _ = _ from rfl]; rfl) | exact congrArg Value.bool (rfl))) ?_
                      refine s_skip (dj := 88) (b := true) (.inl (by first | rfl | (rw [show _ = _ from rfl]; rfl) | exact congrArg Value.bool (rfl))) ?_
                      refine s_v (r_pick_f rfl rfl rfl) ?_
                      refine s_nil (nrm_then ?_)
                      refine c_false rfl (rfl) ?_
                      refine c_exit (ex_then (ex_then (ex_hit (nrm_then ?_))))
                      refine c_rseq ?_
                      refine l_v (by first | exact (r_move (v := .func _ _ _) rfl) | exact (r_move (v := .nilFunc) rfl) | exact (r_move rfl)) ?_
                      refine l_v (by first | exact (r_move (v := iV _) rfl) | exact (r_move rfl)) ?_
                      have hs4 := (((hs.pull 4).pull 4).pull 4).pull 4
                      refine l_call (r_call Try.func20 rfl rfl) ?_
                      refine Calls.mono (insert_c a bg (some adb) d ts ht4 hcb (by omega) hIb bw b8 b9 b3 _ (by omega) w _ _ (hrb.below hs.below) hrb hs4) ?_
                      rintro e w_ ⟨⟨vv, rfl⟩, hs⟩
                      refine ⟨_, rfl, ?_⟩
                      have hil2 := insL_cost (t := (ts.drop bg).take (a - bg)) (by rw [mid_len ts hIb hIa]; omega)
                      have hmll := mid_len ts hIb hIa
                      rw [← patch_app] at hs
                      have hpl2 : (patch ts.length (ps ++ insL ((ts.drop bg).take (a - bg)))).length ≤ 12288 := by rw [patch_app, List.length_append]; omega
                      refine l_nil (nrm_then ?_)
                      refine c_rseq ?_
                      refine l_v (by first | exact (r_load_at (i := 0) hs rfl Try.underlying50 rfl rfl) | exact (r_load_at (i := 1) hs rfl Try.underlying50 rfl rfl) | exact (r_load_at (i := 2) hs rfl Try.underlying50 rfl rfl) | exact (r_load_at (i := 3) hs rfl Try.underlying50 rfl rfl) | exact (r_load_at (i := 4) hs rfl Try.underlying50 rfl rfl) | exact (r_load_at (i := 5) hs rfl Try.underlying50 rfl rfl) | exact (r_load_at (i := 6) hs rfl Try.underlying50 rfl rfl)) ?_
                      refine l_v (by first | exact (r_move (v := iV _) rfl) | exact (r_move rfl)) ?_
                      refine l_v (r_muli rfl rfl (by omega)) ?_
                      refine l_v (r_addi rfl rfl (by omega)) ?_
                      refine l_call (r_call Try.func19 rfl rfl) ?_
                      refine Calls.mono (wcount_c (2 * (n : Int) + 1) (by omega) _ (by omega) bw w _ _ hs) ?_
                      rintro e w_ ⟨rfl, hs⟩
                      refine ⟨_, rfl, ?_⟩
                      rw [if_neg (by omega), show (2 * (n : Int) + 1).toNat = 2 * n + 1 by omega] at hs
                      have hen := enc_short 64 (2 * n + 1) 2 (by omega)
                      refine l_nil (nrm_then ?_)
                      refine c_rseq ?_
                      refine l_v (by first | exact (r_load_at (i := 0) hs rfl Try.underlying50 rfl rfl) | exact (r_load_at (i := 1) hs rfl Try.underlying50 rfl rfl) | exact (r_load_at (i := 2) hs rfl Try.underlying50 rfl rfl) | exact (r_load_at (i := 3) hs rfl Try.underlying50 rfl rfl) | exact (r_load_at (i := 4) hs rfl Try.underlying50 rfl rfl) | exact (r_load_at (i := 5) hs rfl Try.underlying50 rfl rfl) | exact (r_load_at (i := 6) hs rfl Try.underlying50 rfl rfl)) ?_
                      refine l_v (by first | exact (r_move (v := iV _) rfl) | exact (r_move rfl)) ?_
                      refine l_call (r_call Try.func19 rfl rfl) ?_
                      refine Calls.mono (wcount_c (i : Int) (by omega) _ (by rw [List.length_append]; omega) bw w _ _ hs) ?_
                      rintro e w_ ⟨rfl, hs⟩
                      refine ⟨_, rfl, ?_⟩
                      rw [if_neg (by omega), Int.toNat_natCast] at hs
                      refine l_nil (nrm_then ?_)
                      refine c_rseq ?_
                      refine l_v (by first | exact (r_move (v := iV _) rfl) | exact (r_move rfl)) ?_
                      refine l_v (by first | exact (r_move (v := iV _) rfl) | exact (r_move rfl)) ?_
                      refine l_v (r_addi rfl rfl (by omega)) ?_
                      refine l_v (by first | exact (r_assign (v := iV _) rfl) | exact (r_assign rfl)) ?_
                      refine l_nil (nrm_then ?_)
                      refine c_region ?_
                      refine l_v (by first | exact (r_move (v := iV _) rfl) | exact (r_move rfl)) ?_
                      first | refine l_store (i := 0) (v := iV _) hs rfl I3 rfl rfl (by first | (simp; done) | (simp; omega) | omega) ?_ | refine l_store (i := 1) (v := iV _) hs rfl I3 rfl rfl (by first | (simp; done) | (simp; omega) | omega) ?_ | refine l_store (i := 2) (v := iV _) hs rfl I3 rfl rfl (by first | (simp; done) | (simp; omega) | omega) ?_ | refine l_store (i := 3) (v := iV _) hs rfl I3 rfl rfl (by first | (simp; done) | (simp; omega) | omega) ?_ | refine l_store (i := 4) (v := iV _) hs rfl I3 rfl rfl (by first | (simp; done) | (simp; omega) | omega) ?_ | refine l_store (i := 5) (v := iV _) hs rfl I3 rfl rfl (by first | (simp; done) | (simp; omega) | omega) ?_ | refine l_store (i := 6) (v := iV _) hs rfl I3 rfl rfl (by first | (simp; done) | (simp; omega) | omega) ?_
                      intro w_ hs
                      refine l_nil (nrm_block (nrm_then ?_))
                      refine And.intro (by refine ⟨?_, ?_, ?_, ?_, ?_, ?_, ?_, ?_, trivial⟩ <;> ((conv => lhs; whnf); (try conv => rhs; whnf))) ?_
                      have e1 : patch ts.length (ps ++ insL ((ts.drop bg).take (a - bg))) ++ enc 64 (2 * n + 1) ++ enc 64 i = patch ts.length (ps ++ (insL ((ts.drop bg).take (a - bg)) ++ [cpy i n])) := by
                        rw [← List.append_assoc, patch_app _ (ps ++ _)]; simp [cpy_bytes]
                      rw [e1] at hs
                      exact ⟨ts.length - (a + n), by omega, a + n, a + n, _, rfl, hmk, rfl, hs.pull 4⟩
              · have hkey : Rd w_ 1 (if d = a then some adb else (some adb).map (·.add a)) (ts.length - a) (((ts.drop a).take (ts.length - a)).map u8V) := rd_mid hrb1 (by omega) (Nat.le_refl _) hcb
                have f70 : decide ((a : Int) + 8 > (ts.length : Int)) = true := decide_eq_true (by omega)
                have hmiss := mk_miss hI hal (fun e1 e2 e3 => by omega)
                refine l_v (r_min_r rfl rfl (by omega)) ?_
                refine l_v (r_slice_plh a ts.length Try.underlying22 I5 rfl rfl rfl (by omega)) ?_
                refine l_v (r_cv_bs (l := (ts.drop a).take (ts.length - a)) Try.underlying22 Try.underlying5 Try.underlying9 rfl hkey) ?_
                refine l_v (r_look_ok (k := sV (ofL ((ts.drop a).take (ts.length - a)))) hs Try.underlying49 Try.underlying9 I3 rfl rfl trivial) ?_
                refine l_v (r_move rfl) ?_
                refine l_v (r_extract rfl rfl) ?_
                refine l_v (r_extract rfl rfl) ?_
                refine l_v (by first | exact (r_assign (v := iV _) rfl) | exact (r_assign rfl)) ?_
                refine l_v (by first | exact (r_assign (v := bV _) rfl) | exact (r_assign rfl)) ?_
                refine l_nil (nrm_then ?_)
                refine c_seq ?_
                refine c_seq ?_
                rcases hFk : F (sV (ofL ((ts.drop a).take (ts.length - a)))) with _ | v
                · refine c_region ?_
                  refine l_v (by first | exact (r_move (v := bV _) rfl) | exact (r_move rfl)) ?_
                  refine l_v (r_not rfl) ?_
                  refine l_v (by first | exact (r_move (v := bV _) rfl) | exact (r_move rfl)) ?_
                  refine l_no rfl (rfl) ?_
                  refine l_no rfl (rfl) ?_
                  refine l_no rfl (rfl) ?_
                  refine l_no rfl (rfl) ?_
                  refine l_no rfl (rfl) ?_
                  refine l_v (r_pick_t rfl rfl rfl) ?_
                  refine l_nil (nrm_then ?_)
                  refine c_true rfl (rfl) ?_
                  refine c_rseq ?_
                  refine l_v (by first | exact (r_move (v := iV _) rfl) | exact (r_move rfl)) ?_
                  refine l_v (r_addi rfl rfl (by omega)) ?_
                  refine l_v (by first | exact (r_assign (v := iV _) rfl) | exact (r_assign rfl)) ?_
                  refine l_nil (nrm_then ?_)
                  refine c_exit (ex_then (ex_hit (nrm_then ?_)))
                  refine And.intro (by refine ⟨?_, ?_, ?_, ?_, ?_, ?_, ?_, ?_, trivial⟩ <;> ((conv => lhs; whnf); (try conv => rhs; whnf))) ?_
                  exact ⟨ts.length - (a + 1), by omega, a + 1, bg, ps, rfl, hmiss, rfl, hs⟩
                · skip
                  obtain ⟨i, rfl, _, _⟩ := hF0.is _ _ hFk
                  refine c_region ?_
                  refine l_v (by first | exact (r_move (v := bV _) rfl) | exact (r_move rfl)) ?_
                  refine l_v (r_not rfl) ?_
                  refine l_v (by first | exact (r_move (v := bV _) rfl) | exact (r_move rfl)) ?_
                  refine l_vg (by first | exact (r_move (v := iV _) rfl) | exact (r_move rfl)) rfl (rfl) ?_
                  refine l_vg (r_addi rfl rfl (by omega)) rfl (rfl) ?_
                  refine l_vg (by first | exact (r_load_at (i := 0) hs rfl Try.underlying22 rfl rfl) | exact (r_load_at (i := 1) hs rfl Try.underlying22 rfl rfl) | exact (r_load_at (i := 2) hs rfl Try.underlying22 rfl rfl) | exact (r_load_at (i := 3) hs rfl Try.underlying22 rfl rfl) | exact (r_load_at (i := 4) hs rfl Try.underlying22 rfl rfl) | exact (r_load_at (i := 5) hs rfl Try.underlying22 rfl rfl) | exact (r_load_at (i := 6) hs rfl Try.underlying22 rfl rfl)) rfl (rfl) ?_
                  refine l_vg (r_len_l Try.underlying22 rfl) rfl (rfl) ?_
                  refine l_vg (r_gtri rfl rfl) rfl (rfl) ?_
                  refine l_v (r_pick_f rfl rfl rfl) ?_
                  refine l_nil (nrm_then ?_)
                  refine c_true rfl (f70) ?_
                  refine c_rseq ?_
                  refine l_v (by first | exact (r_move (v := iV _) rfl) | exact (r_move rfl)) ?_
                  refine l_v (r_addi rfl rfl (by omega)) ?_
                  refine l_v (by first | exact (r_assign (v := iV _) rfl) | exact (r_assign rfl)) ?_
                  refine l_nil (nrm_then ?_)
                  refine c_exit (ex_then (ex_hit (nrm_then ?_)))
                  refine And.intro (by refine ⟨?_, ?_, ?_, ?_, ?_, ?_, ?_, ?_, trivial⟩ <;> ((conv => lhs; whnf); (try conv => rhs; whnf))) ?_
                  exact ⟨ts.length - (a + 1), by omega, a + 1, bg, ps, rfl, hmiss, rfl, hs⟩
            · obtain rfl : a = ts.length := by have := of_decide_eq_false h4; omega
              obtain ⟨m1, m2, m3, m4⟩ := mk_end ht4 hI
              have hs4 := (((hs.pull 4).pull 4).pull 4).pull 4
              replace h4 := of_decide_eq_false h4
              refine c_exit (ex_then (ex_then (ex_hit (nrm_then ?_))))
              refine c_rseq ?_
              refine l_v (by first | exact (r_move (v := .func _ _ _) rfl) | exact (r_move (v := .nilFunc) rfl) | exact (r_move rfl)) ?_
              refine l_v (by first | exact (r_load_at (i := 0) hs rfl Try.underlying22 rfl rfl) | exact (r_load_at (i := 1) hs rfl Try.underlying22 rfl rfl) | exact (r_load_at (i := 2) hs rfl Try.underlying22 rfl rfl) | exact (r_load_at (i := 3) hs rfl Try.underlying22 rfl rfl) | exact (r_load_at (i := 4) hs rfl Try.underlying22 rfl rfl) | exact (r_load_at (i := 5) hs rfl Try.underlying22 rfl rfl) | exact (r_load_at (i := 6) hs rfl Try.underlying22 rfl rfl)) ?_
              refine l_v (r_len_l Try.underlying22 rfl) ?_
              refine l_call (r_call Try.func20 rfl rfl) ?_
              refine Calls.mono (insert_c ts.length bg B d ts ht4 hcb (Nat.le_refl _) hIb bw b8 b9 b3 _ (by omega) w _ _ hrb1 hrb hs4) ?_
              rintro e w_ ⟨⟨vv, rfl⟩, hs⟩
              refine ⟨_, rfl, ?_⟩
              rw [← patch_app] at hs
              refine l_nil (nrm_then ?_)
              refine c_rseq ?_
              refine l_v (by first | exact (r_load_at (i := 0) hs rfl Try.underlying50 rfl rfl) | exact (r_load_at (i := 1) hs rfl Try.underlying50 rfl rfl) | exact (r_load_at (i := 2) hs rfl Try.underlying50 rfl rfl) | exact (r_load_at (i := 3) hs rfl Try.underlying50 rfl rfl) | exact (r_load_at (i := 4) hs rfl Try.underlying50 rfl rfl) | exact (r_load_at (i := 5) hs rfl Try.underlying50 rfl rfl) | exact (r_load_at (i := 6) hs rfl Try.underlying50 rfl rfl)) ?_
              refine l_call (r_call Try.func22 rfl rfl) ?_
              refine Calls.mono (bytes_c _ bw w _ _ hs) ?_
              rintro e w_ ⟨rfl, rfl⟩
              refine ⟨_, rfl, ?_⟩
              refine l_v (by first | exact (r_assign (v := sV _) rfl) | exact (r_assign rfl)) ?_
              refine l_v (by first | exact (r_assign (v := iV _) rfl) | exact (r_assign rfl)) ?_
              refine l_nil (nrm_then ?_)
              refine c_ret ?_
              show Fin _ _ _ _ _
              refine fin2 rfl ?_
              exact ⟨⟨_, _, rfl, fun h => by omega, fun _ _ => ⟨rfl, _, ⟨m1, m2, m3, m4⟩, rfl⟩⟩, hs.below⟩
end Go.Proofs.Ytmeikcifobfolaa.Del
