/- The walk of the law BoxKeeps. -/
import Derived.Test.YtiipibmliffghaaBoxKeepFn
import Derived.Test.YtiipibmliffghaaBoxFew
import Derived.Test.YtiipibmliffghaaBoxNil
import Derived.Test.YtiipibmliffghaaDskBack
namespace Go.Proofs.Ytiipibmliffghaa.Box
open Go Go.RowKit Go.Proofs.Ytiipibmliffghaa.Eng Go.Proofs.Ytiipibmliffghaa.Six Go.Proofs.Ytiipibmliffghaa.CrcFn Go.Proofs.Ytiipibmliffghaa.Crc Go.Proofs.Ytiipibmliffghaa.Dsk
set_option linter.unusedVariables false
set_option maxRecDepth 100000
abbrev plI (x : It) : List Value := plC 3 (x.2.1 : Int) (x.2.2 : Int)
abbrev rowP (v : Value) (ts : List It) : HP := RowC 53 3 v ts.length (ts.flatMap plI)
abbrev rowT (v : Value) (th : List Rec) : HP := RowC 25 66 v th.length (th.flatMap recC)
theorem rowP_app {w0 w : World} {v : Value} {ts : List It} {x : It} {L : List HP} (hs : Eng.Sep w0 w (RowC 53 3 v (ts.length + 1) (ts.flatMap plI ++ plI x) :: L)) : Eng.Sep w0 w (rowP v (ts ++ [x]) :: L) := by
  unfold rowP; rw [List.length_append, List.flatMap_append]; simp only [List.flatMap_cons, List.flatMap_nil, List.append_nil]; exact hs
theorem rowT_app {w0 w : World} {v : Value} {ts : List Rec} {x : Rec} {L : List HP} (hs : Eng.Sep w0 w (RowC 25 66 v (ts.length + 1) (ts.flatMap recC ++ recC x) :: L)) : Eng.Sep w0 w (rowT v (ts ++ [x]) :: L) := by
  unfold rowT; rw [List.length_append, List.flatMap_append]; simp only [List.flatMap_cons, List.flatMap_nil, List.append_nil]; exact hs
theorem items_snoc (th : List Rec) (r : Rec) : itemsF 0 (th ++ [r]) = itemsF 0 th ++ [(r, (PK th).length, (pk r).length)] := by
  rw [items_app, Nat.zero_add]; rfl
theorem PK_snoc (th : List Rec) (r : Rec) : PK (th ++ [r]) = PK th ++ pk r := by rw [PK_app, PK_cons]; simp [PK]
theorem steps_kS (t : Nat) (d : List UInt8) (sr st : Int) : (kS t d sr st).steps = st := rfl
theorem bfile_c (bl b : Nat) (file sz : Int) (w0 w : World) (R : List HP) (hs : Eng.Sep w0 w (boxH bl b file sz :: R)) :
    Calls Try.prog 25 #[dp bl] w fun e w' => e = .returned (iV file) ∧ w' = w := by
  have hs : Eng.Sep w0 w (blk bl [dp b, iV file, iV sz] 107 :: R) := hs
  refine enter (P := Try.prog) Try.func25 rfl rfl ?_
  refine c_rseq ?_
  refine l_v (by first | exact (r_assign (v := iV _) rfl) | exact (r_assign rfl)) ?_
  refine l_nil (nrm_then ?_)
  refine c_seq ?_
  refine c_rseq ?_
  refine l_v (r_move (v := .pointer _) rfl) ?_
  refine l_v (by first | exact (r_eqlp_some Try.underlying64 rfl rfl) | exact (r_eqlp_none Try.underlying64 rfl rfl)) ?_
  refine l_nil (nrm_then ?_)
  refine c_false rfl (rfl) ?_
  refine c_skip (nrm_then ?_)
  refine c_rseq ?_
  refine l_v (r_move (v := .pointer _) rfl) ?_
  refine l_v (by first | exact (r_nilCheck_p rfl) | exact (r_nilCheck_f rfl)) ?_
  refine l_v (by first | exact (r_fieldAddr0 (off := 1) (T := 3) (by kernel_rfl) rfl) | exact (r_fieldAddr (off := 1) (T := 3) (by kernel_rfl) rfl)) ?_
  refine l_v (by first | exact (r_load_at (i := 0) hs rfl Try.underlying3 rfl rfl) | exact (r_load_at (i := 1) hs rfl Try.underlying3 rfl rfl) | exact (r_load_at (i := 2) hs rfl Try.underlying3 rfl rfl) | exact (r_load_at (i := 3) hs rfl Try.underlying3 rfl rfl) | exact (r_load_at (i := 4) hs rfl Try.underlying3 rfl rfl) | exact (r_load_at (i := 5) hs rfl Try.underlying3 rfl rfl) | exact (r_load_at (i := 6) hs rfl Try.underlying3 rfl rfl)) ?_
  refine l_v (by first | exact (r_assign (v := iV _) rfl) | exact (r_assign rfl)) ?_
  refine l_nil (nrm_then ?_)
  refine c_ret ?_
  show Fin _ _ _ _ _
  refine fin1 rfl ?_
  exact ⟨rfl, rfl⟩
theorem bsync_c (bl b : Nat) (file sz : Int) (S : DiskS) (hg : GoodS S) (hst : S.steps ≤ 4611686018427387904) (w0 w : World) (R : List HP) (hs : Eng.Sep w0 w (boxH bl b file sz :: diskH b S :: R)) :
    Calls Try.prog 27 #[dp bl] w fun e w' => e = .returned (iV (syncS S file).2) ∧ Eng.Sep w0 w' (boxH bl b file sz :: diskH b (syncS S file).1 :: R) := by
  have hs : Eng.Sep w0 w (blk bl [dp b, iV file, iV sz] 107 :: diskH b S :: R) := hs
  refine enter (P := Try.prog) Try.func27 rfl rfl ?_
  refine c_rseq ?_
  refine l_v (by first | exact (r_assign (v := iV _) rfl) | exact (r_assign rfl)) ?_
  refine l_nil (nrm_then ?_)
  refine c_seq ?_
  refine c_rseq ?_
  refine l_v (r_move (v := .pointer _) rfl) ?_
  refine l_v (by first | exact (r_eqlp_some Try.underlying64 rfl rfl) | exact (r_eqlp_none Try.underlying64 rfl rfl)) ?_
  refine l_nil (nrm_then ?_)
  refine c_false rfl (rfl) ?_
  refine c_skip (nrm_then ?_)
  refine c_seq ?_
  refine c_float [] 8 (by kernel_rfl) (by kernel_rfl) ?_
  intro hbF
  show OkF _ _ _ _ _ _ (_ :: _) 0 _ _
  refine f_v (fun wl hbl => by have hs := hs.below_ hbl; exact (r_move (v := .pointer _) rfl)) ?_
  refine f_v (fun wl hbl => by have hs := hs.below_ hbl; first | exact (r_nilCheck_p rfl) | exact (r_nilCheck_f rfl)) ?_
  refine f_v (fun wl hbl => by have hs := hs.below_ hbl; first | exact (r_fieldAddr0 (off := 0) (T := 54) (by kernel_rfl) rfl) | exact (r_fieldAddr (off := 0) (T := 54) (by kernel_rfl) rfl)) ?_
  refine f_v (fun wl hbl => by have hs := hs.below_ hbl; first | exact (r_load_at (i := 0) hs rfl Try.underlying54 rfl rfl) | exact (r_load_at (i := 1) hs rfl Try.underlying54 rfl rfl) | exact (r_load_at (i := 2) hs rfl Try.underlying54 rfl rfl) | exact (r_load_at (i := 3) hs rfl Try.underlying54 rfl rfl) | exact (r_load_at (i := 4) hs rfl Try.underlying54 rfl rfl) | exact (r_load_at (i := 5) hs rfl Try.underlying54 rfl rfl) | exact (r_load_at (i := 6) hs rfl Try.underlying54 rfl rfl)) ?_
  refine f_v (fun wl hbl => by have hs := hs.below_ hbl; exact (r_move (v := .pointer _) rfl)) ?_
  refine f_v (fun wl hbl => by have hs := hs.below_ hbl; first | exact (r_nilCheck_p rfl) | exact (r_nilCheck_f rfl)) ?_
  refine f_v (fun wl hbl => by have hs := hs.below_ hbl; first | exact (r_fieldAddr0 (off := 1) (T := 3) (by kernel_rfl) rfl) | exact (r_fieldAddr (off := 1) (T := 3) (by kernel_rfl) rfl)) ?_
  refine f_v (fun wl hbl => by have hs := hs.below_ hbl; first | exact (r_load_at (i := 0) hs rfl Try.underlying3 rfl rfl) | exact (r_load_at (i := 1) hs rfl Try.underlying3 rfl rfl) | exact (r_load_at (i := 2) hs rfl Try.underlying3 rfl rfl) | exact (r_load_at (i := 3) hs rfl Try.underlying3 rfl rfl) | exact (r_load_at (i := 4) hs rfl Try.underlying3 rfl rfl) | exact (r_load_at (i := 5) hs rfl Try.underlying3 rfl rfl) | exact (r_load_at (i := 6) hs rfl Try.underlying3 rfl rfl)) ?_
  refine f_nil ?_
  have hs := hs.below_ hbF
  show OkL _ _ _ _ (_ :: _) _ _
  refine l_call (r_call Try.func51 rfl rfl) ?_
  refine Calls.mono (sync_c b S hg hst file w0 _ _ (hs.pull 1)) ?_
  rintro e w_ ⟨rfl, hs⟩
  refine ⟨_, rfl, ?_⟩
  refine l_v (by first | exact (r_assign (v := iV _) rfl) | exact (r_assign rfl)) ?_
  refine l_nil (nrm_then ?_)
  refine c_ret ?_
  show Fin _ _ _ _ _
  refine fin1 rfl ?_
  exact ⟨rfl, hs.pull 1⟩
set_option maxHeartbeats 16000000 in
theorem keeps_main {w : World} (A : Option Addr) (c : Nat) (rs : List Rec) (hr : Rd w 66 A rs.length (rs.flatMap recC)) (hcap : rs.length ≤ c) (hok : ∀ r ∈ rs, r.ok ∧ r.body.length ≤ 9223372036854775807) (tb : Bool) (sy kp : Int) :
    Calls Try.prog 8 #[.slice A rs.length c, bV tb, iV sy, iV kp] w fun e w' => e = .returned (bV true) ∧ Below w.heap.size w w' := by
  have hn := hr.2.1
  have hlen : ∀ r ∈ rs, (recC r).length = 66 := fun r h => recC_length (hok r h).1
  refine enter (P := Try.prog) Try.func8 rfl rfl ?_
  have hs := Sep.init w
  refine c_rseq ?_
  refine l_v (by first | exact (r_assign (v := bV _) rfl) | exact (r_assign rfl)) ?_
  refine l_nil (nrm_then ?_)
  refine c_seq ?_
  refine c_rseq ?_
  refine l_call (r_call Try.func9 rfl rfl) ?_
  refine Calls.mono (awake_c _) ?_
  rintro e w_ ⟨rfl, hb⟩
  refine ⟨_, rfl, ?_⟩
  have hs := hs.below_ hb
  refine l_v (r_not rfl) ?_
  refine l_v (by first | exact (r_move (v := bV _) rfl) | exact (r_move rfl)) ?_
  refine l_vg (by first | exact (r_move (v := .slice _ _ _) rfl) | exact (r_move rfl)) rfl (rfl) ?_
  refine l_callg (r_call Try.func16 rfl rfl) rfl (rfl) ?_
  refine Calls.mono (few_c A c rs _ (hr.below hs.below) (fun r h => (hok r h).1)) ?_
  rintro e w_ ⟨bf, rfl, hfew, hb2⟩
  refine ⟨_, rfl, ?_⟩
  have hs := hs.below_ hb2
  refine l_vg (r_not rfl) rfl (rfl) ?_
  refine l_v (r_pick_f rfl rfl rfl) ?_
  refine l_nil (nrm_then ?_)
  rcases Bool.eq_false_or_eq_true bf with hbf | hbf
  · have f : (!bf) = false := by rw [hbf]; rfl
    obtain ⟨hl2, hz3⟩ := hfew hbf
    refine c_false rfl (f) ?_
    refine c_skip (nrm_then ?_)
    refine c_rseq ?_
    refine l_call (r_call Try.func19 rfl rfl) ?_
    refine Calls.mono (new_ok 2000 2000 (by decide) w _ _ hs) ?_
    rintro e w_ ⟨b, rfl, hs⟩
    refine ⟨_, rfl, ?_⟩
    have hg0 := good_new (hot := 2000) (cold := 2000) (by decide) (by decide)
    refine l_v (r_move rfl) ?_
    refine l_v (r_extract rfl rfl) ?_
    refine l_v (r_extract rfl rfl) ?_
    refine l_v (r_assign (v := .pointer _) rfl) ?_
    refine l_v (by first | exact (r_assign (v := iV _) rfl) | exact (r_assign rfl)) ?_
    refine l_nil (nrm_then ?_)
    refine c_rseq ?_
    refine l_v (by first | exact (r_assign (v := iV _) rfl) | exact (r_assign rfl)) ?_
    refine l_nil (nrm_then ?_)
    refine c_seq ?_
    refine c_rseq ?_
    refine l_v (by first | exact (r_move (v := bV _) rfl) | exact (r_move rfl)) ?_
    refine l_nil (nrm_then ?_)
    refine c_mid [0, 2, 3, 8, 9] (fun f' w' => w' = w_ ∧ ∃ t : Nat, t < 2 ∧ f' 11 = iV (t : Int)) ?_ ?_
    · rcases Bool.eq_false_or_eq_true tb with ht | ht
      · skip
        refine c_true rfl (ht) ?_
        refine c_region ?_
        refine l_v (by first | exact (r_assign (v := iV _) rfl) | exact (r_assign rfl)) ?_
        refine l_nil (nrm_then ?_)
        refine And.intro (by refine ⟨?_, ?_, ?_, ?_, ?_, trivial⟩ <;> ((conv => lhs; whnf); (try conv => rhs; whnf))) ?_
        exact ⟨rfl, 1, by decide, rfl⟩
      · skip
        refine c_false rfl (ht) ?_
        refine c_skip (nrm_then ?_)
        refine And.intro (by refine ⟨?_, ?_, ?_, ?_, ?_, trivial⟩ <;> ((conv => lhs; whnf); (try conv => rhs; whnf))) ?_
        exact ⟨rfl, 0, by decide, rfl⟩
    · rintro g w_ ⟨rfl, t, ht, h11⟩
      show OkC _ _ _ _ _ _
      refine OkC.env ?_ (fixH (L := [(11, _)]) ⟨h11, trivial⟩)
      clear h11
      refine c_rseq ?_
      refine l_v (r_move (v := .pointer _) rfl) ?_
      refine l_v (by first | exact (r_move (v := iV _) rfl) | exact (r_move rfl)) ?_
      refine l_call (r_call Try.func24 rfl rfl) ?_
      refine Calls.mono (bbegin_c b (newS 2000 2000) hg0 (by decide) (t : Int) 3 w _ _ hs) ?_
      rintro e w_ ⟨q, rfl, hq, hs⟩
      refine ⟨_, rfl, ?_⟩
      have hg1 := good_make hg0 (t : Int) 3
      rw [k_make ht] at hs hq hg1 ⊢
      obtain ⟨bl, rfl⟩ : ∃ bl, q = some bl := by
        cases q with
        | none => exact absurd (hq.1 rfl) (fun h => h rfl)
        | some bl => exact ⟨bl, rfl⟩
      have hs : Eng.Sep w w_ (boxH bl b 3 0 :: diskH b (kS t [] (-1) 1) :: []) := hs
      refine l_v (r_move rfl) ?_
      refine l_v (r_extract rfl rfl) ?_
      refine l_v (r_extract rfl rfl) ?_
      refine l_v (r_assign (v := .pointer _) rfl) ?_
      refine l_v (by first | exact (r_assign (v := iV _) rfl) | exact (r_assign rfl)) ?_
      refine l_nil (nrm_then ?_)
      refine c_seq ?_
      refine c_rseq ?_
      refine l_v (by first | exact (r_move (v := iV _) rfl) | exact (r_move rfl)) ?_
      refine l_v (r_neqi rfl rfl) ?_
      refine l_v (by first | exact (r_move (v := bV _) rfl) | exact (r_move rfl)) ?_
      refine l_vg (r_move (v := .pointer _) rfl) rfl (rfl) ?_
      refine l_callg (r_call Try.func25 rfl rfl) rfl (rfl) ?_
      refine Calls.mono (bfile_c bl b 3 0 w _ _ hs) ?_
      rintro e w_ ⟨rfl, hww⟩
      refine ⟨_, rfl, ?_⟩
      rw [hww]
      refine l_vg (r_neqi rfl rfl) rfl (rfl) ?_
      refine l_v (r_pick_f rfl rfl rfl) ?_
      refine l_v (by first | exact (r_move (v := bV _) rfl) | exact (r_move rfl)) ?_
      refine l_vg (r_move (v := .pointer _) rfl) rfl (rfl) ?_
      refine l_callg (r_call Try.func26 rfl rfl) rfl (rfl) ?_
      refine Calls.mono (bsize_c bl b 3 0 w _ _ hs) ?_
      rintro e w_ ⟨rfl, hww2⟩
      refine ⟨_, rfl, ?_⟩
      rw [hww2]
      refine l_vg (r_neqi rfl rfl) rfl (rfl) ?_
      refine l_v (r_pick_f rfl rfl rfl) ?_
      refine l_nil (nrm_then ?_)
      refine c_false rfl (rfl) ?_
      refine c_skip (nrm_then ?_)
      refine c_rseq ?_
      refine l_v (by first | exact (r_assign (v := .slice _ _ _) rfl) | exact (r_assign rfl)) ?_
      refine l_nil (nrm_then ?_)
      refine c_rseq ?_
      refine l_v (by first | exact (r_assign (v := .slice _ _ _) rfl) | exact (r_assign rfl)) ?_
      refine l_nil (nrm_then ?_)
      refine c_rseq ?_
      refine l_v (by first | exact (r_assign (v := iV _) rfl) | exact (r_assign rfl)) ?_
      refine l_nil (nrm_then ?_)
      refine c_seq ?_
      refine c_rseq ?_
      refine l_v (by first | exact (r_assign (v := iV _) rfl) | exact (r_assign rfl)) ?_
      refine l_nil (nrm_then ?_)
      refine c_block ?_
      have hs := (hs.rowNil 25 66).rowNil 53 3
      refine c_loopn [0, 2, 3, 9, 12] (fun m f' w' => ∃ (i : Nat) (th : List Rec) (su : Nat) (sr st : Int) (vp vt : Value), i + m = rs.length ∧ f' 17 = iV (i : Int) ∧ f' 14 = vp ∧ f' 15 = vt ∧ f' 16 = iV (su : Int) ∧ (∀ r ∈ th, fine r) ∧ th.length ≤ i ∧ su ≤ th.length ∧ (PK th).length ≤ SZ rs i + 40 * i ∧ (su = 0 ∨ ((PK (th.take su)).length : Int) ≤ sr) ∧ st ≤ 2 * (i : Int) + 1 ∧ GoodS (kS t (PK th) sr st) ∧ Eng.Sep w w' (rowP vp (itemsF 0 th) :: rowT vt th :: boxH bl b 3 ((PK th).length : Int) :: diskH b (kS t (PK th) sr st) :: [])) ?_ ?_
      · exact ⟨rs.length, 0, [], 0, -1, 1, .slice none 0 0, .slice none 0 0, by omega, rfl, rfl, rfl, rfl, (fun r h => by cases h), Nat.le_refl _, Nat.le_refl _, by simp [PK], .inl rfl, by decide, hg1, hs⟩
      · rintro m g w_ ⟨i, th, su, sr, st, vp, vt, hi, h17, h14, h15, h16, hfine, hthl, hsu, hPK, hsr, hst, hg, hs⟩
        refine OkC.env ?_ (fixH (L := [(17, _), (14, _), (15, _), (16, _)]) ⟨h17, h14, h15, h16, trivial⟩)
        clear h17 h14 h15 h16
        refine c_seq ?_
        refine c_rseq ?_
        refine l_v (by first | exact (r_move (v := iV _) rfl) | exact (r_move rfl)) ?_
        refine l_v (by first | exact (r_move (v := .slice _ _ _) rfl) | exact (r_move rfl)) ?_
        refine l_v (r_len_l Try.underlying41 rfl) ?_
        refine l_v (r_lssi rfl rfl) ?_
        refine l_nil (nrm_then ?_)
        refine c_cond rfl (fun h1 => ?_) (fun h1 => ?_)
        · have hil : i < rs.length := by have := of_decide_eq_true h1; omega
          obtain ⟨r, hri⟩ : ∃ r, rs[i]? = some r := ⟨rs[i], List.getElem?_eq_getElem hil⟩
          have hrm := List.mem_of_getElem? hri
          obtain ⟨hrok, hrb⟩ := hok r hrm
          have hrl := recC_length hrok
          have hzn := SZ_next hri
          have hzl := SZ_le rs (i + 1)
          have hr1 : ∀ w', Below w.heap.size w w' → Rd w' 66 A rs.length (rs.flatMap recC) := fun w' h => hr.below h
          have hsK := hs
          obtain ⟨ad, rfl, _⟩ := hr.ad (by omega)
          have hs := hsK
          have hX : ∀ w', Below w.heap.size w w' → ∀ j u, (recC r)[j]? = some u → w'.cell? ((ad.add (i * 66)).add j) = some u := fun w' h => rd_item (hr1 w' h) hlen (by decide) hri
          have hpl := pack_len r hrok
          replace h1 := of_decide_eq_true h1
          refine c_skip (nrm_then ?_)
          refine c_seq ?_
          refine c_block ?_
          refine c_rseq ?_
          refine l_v (by first | exact (r_move (v := .slice _ _ _) rfl) | exact (r_move rfl)) ?_
          refine l_v (by first | exact (r_move (v := iV _) rfl) | exact (r_move rfl)) ?_
          refine l_v (r_indexAddr_l (k := i) Try.underlying41 I25 rfl rfl hil) ?_
          refine l_v (r_load_aggP Try.underlying25 I25 rfl (hX _ hs.below) hrl) ?_
          refine l_call (r_call Try.func12 rfl rfl) ?_
          refine Calls.mono (rpack_c r hrok hrb _) ?_
          rintro e w_ ⟨rfl, hb⟩
          refine ⟨_, rfl, ?_⟩
          have hs := hs.below_ hb
          refine l_v (r_move rfl) ?_
          refine l_v (r_extract rfl rfl) ?_
          refine l_v (r_extract rfl rfl) ?_
          refine l_v (by first | exact (r_assign (v := sV _) rfl) | exact (r_assign rfl)) ?_
          refine l_v (by first | exact (r_assign (v := iV _) rfl) | exact (r_assign rfl)) ?_
          refine l_nil (nrm_then ?_)
          refine c_rseq ?_
          refine l_v (r_move (v := .pointer _) rfl) ?_
          refine l_call (r_call Try.func26 rfl rfl) ?_
          refine Calls.mono (bsize_c bl b 3 ((PK th).length : Int) w _ _ (hs.pull 2)) ?_
          rintro e w_ ⟨rfl, hww⟩
          refine ⟨_, rfl, ?_⟩
          rw [hww]
          refine l_v (by first | exact (r_assign (v := iV _) rfl) | exact (r_assign rfl)) ?_
          refine l_nil (nrm_then ?_)
          refine c_rseq ?_
          refine l_v (r_move (v := .pointer _) rfl) ?_
          refine l_v (by first | exact (r_move (v := .slice _ _ _) rfl) | exact (r_move rfl)) ?_
          refine l_v (by first | exact (r_move (v := iV _) rfl) | exact (r_move rfl)) ?_
          refine l_v (r_indexAddr_l (k := i) Try.underlying41 I25 rfl rfl hil) ?_
          refine l_v (r_load_aggP Try.underlying25 I25 rfl (hX _ hs.below) hrl) ?_
          refine l_call (r_call Try.func11 rfl rfl) ?_
          refine Calls.mono (theirs_c r hrok _) ?_
          rintro e w_ ⟨rfl, hb⟩
          refine ⟨_, rfl, ?_⟩
          have hs := (((hs.below_ hb).pull 1).pull 3).pull 3
          refine l_call (r_call Try.func23 rfl rfl) ?_
          refine Calls.mono (badd_c bl b 3 ((PK th).length : Int) _ hg (by rw [steps_kS]; omega) (by omega) r hrok hrb w _ _ hs) ?_
          rintro e w_ ⟨rfl, hs⟩
          refine ⟨_, rfl, ?_⟩
          refine l_v (r_move rfl) ?_
          refine l_v (r_extract rfl rfl) ?_
          refine l_v (r_extract rfl rfl) ?_
          refine l_alloc hs I53 ?_
          intro b21 w21 hs hB21 hlt21
          by_cases hbad : (packR r).2 = 0
          · have hfr : fine r := ⟨hrok, hbad⟩
            have hpl2 : (pk r).length ≤ r.body.length + 120 := hpl
            have hplp := pk_len hfr
            have hadd := k_add (t := t) (d := PK th) (s := pk r) (sr := sr) (st := st) (by
              have : (pk r).length ≤ r.body.length + 120 := hpl
              unfold blocksN; omega)
            have hgA := good_add hg 3 (pk r)
            rw [hadd] at hgA
            have hX0 : baddX (kS t (PK th) sr st) 3 r = (kS t (PK th ++ pk r) sr (st + 1), 0) := by
              unfold baddX
              rw [if_neg (fun h => h hbad)]; exact hadd
            have hN : baddN (kS t (PK th) sr st) 3 ((PK th).length : Int) r = ((PK th).length : Int) + ((pk r).length : Int) := by unfold baddN; rw [hX0, if_neg (fun h => h rfl)]
            have hV : baddV (kS t (PK th) sr st) 3 ((PK th).length : Int) r = plV 3 ((PK th).length : Int) ((pk r).length : Int) := by unfold baddV; rw [hX0, if_neg (fun h => h rfl)]
            rw [hX0, hN] at hs
            rw [hX0, hV, hbad]
            refine l_store_whole (i := 0) hs rfl I53 rfl rfl (pl_len _ _ _) (pl_len 0 0 0) (pl_one _ _ _) ?_
            intro w21 hs
            have hs : Eng.Sep w w21 (blk b21 [iV 3, iV ((PK th).length : Int), iV ((pk r).length : Int)] 53 :: boxH bl b 3 (((PK th).length : Int) + ((pk r).length : Int)) :: diskH b (kS t (PK th ++ pk r) sr (st + 1)) :: rowT vt th :: rowP vp (itemsF 0 th) :: []) := hs
            have f107 : decide (((PK th).length : Int) ≠ ((PK th).length : Int)) = false := decide_eq_false (fun h => h rfl)
            have f112 : decide (((pk r).length : Int) < 1) = false := decide_eq_false (by omega)
            have f121 : decide (((PK th).length : Int) + ((pk r).length : Int) ≠ ((PK th).length : Int) + ((pk r).length : Int)) = false := decide_eq_false (fun h => h rfl)
            refine l_v (by first | exact (r_assign (v := iV _) rfl) | exact (r_assign rfl)) ?_
            refine l_nil (nrm_then ?_)
            refine c_seq ?_
            refine c_seq ?_
            refine c_float [37, 23] 39 (by kernel_rfl) (by kernel_rfl) ?_
            intro hbF
            show OkF _ _ _ _ _ _ (_ :: _) 0 _ _
            refine f_v (fun wl hbl => by have hs := hs.below_ hbl; first | exact (r_move (v := iV _) rfl) | exact (r_move rfl)) ?_
            refine f_v (fun wl hbl => by have hs := hs.below_ hbl; first | exact (r_move (v := iV _) rfl) | exact (r_move rfl)) ?_
            refine f_v (fun wl hbl => by have hs := hs.below_ hbl; exact (r_neqi rfl rfl)) ?_
            refine f_v (fun wl hbl => by have hs := hs.below_ hbl; first | exact (r_move (v := bV _) rfl) | exact (r_move rfl)) ?_
            refine f_vg (fun wl hbl => by have hs := hs.below_ hbl; first | exact (r_move (v := iV _) rfl) | exact (r_move rfl)) rfl (rfl) ?_
            refine f_vg (fun wl hbl => by have hs := hs.below_ hbl; exact (r_eqli rfl rfl)) rfl (rfl) ?_
            refine f_vg (fun wl hbl => by have hs := hs.below_ hbl; first | exact (r_move (v := bV _) rfl) | exact (r_move rfl)) rfl (rfl) ?_
            refine f_vg (fun wl hbl => by have hs := hs.below_ hbl; first | exact (r_fieldAddr0 (off := 0) (T := 3) (by kernel_rfl) rfl) | exact (r_fieldAddr (off := 0) (T := 3) (by kernel_rfl) rfl)) rfl (rfl) ?_
            refine f_vg (fun wl hbl => by have hs := hs.below_ hbl; first | exact (r_load_at (i := 0) hs rfl Try.underlying3 rfl rfl) | exact (r_load_at (i := 1) hs rfl Try.underlying3 rfl rfl) | exact (r_load_at (i := 2) hs rfl Try.underlying3 rfl rfl) | exact (r_load_at (i := 3) hs rfl Try.underlying3 rfl rfl) | exact (r_load_at (i := 4) hs rfl Try.underlying3 rfl rfl) | exact (r_load_at (i := 5) hs rfl Try.underlying3 rfl rfl) | exact (r_load_at (i := 6) hs rfl Try.underlying3 rfl rfl)) rfl (rfl) ?_
            refine f_vg (fun wl hbl => by have hs := hs.below_ hbl; exact (r_neqi rfl rfl)) rfl (rfl) ?_
            refine f_vg (fun wl hbl => by have hs := hs.below_ hbl; first | exact (r_move (v := bV _) rfl) | exact (r_move rfl)) rfl (rfl) ?_
            refine f_vg (fun wl hbl => by have hs := hs.below_ hbl; first | exact (r_fieldAddr0 (off := 1) (T := 3) (by kernel_rfl) rfl) | exact (r_fieldAddr (off := 1) (T := 3) (by kernel_rfl) rfl)) rfl (rfl) ?_
            refine f_vg (fun wl hbl => by have hs := hs.below_ hbl; first | exact (r_load_at (i := 0) hs rfl Try.underlying3 rfl rfl) | exact (r_load_at (i := 1) hs rfl Try.underlying3 rfl rfl) | exact (r_load_at (i := 2) hs rfl Try.underlying3 rfl rfl) | exact (r_load_at (i := 3) hs rfl Try.underlying3 rfl rfl) | exact (r_load_at (i := 4) hs rfl Try.underlying3 rfl rfl) | exact (r_load_at (i := 5) hs rfl Try.underlying3 rfl rfl) | exact (r_load_at (i := 6) hs rfl Try.underlying3 rfl rfl)) rfl (rfl) ?_
            refine f_vg (fun wl hbl => by have hs := hs.below_ hbl; first | exact (r_move (v := iV _) rfl) | exact (r_move rfl)) rfl (rfl) ?_
            refine f_vg (fun wl hbl => by have hs := hs.below_ hbl; exact (r_neqi rfl rfl)) rfl (rfl) ?_
            refine f_vg (fun wl hbl => by have hs := hs.below_ hbl; exact (r_pick_f rfl rfl rfl)) rfl (rfl) ?_
            refine f_vg (fun wl hbl => by have hs := hs.below_ hbl; first | exact (r_move (v := bV _) rfl) | exact (r_move rfl)) rfl (rfl) ?_
            refine f_vg (fun wl hbl => by have hs := hs.below_ hbl; first | exact (r_fieldAddr0 (off := 2) (T := 3) (by kernel_rfl) rfl) | exact (r_fieldAddr (off := 2) (T := 3) (by kernel_rfl) rfl)) rfl (f107) ?_
            refine f_vg (fun wl hbl => by have hs := hs.below_ hbl; first | exact (r_load_at (i := 0) hs rfl Try.underlying3 rfl rfl) | exact (r_load_at (i := 1) hs rfl Try.underlying3 rfl rfl) | exact (r_load_at (i := 2) hs rfl Try.underlying3 rfl rfl) | exact (r_load_at (i := 3) hs rfl Try.underlying3 rfl rfl) | exact (r_load_at (i := 4) hs rfl Try.underlying3 rfl rfl) | exact (r_load_at (i := 5) hs rfl Try.underlying3 rfl rfl) | exact (r_load_at (i := 6) hs rfl Try.underlying3 rfl rfl)) rfl (f107) ?_
            refine f_vg (fun wl hbl => by have hs := hs.below_ hbl; exact (r_lssi rfl rfl)) rfl (f107) ?_
            refine f_vg (fun wl hbl => by have hs := hs.below_ hbl; exact (r_pick_f rfl f107 rfl)) rfl (rfl) ?_
            refine f_vg (fun wl hbl => by have hs := hs.below_ hbl; first | exact (r_move (v := bV _) rfl) | exact (r_move rfl)) rfl (rfl) ?_
            refine f_vg (fun wl hbl => by have hs := hs.below_ hbl; exact (r_move (v := .pointer _) rfl)) rfl (f112) ?_
            refine f_callg (r_call Try.func26 rfl rfl) rfl (f112) ?_
            refine Calls.mono (bsize_c bl b 3 (((PK th).length : Int) + ((pk r).length : Int)) w _ _ ((hs.below_ hbF).pull 1)) ?_
            rintro e w_ ⟨rfl, rfl⟩
            refine ⟨_, rfl, Below.refl _ _, ?_⟩
            refine f_vg (fun wl hbl => by have hs := hs.below_ hbl; first | exact (r_move (v := iV _) rfl) | exact (r_move rfl)) rfl (f112) ?_
            refine f_vg (fun wl hbl => by have hs := hs.below_ hbl; first | exact (r_fieldAddr0 (off := 2) (T := 3) (by kernel_rfl) rfl) | exact (r_fieldAddr (off := 2) (T := 3) (by kernel_rfl) rfl)) rfl (f112) ?_
            refine f_vg (fun wl hbl => by have hs := hs.below_ hbl; first | exact (r_load_at (i := 0) hs rfl Try.underlying3 rfl rfl) | exact (r_load_at (i := 1) hs rfl Try.underlying3 rfl rfl) | exact (r_load_at (i := 2) hs rfl Try.underlying3 rfl rfl) | exact (r_load_at (i := 3) hs rfl Try.underlying3 rfl rfl) | exact (r_load_at (i := 4) hs rfl Try.underlying3 rfl rfl) | exact (r_load_at (i := 5) hs rfl Try.underlying3 rfl rfl) | exact (r_load_at (i := 6) hs rfl Try.underlying3 rfl rfl)) rfl (f112) ?_
            refine f_vg (fun wl hbl => by have hs := hs.below_ hbl; exact (r_addi rfl rfl (by omega))) rfl (f112) ?_
            refine f_vg (fun wl hbl => by have hs := hs.below_ hbl; exact (r_neqi rfl rfl)) rfl (f112) ?_
            refine f_vg (fun wl hbl => by have hs := hs.below_ hbl; exact (r_pick_f rfl f112 rfl)) rfl (rfl) ?_
            refine f_vg (fun wl hbl => by have hs := hs.below_ hbl; exact (r_pick_t rfl rfl rfl)) rfl (rfl) ?_
            refine f_v (fun wl hbl => by have hs := hs.below_ hbl; exact (r_pick_f rfl rfl rfl)) ?_
            refine f_v (fun wl hbl => by have hs := hs.below_ hbl; first | exact (r_move (v := bV _) rfl) | exact (r_move rfl)) ?_
            refine f_vg (fun wl hbl => by have hs := hs.below_ hbl; first | exact (r_move (v := iV _) rfl) | exact (r_move rfl)) rfl (f121) ?_
            refine f_vg (fun wl hbl => by have hs := hs.below_ hbl; exact (r_neqi rfl rfl)) rfl (f121) ?_
            refine f_vg (fun wl hbl => by have hs := hs.below_ hbl; first | exact (r_move (v := bV _) rfl) | exact (r_move rfl)) rfl (f121) ?_
            refine f_no rfl (rfl) ?_
            refine f_no rfl (rfl) ?_
            refine f_no rfl (rfl) ?_
            refine f_nil ?_
            have hs := hs.below_ hbF
            show OkL _ _ _ _ (_ :: _) _ _
            refine l_no rfl (rfl) ?_
            refine l_vg (r_pick_f rfl rfl rfl) rfl (f121) ?_
            refine l_v (r_pick_f rfl f121 rfl) ?_
            refine l_nil (nrm_then ?_)
            refine c_false rfl (rfl) ?_
            refine c_skip (nrm_then ?_)
            refine c_seq ?_
            refine c_rseq ?_
            refine l_v (by first | exact (r_move (v := iV _) rfl) | exact (r_move rfl)) ?_
            refine l_v (r_eqli rfl rfl) ?_
            refine l_nil (nrm_then ?_)
            refine c_true rfl (rfl) ?_
            refine c_rseq ?_
            refine l_v (by first | exact (r_move (v := .slice _ _ _) rfl) | exact (r_move rfl)) ?_
            refine l_v (r_load_whole (i := 0) hs rfl Try.underlying53 I53 rfl rfl) ?_
            have hs := ((hs.pull 4).pull 1).drop
            have hil0 := items_len th 0
            refine l_lit [.agg (plC 3 ((PK th).length : Int) ((pk r).length : Int)).toArray] hs Try.underlying72 I53 rfl (by intro u hu; rw [List.mem_singleton.1 hu]; rfl) (by decide) rfl (by decide) (by decide) ?_
            intro b139 w139 hs hB139 hlt139
            refine l_append_lit Try.underlying72 I53 (by kernel_rfl) (by decide) rfl rfl hs rfl (pl_one 3 _ _) (by omega) (by omega) ?_
            intro v140 w140 hs
            have hs := rowP_app (x := (r, (PK th).length, (pk r).length)) hs
            rw [← items_snoc] at hs
            have hs := hs.pull 3
            refine l_v (by first | exact (r_assign (v := .slice _ _ _) rfl) | exact (r_assign rfl)) ?_
            refine l_nil (nrm_then ?_)
            refine c_region ?_
            refine l_v (by first | exact (r_move (v := .slice _ _ _) rfl) | exact (r_move rfl)) ?_
            refine l_v (by first | exact (r_move (v := .slice _ _ _) rfl) | exact (r_move rfl)) ?_
            refine l_v (by first | exact (r_move (v := iV _) rfl) | exact (r_move rfl)) ?_
            refine l_v (r_indexAddr_l (k := i) Try.underlying41 I25 rfl rfl hil) ?_
            refine l_v (r_load_aggP Try.underlying25 I25 rfl (hX _ hs.below) hrl) ?_
            refine l_lit [.agg (recC r).toArray] hs Try.underlying41 I25 rfl (by intro u hu; rw [List.mem_singleton.1 hu]; exact hrl) (by decide) rfl (by decide) (by decide) ?_
            intro b146 w146 hs hB146 hlt146
            have e1 : ([Value.agg (recC r).toArray].flatMap fun v => v.cells.toList) = recC r := by simp [Value.cells]
            rw [e1] at hs
            refine l_append_lit Try.underlying41 I25 (by kernel_rfl) (by decide) rfl rfl hs hrl (rec_one r) (by omega) (by omega) ?_
            intro v147 w147 hs
            have hs := rowT_app hs
            have hpks := PK_snoc th r
            have hLn : ((PK th).length : Int) + ((pk r).length : Int) = ((PK (th ++ [r])).length : Int) := by rw [hpks, List.length_append]; omega
            have hs : Eng.Sep w w147 (rowT v147 (th ++ [r]) :: rowP v140 (itemsF 0 (th ++ [r])) :: boxH bl b 3 ((PK (th ++ [r])).length : Int) :: diskH b (kS t (PK (th ++ [r])) sr (st + 1)) :: []) := by
              rw [← hLn, hpks]; exact hs
            rw [← hpks] at hgA
            have hfin2 : ∀ x ∈ th ++ [r], fine x := fun x hx => by
              rcases List.mem_append.1 hx with hx | hx
              · exact hfine x hx
              · rw [List.mem_singleton.1 hx]; exact hfr
            have hl1 : (th ++ [r]).length = th.length + 1 := by rw [List.length_append]; rfl
            have hPK2 : (PK (th ++ [r])).length ≤ SZ rs (i + 1) + 40 * (i + 1) := by
              rw [hpks, List.length_append]
              have : (pk r).length ≤ r.body.length + 120 := hpl
              omega
            have hsr2 : su = 0 ∨ ((PK ((th ++ [r]).take su)).length : Int) ≤ sr := by rw [List.take_append_of_le_length hsu]; exact hsr
            obtain ⟨A5, c5, rfl, hc5⟩ := (hs.pull 1).rowForm
            have hlen5 := items_len (th ++ [r]) 0
            have hs := (hs.pull 3).pull 3
            have hs : Eng.Sep w w147 (boxH bl b 3 ((PK (th ++ [r])).length : Int) :: diskH b (kS t (PK (th ++ [r])) sr (st + 1)) :: rowT v147 (th ++ [r]) :: rowP (.slice A5 (itemsF 0 (th ++ [r])).length c5) (itemsF 0 (th ++ [r])) :: []) := hs
            refine l_v (by first | exact (r_assign (v := .slice _ _ _) rfl) | exact (r_assign rfl)) ?_
            refine l_nil (nrm_then ?_)
            refine c_rseq ?_
            refine l_v (by first | exact (r_move (v := iV _) rfl) | exact (r_move rfl)) ?_
            refine l_v (by first | exact (r_move (v := iV _) rfl) | exact (r_move rfl)) ?_
            refine l_v (r_eqli rfl rfl) ?_
            refine l_nil (nrm_then ?_)
            refine c_cond rfl (fun hsy => ?_) (fun hsy => ?_)
            · replace hsy := of_decide_eq_true hsy
              refine c_seq ?_
              refine c_rseq ?_
              refine l_v (r_move (v := .pointer _) rfl) ?_
              refine l_call (r_call Try.func27 rfl rfl) ?_
              refine Calls.mono (bsync_c bl b 3 ((PK (th ++ [r])).length : Int) _ hgA (by rw [steps_kS]; omega) w _ _ hs) ?_
              rintro e w_ ⟨rfl, hs⟩
              refine ⟨_, rfl, ?_⟩
              have hgB := good_sync hgA 3
              rw [k_sync] at hs hgB ⊢
              refine l_v (r_neqi rfl rfl) ?_
              refine l_nil (nrm_then ?_)
              refine c_false rfl (rfl) ?_
              refine c_skip (nrm_then ?_)
              refine c_region ?_
              refine l_v (by first | exact (r_move (v := .slice _ _ _) rfl) | exact (r_move rfl)) ?_
              refine l_v (r_len_l Try.underlying72 rfl) ?_
              refine l_v (by first | exact (r_assign (v := iV _) rfl) | exact (r_assign rfl)) ?_
              refine l_nil (nrm_block (nrm_then ?_))
              refine c_region ?_
              refine l_v (by first | exact (r_move (v := iV _) rfl) | exact (r_move rfl)) ?_
              refine l_v (r_addi rfl rfl (by omega)) ?_
              refine l_v (by first | exact (r_assign (v := iV _) rfl) | exact (r_assign rfl)) ?_
              refine l_nil (nrm_then ?_)
              refine And.intro (by refine ⟨?_, ?_, ?_, ?_, ?_, trivial⟩ <;> ((conv => lhs; whnf); (try conv => rhs; whnf))) ?_
              exact ⟨rs.length - (i + 1), by omega, i + 1, th ++ [r], th.length + 1, _, _, _, _, by omega, rfl, rfl, rfl, by rw [hlen5, hl1]; rfl, hfin2, by omega, by omega, hPK2, .inr (by rw [List.take_of_length_le (by omega)]; omega), by omega, hgB, (hs.pull 2).pull 3⟩
            · replace hsy := of_decide_eq_false hsy
              refine c_skip (nrm_block (nrm_then ?_))
              refine c_region ?_
              refine l_v (by first | exact (r_move (v := iV _) rfl) | exact (r_move rfl)) ?_
              refine l_v (r_addi rfl rfl (by omega)) ?_
              refine l_v (by first | exact (r_assign (v := iV _) rfl) | exact (r_assign rfl)) ?_
              refine l_nil (nrm_then ?_)
              refine And.intro (by refine ⟨?_, ?_, ?_, ?_, ?_, trivial⟩ <;> ((conv => lhs; whnf); (try conv => rhs; whnf))) ?_
              exact ⟨rs.length - (i + 1), by omega, i + 1, th ++ [r], su, sr, st + 1, _, _, by omega, rfl, rfl, rfl, rfl, hfin2, by omega, by omega, hPK2, hsr2, by omega, hgA, (hs.pull 2).pull 3⟩
          · skip
            have hX0 : baddX (kS t (PK th) sr st) 3 r = (kS t (PK th) sr st, (packR r).2) := if_pos hbad
            have hN : baddN (kS t (PK th) sr st) 3 ((PK th).length : Int) r = ((PK th).length : Int) := by unfold baddN; rw [hX0, if_pos hbad]
            have hV : baddV (kS t (PK th) sr st) 3 ((PK th).length : Int) r = plV 0 0 0 := by unfold baddV; rw [hX0, if_pos hbad]
            rw [hX0, hN] at hs
            rw [hX0, hV]
            refine l_store_whole (i := 0) hs rfl I53 rfl rfl (pl_len _ _ _) (pl_len 0 0 0) (pl_one _ _ _) ?_
            intro w21 hs
            have hs : Eng.Sep w w21 (blk b21 [iV 0, iV 0, iV 0] 53 :: boxH bl b 3 ((PK th).length : Int) :: diskH b (kS t (PK th) sr st) :: rowT vt th :: rowP vp (itemsF 0 th) :: []) := hs
            have f95 : decide ((packR r).2 ≠ (packR r).2) = false := decide_eq_false (fun h => h rfl)
            have f98 : decide ((packR r).2 = 0) = false := decide_eq_false hbad
            have f127 : decide ((packR r).2 ≠ 0) = true := decide_eq_true hbad
            have f132 : decide (((PK th).length : Int) ≠ ((PK th).length : Int)) = false := decide_eq_false (fun h => h rfl)
            refine l_v (by first | exact (r_assign (v := iV _) rfl) | exact (r_assign rfl)) ?_
            refine l_nil (nrm_then ?_)
            refine c_seq ?_
            refine c_seq ?_
            refine c_float [37, 23] 39 (by kernel_rfl) (by kernel_rfl) ?_
            intro hbF
            show OkF _ _ _ _ _ _ (_ :: _) 0 _ _
            refine f_v (fun wl hbl => by have hs := hs.below_ hbl; first | exact (r_move (v := iV _) rfl) | exact (r_move rfl)) ?_
            refine f_v (fun wl hbl => by have hs := hs.below_ hbl; first | exact (r_move (v := iV _) rfl) | exact (r_move rfl)) ?_
            refine f_v (fun wl hbl => by have hs := hs.below_ hbl; exact (r_neqi rfl rfl)) ?_
            refine f_v (fun wl hbl => by have hs := hs.below_ hbl; first | exact (r_move (v := bV _) rfl) | exact (r_move rfl)) ?_
            refine f_vg (fun wl hbl => by have hs := hs.below_ hbl; first | exact (r_move (v := iV _) rfl) | exact (r_move rfl)) rfl (f95) ?_
            refine f_vg (fun wl hbl => by have hs := hs.below_ hbl; exact (r_eqli rfl rfl)) rfl (f95) ?_
            refine f_vg (fun wl hbl => by have hs := hs.below_ hbl; first | exact (r_move (v := bV _) rfl) | exact (r_move rfl)) rfl (f95) ?_
            refine f_no rfl (f98) ?_
            refine f_no rfl (f98) ?_
            refine f_no rfl (f98) ?_
            refine f_no rfl (f98) ?_
            refine f_skip (.inr rfl) ?_
            refine f_skip (.inr rfl) ?_
            refine f_skip (.inr rfl) ?_
            refine f_skip (.inr rfl) ?_
            refine f_no rfl (f98) ?_
            refine f_no rfl (f98) ?_
            refine f_skip (.inr rfl) ?_
            refine f_skip (.inr rfl) ?_
            refine f_skip (.inr rfl) ?_
            refine f_no rfl (f98) ?_
            refine f_no rfl (f98) ?_
            refine f_skip (.inr rfl) ?_
            refine f_skip (.inr rfl) ?_
            refine f_skip (.inr rfl) ?_
            refine f_skip (.inr rfl) ?_
            refine f_skip (.inr rfl) ?_
            refine f_skip (.inr rfl) ?_
            refine f_skip (.inr rfl) ?_
            refine f_no rfl (f98) ?_
            refine f_vg (fun wl hbl => by have hs := hs.below_ hbl; exact (r_pick_f rfl f98 rfl)) rfl (f95) ?_
            refine f_v (fun wl hbl => by have hs := hs.below_ hbl; exact (r_pick_f rfl f95 rfl)) ?_
            refine f_v (fun wl hbl => by have hs := hs.below_ hbl; first | exact (r_move (v := bV _) rfl) | exact (r_move rfl)) ?_
            refine f_vg (fun wl hbl => by have hs := hs.below_ hbl; first | exact (r_move (v := iV _) rfl) | exact (r_move rfl)) rfl (rfl) ?_
            refine f_vg (fun wl hbl => by have hs := hs.below_ hbl; exact (r_neqi rfl rfl)) rfl (rfl) ?_
            refine f_vg (fun wl hbl => by have hs := hs.below_ hbl; first | exact (r_move (v := bV _) rfl) | exact (r_move rfl)) rfl (rfl) ?_
            refine f_vg (fun wl hbl => by have hs := hs.below_ hbl; exact (r_move (v := .pointer _) rfl)) rfl (f127) ?_
            refine f_callg (r_call Try.func26 rfl rfl) rfl (f127) ?_
            refine Calls.mono (bsize_c bl b 3 ((PK th).length : Int) w _ _ ((hs.below_ hbF).pull 1)) ?_
            rintro e w_ ⟨rfl, rfl⟩
            refine ⟨_, rfl, Below.refl _ _, ?_⟩
            refine f_vg (fun wl hbl => by have hs := hs.below_ hbl; first | exact (r_move (v := iV _) rfl) | exact (r_move rfl)) rfl (f127) ?_
            refine f_nil ?_
            have hs := hs.below_ hbF
            show OkL _ _ _ _ (_ :: _) _ _
            refine l_vg (r_neqi rfl rfl) rfl (f127) ?_
            refine l_vg (r_pick_t rfl f127 rfl) rfl (rfl) ?_
            refine l_v (r_pick_f rfl rfl rfl) ?_
            refine l_nil (nrm_then ?_)
            refine c_false rfl (f132) ?_
            refine c_skip (nrm_then ?_)
            refine c_seq ?_
            refine c_rseq ?_
            refine l_v (by first | exact (r_move (v := iV _) rfl) | exact (r_move rfl)) ?_
            refine l_v (r_eqli rfl rfl) ?_
            refine l_nil (nrm_then ?_)
            refine c_false rfl (f98) ?_
            refine c_skip (nrm_then ?_)
            refine c_rseq ?_
            refine l_v (by first | exact (r_move (v := iV _) rfl) | exact (r_move rfl)) ?_
            refine l_v (by first | exact (r_move (v := iV _) rfl) | exact (r_move rfl)) ?_
            refine l_v (r_eqli rfl rfl) ?_
            refine l_nil (nrm_then ?_)
            have hs := hs.drop
            refine c_cond rfl (fun hsy => ?_) (fun hsy => ?_)
            · replace hsy := of_decide_eq_true hsy
              refine c_seq ?_
              refine c_rseq ?_
              refine l_v (r_move (v := .pointer _) rfl) ?_
              refine l_call (r_call Try.func27 rfl rfl) ?_
              refine Calls.mono (bsync_c bl b 3 ((PK th).length : Int) _ hg (by rw [steps_kS]; omega) w _ _ hs) ?_
              rintro e w_ ⟨rfl, hs⟩
              refine ⟨_, rfl, ?_⟩
              have hgB := good_sync hg 3
              rw [k_sync] at hs hgB ⊢
              have hlen5 := items_len th 0
              obtain ⟨A5, c5, rfl, hc5⟩ := (hs.pull 3).rowForm
              refine l_v (r_neqi rfl rfl) ?_
              refine l_nil (nrm_then ?_)
              refine c_false rfl (rfl) ?_
              refine c_skip (nrm_then ?_)
              refine c_region ?_
              refine l_v (by first | exact (r_move (v := .slice _ _ _) rfl) | exact (r_move rfl)) ?_
              refine l_v (r_len_l Try.underlying72 rfl) ?_
              refine l_v (by first | exact (r_assign (v := iV _) rfl) | exact (r_assign rfl)) ?_
              refine l_nil (nrm_block (nrm_then ?_))
              refine c_region ?_
              refine l_v (by first | exact (r_move (v := iV _) rfl) | exact (r_move rfl)) ?_
              refine l_v (r_addi rfl rfl (by omega)) ?_
              refine l_v (by first | exact (r_assign (v := iV _) rfl) | exact (r_assign rfl)) ?_
              refine l_nil (nrm_then ?_)
              refine And.intro (by refine ⟨?_, ?_, ?_, ?_, ?_, trivial⟩ <;> ((conv => lhs; whnf); (try conv => rhs; whnf))) ?_
              exact ⟨rs.length - (i + 1), by omega, i + 1, th, th.length, _, _, _, _, by omega, rfl, rfl, rfl, by rw [hlen5]; rfl, hfine, by omega, by omega, by omega, .inr (by rw [List.take_length]; omega), by omega, hgB, (hs.pull 2).pull 3⟩
            · replace hsy := of_decide_eq_false hsy
              refine c_skip (nrm_block (nrm_then ?_))
              refine c_region ?_
              refine l_v (by first | exact (r_move (v := iV _) rfl) | exact (r_move rfl)) ?_
              refine l_v (r_addi rfl rfl (by omega)) ?_
              refine l_v (by first | exact (r_assign (v := iV _) rfl) | exact (r_assign rfl)) ?_
              refine l_nil (nrm_then ?_)
              refine And.intro (by refine ⟨?_, ?_, ?_, ?_, ?_, trivial⟩ <;> ((conv => lhs; whnf); (try conv => rhs; whnf))) ?_
              exact ⟨rs.length - (i + 1), by omega, i + 1, th, su, sr, st, _, _, by omega, rfl, rfl, rfl, rfl, hfine, by omega, by omega, by omega, hsr, by omega, hg, (hs.pull 2).pull 3⟩
        · have hil : i ≤ 200 := by omega
          have hitl := items_len th 0
          have hsK := hs
          obtain ⟨A1, q1, rfl, hq1⟩ := hs.rowForm
          obtain ⟨A2, q2, rfl, hq2⟩ := (hsK.pull 1).rowForm
          have hs := hsK
          have hzR := SZ_le rs i
          have hgz := hg.size (k_get t (PK th) sr st)
          replace h1 := of_decide_eq_false h1
          refine c_exit (ex_then (ex_then (ex_hit (nrm_then ?_))))
          refine c_seq ?_
          refine c_rseq ?_
          refine l_v (by first | exact (r_assign (v := iV _) rfl) | exact (r_assign rfl)) ?_
          refine l_nil (nrm_then ?_)
          refine c_block ?_
          refine c_loopn [3, 9, 14, 15, 16] (fun m f' w' => ∃ k, k + m = th.length ∧ f' 23 = iV (k : Int) ∧ Eng.Sep w w' (rowP (.slice A1 (itemsF 0 th).length q1) (itemsF 0 th) :: rowT (.slice A2 th.length q2) th :: boxH bl b 3 ((PK th).length : Int) :: diskH b (kS t (PK th) sr st) :: [])) ?_ ?_
          · exact ⟨th.length, 0, by omega, rfl, hs⟩
          · rintro m g w_ ⟨k, hk, h23, hs⟩
            refine OkC.env ?_ (fixH (L := [(23, _)]) ⟨h23, trivial⟩)
            clear h23
            refine c_seq ?_
            refine c_rseq ?_
            refine l_v (by first | exact (r_move (v := iV _) rfl) | exact (r_move rfl)) ?_
            refine l_v (by first | exact (r_move (v := .slice _ _ _) rfl) | exact (r_move rfl)) ?_
            refine l_v (r_len_l Try.underlying72 rfl) ?_
            refine l_v (r_lssi rfl rfl) ?_
            refine l_nil (nrm_then ?_)
            refine c_cond rfl (fun h2 => ?_) (fun h2 => ?_)
            · have hkl : k < th.length := by have := of_decide_eq_true h2; omega
              obtain ⟨r, hri⟩ : ∃ r, th[k]? = some r := ⟨th[k], List.getElem?_eq_getElem hkl⟩
              have hfr := hfine r (List.mem_of_getElem? hri)
              have hrl := recC_length hfr.1
              have hit := items_get th 0 k r hri
              rw [Nat.zero_add] at hit
              have hpn := PK_next hri
              have hpm := PK_mono (xs := th) (i := k + 1) (j := th.length) (by omega)
              rw [List.take_length] at hpm
              have hpc := PK_piece hri
              have hrp := hs.rd
              have hrt := (hs.pull 1).rd
              have hsK2 := hs
              obtain ⟨ad1, rfl, _⟩ := hrp.ad (by omega)
              obtain ⟨ad2, rfl, _⟩ := hrt.ad (by omega)
              have hs := hsK2
              have hXp := rd_item (gc := plI) hs.rd (fun y _ => rfl) (by decide) hit
              have hread : breadR (kS t (PK th) sr st) 3 ((PK (th.take k)).length : Int) ((pk r).length : Int) = (r, 0) := by
                have hrd : readS (kS t (PK th) sr st) 3 ((PK (th.take k)).length : Int) ((pk r).length : Int) = (pk r, 0) := by
                  rw [k_read, if_neg (by omega), Int.toNat_natCast, Int.toNat_natCast, hpc]
                unfold breadR
                rw [hrd, if_neg (fun h => h rfl)]
                exact open_pk hfr
              replace h2 := of_decide_eq_true h2
              refine c_skip (nrm_then ?_)
              refine c_seq ?_
              refine c_block ?_
              refine c_rseq ?_
              refine l_v (r_move (v := .pointer _) rfl) ?_
              refine l_v (by first | exact (r_move (v := .slice _ _ _) rfl) | exact (r_move rfl)) ?_
              refine l_v (by first | exact (r_move (v := iV _) rfl) | exact (r_move rfl)) ?_
              refine l_v (r_indexAddr_l (k := k) Try.underlying72 I53 rfl rfl (by omega)) ?_
              refine l_v (r_load_aggP Try.underlying53 I53 rfl hXp rfl) ?_
              refine l_call (r_call Try.func22 rfl rfl) ?_
              refine Calls.mono (bread_c b _ hg 3 ((PK (th.take k)).length : Int) ((pk r).length : Int) (by omega) (by omega) w _ _ (hs.pull 3)) ?_
              rintro e w_ ⟨rfl, hb⟩
              refine ⟨_, rfl, ?_⟩
              have hs := hs.below_ hb
              rw [hread]
              refine l_v (r_move rfl) ?_
              refine l_v (r_extract rfl rfl) ?_
              refine l_v (r_extract rfl rfl) ?_
              refine l_alloc hs I30 ?_
              intro b24 w24 hs hB24 hlt24
              refine l_store_whole (i := 0) hs rfl I30 rfl rfl hrl (recC_length zero_ok) (rec_one _) ?_
              intro w24 hs
              have hs : Eng.Sep w w24 (blk b24 (recC r) 30 :: rowP (.slice (some ad1) (itemsF 0 th).length q1) (itemsF 0 th) :: rowT (.slice (some ad2) th.length q2) th :: boxH bl b 3 ((PK th).length : Int) :: diskH b (kS t (PK th) sr st) :: []) := hs
              have hXt : ∀ w', Below w24.heap.size w24 w' → ∀ j u, (recC r)[j]? = some u → w'.cell? ((ad2.add (k * 66)).add j) = some u := fun w' h => rd_item (gc := recC) ((hs.pull 2).below_ h).rd (fun y hy => recC_length (hfine y hy).1) (by decide) hri
              refine l_v (by first | exact (r_assign (v := iV _) rfl) | exact (r_assign rfl)) ?_
              refine l_nil (nrm_then ?_)
              refine c_seq ?_
              refine c_float [8] 9 (by kernel_rfl) (by kernel_rfl) ?_
              intro hbF
              show OkF _ _ _ _ _ _ (_ :: _) 0 _ _
              refine f_v (fun wl hbl => by have hs := hs.below_ hbl; first | exact (r_move (v := iV _) rfl) | exact (r_move rfl)) ?_
              refine f_v (fun wl hbl => by have hs := hs.below_ hbl; exact (r_neqi rfl rfl)) ?_
              refine f_v (fun wl hbl => by have hs := hs.below_ hbl; first | exact (r_move (v := bV _) rfl) | exact (r_move rfl)) ?_
              refine f_vg (fun wl hbl => by have hs := hs.below_ hbl; exact (r_load_whole (i := 0) hs rfl Try.underlying30 I30 rfl hrl)) rfl (rfl) ?_
              refine f_vg (fun wl hbl => by have hs := hs.below_ hbl; first | exact (r_move (v := .slice _ _ _) rfl) | exact (r_move rfl)) rfl (rfl) ?_
              refine f_vg (fun wl hbl => by have hs := hs.below_ hbl; first | exact (r_move (v := iV _) rfl) | exact (r_move rfl)) rfl (rfl) ?_
              refine f_vg (fun wl hbl => by have hs := hs.below_ hbl; exact (r_indexAddr_l (k := k) Try.underlying41 I25 rfl rfl hkl)) rfl (rfl) ?_
              refine f_vg (fun wl hbl => by have hs := hs.below_ hbl; exact (r_load_aggP Try.underlying25 I25 rfl (hXt _ hbl) hrl)) rfl (rfl) ?_
              refine f_callg (r_call Try.func11 rfl rfl) rfl (rfl) ?_
              refine Calls.mono (theirs_c r hfr.1 _) ?_
              rintro e w_ ⟨rfl, hb⟩
              have hbF := hbF.trans (Below.mono hb hbF.size)
              refine ⟨_, rfl, hb, ?_⟩
              refine f_nil ?_
              have hs := hs.below_ hbF
              show OkL _ _ _ _ (_ :: _) _ _
              refine l_vg (r_neRec hfr.1 rfl rfl) rfl (rfl) ?_
              refine l_v (r_pick_f rfl rfl rfl) ?_
              refine l_nil (nrm_then ?_)
              refine c_false rfl (rfl) ?_
              refine c_skip (nrm_block (nrm_then ?_))
              refine c_region ?_
              refine l_v (by first | exact (r_move (v := iV _) rfl) | exact (r_move rfl)) ?_
              refine l_v (r_addi rfl rfl (by omega)) ?_
              refine l_v (by first | exact (r_assign (v := iV _) rfl) | exact (r_assign rfl)) ?_
              refine l_nil (nrm_then ?_)
              refine And.intro (by refine ⟨?_, ?_, ?_, ?_, ?_, trivial⟩ <;> ((conv => lhs; whnf); (try conv => rhs; whnf))) ?_
              exact ⟨th.length - (k + 1), by omega, k + 1, by omega, rfl, hs.drop⟩
            · replace h2 := of_decide_eq_false h2
              refine c_exit (ex_then (ex_then (ex_hit (nrm_then ?_))))
              refine c_rseq ?_
              refine l_v (r_move (v := .pointer _) rfl) ?_
              refine l_v (by first | exact (r_move (v := iV _) rfl) | exact (r_move rfl)) ?_
              refine l_v (r_build (l := [(0, iV _), (1, iV _)]) rfl ((fun (x0 : Int) (x1 : Int) => (by kernel_rfl : Program.built Try.prog 75 [(0, iV x0), (1, iV x1)] = some #[iV x0, iV x1])) _ _)) ?_
              refine l_lit [.agg (keepC (3, kp)).toArray] hs Try.underlying108 I75 rfl (by intro u hu; rw [List.mem_singleton.1 hu]; rfl) (by decide) rfl (by decide) (by decide) ?_
              intro b185 w185 hs hB185 hlt185
              have hs : Eng.Sep w w185 (blk b185 [iV 3, iV kp] 75 :: rowP (.slice A1 (itemsF 0 th).length q1) (itemsF 0 th) :: rowT (.slice A2 th.length q2) th :: boxH bl b 3 ((PK th).length : Int) :: diskH b (kS t (PK th) sr st) :: []) := hs
              refine l_call (r_call Try.func28 rfl rfl) ?_
              refine Calls.mono (back_c b _ hg (some ⟨b185, 0, none⟩) 1 [(3, kp)] w _ _ (hs.pull 4) (fun w' h => ⟨rfl, (show 1 ≤ 9223372036854775807 by decide), fun _ => ⟨_, rfl, fun j u hu => by rw [add_lit, Nat.zero_add, cell_blk (h.at_ 0).1]; exact hu⟩⟩)) ?_
              rintro e w_ ⟨⟨vb, rfl⟩, hs⟩
              refine ⟨_, rfl, ?_⟩
              have hgk := good_back hg [(3, kp)]
              obtain ⟨q, hqs, hqd, hxk⟩ : ∃ q : Nat, (su = 0 ∨ (PK (th.take su)).length ≤ q) ∧ q ≤ (PK th).length ∧ (backS (kS t (PK th) sr st) [(3, kp)]).get 3 = some ⟨t, (PK th).take q, (q : Int)⟩ := by
                have hcc := cut_le (x := ⟨t, PK th, sr⟩) ⟨hgz.2.2.2.1, hgz.2.2.2.2.1⟩ (some kp)
                have hbk := back_at hg.nd [(3, kp)] (k_get t (PK th) sr st)
                refine ⟨cutB ⟨t, PK th, sr⟩ (some kp), ?_, hcc.2.1, ?_⟩
                · rcases hsr with h | h
                  · exact .inl h
                  · right
                    have h3 := hcc.1
                    unfold sureB at h3
                    dsimp only at h3
                    split at h3 <;> omega
                · rw [hbk]
                  exact if_neg (fun hh => by cases hh.2)
              have hdk : (backS (kS t (PK th) sr st) [(3, kp)]).down = false := rfl
              generalize backS (kS t (PK th) sr st) [(3, kp)] = S1 at *
              have hfk : findE S1 3 = 0 := by unfold findE; rw [if_neg (by rw [hdk]; decide), hxk]; rfl
              have hqz : ((PK th).take q).length = q := by rw [List.length_take]; omega
              have hrk : readS S1 3 0 (q : Int) = ((PK th).take q, 0) := by
                rw [read_yes hfk hxk]
                dsimp only
                rw [if_neg (by omega)]
                simp
                rw [List.take_take, Nat.min_self]
              obtain ⟨n, hn1, hn2, hn3⟩ := cut_at th q
              have hge := PK_ge (th.take n) fun x hx => hfine x (List.mem_of_mem_take hx)
              rw [List.length_take, Nat.min_eq_left hn1] at hge
              have hspl := split_cut hfine (f := q) hn1 hn2 hn3 hqd (by omega)
              have hsz : (ofL ((PK th).take q)).size = q := hqz
              have hil2 := items_len (th.take n) 0
              rw [List.length_take, Nat.min_eq_left hn1] at hil2
              have hnsu : su ≤ n := by
                rcases hqs with h | h
                · omega
                · by_cases hlt : su ≤ n
                  · exact hlt
                  · have h4 := hn3 (by omega)
                    have h5 := PK_mono (xs := th) (i := n + 1) (j := su) (by omega)
                    omega
              refine l_nil (nrm_then ?_)
              refine c_rseq ?_
              refine l_v (r_move (v := .pointer _) rfl) ?_
              refine l_call (r_call Try.func29 rfl rfl) ?_
              refine Calls.mono (size_c b S1 hgk 3 w _ _ hs) ?_
              rintro e w_ ⟨rfl, hb⟩
              refine ⟨_, rfl, ?_⟩
              have hs := hs.below_ hb
              rw [size_yes hfk hxk]
              dsimp only
              rw [hqz]
              refine l_v (r_move rfl) ?_
              refine l_v (r_extract rfl rfl) ?_
              refine l_v (r_extract rfl rfl) ?_
              refine l_v (r_extract rfl rfl) ?_
              refine l_v (by first | exact (r_assign (v := iV _) rfl) | exact (r_assign rfl)) ?_
              refine l_v (by first | exact (r_assign (v := iV _) rfl) | exact (r_assign rfl)) ?_
              refine l_v (by first | exact (r_assign (v := iV _) rfl) | exact (r_assign rfl)) ?_
              refine l_nil (nrm_then ?_)
              refine c_rseq ?_
              refine l_v (r_move (v := .pointer _) rfl) ?_
              refine l_v (by first | exact (r_move (v := iV _) rfl) | exact (r_move rfl)) ?_
              refine l_call (r_call Try.func30 rfl rfl) ?_
              refine Calls.mono (read_c b S1 hgk 3 0 (q : Int) (by decide) (by omega) w _ _ hs) ?_
              rintro e w_ ⟨rfl, hb⟩
              refine ⟨_, rfl, ?_⟩
              have hs := hs.below_ hb
              rw [hrk]
              refine l_v (r_move rfl) ?_
              refine l_v (r_extract rfl rfl) ?_
              refine l_v (r_extract rfl rfl) ?_
              refine l_v (by first | exact (r_assign (v := sV _) rfl) | exact (r_assign rfl)) ?_
              refine l_v (by first | exact (r_assign (v := iV _) rfl) | exact (r_assign rfl)) ?_
              refine l_nil (nrm_then ?_)
              refine c_rseq ?_
              refine l_v (by first | exact (r_move (v := sV _) rfl) | exact (r_move rfl)) ?_
              refine l_call (r_call Try.func17 rfl rfl) ?_
              refine Calls.mono (bsplit_c (ofL ((PK th).take q)) (by omega) w _ _ hs) ?_
              rintro e w_ ⟨vi, rfl, hs⟩
              refine ⟨_, rfl, ?_⟩
              rw [hsz, Eng.toL_ofL, hspl] at hs ⊢
              dsimp only at hs ⊢
              obtain ⟨A3, q3, rfl, hq3⟩ := hs.rowForm
              have f207 : decide (((itemsF 0 (th.take n)).length : Int) < (su : Int)) = false := decide_eq_false (by omega)
              have f213 : decide (((itemsF 0 (th.take n)).length : Int) > (th.length : Int)) = false := decide_eq_false (by omega)
              refine l_v (r_move rfl) ?_
              refine l_v (r_extract rfl rfl) ?_
              refine l_v (r_extract rfl rfl) ?_
              refine l_v (by first | exact (r_assign (v := .slice _ _ _) rfl) | exact (r_assign rfl)) ?_
              refine l_v (by first | exact (r_assign (v := iV _) rfl) | exact (r_assign rfl)) ?_
              refine l_nil (nrm_then ?_)
              refine c_seq ?_
              refine c_rseq ?_
              refine l_v (by first | exact (r_move (v := .slice _ _ _) rfl) | exact (r_move rfl)) ?_
              refine l_v (r_len_l Try.underlying43 rfl) ?_
              refine l_v (by first | exact (r_move (v := iV _) rfl) | exact (r_move rfl)) ?_
              refine l_v (r_lssi rfl rfl) ?_
              refine l_v (by first | exact (r_move (v := bV _) rfl) | exact (r_move rfl)) ?_
              refine l_vg (by first | exact (r_move (v := .slice _ _ _) rfl) | exact (r_move rfl)) rfl (f207) ?_
              refine l_vg (r_len_l Try.underlying43 rfl) rfl (f207) ?_
              refine l_vg (by first | exact (r_move (v := .slice _ _ _) rfl) | exact (r_move rfl)) rfl (f207) ?_
              refine l_vg (r_len_l Try.underlying41 rfl) rfl (f207) ?_
              refine l_vg (r_gtri rfl rfl) rfl (f207) ?_
              refine l_v (r_pick_f rfl f207 rfl) ?_
              refine l_nil (nrm_then ?_)
              refine c_false rfl (f213) ?_
              refine c_skip (nrm_then ?_)
              refine c_seq ?_
              refine c_rseq ?_
              refine l_v (by first | exact (r_assign (v := iV _) rfl) | exact (r_assign rfl)) ?_
              refine l_nil (nrm_then ?_)
              refine c_block ?_
              have hs : Eng.Sep w w_ (rowB (.slice A3 (itemsF 0 (th.take n)).length q3) (itemsF 0 (th.take n)) :: diskH b S1 :: blk b185 [iV 3, iV kp] 75 :: rowP (.slice A1 (itemsF 0 th).length q1) (itemsF 0 th) :: rowT (.slice A2 th.length q2) th :: boxH bl b 3 ((PK th).length : Int) :: []) := hs
              have hitok : ∀ y ∈ itemsF 0 (th.take n), (itemC y).length = 68 := fun y hy => by
                obtain ⟨ii, hii⟩ := List.getElem?_of_mem hy
                have hlt := (List.getElem?_eq_some_iff.1 hii).1
                obtain ⟨r0, hr0⟩ : ∃ r0, (th.take n)[ii]? = some r0 := ⟨_, List.getElem?_eq_getElem (by rw [items_len] at hlt; exact hlt)⟩
                have := items_get (th.take n) 0 ii r0 hr0
                rw [hii] at this
                injection this with this
                rw [this]
                exact itemC_length (hfine r0 (List.mem_of_mem_take (List.mem_of_getElem? hr0))).1
              refine c_loopn [9, 14, 15, 31] (fun m f' w' => ∃ k, k + m = n ∧ f' 33 = iV (k : Int) ∧ Eng.Sep w w' (rowB (.slice A3 (itemsF 0 (th.take n)).length q3) (itemsF 0 (th.take n)) :: diskH b S1 :: rowP (.slice A1 (itemsF 0 th).length q1) (itemsF 0 th) :: rowT (.slice A2 th.length q2) th :: [])) ?_ ?_
              · exact ⟨n, 0, by omega, rfl, ((hs.pull 5).drop.pull 2).drop⟩
              · rintro m g w_ ⟨k, hk, h33, hs⟩
                refine OkC.env ?_ (fixH (L := [(33, _)]) ⟨h33, trivial⟩)
                clear h33
                refine c_seq ?_
                refine c_rseq ?_
                refine l_v (by first | exact (r_move (v := iV _) rfl) | exact (r_move rfl)) ?_
                refine l_v (by first | exact (r_move (v := .slice _ _ _) rfl) | exact (r_move rfl)) ?_
                refine l_v (r_len_l Try.underlying43 rfl) ?_
                refine l_v (r_lssi rfl rfl) ?_
                refine l_nil (nrm_then ?_)
                refine c_cond rfl (fun h3 => ?_) (fun h3 => ?_)
                · have hkn : k < n := by have := of_decide_eq_true h3; omega
                  obtain ⟨r, hri⟩ : ∃ r, th[k]? = some r := ⟨th[k], List.getElem?_eq_getElem (by omega)⟩
                  have hfr := hfine r (List.mem_of_getElem? hri)
                  have hrl := recC_length hfr.1
                  have hit := items_get th 0 k r hri
                  rw [Nat.zero_add] at hit
                  have hri2 : (th.take n)[k]? = some r := by rw [List.getElem?_take, if_pos hkn]; exact hri
                  have hit2 := items_get (th.take n) 0 k r hri2
                  rw [Nat.zero_add, List.take_take, Nat.min_eq_left (by omega)] at hit2
                  have hpn := PK_next hri
                  have hpm := PK_mono (xs := th) (i := k + 1) (j := n) (by omega)
                  have hpc := PK_piece_cut (q := q) hri (by omega)
                  have hsK2 := hs
                  obtain ⟨ad3, rfl, _⟩ := hs.rd.ad (by omega)
                  have hs := hsK2
                  obtain ⟨ad1, rfl, _⟩ := (hs.pull 2).rd.ad (by omega)
                  have hs := hsK2
                  obtain ⟨ad2, rfl, _⟩ := (hs.pull 3).rd.ad (by omega)
                  have hs := hsK2
                  have hXp : ∀ j u, (plI (r, (PK (th.take k)).length, (pk r).length))[j]? = some u → w_.cell? ((ad1.add (k * 3)).add j) = some u := rd_item (gc := plI) (hs.pull 2).rd (fun y _ => rfl) (by decide) hit
                  have hread : breadR S1 3 ((PK (th.take k)).length : Int) ((pk r).length : Int) = (r, 0) := by
                    have hrd : readS S1 3 ((PK (th.take k)).length : Int) ((pk r).length : Int) = (pk r, 0) := by
                      rw [read_yes hfk hxk]
                      dsimp only
                      rw [hqz, if_neg (by omega), Int.toNat_natCast, Int.toNat_natCast, hpc]
                    unfold breadR
                    rw [hrd, if_neg (fun h => h rfl)]
                    exact open_pk hfr
                  replace h3 := of_decide_eq_true h3
                  refine c_skip (nrm_then ?_)
                  refine c_seq ?_
                  refine c_block ?_
                  refine c_rseq ?_
                  refine l_v (r_move (v := .pointer _) rfl) ?_
                  refine l_v (by first | exact (r_move (v := .slice _ _ _) rfl) | exact (r_move rfl)) ?_
                  refine l_v (by first | exact (r_move (v := iV _) rfl) | exact (r_move rfl)) ?_
                  refine l_v (r_indexAddr_l (k := k) Try.underlying72 I53 rfl rfl (by omega)) ?_
                  refine l_v (r_load_aggP Try.underlying53 I53 rfl hXp rfl) ?_
                  refine l_call (r_call Try.func22 rfl rfl) ?_
                  refine Calls.mono (bread_c b S1 hgk 3 ((PK (th.take k)).length : Int) ((pk r).length : Int) (by omega) (by omega) w _ _ (hs.pull 1)) ?_
                  rintro e w_ ⟨rfl, hb⟩
                  refine ⟨_, rfl, ?_⟩
                  have hs := hs.below_ hb
                  rw [hread]
                  refine l_v (r_move rfl) ?_
                  refine l_v (r_extract rfl rfl) ?_
                  refine l_v (r_extract rfl rfl) ?_
                  refine l_alloc hs I30 ?_
                  intro b34 w34 hs hB34 hlt34
                  refine l_store_whole (i := 0) hs rfl I30 rfl rfl hrl (recC_length zero_ok) (rec_one _) ?_
                  intro w34 hs
                  have hs : Eng.Sep w w34 (blk b34 (recC r) 30 :: rowB (.slice (some ad3) (itemsF 0 (th.take n)).length q3) (itemsF 0 (th.take n)) :: diskH b S1 :: rowP (.slice (some ad1) (itemsF 0 th).length q1) (itemsF 0 th) :: rowT (.slice (some ad2) th.length q2) th :: []) := hs
                  have hXt : ∀ w', Below w34.heap.size w34 w' → ∀ j u, (recC r)[j]? = some u → w'.cell? ((ad2.add (k * 66)).add j) = some u := fun w' h => rd_item (gc := recC) ((hs.pull 4).below_ h).rd (fun y hy => recC_length (hfine y hy).1) (by decide) hri
                  have hXq : ∀ w', Below w34.heap.size w34 w' → ∀ j u, (plI (r, (PK (th.take k)).length, (pk r).length))[j]? = some u → w'.cell? ((ad1.add (k * 3)).add j) = some u := fun w' h => rd_item (gc := plI) ((hs.pull 3).below_ h).rd (fun y _ => rfl) (by decide) hit
                  have hXi : ∀ w', Below w34.heap.size w34 w' → ∀ j u, (itemC (r, (PK (th.take k)).length, (pk r).length))[j]? = some u → w'.cell? ((ad3.add (k * 68)).add j) = some u := fun w' h => rd_item (gc := itemC) ((hs.pull 1).below_ h).rd hitok (by decide) hit2
                  have hXir : ∀ w', Below w34.heap.size w34 w' → ∀ j u, (recC r)[j]? = some u → w'.cell? (((ad3.add (k * 68)).add 2).add j) = some u := fun w' h j u hj => by
                    rw [Addr.add_add]
                    exact hXi w' h (2 + j) u (by show ([iV _, iV _] ++ recC r)[2 + j]? = _; rw [List.getElem?_append_right (by simp)]; simpa using hj)
                  have f261 : decide (((PK (th.take k)).length : Int) ≠ ((PK (th.take k)).length : Int)) = false := decide_eq_false (fun h => h rfl)
                  have f274 : decide (((pk r).length : Int) ≠ ((pk r).length : Int)) = false := decide_eq_false (fun h => h rfl)
                  have hil4 : k < (itemsF 0 th).length := by omega
                  have hil5 : k < (itemsF 0 (th.take n)).length := by omega
                  refine l_v (by first | exact (r_assign (v := iV _) rfl) | exact (r_assign rfl)) ?_
                  refine l_nil (nrm_then ?_)
                  refine c_seq ?_
                  refine c_float [8] 44 (by kernel_rfl) (by kernel_rfl) ?_
                  intro hbF
                  show OkF _ _ _ _ _ _ (_ :: _) 0 _ _
                  refine f_v (fun wl hbl => by have hs := hs.below_ hbl; first | exact (r_move (v := iV _) rfl) | exact (r_move rfl)) ?_
                  refine f_v (fun wl hbl => by have hs := hs.below_ hbl; exact (r_neqi rfl rfl)) ?_
                  refine f_v (fun wl hbl => by have hs := hs.below_ hbl; first | exact (r_move (v := bV _) rfl) | exact (r_move rfl)) ?_
                  refine f_vg (fun wl hbl => by have hs := hs.below_ hbl; exact (r_load_whole (i := 0) hs rfl Try.underlying30 I30 rfl hrl)) rfl (rfl) ?_
                  refine f_vg (fun wl hbl => by have hs := hs.below_ hbl; first | exact (r_move (v := .slice _ _ _) rfl) | exact (r_move rfl)) rfl (rfl) ?_
                  refine f_vg (fun wl hbl => by have hs := hs.below_ hbl; first | exact (r_move (v := iV _) rfl) | exact (r_move rfl)) rfl (rfl) ?_
                  refine f_vg (fun wl hbl => by have hs := hs.below_ hbl; exact (r_indexAddr_l (k := k) Try.underlying41 I25 rfl rfl (by omega))) rfl (rfl) ?_
                  refine f_vg (fun wl hbl => by have hs := hs.below_ hbl; exact (r_load_aggP Try.underlying25 I25 rfl (hXt _ hbl) hrl)) rfl (rfl) ?_
                  refine f_callg (r_call Try.func11 rfl rfl) rfl (rfl) ?_
                  refine Calls.mono (theirs_c r hfr.1 _) ?_
                  rintro e w_ ⟨rfl, hb⟩
                  have hbF := hbF.trans (Below.mono hb hbF.size)
                  refine ⟨_, rfl, hb, ?_⟩
                  refine f_vg (fun wl hbl => by have hs := hs.below_ hbl; exact (r_neRec hfr.1 rfl rfl)) rfl (rfl) ?_
                  refine f_v (fun wl hbl => by have hs := hs.below_ hbl; exact (r_pick_f rfl rfl rfl)) ?_
                  refine f_v (fun wl hbl => by have hs := hs.below_ hbl; first | exact (r_move (v := bV _) rfl) | exact (r_move rfl)) ?_
                  refine f_vg (fun wl hbl => by have hs := hs.below_ hbl; first | exact (r_move (v := .slice _ _ _) rfl) | exact (r_move rfl)) rfl (rfl) ?_
                  refine f_vg (fun wl hbl => by have hs := hs.below_ hbl; first | exact (r_move (v := iV _) rfl) | exact (r_move rfl)) rfl (rfl) ?_
                  refine f_vg (fun wl hbl => by have hs := hs.below_ hbl; exact (r_indexAddr_l (k := k) Try.underlying43 I50 rfl rfl hil5)) rfl (rfl) ?_
                  refine f_vg (fun wl hbl => by have hs := hs.below_ hbl; exact (r_fieldAddrP (off := 2) (T := 30) (by kernel_rfl) rfl)) rfl (rfl) ?_
                  refine f_vg (fun wl hbl => by have hs := hs.below_ hbl; exact (r_load_aggP Try.underlying30 I30 rfl (hXir _ hbl) hrl)) rfl (rfl) ?_
                  refine f_vg (fun wl hbl => by have hs := hs.below_ hbl; exact (r_load_whole (i := 0) hs rfl Try.underlying30 I30 rfl hrl)) rfl (rfl) ?_
                  refine f_vg (fun wl hbl => by have hs := hs.below_ hbl; exact (r_neRec hfr.1 rfl rfl)) rfl (rfl) ?_
                  refine f_v (fun wl hbl => by have hs := hs.below_ hbl; exact (r_pick_f rfl rfl rfl)) ?_
                  refine f_v (fun wl hbl => by have hs := hs.below_ hbl; first | exact (r_move (v := bV _) rfl) | exact (r_move rfl)) ?_
                  refine f_vg (fun wl hbl => by have hs := hs.below_ hbl; first | exact (r_move (v := .slice _ _ _) rfl) | exact (r_move rfl)) rfl (rfl) ?_
                  refine f_vg (fun wl hbl => by have hs := hs.below_ hbl; first | exact (r_move (v := iV _) rfl) | exact (r_move rfl)) rfl (rfl) ?_
                  refine f_vg (fun wl hbl => by have hs := hs.below_ hbl; exact (r_indexAddr_l (k := k) Try.underlying43 I50 rfl rfl hil5)) rfl (rfl) ?_
                  refine f_vg (fun wl hbl => by have hs := hs.below_ hbl; exact (r_fieldAddrP (off := 0) (T := 3) (by kernel_rfl) rfl)) rfl (rfl) ?_
                  refine f_vg (fun wl hbl => by have hs := hs.below_ hbl; exact (r_load Try.underlying3 rfl (hXi _ hbl 0 _ rfl))) rfl (rfl) ?_
                  refine f_vg (fun wl hbl => by have hs := hs.below_ hbl; first | exact (r_move (v := .slice _ _ _) rfl) | exact (r_move rfl)) rfl (rfl) ?_
                  refine f_vg (fun wl hbl => by have hs := hs.below_ hbl; first | exact (r_move (v := iV _) rfl) | exact (r_move rfl)) rfl (rfl) ?_
                  refine f_vg (fun wl hbl => by have hs := hs.below_ hbl; exact (r_indexAddr_l (k := k) Try.underlying72 I53 rfl rfl hil4)) rfl (rfl) ?_
                  refine f_vg (fun wl hbl => by have hs := hs.below_ hbl; exact (r_fieldAddrP (off := 1) (T := 3) (by kernel_rfl) rfl)) rfl (rfl) ?_
                  refine f_vg (fun wl hbl => by have hs := hs.below_ hbl; exact (r_load Try.underlying3 rfl (hXq _ hbl 1 _ rfl))) rfl (rfl) ?_
                  refine f_vg (fun wl hbl => by have hs := hs.below_ hbl; exact (r_neqi rfl rfl)) rfl (rfl) ?_
                  refine f_v (fun wl hbl => by have hs := hs.below_ hbl; exact (r_pick_f rfl rfl rfl)) ?_
                  refine f_v (fun wl hbl => by have hs := hs.below_ hbl; first | exact (r_move (v := bV _) rfl) | exact (r_move rfl)) ?_
                  refine f_vg (fun wl hbl => by have hs := hs.below_ hbl; first | exact (r_move (v := .slice _ _ _) rfl) | exact (r_move rfl)) rfl (f261) ?_
                  refine f_vg (fun wl hbl => by have hs := hs.below_ hbl; first | exact (r_move (v := iV _) rfl) | exact (r_move rfl)) rfl (f261) ?_
                  refine f_vg (fun wl hbl => by have hs := hs.below_ hbl; exact (r_indexAddr_l (k := k) Try.underlying43 I50 rfl rfl hil5)) rfl (f261) ?_
                  refine f_vg (fun wl hbl => by have hs := hs.below_ hbl; exact (r_fieldAddrP (off := 1) (T := 3) (by kernel_rfl) rfl)) rfl (f261) ?_
                  refine f_vg (fun wl hbl => by have hs := hs.below_ hbl; exact (r_load Try.underlying3 rfl (hXi _ hbl 1 _ rfl))) rfl (f261) ?_
                  refine f_vg (fun wl hbl => by have hs := hs.below_ hbl; first | exact (r_move (v := .slice _ _ _) rfl) | exact (r_move rfl)) rfl (f261) ?_
                  refine f_vg (fun wl hbl => by have hs := hs.below_ hbl; first | exact (r_move (v := iV _) rfl) | exact (r_move rfl)) rfl (f261) ?_
                  refine f_vg (fun wl hbl => by have hs := hs.below_ hbl; exact (r_indexAddr_l (k := k) Try.underlying72 I53 rfl rfl hil4)) rfl (f261) ?_
                  refine f_vg (fun wl hbl => by have hs := hs.below_ hbl; exact (r_fieldAddrP (off := 2) (T := 3) (by kernel_rfl) rfl)) rfl (f261) ?_
                  refine f_vg (fun wl hbl => by have hs := hs.below_ hbl; exact (r_load Try.underlying3 rfl (hXq _ hbl 2 _ rfl))) rfl (f261) ?_
                  refine f_nil ?_
                  have hs := hs.below_ hbF
                  show OkL _ _ _ _ (_ :: _) _ _
                  refine l_vg (r_neqi rfl rfl) rfl (f261) ?_
                  refine l_v (r_pick_f rfl f261 rfl) ?_
                  refine l_nil (nrm_then ?_)
                  refine c_false rfl (f274) ?_
                  refine c_skip (nrm_block (nrm_then ?_))
                  refine c_region ?_
                  refine l_v (by first | exact (r_move (v := iV _) rfl) | exact (r_move rfl)) ?_
                  refine l_v (r_addi rfl rfl (by omega)) ?_
                  refine l_v (by first | exact (r_assign (v := iV _) rfl) | exact (r_assign rfl)) ?_
                  refine l_nil (nrm_then ?_)
                  refine And.intro (by refine ⟨?_, ?_, ?_, ?_, trivial⟩ <;> ((conv => lhs; whnf); (try conv => rhs; whnf))) ?_
                  exact ⟨n - (k + 1), by omega, k + 1, by omega, rfl, hs.drop⟩
                · replace h3 := of_decide_eq_false h3
                  refine c_exit (ex_then (ex_then (ex_hit (nrm_then ?_))))
                  refine c_rseq ?_
                  refine l_v (by first | exact (r_assign (v := bV _) rfl) | exact (r_assign rfl)) ?_
                  refine l_nil (nrm_then ?_)
                  refine c_ret ?_
                  show Fin _ _ _ _ _
                  refine fin1 rfl ?_
                  exact ⟨rfl, hs.below⟩
  · have f : (!bf) = true := by rw [hbf]; rfl
    refine c_true rfl (f) ?_
    refine c_rseq ?_
    refine l_call (r_call Try.func9 rfl rfl) ?_
    refine Calls.mono (awake_c _) ?_
    rintro e w_ ⟨rfl, hb⟩
    refine ⟨_, rfl, ?_⟩
    have hs := hs.below_ hb
    refine l_v (by first | exact (r_assign (v := bV _) rfl) | exact (r_assign rfl)) ?_
    refine l_nil (nrm_then ?_)
    refine c_ret (ret_then ?_)
    show Fin _ _ _ _ _
    refine fin1 rfl ?_
    exact ⟨rfl, hs.below⟩
end Go.Proofs.Ytiipibmliffghaa.Box
