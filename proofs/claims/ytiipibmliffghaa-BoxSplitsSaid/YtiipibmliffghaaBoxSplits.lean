/- The walk of the law BoxSplits. -/
import Derived.Test.YtiipibmliffghaaBoxFew
namespace Go.Proofs.Ytiipibmliffghaa.Box
open Go Go.RowKit Go.Proofs.Ytiipibmliffghaa.Eng Go.Proofs.Ytiipibmliffghaa.Six Go.Proofs.Ytiipibmliffghaa.CrcFn Go.Proofs.Ytiipibmliffghaa.Crc
set_option linter.unusedVariables false
set_option maxRecDepth 100000
theorem item_rec {x : It} {j : Nat} {u : Value} (h : (recC x.1)[j]? = some u) : (itemC x)[2 + j]? = some u := by
  unfold itemC
  rw [List.getElem?_append_right (by simp), ← h]
  congr 1
  simp
theorem rd_get1 {w w' : World} {ad : Addr} {n k : Nat} {cs : List Value} {u : Value} (hr : Rd w 1 (some ad) n cs) (hb : Below w.heap.size w w') (hu : cs[k]? = some u) : w'.cell? (ad.add k) = some u := by
  have hl : k < cs.length := (List.getElem?_eq_some_iff.1 hu).1
  obtain ⟨ad', he, hc⟩ := (hr.below hb).ad (by have := hr.1; omega)
  cases he
  exact hc k u hu
set_option maxHeartbeats 8000000 in
theorem boxSplits_walk {w : World} (A : Option Addr) (c : Nat) (rs : List Rec) (hr : Rd w 66 A rs.length (rs.flatMap recC)) (hcap : rs.length ≤ c) (hg : ∀ r ∈ rs, r.ok ∧ r.body.length ≤ 9223372036854775807) (s : ByteArray) (hz : s.size ≤ 140737488351232) :
    Calls Try.prog 5 #[.slice A rs.length c, sV s] w fun e w' => e = .returned (bV true) ∧ Below w.heap.size w w' := by
  have hn := hr.2.1
  have hok : ∀ r ∈ rs, r.ok := fun r h => (hg r h).1
  have hlen : ∀ r ∈ rs, (recC r).length = 66 := fun r h => recC_length (hok r h)
  refine enter (P := Try.prog) Try.func5 rfl rfl ?_
  have hs := Sep.init w
  refine c_rseq ?_
  refine l_v (by first | exact (r_assign (v := bV _) rfl) | exact (r_assign rfl)) ?_
  refine l_nil (nrm_then ?_)
  refine c_seq ?_
  refine c_rseq ?_
  refine l_call (r_call Try.func9 rfl rfl) ?_
  refine Calls.mono (awake_c _) ?_
  rintro e w_ ⟨rfl, hb⟩
  refine ⟨_, rfl, ?_⟩
  have hs := hs.below_ hb
  refine l_v (r_not rfl) ?_
  refine l_v (by first | exact (r_move (v := bV _) rfl) | exact (r_move rfl)) ?_
  refine l_vg (by first | exact (r_move (v := .slice _ _ _) rfl) | exact (r_move rfl)) rfl (rfl) ?_
  refine l_callg (r_call Try.func16 rfl rfl) rfl (rfl) ?_
  refine Calls.mono (few_c A c rs _ (hr.below hs.below) hok) ?_
  rintro e w_ ⟨bf, rfl, hfew, hb2⟩
  refine ⟨_, rfl, ?_⟩
  have hs := hs.below_ hb2
  refine l_vg (r_not rfl) rfl (rfl) ?_
  refine l_v (r_pick_f rfl rfl rfl) ?_
  rcases Bool.eq_false_or_eq_true bf with hbf | hbf
  · have f : (!bf) = false := by rw [hbf]; rfl
    obtain ⟨hl2, hz3⟩ := hfew hbf
    refine l_v (by first | exact (r_move (v := bV _) rfl) | exact (r_move rfl)) ?_
    refine l_vg (by first | exact (r_move (v := sV _) rfl) | exact (r_move rfl)) rfl (f) ?_
    refine l_vg (r_len_s Try.underlying9 rfl) rfl (f) ?_
    refine l_vg (r_gtri rfl rfl) rfl (f) ?_
    refine l_v (r_pick_f rfl f rfl) ?_
    refine l_nil (nrm_then ?_)
    refine c_cond rfl (fun h1 => ?_) (fun h1 => ?_)
    · replace h1 := of_decide_eq_true h1
      refine c_rseq ?_
      refine l_call (r_call Try.func9 rfl rfl) ?_
      refine Calls.mono (awake_c _) ?_
      rintro e w_ ⟨rfl, hb3⟩
      refine ⟨_, rfl, ?_⟩
      have hs := hs.below_ hb3
      refine l_v (by first | exact (r_assign (v := bV _) rfl) | exact (r_assign rfl)) ?_
      refine l_nil (nrm_then ?_)
      refine c_ret (ret_then ?_)
      show Fin _ _ _ _ _
      refine fin1 rfl ?_
      exact ⟨rfl, hs.below⟩
    · have hsz : s.size ≤ 30000 := by have h : ¬ ((s.size : Nat) : Int) > 30000 := of_decide_eq_false h1; omega
      replace h1 := of_decide_eq_false h1
      refine c_skip (nrm_then ?_)
      refine c_rseq ?_
      refine l_v (by first | exact (r_assign (v := sV _) rfl) | exact (r_assign rfl)) ?_
      refine l_nil (nrm_then ?_)
      refine c_seq ?_
      refine c_rseq ?_
      refine l_v (by first | exact (r_assign (v := iV _) rfl) | exact (r_assign rfl)) ?_
      refine l_nil (nrm_then ?_)
      refine c_block ?_
      refine c_loopn [0, 1, 4] (fun m f' w' => ∃ (i : Nat) (S : ByteArray), i + m = rs.length ∧ f' 6 = iV (i : Int) ∧ f' 5 = sV S ∧ S.size ≤ SZ rs i + 40 * i ∧ Eng.Sep w w' []) ?_ ?_
      · exact ⟨rs.length, 0, ⟨#[]⟩, by omega, rfl, rfl, Nat.zero_le _, hs⟩
      · rintro m g w_ ⟨i, S, hi, h6, h5, hS, hs⟩
        have hSl := SZ_le rs i
        refine OkC.env ?_ (fixH (L := [(6, _), (5, _)]) ⟨h6, h5, trivial⟩)
        clear h6 h5
        refine c_seq ?_
        refine c_rseq ?_
        refine l_v (by first | exact (r_move (v := iV _) rfl) | exact (r_move rfl)) ?_
        refine l_v (by first | exact (r_move (v := .slice _ _ _) rfl) | exact (r_move rfl)) ?_
        refine l_v (r_len_l Try.underlying41 rfl) ?_
        refine l_v (r_lssi rfl rfl) ?_
        refine l_nil (nrm_then ?_)
        refine c_cond rfl (fun h2 => ?_) (fun h2 => ?_)
        · have hil : i < rs.length := by have := of_decide_eq_true h2; omega
          obtain ⟨r, hri⟩ : ∃ r, rs[i]? = some r := ⟨rs[i], List.getElem?_eq_getElem hil⟩
          have hrm : r ∈ rs := List.mem_of_getElem? hri
          obtain ⟨ad, rfl, _⟩ := hr.ad (by omega)
          have hit := rd_item (hr.below hs.below) hlen (by decide) hri
          have hzn := SZ_next hri
          have hSl2 := SZ_le rs (i + 1)
          have hpl := pack_len r (hok r hrm)
          replace h2 := of_decide_eq_true h2
          refine c_skip (nrm_then ?_)
          refine c_seq ?_
          refine c_block ?_
          refine c_rseq ?_
          refine l_v (by first | exact (r_move (v := .slice _ _ _) rfl) | exact (r_move rfl)) ?_
          refine l_v (by first | exact (r_move (v := iV _) rfl) | exact (r_move rfl)) ?_
          refine l_v (r_indexAddr_l (k := i) Try.underlying41 I25 rfl rfl hil) ?_
          refine l_v (r_load_aggP Try.underlying25 I25 rfl hit (hlen r hrm)) ?_
          refine l_call (r_call Try.func12 rfl rfl) ?_
          refine Calls.mono (rpack_c r (hok r hrm) (hg r hrm).2 _) ?_
          rintro e w_ ⟨rfl, hb3⟩
          refine ⟨_, rfl, ?_⟩
          have hs := hs.below_ hb3
          generalize packR r = X at *
          have hXz : (ofL X.1).size = X.1.length := rfl
          refine l_v (r_move rfl) ?_
          refine l_v (r_extract rfl rfl) ?_
          refine l_v (r_extract rfl rfl) ?_
          refine l_v (by first | exact (r_assign (v := sV _) rfl) | exact (r_assign rfl)) ?_
          refine l_v (by first | exact (r_assign (v := iV _) rfl) | exact (r_assign rfl)) ?_
          refine l_nil (nrm_then ?_)
          refine c_region ?_
          refine l_v (by first | exact (r_move (v := sV _) rfl) | exact (r_move rfl)) ?_
          refine l_v (by first | exact (r_move (v := sV _) rfl) | exact (r_move rfl)) ?_
          refine l_v (r_adds rfl rfl (by omega)) ?_
          refine l_v (by first | exact (r_assign (v := sV _) rfl) | exact (r_assign rfl)) ?_
          refine l_nil (nrm_block (nrm_then ?_))
          refine c_region ?_
          refine l_v (by first | exact (r_move (v := iV _) rfl) | exact (r_move rfl)) ?_
          refine l_v (r_addi rfl rfl (by omega)) ?_
          refine l_v (by first | exact (r_assign (v := iV _) rfl) | exact (r_assign rfl)) ?_
          refine l_nil (nrm_then ?_)
          refine And.intro (by refine ⟨?_, ?_, ?_, trivial⟩ <;> ((conv => lhs; whnf); (try conv => rhs; whnf))) ?_
          exact ⟨rs.length - (i + 1), by omega, i + 1, S ++ ofL X.1, by omega, rfl, rfl, by rw [ByteArray.size_append]; omega, hs⟩
        · replace h2 := of_decide_eq_false h2
          refine c_exit (ex_then (ex_then (ex_hit (nrm_then ?_))))
          refine c_rseq ?_
          refine l_v (by first | exact (r_move (v := sV _) rfl) | exact (r_move rfl)) ?_
          refine l_v (by first | exact (r_move (v := sV _) rfl) | exact (r_move rfl)) ?_
          refine l_v (r_adds rfl rfl (by omega)) ?_
          refine l_v (by first | exact (r_assign (v := sV _) rfl) | exact (r_assign rfl)) ?_
          refine l_nil (nrm_then ?_)
          refine c_rseq ?_
          refine l_v (by first | exact (r_move (v := sV _) rfl) | exact (r_move rfl)) ?_
          have hTz : (S ++ s).size ≤ 16777216 := by rw [ByteArray.size_append]; omega
          generalize S ++ s = T at *
          refine l_call (r_call Try.func17 rfl rfl) ?_
          refine Calls.mono (bsplit_c T hTz w _ _ hs) ?_
          rintro e w_ ⟨v, rfl, hs⟩
          refine ⟨_, rfl, ?_⟩
          refine l_v (r_move rfl) ?_
          refine l_v (r_extract rfl rfl) ?_
          refine l_v (r_extract rfl rfl) ?_
          refine l_v (by first | exact (r_assign (v := .slice _ _ _) rfl) | exact (r_assign rfl)) ?_
          refine l_v (by first | exact (r_assign (v := iV _) rfl) | exact (r_assign rfl)) ?_
          refine l_nil (nrm_then ?_)
          refine c_rseq ?_
          refine l_v (by first | exact (r_move (v := sV _) rfl) | exact (r_move rfl)) ?_
          refine l_call (r_call Try.func18 rfl rfl) ?_
          refine Calls.mono (rsplit_c T hTz w _ _ hs) ?_
          rintro e w_ ⟨v2, u2, rfl, hs⟩
          refine ⟨_, rfl, ?_⟩
          have hgood := splitB_good (T.size + 1) [] 0 (toL T) goodB_nil
          have hle := splitB_le (T.size + 1) [] 0 (toL T)
          rw [Eng.toL_size, Nat.zero_add] at hle
          generalize splitB (T.size + 1) [] 0 (toL T) = X at *
          obtain ⟨AB, cB, rfl, hcB⟩ := (hs.pull 2).rowForm
          obtain ⟨AR, cR, rfl, hcR⟩ := hs.rowForm
          obtain ⟨AN, cN, rfl, hcN⟩ := (hs.pull 1).rowForm
          have f64 : decide (((X.1.length : Nat) : Int) ≠ ((X.1.length : Nat) : Int)) = false := by simp
          refine l_v (r_move rfl) ?_
          refine l_v (r_extract rfl rfl) ?_
          refine l_v (r_extract rfl rfl) ?_
          refine l_v (r_extract rfl rfl) ?_
          refine l_v (by first | exact (r_assign (v := .slice _ _ _) rfl) | exact (r_assign rfl)) ?_
          refine l_v (by first | exact (r_assign (v := .slice _ _ _) rfl) | exact (r_assign rfl)) ?_
          refine l_v (by first | exact (r_assign (v := iV _) rfl) | exact (r_assign rfl)) ?_
          refine l_nil (nrm_then ?_)
          refine c_seq ?_
          refine c_rseq ?_
          refine l_v (by first | exact (r_move (v := .slice _ _ _) rfl) | exact (r_move rfl)) ?_
          refine l_v (r_len_l Try.underlying43 rfl) ?_
          refine l_v (by first | exact (r_move (v := .slice _ _ _) rfl) | exact (r_move rfl)) ?_
          refine l_v (r_len_l Try.underlying41 rfl) ?_
          refine l_v (r_neqi rfl rfl) ?_
          refine l_v (by first | exact (r_move (v := bV _) rfl) | exact (r_move rfl)) ?_
          refine l_vg (by first | exact (r_move (v := iV _) rfl) | exact (r_move rfl)) rfl (f64) ?_
          refine l_vg (by first | exact (r_move (v := iV _) rfl) | exact (r_move rfl)) rfl (f64) ?_
          refine l_vg (r_neqi rfl rfl) rfl (f64) ?_
          refine l_v (r_pick_f rfl f64 rfl) ?_
          refine l_nil (nrm_then ?_)
          refine c_false rfl ((decide_eq_false (fun h => h rfl))) ?_
          refine c_skip (nrm_then ?_)
          refine c_rseq ?_
          refine l_v (by first | exact (r_assign (v := iV _) rfl) | exact (r_assign rfl)) ?_
          refine l_nil (nrm_then ?_)
          refine c_seq ?_
          refine c_rseq ?_
          refine l_v (by first | exact (r_assign (v := iV _) rfl) | exact (r_assign rfl)) ?_
          refine l_nil (nrm_then ?_)
          refine c_block ?_
          refine c_loopn [9, 11, 12] (fun m f' w' => ∃ i, i + m = X.1.length ∧ f' 15 = iV (i : Int) ∧ f' 14 = iV ((EB X.1 i : Nat) : Int) ∧ Eng.Sep w w' (rowR (.slice AR X.1.length cR) X.1 :: rowN (.slice AN X.1.length cN) X.1 :: rowB (.slice AB X.1.length cB) X.1 :: [])) ?_ ?_
          · exact ⟨X.1.length, 0, by omega, rfl, rfl, hs⟩
          · rintro m g w_ ⟨i, hi, h15, h14, hs⟩
            refine OkC.env ?_ (fixH (L := [(15, _), (14, _)]) ⟨h15, h14, trivial⟩)
            clear h15 h14
            refine c_seq ?_
            refine c_rseq ?_
            refine l_v (by first | exact (r_move (v := iV _) rfl) | exact (r_move rfl)) ?_
            refine l_v (by first | exact (r_move (v := .slice _ _ _) rfl) | exact (r_move rfl)) ?_
            refine l_v (r_len_l Try.underlying43 rfl) ?_
            refine l_v (r_lssi rfl rfl) ?_
            refine l_nil (nrm_then ?_)
            refine c_cond rfl (fun h3 => ?_) (fun h3 => ?_)
            · have hil : i < X.1.length := by have := of_decide_eq_true h3; omega
              obtain ⟨x, hxi⟩ : ∃ x, X.1[i]? = some x := ⟨X.1[i], List.getElem?_eq_getElem hil⟩
              obtain ⟨hxo, hx1, hx2⟩ := hgood.1 i x hxi
              have hxl := recC_length hxo
              have hEl := EB_le X.1 (i + 1)
              rw [← hgood.2] at hEl
              have hgl : ∀ y ∈ X.1, y.1.ok := fun y hy => by
                obtain ⟨k, hk⟩ := List.mem_iff_getElem?.1 hy
                exact (hgood.1 k y hk).1
              have hrR : Rd w_ 66 AR X.1.length (X.1.flatMap fun x => recC x.1) := hs.rd
              have hrN : Rd w_ 1 AN X.1.length (X.1.map fun x => iV ((x.2.1 + x.2.2 : Nat) : Int)) := (hs.pull 1).rd
              have hrB : Rd w_ 68 AB X.1.length (X.1.flatMap itemC) := (hs.pull 2).rd
              have hXn := hrR.2.1
              obtain ⟨adR, rfl, _⟩ := hrR.ad (by omega)
              obtain ⟨adN, rfl, _⟩ := hrN.ad (by omega)
              obtain ⟨adB, rfl, _⟩ := hrB.ad (by omega)
              have hB : ∀ wl, Below w_.heap.size w_ wl → ∀ j u, (itemC x)[j]? = some u → wl.cell? ((adB.add (i * 68)).add j) = some u := fun wl hbl => rd_item (hrB.below hbl) (fun y hy => itemC_length (hgl y hy)) (by decide) hxi
              have hR : ∀ wl, Below w_.heap.size w_ wl → ∀ j u, (recC x.1)[j]? = some u → wl.cell? ((adR.add (i * 66)).add j) = some u := fun wl hbl => rd_item (gc := fun x : It => recC x.1) (hrR.below hbl) (fun y hy => recC_length (hgl y hy)) (by decide) hxi
              have hN : ∀ wl, Below w_.heap.size w_ wl → wl.cell? (adN.add i) = some (iV ((x.2.1 + x.2.2 : Nat) : Int)) := fun wl hbl => rd_get1 hrN hbl (by rw [List.getElem?_map, hxi]; rfl)
              have hB2 : ∀ wl, Below w_.heap.size w_ wl → ∀ j u, (recC x.1)[j]? = some u → wl.cell? (((adB.add (i * 68)).add 2).add j) = some u := fun wl hbl j u hu => by
                rw [Addr.add_add]; exact hB wl hbl (2 + j) u (item_rec hu)
              have f94 : decide ((x.2.1 : Int) ≠ ((EB X.1 i : Nat) : Int)) = false := decide_eq_false (fun h => h (by rw [hx1]))
              replace h3 := of_decide_eq_true h3
              refine c_skip (nrm_then ?_)
              refine c_seq ?_
              refine c_block ?_
              refine c_seq ?_
              refine c_seq ?_
              refine c_float [9] 36 (by kernel_rfl) (by kernel_rfl) ?_
              intro hbF
              show OkF _ _ _ _ _ _ (_ :: _) 0 _ _
              refine f_v (fun wl hbl => by have hs := hs.below_ hbl; first | exact (r_move (v := .slice _ _ _) rfl) | exact (r_move rfl)) ?_
              refine f_v (fun wl hbl => by have hs := hs.below_ hbl; first | exact (r_move (v := iV _) rfl) | exact (r_move rfl)) ?_
              refine f_v (fun wl hbl => by have hs := hs.below_ hbl; exact (r_indexAddr_l (k := i) Try.underlying43 I50 rfl rfl hil)) ?_
              refine f_v (fun wl hbl => by have hs := hs.below_ hbl; exact (r_fieldAddrP (off := 2) (T := 30) (by kernel_rfl) rfl)) ?_
              refine f_v (fun wl hbl => by have hs := hs.below_ hbl; exact (r_load_aggP Try.underlying30 I30 rfl (hB2 _ hbl) hxl)) ?_
              refine f_v (fun wl hbl => by have hs := hs.below_ hbl; first | exact (r_move (v := .slice _ _ _) rfl) | exact (r_move rfl)) ?_
              refine f_v (fun wl hbl => by have hs := hs.below_ hbl; first | exact (r_move (v := iV _) rfl) | exact (r_move rfl)) ?_
              refine f_v (fun wl hbl => by have hs := hs.below_ hbl; exact (r_indexAddr_l (k := i) Try.underlying41 I25 rfl rfl hil)) ?_
              refine f_v (fun wl hbl => by have hs := hs.below_ hbl; exact (r_load_aggP Try.underlying25 I25 rfl (hR _ hbl) hxl)) ?_
              refine f_call (r_call Try.func11 rfl rfl) ?_
              refine Calls.mono (theirs_c x.1 hxo _) ?_
              rintro e w_ ⟨rfl, hb⟩
              have hbF := hbF.trans (Below.mono hb hbF.size)
              refine ⟨_, rfl, hb, ?_⟩
              refine f_v (fun wl hbl => by have hs := hs.below_ hbl; exact (r_neRec hxo rfl rfl)) ?_
              refine f_v (fun wl hbl => by have hs := hs.below_ hbl; first | exact (r_move (v := bV _) rfl) | exact (r_move rfl)) ?_
              refine f_vg (fun wl hbl => by have hs := hs.below_ hbl; first | exact (r_move (v := .slice _ _ _) rfl) | exact (r_move rfl)) rfl (rfl) ?_
              refine f_vg (fun wl hbl => by have hs := hs.below_ hbl; first | exact (r_move (v := iV _) rfl) | exact (r_move rfl)) rfl (rfl) ?_
              refine f_vg (fun wl hbl => by have hs := hs.below_ hbl; exact (r_indexAddr_l (k := i) Try.underlying43 I50 rfl rfl hil)) rfl (rfl) ?_
              refine f_vg (fun wl hbl => by have hs := hs.below_ hbl; exact (r_fieldAddrP (off := 0) (T := 3) (by kernel_rfl) rfl)) rfl (rfl) ?_
              refine f_vg (fun wl hbl => by have hs := hs.below_ hbl; exact (r_load Try.underlying3 rfl (hB _ hbl 0 _ rfl))) rfl (rfl) ?_
              refine f_vg (fun wl hbl => by have hs := hs.below_ hbl; first | exact (r_move (v := iV _) rfl) | exact (r_move rfl)) rfl (rfl) ?_
              refine f_vg (fun wl hbl => by have hs := hs.below_ hbl; exact (r_neqi rfl rfl)) rfl (rfl) ?_
              refine f_v (fun wl hbl => by have hs := hs.below_ hbl; exact (r_pick_f rfl rfl rfl)) ?_
              refine f_v (fun wl hbl => by have hs := hs.below_ hbl; first | exact (r_move (v := bV _) rfl) | exact (r_move rfl)) ?_
              refine f_vg (fun wl hbl => by have hs := hs.below_ hbl; first | exact (r_move (v := .slice _ _ _) rfl) | exact (r_move rfl)) rfl (f94) ?_
              refine f_vg (fun wl hbl => by have hs := hs.below_ hbl; first | exact (r_move (v := iV _) rfl) | exact (r_move rfl)) rfl (f94) ?_
              refine f_vg (fun wl hbl => by have hs := hs.below_ hbl; exact (r_indexAddr_l (k := i) Try.underlying43 I50 rfl rfl hil)) rfl (f94) ?_
              refine f_vg (fun wl hbl => by have hs := hs.below_ hbl; exact (r_fieldAddrP (off := 0) (T := 3) (by kernel_rfl) rfl)) rfl (f94) ?_
              refine f_vg (fun wl hbl => by have hs := hs.below_ hbl; exact (r_load Try.underlying3 rfl (hB _ hbl 0 _ rfl))) rfl (f94) ?_
              refine f_vg (fun wl hbl => by have hs := hs.below_ hbl; first | exact (r_move (v := .slice _ _ _) rfl) | exact (r_move rfl)) rfl (f94) ?_
              refine f_vg (fun wl hbl => by have hs := hs.below_ hbl; first | exact (r_move (v := iV _) rfl) | exact (r_move rfl)) rfl (f94) ?_
              refine f_vg (fun wl hbl => by have hs := hs.below_ hbl; exact (r_indexAddr_l (k := i) Try.underlying43 I50 rfl rfl hil)) rfl (f94) ?_
              refine f_vg (fun wl hbl => by have hs := hs.below_ hbl; exact (r_fieldAddrP (off := 1) (T := 3) (by kernel_rfl) rfl)) rfl (f94) ?_
              refine f_vg (fun wl hbl => by have hs := hs.below_ hbl; exact (r_load Try.underlying3 rfl (hB _ hbl 1 _ rfl))) rfl (f94) ?_
              refine f_vg (fun wl hbl => by have hs := hs.below_ hbl; exact (r_addi rfl rfl (by omega))) rfl (f94) ?_
              refine f_vg (fun wl hbl => by have hs := hs.below_ hbl; first | exact (r_move (v := .slice _ _ _) rfl) | exact (r_move rfl)) rfl (f94) ?_
              refine f_vg (fun wl hbl => by have hs := hs.below_ hbl; first | exact (r_move (v := iV _) rfl) | exact (r_move rfl)) rfl (f94) ?_
              refine f_vg (fun wl hbl => by have hs := hs.below_ hbl; exact (r_indexAddr_l1 (k := i) Try.underlying46 I3 rfl rfl hil)) rfl (f94) ?_
              refine f_vg (fun wl hbl => by have hs := hs.below_ hbl; exact (r_load Try.underlying3 rfl (hN _ hbl))) rfl (f94) ?_
              refine f_nil ?_
              have hs := hs.below_ hbF
              show OkL _ _ _ _ (_ :: _) _ _
              refine l_vg (r_neqi rfl rfl) rfl (f94) ?_
              refine l_v (r_pick_f rfl f94 rfl) ?_
              refine l_nil (nrm_then ?_)
              refine c_false rfl ((decide_eq_false (fun h => h (by omega)))) ?_
              refine c_skip (nrm_then ?_)
              refine c_region ?_
              refine l_v (by first | exact (r_move (v := .slice _ _ _) rfl) | exact (r_move rfl)) ?_
              refine l_v (by first | exact (r_move (v := iV _) rfl) | exact (r_move rfl)) ?_
              refine l_v (r_indexAddr_l1 (k := i) Try.underlying46 I3 rfl rfl hil) ?_
              refine l_v (r_load Try.underlying3 rfl (hN _ hbF)) ?_
              refine l_v (by first | exact (r_assign (v := iV _) rfl) | exact (r_assign rfl)) ?_
              refine l_nil (nrm_block (nrm_then ?_))
              refine c_region ?_
              refine l_v (by first | exact (r_move (v := iV _) rfl) | exact (r_move rfl)) ?_
              refine l_v (r_addi rfl rfl (by omega)) ?_
              refine l_v (by first | exact (r_assign (v := iV _) rfl) | exact (r_assign rfl)) ?_
              refine l_nil (nrm_then ?_)
              refine And.intro (by refine ⟨?_, ?_, ?_, trivial⟩ <;> ((conv => lhs; whnf); (try conv => rhs; whnf))) ?_
              exact ⟨X.1.length - (i + 1), by omega, i + 1, by omega, rfl, congrArg iV (by rw [hx2]), hs⟩
            · replace h3 := of_decide_eq_false h3
              refine c_exit (ex_then (ex_then (ex_hit (nrm_then ?_))))
              refine c_rseq ?_
              refine l_v (by first | exact (r_assign (v := bV _) rfl) | exact (r_assign rfl)) ?_
              refine l_nil (nrm_then ?_)
              refine c_ret ?_
              show Fin _ _ _ _ _
              refine fin1 rfl ?_
              exact ⟨rfl, hs.below⟩
  · have f : (!bf) = true := by rw [hbf]; rfl
    refine l_v (by first | exact (r_move (v := bV _) rfl) | exact (r_move rfl)) ?_
    refine l_no rfl (f) ?_
    refine l_no rfl (f) ?_
    refine l_no rfl (f) ?_
    refine l_v (r_pick_t rfl f rfl) ?_
    refine l_nil (nrm_then ?_)
    refine c_true rfl (rfl) ?_
    refine c_rseq ?_
    refine l_call (r_call Try.func9 rfl rfl) ?_
    refine Calls.mono (awake_c _) ?_
    rintro e w_ ⟨rfl, hb3⟩
    refine ⟨_, rfl, ?_⟩
    have hs := hs.below_ hb3
    refine l_v (by first | exact (r_assign (v := bV _) rfl) | exact (r_assign rfl)) ?_
    refine l_nil (nrm_then ?_)
    refine c_ret (ret_then ?_)
    show Fin _ _ _ _ _
    refine fin1 rfl ?_
    exact ⟨rfl, hs.below⟩
end Go.Proofs.Ytiipibmliffghaa.Box
