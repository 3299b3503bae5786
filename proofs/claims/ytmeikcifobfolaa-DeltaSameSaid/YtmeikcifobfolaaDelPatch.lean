/- The walks of awake and of the document's Patch. -/
import Derived.Test.YtmeikcifobfolaaDelApply
import Derived.Test.YtmeikcifobfolaaSixRef
namespace Go.Proofs.Ytmeikcifobfolaa.Del
open Go Go.RowKit Go.Proofs.Ytmeikcifobfolaa.Eng Go.Proofs.Ytmeikcifobfolaa.Six
set_option linter.unusedVariables false
set_option maxRecDepth 100000
section
variable {P : Program} {n : Nat} {ops : Array Oper} {Q : EPost} {rest : List Oper} {f : Env} {w w0 : World} {d : Nat} {ty : TypeId} {pos : String} {aft : Array Edge} {L : List HP}
/-- []byte of a constant: the literal's block is marked. -/
theorem l_cv_mark {t e : TypeId} {x : Operand} {m c b : Nat} {cs : List Value} {T : TypeId} (hs : Eng.Sep w0 w (blk b cs T :: L)) (ht : P.underlying t = some (.slice e)) (he : P.underlying e = some (.int .u8)) (hx : ev f x = .slice (some ⟨b, 0, none⟩) m c)
    (h : ∀ w', Eng.Sep w0 w' (blkF b cs T (cs.length, cs.length + 1) :: L) → OkL P n ops Q rest (upd f d (.slice (some ⟨b, 0, none⟩) m c)) w') (hd : Nat.blt d n = true := by rfl) :
    OkL P n ops Q (⟨some d, .convert t t x, ty, pos, aft, none⟩ :: rest) f w := by
  have hg := hs.get.1
  have hlt : b < w.heap.size := (Array.getElem?_eq_some_iff.1 hg).1
  have hsh : w.shape? b = some (T, cs.length) := by simp [World.shape?, hg]
  have hrun : (convert t t (.slice (some ⟨b, 0, none⟩) m c)).run P w = .ok (.slice (some ⟨b, 0, none⟩) m c) (w.freeze { block := b, off := cs.length } 1) := by
    simp [convert, run_underlying ht, run_underlying he, markStringish, hsh]
  refine l_v (v := .slice (some ⟨b, 0, none⟩) m c) (.inl ?_) (h (w.freeze { block := b, off := cs.length } 1) ?_) hd
  · simp only [execOp, hx, Sem.run_bind, hrun, Result.andThen_ok, Sem.run_pure]
  · refine hs.setObj ⟨rfl, rfl, rfl, by simp [World.freeze]⟩ ?_ fun k hk => ?_
    · simp [World.freeze, Array.getElem?_modify, hg]
    · have hk' : ¬ b = k := fun e => hk e.symm
      simp [World.freeze, Array.getElem?_modify, hk']
end
theorem refwhole_c' (n : Int) (hn : -9223372036854775808 ≤ n ∧ n ≤ 9223372036854775807) (w : World) :
    Calls Try.prog 17 #[iV n] w fun e w' => e = .returned (sV (ofL (encW n))) ∧ Below w.heap.size w w' :=
  (refwhole_c n hn w w [] (Sep.init w)).mono fun e w' h => ⟨h.1, h.2.below⟩
theorem encW_nat (n : Nat) : encW (n : Int) = enc 64 n := by unfold encW; rw [if_neg (by omega), Int.toNat_natCast]
set_option maxHeartbeats 2000000 in
theorem awake_c (w : World) : Calls Try.prog 7 #[] w fun e w' => e = .returned (bV true) ∧ Below w.heap.size w w' := by
  have hlaw : apply [97, 98, 99] (toL ⟨#[68, 69, 64, 68, 120, 121]⟩) = ([97, 98, 120, 121], 0) := by decide +kernel
  refine enter (P := Try.prog) Try.func7 rfl rfl ?_
  have hs := Sep.init w
  refine c_rseq ?_
  refine l_v (by first | exact (r_assign (v := bV _) rfl) | exact (r_assign rfl)) ?_
  refine l_nil (nrm_then ?_)
  refine c_rseq ?_
  refine l_lit1 [u8V 97, u8V 98, u8V 99] hs Try.underlying22 I5 rfl (by simp [Value.oneCell']) rfl (by decide) (by decide) ?_
  intro b4 w4 hs hB4 hlt4
  refine l_cv_mark hs Try.underlying22 Try.underlying5 rfl ?_
  intro w5 hs
  refine l_call (r_call Try.func8 rfl rfl) ?_
  refine Calls.mono (apply_c _ 3 3 [97, 98, 99] ⟨#[68, 69, 64, 68, 120, 121]⟩ (by decide) _ _ [] (rd_at (hs.at_ 0).1 rfl (by decide)) (Nat.le_refl _) (Sep.init _) (Nat.le_refl _)) ?_
  rintro e w_ ⟨v, rfl, hs2⟩
  refine ⟨_, rfl, ?_⟩
  have hb := hs2.below
  have hs := hs.below_ hb
  rw [hlaw] at *
  obtain ⟨A, c, rfl, hc⟩ := hs2.rowForm
  have f1 : decide (ofL [97, 98, 120, 121] = (⟨#[97, 98, 120, 121]⟩ : ByteArray)) = true := decide_eq_true rfl
  refine l_v (r_move rfl) ?_
  refine l_v (r_extract rfl rfl) ?_
  refine l_v (r_extract rfl rfl) ?_
  refine l_v (by first | exact (r_assign (v := .slice _ _ _) rfl) | exact (r_assign rfl)) ?_
  refine l_v (by first | exact (r_assign (v := iV _) rfl) | exact (r_assign rfl)) ?_
  refine l_nil (nrm_then ?_)
  refine c_rseq ?_
  refine l_v (by first | exact (r_move (v := .slice _ _ _) rfl) | exact (r_move rfl)) ?_
  refine l_v (r_cv_bs (l := [97, 98, 120, 121]) Try.underlying22 Try.underlying5 Try.underlying9 rfl hs2.rd) ?_
  refine l_v (r_eqls rfl rfl) ?_
  refine l_v (by first | exact (r_move (v := bV _) rfl) | exact (r_move rfl)) ?_
  refine l_vg (by first | exact (r_move (v := iV _) rfl) | exact (r_move rfl)) rfl (f1) ?_
  refine l_vg (r_eqli rfl rfl) rfl (f1) ?_
  refine l_v (r_pick_t rfl f1 rfl) ?_
  refine l_v (by first | exact (r_assign (v := bV _) rfl) | exact (r_assign rfl)) ?_
  refine l_nil (nrm_then ?_)
  refine c_ret ?_
  show Fin _ _ _ _ _
  refine fin1 rfl ?_
  exact ⟨rfl, hs.below⟩
structure Pr where
  copy : Bool
  at_ : Int
  text : ByteArray
  len : Int
def toPc (r : Pr) : Pc := ⟨r.copy, r.at_.toNat, toL r.text, r.len.toNat⟩
def prC (x : Pr) : List Value := [bV x.copy, iV x.at_, sV x.text, iV x.len]
def prsmall (x : Pr) : Prop := (x.copy = true → 0 ≤ x.at_ ∧ x.at_ ≤ 9000 ∧ 0 ≤ x.len ∧ x.len ≤ 9000) ∧ x.text.size ≤ 9000
theorem pbytes_len {x : Pr} (h : prsmall x) : (pbytes (toPc x)).length ≤ 9022 := by
  obtain ⟨h1, h3⟩ := h
  have hz := toL_size x.text
  unfold pbytes toPc
  dsimp only
  split
  · rename_i hc
    obtain ⟨h4, h5, h6, h7⟩ := h1 hc
    have a1 := enc_len 64 (2 * x.len.toNat + 1) (by omega)
    have a2 := enc_len 64 x.at_.toNat (by omega)
    rw [List.length_append]; omega
  · have a3 := enc_len 64 (2 * (toL x.text).length) (by omega)
    rw [List.length_append]; omega
theorem take_nextP {ps : List Pc} {i : Nat} {x : Pc} (h : ps[i]? = some x) : ps.take (i + 1) = ps.take i ++ [x] := by rw [List.take_add_one, h]; rfl
def PB (n : Nat) (ps : List Pc) (i : Nat) : List UInt8 := enc 64 n ++ (ps.take i).flatMap pbytes
theorem PB_next {n : Nat} {ps : List Pc} {i : Nat} {x : Pc} (h : ps[i]? = some x) : PB n ps (i + 1) = PB n ps i ++ pbytes x := by
  unfold PB; rw [take_nextP h, List.flatMap_append, List.append_assoc]; simp
set_option maxHeartbeats 4000000 in
theorem patch_c (n : Nat) (hn : n ≤ 4097) (A : Option Addr) (c : Nat) (rs : List Pr) (hp : rs.length ≤ 300) (hg : ∀ p ∈ rs, prsmall p) (w : World) (hr : Rd w 4 A rs.length (rs.flatMap prC)) :
    Calls Try.prog 10 #[iV (n : Int), .slice A rs.length c] w fun e w' => e = .returned (sV (ofL (patch n (rs.map toPc)))) ∧ Below w.heap.size w w' := by
  have hen := enc_len 64 n (by omega)
  refine enter (P := Try.prog) Try.func10 rfl rfl ?_
  have hs := Sep.init w
  refine c_rseq ?_
  refine l_v (by first | exact (r_assign (v := sV _) rfl) | exact (r_assign rfl)) ?_
  refine l_nil (nrm_then ?_)
  refine c_rseq ?_
  refine l_v (by first | exact (r_move (v := iV _) rfl) | exact (r_move rfl)) ?_
  refine l_call (r_call Try.func17 rfl rfl) ?_
  refine Calls.mono (refwhole_c' (n : Int) (by omega) _) ?_
  rintro e w_ ⟨rfl, hb⟩
  refine ⟨_, rfl, ?_⟩
  have hs := hs.below_ hb
  rw [encW_nat]
  refine l_v (by first | exact (r_assign (v := sV _) rfl) | exact (r_assign rfl)) ?_
  refine l_nil (nrm_then ?_)
  refine c_seq ?_
  refine c_rseq ?_
  refine l_v (by first | exact (r_assign (v := iV _) rfl) | exact (r_assign rfl)) ?_
  refine l_nil (nrm_then ?_)
  refine c_block ?_
  refine c_loopn [1, 4] (fun m f' w' => ∃ i, i + m = rs.length ∧ f' 6 = iV (i : Int) ∧ f' 5 = sV (ofL (PB n (rs.map toPc) i)) ∧ (PB n (rs.map toPc) i).length ≤ 11 + 9022 * i ∧ Eng.Sep w w' []) ?_ ?_
  · exact ⟨rs.length, 0, by omega, rfl, by unfold PB; rw [List.take_zero, List.flatMap_nil, List.append_nil]; rfl, by unfold PB; simpa using hen, hs⟩
  · rintro m g w_ ⟨i, hi, h6, h5, hz, hs⟩
    refine OkC.env ?_ (fixH (L := [(6, _), (5, _)]) ⟨h6, h5, trivial⟩)
    clear h6 h5
    refine c_seq ?_
    refine c_rseq ?_
    refine l_v (by first | exact (r_move (v := iV _) rfl) | exact (r_move rfl)) ?_
    refine l_v (by first | exact (r_move (v := .slice _ _ _) rfl) | exact (r_move rfl)) ?_
    refine l_v (r_len_l Try.underlying30 rfl) ?_
    refine l_v (r_lssi rfl rfl) ?_
    refine l_nil (nrm_then ?_)
    refine c_cond rfl (fun h1 => ?_) (fun h1 => ?_)
    · have hil : i < rs.length := by have := of_decide_eq_true h1; omega
      obtain ⟨x, hxi⟩ : ∃ x, rs[i]? = some x := ⟨rs[i], List.getElem?_eq_getElem hil⟩
      have hxs := hg x (List.mem_of_getElem? hxi)
      have hpl := pbytes_len hxs
      obtain ⟨hx1, hx3⟩ := hxs
      have hxz := toL_size x.text
      have hnx := PB_next (n := n) (ps := rs.map toPc) (i := i) (x := toPc x) (by rw [List.getElem?_map, hxi]; rfl)
      have hzz : (ofL (PB n (rs.map toPc) i)).size = (PB n (rs.map toPc) i).length := rfl
      have hrw := hr.below hs.below
      obtain ⟨ad, rfl, _⟩ := hr.ad (by omega)
      have hB : ∀ wl, Below w_.heap.size w_ wl → ∀ j u, (prC x)[j]? = some u → wl.cell? ((ad.add (i * 4)).add j) = some u := fun wl hbl => rd_item (hrw.below hbl) (fun y _ => rfl) (by decide) hxi
      replace h1 := of_decide_eq_true h1
      refine c_skip (nrm_then ?_)
      refine c_seq ?_
      refine c_block ?_
      refine c_rseq ?_
      refine l_v (by first | exact (r_move (v := .slice _ _ _) rfl) | exact (r_move rfl)) ?_
      refine l_v (by first | exact (r_move (v := iV _) rfl) | exact (r_move rfl)) ?_
      refine l_v (r_indexAddr_l (k := i) Try.underlying30 I32 rfl rfl hil) ?_
      refine l_v (r_fieldAddrP (off := 0) (T := 4) (by kernel_rfl) rfl) ?_
      refine l_v (r_load Try.underlying4 rfl (hB _ (Below.refl _ _) 0 _ rfl)) ?_
      refine l_nil (nrm_then ?_)
      rcases Bool.eq_false_or_eq_true x.copy with hc | hc
      · obtain ⟨h4, h5, h6, h7⟩ := hx1 hc
        have hpb : pbytes (toPc x) = enc 64 (2 * x.len.toNat + 1) ++ enc 64 x.at_.toNat := if_pos hc
        have e1 : encW (2 * x.len + 1) = enc 64 (2 * x.len.toNat + 1) := by
          have h := encW_nat (2 * x.len.toNat + 1)
          rwa [show ((2 * x.len.toNat + 1 : Nat) : Int) = 2 * x.len + 1 by omega] at h
        have e2 : encW x.at_ = enc 64 x.at_.toNat := by
          have h := encW_nat x.at_.toNat
          rwa [show ((x.at_.toNat : Nat) : Int) = x.at_ by omega] at h
        have a1 := enc_len 64 (2 * x.len.toNat + 1) (by omega)
        have a2 := enc_len 64 x.at_.toNat (by omega)
        refine c_true rfl (hc) ?_
        refine c_float [15, 8] 16 (by kernel_rfl) (by kernel_rfl) ?_
        intro hbF
        show OkF _ _ _ _ _ _ (_ :: _) 0 _ _
        refine f_v (fun wl hbl => by have hs := hs.below_ hbl; first | exact (r_move (v := sV _) rfl) | exact (r_move rfl)) ?_
        refine f_v (fun wl hbl => by have hs := hs.below_ hbl; first | exact (r_move (v := .slice _ _ _) rfl) | exact (r_move rfl)) ?_
        refine f_v (fun wl hbl => by have hs := hs.below_ hbl; first | exact (r_move (v := iV _) rfl) | exact (r_move rfl)) ?_
        refine f_v (fun wl hbl => by have hs := hs.below_ hbl; exact (r_indexAddr_l (k := i) Try.underlying30 I32 rfl rfl hil)) ?_
        refine f_v (fun wl hbl => by have hs := hs.below_ hbl; exact (r_fieldAddrP (off := 3) (T := 3) (by kernel_rfl) rfl)) ?_
        refine f_v (fun wl hbl => by have hs := hs.below_ hbl; exact (r_load Try.underlying3 rfl (hB _ hbl 3 _ rfl))) ?_
        refine f_v (fun wl hbl => by have hs := hs.below_ hbl; exact (r_muli rfl rfl (by omega))) ?_
        refine f_v (fun wl hbl => by have hs := hs.below_ hbl; exact (r_addi rfl rfl (by omega))) ?_
        refine f_call (r_call Try.func17 rfl rfl) ?_
        refine Calls.mono (refwhole_c' (2 * x.len + 1) (by omega) _) ?_
        rintro e w_ ⟨rfl, hb⟩
        have hbF := hbF.trans (Below.mono hb hbF.size)
        refine ⟨_, rfl, hb, ?_⟩
        rw [e1]
        refine f_v (fun wl hbl => by have hs := hs.below_ hbl; exact (r_adds rfl rfl (by show (PB n (rs.map toPc) i).length + (enc 64 (2 * x.len.toNat + 1)).length ≤ _; omega))) ?_
        refine f_v (fun wl hbl => by have hs := hs.below_ hbl; first | exact (r_move (v := .slice _ _ _) rfl) | exact (r_move rfl)) ?_
        refine f_v (fun wl hbl => by have hs := hs.below_ hbl; first | exact (r_move (v := iV _) rfl) | exact (r_move rfl)) ?_
        refine f_v (fun wl hbl => by have hs := hs.below_ hbl; exact (r_indexAddr_l (k := i) Try.underlying30 I32 rfl rfl hil)) ?_
        refine f_v (fun wl hbl => by have hs := hs.below_ hbl; exact (r_fieldAddrP (off := 1) (T := 3) (by kernel_rfl) rfl)) ?_
        refine f_v (fun wl hbl => by have hs := hs.below_ hbl; exact (r_load Try.underlying3 rfl (hB _ hbl 1 _ rfl))) ?_
        refine f_call (r_call Try.func17 rfl rfl) ?_
        refine Calls.mono (refwhole_c' x.at_ (by omega) _) ?_
        rintro e w_ ⟨rfl, hb⟩
        have hbF := hbF.trans (Below.mono hb hbF.size)
        refine ⟨_, rfl, hb, ?_⟩
        rw [e2]
        refine f_nil ?_
        have hs := hs.below_ hbF
        show OkL _ _ _ _ (_ :: _) _ _
        refine l_v (r_adds rfl rfl (by rw [ByteArray.size_append]; show (PB n (rs.map toPc) i).length + (enc 64 (2 * x.len.toNat + 1)).length + (enc 64 x.at_.toNat).length ≤ _; omega)) ?_
        refine l_v (by first | exact (r_assign (v := sV _) rfl) | exact (r_assign rfl)) ?_
        refine l_nil (nrm_block (nrm_then ?_))
        refine c_region ?_
        refine l_v (by first | exact (r_move (v := iV _) rfl) | exact (r_move rfl)) ?_
        refine l_v (r_addi rfl rfl (by omega)) ?_
        refine l_v (by first | exact (r_assign (v := iV _) rfl) | exact (r_assign rfl)) ?_
        refine l_nil (nrm_then ?_)
        refine And.intro (by refine ⟨?_, ?_, trivial⟩ <;> ((conv => lhs; whnf); (try conv => rhs; whnf))) ?_
        exact ⟨rs.length - (i + 1), by omega, i + 1, by omega, rfl, congrArg sV (Eng.toL_inj (by rw [Eng.toL_append, Eng.toL_append, Eng.toL_ofL, hnx, hpb, List.append_assoc])), by rw [hnx, List.length_append]; omega, hs⟩
      · have hpb : pbytes (toPc x) = enc 64 (2 * (toL x.text).length) ++ toL x.text := if_neg (by show ¬ x.copy = true; rw [hc]; decide)
        have e1 : encW (2 * (x.text.size : Int)) = enc 64 (2 * (toL x.text).length) := by rw [hxz]; exact encW_nat (2 * x.text.size)
        have a3 := enc_len 64 (2 * (toL x.text).length) (by omega)
        refine c_false rfl (hc) ?_
        refine c_float [8] 15 (by kernel_rfl) (by kernel_rfl) ?_
        intro hbF
        show OkF _ _ _ _ _ _ (_ :: _) 0 _ _
        refine f_v (fun wl hbl => by have hs := hs.below_ hbl; first | exact (r_move (v := sV _) rfl) | exact (r_move rfl)) ?_
        refine f_v (fun wl hbl => by have hs := hs.below_ hbl; first | exact (r_move (v := .slice _ _ _) rfl) | exact (r_move rfl)) ?_
        refine f_v (fun wl hbl => by have hs := hs.below_ hbl; first | exact (r_move (v := iV _) rfl) | exact (r_move rfl)) ?_
        refine f_v (fun wl hbl => by have hs := hs.below_ hbl; exact (r_indexAddr_l (k := i) Try.underlying30 I32 rfl rfl hil)) ?_
        refine f_v (fun wl hbl => by have hs := hs.below_ hbl; exact (r_fieldAddrP (off := 2) (T := 9) (by kernel_rfl) rfl)) ?_
        refine f_v (fun wl hbl => by have hs := hs.below_ hbl; exact (r_load Try.underlying9 rfl (hB _ hbl 2 _ rfl))) ?_
        refine f_v (fun wl hbl => by have hs := hs.below_ hbl; exact (r_len_s Try.underlying9 rfl)) ?_
        refine f_v (fun wl hbl => by have hs := hs.below_ hbl; exact (r_muli rfl rfl (by omega))) ?_
        refine f_call (r_call Try.func17 rfl rfl) ?_
        refine Calls.mono (refwhole_c' (2 * (x.text.size : Int)) (by omega) _) ?_
        rintro e w_ ⟨rfl, hb⟩
        have hbF := hbF.trans (Below.mono hb hbF.size)
        refine ⟨_, rfl, hb, ?_⟩
        rw [e1]
        refine f_v (fun wl hbl => by have hs := hs.below_ hbl; exact (r_adds rfl rfl (by show (PB n (rs.map toPc) i).length + (enc 64 (2 * (toL x.text).length)).length ≤ _; omega))) ?_
        refine f_v (fun wl hbl => by have hs := hs.below_ hbl; first | exact (r_move (v := .slice _ _ _) rfl) | exact (r_move rfl)) ?_
        refine f_v (fun wl hbl => by have hs := hs.below_ hbl; first | exact (r_move (v := iV _) rfl) | exact (r_move rfl)) ?_
        refine f_v (fun wl hbl => by have hs := hs.below_ hbl; exact (r_indexAddr_l (k := i) Try.underlying30 I32 rfl rfl hil)) ?_
        refine f_v (fun wl hbl => by have hs := hs.below_ hbl; exact (r_fieldAddrP (off := 2) (T := 9) (by kernel_rfl) rfl)) ?_
        refine f_v (fun wl hbl => by have hs := hs.below_ hbl; exact (r_load Try.underlying9 rfl (hB _ hbl 2 _ rfl))) ?_
        refine f_nil ?_
        have hs := hs.below_ hbF
        show OkL _ _ _ _ (_ :: _) _ _
        refine l_v (r_adds rfl rfl (by rw [ByteArray.size_append]; show (PB n (rs.map toPc) i).length + (enc 64 (2 * (toL x.text).length)).length + x.text.size ≤ _; omega)) ?_
        refine l_v (by first | exact (r_assign (v := sV _) rfl) | exact (r_assign rfl)) ?_
        refine l_nil (nrm_block (nrm_then ?_))
        refine c_region ?_
        refine l_v (by first | exact (r_move (v := iV _) rfl) | exact (r_move rfl)) ?_
        refine l_v (r_addi rfl rfl (by omega)) ?_
        refine l_v (by first | exact (r_assign (v := iV _) rfl) | exact (r_assign rfl)) ?_
        refine l_nil (nrm_then ?_)
        refine And.intro (by refine ⟨?_, ?_, trivial⟩ <;> ((conv => lhs; whnf); (try conv => rhs; whnf))) ?_
        exact ⟨rs.length - (i + 1), by omega, i + 1, by omega, rfl, congrArg sV (Eng.toL_inj (by rw [Eng.toL_append, Eng.toL_append, Eng.toL_ofL, hnx, hpb, List.append_assoc])), by rw [hnx, List.length_append]; omega, hs⟩
    · obtain rfl : i = rs.length := by have := of_decide_eq_false h1; omega
      have e : PB n (rs.map toPc) rs.length = patch n (rs.map toPc) := by unfold PB patch; rw [List.take_of_length_le (by rw [List.length_map]; exact Nat.le_refl _)]
      replace h1 := of_decide_eq_false h1
      refine c_exit (ex_then (ex_then (ex_hit (nrm_then ?_))))
      refine c_rseq ?_
      refine l_v (by first | exact (r_move (v := sV _) rfl) | exact (r_move rfl)) ?_
      refine l_v (by first | exact (r_assign (v := sV _) rfl) | exact (r_assign rfl)) ?_
      refine l_nil (nrm_then ?_)
      refine c_ret ?_
      show Fin _ _ _ _ _
      refine fin1 rfl ?_
      rw [e]
      exact ⟨rfl, hs.below⟩
end Go.Proofs.Ytmeikcifobfolaa.Del
