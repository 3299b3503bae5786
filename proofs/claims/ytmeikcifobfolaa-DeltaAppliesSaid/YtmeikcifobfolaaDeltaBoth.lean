/- The program's and the reference's loops make the same. -/
import Derived.Test.YtmeikcifobfolaaDeltaEv
namespace Go.Proofs.Ytmeikcifobfolaa.DeltaEv
open Go Go.RowKit Go.Proofs.YtmeikcifobfolaaW.PrintWords Go.Proofs.Ytmeikcifobfolaa.PBase Go.Proofs.Ytmeikcifobfolaa.Base Go.Proofs.Ytmeikcifobfolaa.SixFn Go.Proofs.Ytmeikcifobfolaa.SixEv

theorem ar1 {L s : Nat} (h : L ≤ 140737488351232) (hs : s ≤ L) : wrap64 ((L : Int) - (s : Int)) = (L : Int) - (s : Int) := wrap64_small (by omega) (by omega)
theorem ar2 {L s : Nat} {q : Int} (hs : s ≤ L) (h : ((L - s : Nat) : Int) < q) : (L : Int) < (s : Int) + q := by omega
theorem ar3 {L s : Nat} {q : Int} (hs : s ≤ L) (h : ¬ ((L - s : Nat) : Int) < q) : (s : Int) + q ≤ (L : Int) := by omega
theorem ar4 {P : List UInt8} {i z : Nat} (h : z ≤ (P.drop i).length) (hi : i ≤ P.length) : i + z ≤ P.length := by rw [List.length_drop] at h; omega
theorem both (base P : List UInt8) (size : Int) (hs : size ≤ 4096) (hb : base.length ≤ 140737488351232) (hP : P.length ≤ 140737488351232) (d : Nat) : ∀ (i : Nat) (out : List UInt8), P.length < i + d → i ≤ P.length → out.length ≤ 4096 →
    ∃ r e, Ev (fun k => delta_Apply.l0 k (ints base) size (ints out) (ofL (P.drop i))) (ints r, e) ∧ Ev (fun k => siloref19_Apply.l0 k (ofL base) (ofL P) size (i : Int) (ofL out)) (ofL r, e) ∧ (e ≠ 0 → r = []) ∧ r.length ≤ 4096 := by
  induction d with
  | zero => intro i out hd; omega
  | succ d ih =>
    intro i out hd hi ho
    have hPs : (ofL P).size = P.length := size_ofL P
    have hBs : (ofL base).size = base.length := size_ofL base
    have hOs : (ofL out).size = out.length := size_ofL out
    by_cases hlt : (out.length : Int) < size
    · have hrl : (P.drop i).length ≤ 140737488355328 := by rw [List.length_drop]; clear hd hlt; omega
      have hcz := ar4 (count_size (P.drop i)) hi
      have hcn := count_nonneg (P.drop i)
      have hcb := count_bound (P.drop i)
      have href := count_ref P (by omega) i
      have hst : (count (P.drop i)).2.2 = 0 → 1 ≤ (count (P.drop i)).2.1 := count_step
      -- the reference's step up to the count
      have hrefstep : ∀ {g : Nat → (Int × Int × Int) → Option (ByteArray × Int)} {r : ByteArray × Int}, (∀ k, siloref19_Apply.l0 (k + 1) (ofL base) (ofL P) size (i : Int) (ofL out) = (siloref01_ReadCount.f k (ofL (P.drop i))).bind (g k)) →
          Ev (fun k => g k ((count (P.drop i)).1, ((count (P.drop i)).2.1 : Int), (count (P.drop i)).2.2)) r → Ev (fun k => siloref19_Apply.l0 k (ofL base) (ofL P) size (i : Int) (ofL out)) r := by
        intro g r h1 h2
        exact Ev.step (f := fun k => (siloref01_ReadCount.f k (ofL (P.drop i))).bind (g k)) h1 (Ev.bind href h2)
      have hl0 : ∀ k, siloref19_Apply.l0 (k + 1) (ofL base) (ofL P) size (i : Int) (ofL out) = (siloref01_ReadCount.f k (ofL (P.drop i))).bind fun bt139 => (if bt139.2.2 = 0 then (if bt139.1 = 0 then (siloref19_Apply.j1 k (ofL base) (ofL P) size (wrap64 (i + bt139.2.1)) (ofL out) bt139.1 true) else (if bt139.1 = 1 then (siloref19_Apply.j1 k (ofL base) (ofL P) size (wrap64 (i + bt139.2.1)) (ofL out) bt139.1 true) else (siloref19_Apply.j1 k (ofL base) (ofL P) size (wrap64 (i + bt139.2.1)) (ofL out) bt139.1 (decide ((wrap64 (Int.tdiv bt139.1 2)) > size - out.length))))) else (some ((⟨#[]⟩ : ByteArray), bt139.2.2))) := by
        intro k
        simp only [siloref19_Apply.l0]
        rw [if_pos (by omega), if_pos (by omega), if_pos (by omega), Int.toNat_natCast, drop_ofL, hOs]
        rw [wrap64_small (x := size - (out.length : Int)) (by omega) (by omega)]
      have hR : ∀ {r : ByteArray × Int}, Ev (fun k => (if (count (P.drop i)).2.2 = 0 then (if (count (P.drop i)).1 = 0 then (siloref19_Apply.j1 k (ofL base) (ofL P) size (wrap64 (i + ((count (P.drop i)).2.1 : Int))) (ofL out) (count (P.drop i)).1 true) else (if (count (P.drop i)).1 = 1 then (siloref19_Apply.j1 k (ofL base) (ofL P) size (wrap64 (i + ((count (P.drop i)).2.1 : Int))) (ofL out) (count (P.drop i)).1 true) else (siloref19_Apply.j1 k (ofL base) (ofL P) size (wrap64 (i + ((count (P.drop i)).2.1 : Int))) (ofL out) (count (P.drop i)).1 (decide ((wrap64 (Int.tdiv (count (P.drop i)).1 2)) > size - out.length))))) else (some ((⟨#[]⟩ : ByteArray), (count (P.drop i)).2.2)))) r → Ev (fun k => siloref19_Apply.l0 k (ofL base) (ofL P) size (i : Int) (ofL out)) r := fun h => hrefstep hl0 h
      clear hrefstep hl0 href
      have hbb : base.length ≤ 140737488355328 := by clear hd hlt; omega
      have hnx : next (P.drop i) base (size - out.length) = next (P.drop i) base (size - out.length) := rfl
      conv at hnx => rhs; unfold next
      generalize hC : count (P.drop i) = C at *
      obtain ⟨n, z, e⟩ := C
      dsimp only at *
      by_cases he : e = 0
      · subst he
        have hz1 := hst rfl
        have htd : wrap64 (Int.tdiv n 2) = n / 2 := by
          rw [Int.tdiv_eq_ediv_of_nonneg hcn, wrap64_small (by omega) (by omega)]
        have htm : Int.tmod n 2 = n % 2 := Int.tmod_eq_emod_of_nonneg hcn
        have hwz : wrap64 ((i : Int) + (z : Int)) = ((i + z : Nat) : Int) := by rw [wrap64_small (by omega) (by omega)]; omega
        have hdd : (P.drop i).drop z = P.drop (i + z) := by rw [List.drop_drop]
        rw [if_pos rfl, hdd] at hnx
        by_cases h2 : n < 2 ∨ size - out.length < n / 2
        · rw [if_pos h2] at hnx
          refine ⟨[], 3, ?_, hR (Ev.congr (f := fun k => siloref19_Apply.j1 k (ofL base) (ofL P) size ((i + z : Nat) : Int) (ofL out) n true) (fun k => ?_) (Ev.step (f := fun _ => some (⟨#[]⟩, 3)) (fun k => by simp only [siloref19_Apply.j1, if_true]) (Ev.now _))), fun _ => rfl, by simp⟩
          · have := prog_fail base out (P.drop i) size hs hrl hbb hlt (by rw [hnx]; simp)
            rw [hnx] at this
            exact this
          · rw [if_pos rfl, hwz, htd]
            by_cases h3 : n = 0
            · rw [if_pos h3]
            · rw [if_neg h3]
              by_cases h4 : n = 1
              · rw [if_pos h4]
              · rw [if_neg h4, show decide (n / 2 > size - (out.length : Int)) = true from decide_eq_true (by omega)]
        · rw [if_neg h2] at hnx
          have hn2 : 2 ≤ n := by clear hd hcz hlt; omega
          have hq0 : 1 ≤ n / 2 := by clear hd hcz hlt; omega
          have hq1 : n / 2 ≤ size - out.length := by clear hd hcz hlt; omega
          have hR2 : ∀ {r : ByteArray × Int}, Ev (fun k => siloref19_Apply.j1 k (ofL base) (ofL P) size ((i + z : Nat) : Int) (ofL out) n false) r → Ev (fun k => siloref19_Apply.l0 k (ofL base) (ofL P) size (i : Int) (ofL out)) r := fun h => hR (Ev.congr (fun k => by
            rw [if_pos rfl, if_neg (by clear hd hcz hlt; omega), if_neg (by clear hd hcz hlt; omega), hwz, htd, show decide (n / 2 > size - (out.length : Int)) = false from decide_eq_false (by clear hd hcz; omega)]) h)
          clear hR hst hwz h2
          clear hcb hcn
          generalize n / 2 = q at *
          generalize n % 2 = m at *
          clear hn2
          by_cases h4 : m = 0
          · rw [if_pos h4] at hnx
            unfold raw at hnx
            rw [if_neg (by clear hd hcz; omega)] at hnx
            by_cases h5 : ((P.drop (i + z)).length : Int) < q
            · rw [if_pos h5] at hnx
              rw [List.length_drop] at h5
              replace h5 := ar2 hcz h5
              refine ⟨[], 2, ?_, hR2 (Ev.step (f := fun _ => some (⟨#[]⟩, 2)) (fun k => ?_) (Ev.now _)), fun _ => rfl, by simp⟩
              · have := prog_fail base out (P.drop i) size hs hrl hbb hlt (by rw [hnx]; simp)
                rw [hnx] at this
                exact this
              · simp only [siloref19_Apply.j1, Bool.false_eq_true, if_false, htd, htm]
                rw [if_pos h4, hPs, ar1 hP hcz, if_pos (by clear hd; omega)]
            · rw [if_neg h5] at hnx
              rw [List.length_drop] at h5
              replace h5 := ar3 hcz h5
              dsimp only at hnx
              obtain ⟨r, e, q1, q2, q3, q4⟩ := ih (i + z + (q).toNat) (out ++ (P.drop (i + z)).take (q).toNat) (by omega) (by omega) (by rw [List.length_append, List.length_take]; omega)
              rw [List.drop_drop] at hnx
              refine ⟨r, e, prog_ok base out (P.drop i) _ _ size hs hrl hbb hlt (by rw [List.length_take]; omega) hnx q1, hR2 (Ev.step (fun k => ?_) q2), q3, q4⟩
              simp only [siloref19_Apply.j1, Bool.false_eq_true, if_false, htd, htm]
              rw [if_pos h4, hPs, hOs, ar1 hP hcz, if_neg (by omega), if_pos (by omega), if_pos (by omega), if_pos (by omega), Int.toNat_natCast]
              have e1 : (ofL P).extract (i + z) P.length = ofL (P.drop (i + z)) := by rw [← hPs]; exact drop_ofL P (i + z)
              have e2 : (ofL (P.drop (i + z))).size = P.length - (i + z) := by have := size_ofL (P.drop (i + z)); rw [List.length_drop] at this; exact this
              have e3 : (ofL (P.drop (i + z))).extract 0 (q).toNat = ofL ((P.drop (i + z)).take (q).toNat) := extract_take _ _
              have e4 : (ofL ((P.drop (i + z)).take (q).toNat)).size = ((P.drop (i + z)).take (q).toNat).length := size_ofL _
              have e5 : ((P.drop (i + z)).take (q).toNat).length ≤ 4096 := by rw [List.length_take]; omega
              rw [e1, e2, e3, e4, if_pos (by omega), if_pos (by omega), append_ofL, wrap64_small (by omega) (by omega)]
              rw [show ((i + z : Nat) : Int) + q = ((i + z + (q).toNat : Nat) : Int) by omega]
          · rw [if_neg h4] at hnx
            have href2 := count_ref P (by omega) (i + z)
            have hcz2 := ar4 (count_size (P.drop (i + z))) hcz
            have hcn2 := count_nonneg (P.drop (i + z))
            have hcb2 := count_bound (P.drop (i + z))
            have hj1 : ∀ k, siloref19_Apply.j1 (k + 1) (ofL base) (ofL P) size ((i + z : Nat) : Int) (ofL out) n false = (siloref01_ReadCount.f k (ofL (P.drop (i + z)))).bind fun bt142 => (if bt142.2.2 = 0 then (if bt142.1 > (base.length : Int) then (some ((⟨#[]⟩ : ByteArray), 3)) else (if (wrap64 ((base.length : Int) - bt142.1)) < q then (some ((⟨#[]⟩ : ByteArray), 3)) else (if 0 ≤ bt142.1 then (if bt142.1 ≤ (base.length : Int) then (if 0 ≤ q then (if q ≤ (((ofL base).extract (bt142.1 : Int).toNat base.length).size : Int) then (if out.length + (((ofL base).extract (bt142.1 : Int).toNat base.length).extract 0 (q : Int).toNat).size ≤ 9223372036854775807 then (siloref19_Apply.l0 k (ofL base) (ofL P) size (wrap64 (((i + z : Nat) : Int) + bt142.2.1)) (ofL out ++ (((ofL base).extract (bt142.1 : Int).toNat base.length).extract 0 (q : Int).toNat))) else (none)) else (none)) else (none)) else (none)) else (none)))) else (some ((⟨#[]⟩ : ByteArray), bt142.2.2))) := by
              intro k
              have e1 : (ofL P).extract (i + z) P.length = ofL (P.drop (i + z)) := by rw [← hPs]; exact drop_ofL P (i + z)
              simp only [siloref19_Apply.j1, Bool.false_eq_true, if_false, htd, htm]
              rw [if_neg h4, hPs, hBs, hOs, if_pos (by omega), if_pos (by omega), Int.toNat_natCast, e1]
            have hR3 : ∀ {r : ByteArray × Int}, Ev (fun k => (if (count (P.drop (i + z))).2.2 = 0 then (if (count (P.drop (i + z))).1 > (base.length : Int) then (some ((⟨#[]⟩ : ByteArray), 3)) else (if (wrap64 ((base.length : Int) - (count (P.drop (i + z))).1)) < q then (some ((⟨#[]⟩ : ByteArray), 3)) else (if 0 ≤ (count (P.drop (i + z))).1 then (if (count (P.drop (i + z))).1 ≤ (base.length : Int) then (if 0 ≤ q then (if q ≤ (((ofL base).extract ((count (P.drop (i + z))).1 : Int).toNat base.length).size : Int) then (if out.length + (((ofL base).extract ((count (P.drop (i + z))).1 : Int).toNat base.length).extract 0 (q : Int).toNat).size ≤ 9223372036854775807 then (siloref19_Apply.l0 k (ofL base) (ofL P) size (wrap64 (((i + z : Nat) : Int) + ((count (P.drop (i + z))).2.1 : Int))) (ofL out ++ (((ofL base).extract ((count (P.drop (i + z))).1 : Int).toNat base.length).extract 0 (q : Int).toNat))) else (none)) else (none)) else (none)) else (none)) else (none)))) else (some ((⟨#[]⟩ : ByteArray), (count (P.drop (i + z))).2.2)))) r → Ev (fun k => siloref19_Apply.l0 k (ofL base) (ofL P) size (i : Int) (ofL out)) r := fun h => hR2 (Ev.step hj1 (Ev.bind href2 h))
            generalize hC2 : count (P.drop (i + z)) = C2 at *
            obtain ⟨n2, z2, e2⟩ := C2
            dsimp only at *
            by_cases he2 : e2 = 0
            · subst he2
              rw [if_pos rfl] at hnx
              by_cases h6 : (base.length : Int) < n2 ∨ (base.length : Int) - n2 < q
              · rw [if_pos h6] at hnx
                refine ⟨[], 3, ?_, hR3 (Ev.congr (fun k => ?_) (Ev.now _)), fun _ => rfl, by simp⟩
                · have := prog_fail base out (P.drop i) size hs hrl hbb hlt (by rw [hnx]; simp)
                  rw [hnx] at this
                  exact this
                · rw [if_pos rfl]
                  by_cases h7 : (base.length : Int) < n2
                  · rw [if_pos h7]
                  · rw [if_neg h7, wrap64_small (by omega) (by omega), if_pos (by omega)]
              · rw [if_neg h6, List.drop_drop] at hnx
                obtain ⟨r, e, q1, q2, q3, q4⟩ := ih (i + z + z2) (out ++ (base.drop n2.toNat).take (q).toNat) (by omega) (by omega) (by rw [List.length_append, List.length_take]; omega)
                refine ⟨r, e, prog_ok base out (P.drop i) _ _ size hs hrl hbb hlt (by rw [List.length_take]; omega) hnx q1, hR3 (Ev.congr (fun k => ?_) q2), q3, q4⟩
                have e1 : (ofL base).extract n2.toNat base.length = ofL (base.drop n2.toNat) := by rw [← hBs]; exact drop_ofL base n2.toNat
                have e2 : (ofL (base.drop n2.toNat)).size = base.length - n2.toNat := by have := size_ofL (base.drop n2.toNat); rw [List.length_drop] at this; exact this
                have e3 : (ofL (base.drop n2.toNat)).extract 0 (q).toNat = ofL ((base.drop n2.toNat).take (q).toNat) := extract_take _ _
                have e4 : (ofL ((base.drop n2.toNat).take (q).toNat)).size = ((base.drop n2.toNat).take (q).toNat).length := size_ofL _
                have e5 : ((base.drop n2.toNat).take (q).toNat).length ≤ 4096 := by rw [List.length_take]; omega
                rw [if_pos rfl, if_neg (by omega), wrap64_small (by omega) (by omega), if_neg (by omega), if_pos (by omega), if_pos (by omega), if_pos (by omega), e1, e2, if_pos (by omega), e3, e4, if_pos (by omega), append_ofL, wrap64_small (by omega) (by omega)]
                rw [show ((i + z : Nat) : Int) + (z2 : Int) = ((i + z + z2 : Nat) : Int) by omega]
            · rw [if_neg he2] at hnx
              refine ⟨[], e2, ?_, hR3 (Ev.congr (fun k => ?_) (Ev.now _)), fun _ => rfl, by simp⟩
              · have := prog_fail base out (P.drop i) size hs hrl hbb hlt (by rw [hnx]; exact he2)
                rw [hnx] at this
                exact this
              · rw [if_neg he2]
      · rw [if_neg he] at hnx
        refine ⟨[], e, ?_, hR (Ev.congr (fun k => ?_) (Ev.now _)), fun _ => rfl, by simp⟩
        · have := prog_fail base out (P.drop i) size hs hrl hbb hlt (by rw [hnx]; exact he)
          rw [hnx] at this
          exact this
        · rw [if_neg he]
    · by_cases hi2 : i < P.length
      · refine ⟨[], 5, Ev.step (f := fun _ => some (ints [], 5)) (fun k => ?_) (Ev.now _), Ev.step (f := fun _ => some (ofL [], 5)) (fun k => ?_) (Ev.now _), fun _ => rfl, by simp⟩
        · simp only [delta_Apply.l0, ints_length]
          rw [if_neg hlt, end_eq, toL_ofL, if_neg (by intro h; have := congrArg List.length h; rw [List.length_drop] at this; simp at this; omega)]
          rfl
        · simp only [siloref19_Apply.l0]
          rw [hOs, if_neg hlt, hPs, if_pos (by omega)]
      · refine ⟨out, 0, Ev.step (f := fun _ => some (ints out, 0)) (fun k => ?_) (Ev.now _), Ev.step (f := fun _ => some (ofL out, 0)) (fun k => ?_) (Ev.now _), fun h => absurd rfl h, ho⟩
        · simp only [delta_Apply.l0, ints_length]
          rw [if_neg hlt, end_eq, toL_ofL, if_pos (List.drop_eq_nil_of_le (by omega))]
          rfl
        · simp only [siloref19_Apply.l0]
          rw [hOs, if_neg hlt, hPs, if_neg (by omega)]
end Go.Proofs.Ytmeikcifobfolaa.DeltaEv
