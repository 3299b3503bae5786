/- A row of texts of which an older slice may tell the beginning: append where that one is kept. -/
import Derived.Test.YtlkljeghhahedaaSixSame
import Derived.Test.YtlkljeghhahedaaWalFew
import Derived.ArgAppend
namespace Go.Proofs.Ytlkljeghhahedaa.Wal
open Go Go.RowKit Go.Proofs.Ytlkljeghhahedaa.Eng Go.Proofs.Ytlkljeghhahedaa.Six
set_option linter.unusedVariables false
set_option linter.unusedSimpArgs false
section
variable {P : Program} {w0 w : World} {L : List HP} {ty : TypeId}
theorem append_keep {t e : TypeId} {z : Value} {sz by_ n m c : Nat} {v : Value} {xs news : List Value} {ad : Addr} (ht : P.underlying t = some (.slice e)) (hi : TI P e z sz by_) (hz : z.cells.size = sz) (hsz : 0 < sz)
    (hs : Eng.Sep w0 w (RowC e sz v n xs :: L)) (hm : 0 < m) (hr : Rd w sz (some ad) m news) (h1 : ∀ u ∈ news, u.oneCell' = true) (h63 : n + m ≤ maxLen) (hby : (n + m) * by_ ≤ 140737488355328) :
    ∃ v' w', (Builtin.append_ #[t, t] ty #[v, .slice (some ad) m c]).run P w = .ok v' w' ∧
      ((∃ A cp, v = .slice (some A) n cp ∧ v' = .slice (some A) (n + m) cp ∧ Eng.Sep w0 w' (RowC e sz v' (n + m) (xs ++ news) :: L)) ∨ Eng.Sep w0 w' (RowC e sz v' (n + m) (xs ++ news) :: RowC e sz v n xs :: L)) := by
  obtain ⟨i, hi1, hi2, hi3, hi4⟩ := hi.info
  obtain ⟨ad', he, hcell⟩ := hr.2.2 hm
  injection he with he
  subst he
  obtain ⟨v', w', hrun, hs'⟩ := append_row (P := P) (ty := ty) (c := c) ht hi hz hsz hs hr h1 h63 hby
  obtain ⟨hl, hcases⟩ := hs.rowCases
  rcases hcases with ⟨rfl, rfl, rfl, hS⟩ | ⟨b, cap, cur, rfl, h2, h3, h4, h5, hS⟩
  · exact ⟨v', w', hrun, .inr ((hs'.rowNil e sz).pull 1)⟩
  · by_cases hroom : n + m ≤ cap
    · have hlen := hr.1
      have hle : n * sz + m * sz ≤ cap * sz := by rw [← Nat.add_mul]; exact Nat.mul_le_mul_right _ hroom
      have hrun2 := run_append_room_cells (P := P) w t ty e i ht hi1 b 0 n cap ad m c news (by rw [hi3]; exact hr.1) hcell h1 hroom (fun j hj => by
        rw [cell_blk hS.get.1, hi3, List.getElem?_eq_getElem (by omega)]; rfl) (fun j hj => frozen_blk hS.get.1)
      rw [hrun] at hrun2
      injection hrun2 with e1 e2
      exact ⟨v', w', hrun, .inl ⟨⟨b, 0, none⟩, cap, rfl, e1, hs'⟩⟩
    · have hxs : ∀ j u, xs[j]? = some u → w.cell? ((⟨b, 0, none⟩ : Addr).add j) = some u := by
        intro j u hu
        rw [add_lit, Nat.zero_add, cell_blk hS.get.1]
        rw [← h5, List.getElem?_take] at hu
        split at hu
        · exact hu
        · cases hu
      obtain ⟨v2, w2, hrun2, ho, hg⟩ := run_append_arg_grows (P := P) w t ty e i z sz by_ ht hi1 hi2 hi3 hi4 hz hsz ⟨b, 0, none⟩ n cap xs hl hxs ad m c news hr.1 hcell (by omega) h63 hby
      refine ⟨v2, w2, hrun2, .inr ?_⟩
      refine hs.trans (M := [RowC e sz v2 (n + m) (xs ++ news)]) ⟨⟨hg.os, hg.tape, hg.output, hg.size, fun k hk => hg.block k hk (by simp)⟩, ?_⟩
      rcases ho.2 with ⟨_, b2⟩ | ⟨b', cap', cur', rfl, b2, b3, b4, b5, b6, b7⟩
      · omega
      · refine ⟨single b' (.cells cur' e (0, 0)), ⟨single b' (.cells cur' e (0, 0)), fun _ => none, fun _ => .inr rfl, (join_emp fun _ => rfl).symm, ⟨ho.1, .inr ⟨b', cap', cur'.toList, rfl, b4, b5, by simpa using b6, b7, by simp [Eng.obj]⟩⟩, fun _ => rfl⟩, fun k o e' => ?_⟩
        unfold single at e'
        split at e'
        · rename_i hkb
          subst hkb
          injection e' with e'
          subst e'
          exact ⟨b3, b2⟩
        · cases e'
end
/-- What waits, and what may have been written: two rows, or one. -/
def waitM (vW : Value) (ts : List (List UInt8)) (vM : Value) (ms : List (List UInt8)) : HP := fun h => stars [rowS vW ts, rowS vM ms] h ∨ (rowS vW ts h ∧ ∃ A c, vW = .slice (some A) ts.length c ∧ vM = .slice (some A) ms.length c ∧ ms.length ≤ ts.length ∧ ms = ts.take ms.length)
section
variable {w0 w : World} {L : List HP} {vW vM : Value} {ts ms : List (List UInt8)}
theorem wait_cases (hs : Eng.Sep w0 w (waitM vW ts vM ms :: L)) : Eng.Sep w0 w (rowS vW ts :: rowS vM ms :: L) ∨ (Eng.Sep w0 w (rowS vW ts :: L) ∧ ∃ A c, vW = .slice (some A) ts.length c ∧ vM = .slice (some A) ms.length c ∧ ms.length ≤ ts.length ∧ ms = ts.take ms.length) := by
  obtain ⟨hb, h, ⟨h1, h2, hd, rfl, hA, hL⟩, hk⟩ := hs
  rcases hA with hA | ⟨hA, hf⟩
  · exact .inl (Eng.Sep.unfold (M := [_, _]) ⟨hb, _, ⟨h1, h2, hd, rfl, hA, hL⟩, hk⟩)
  · exact .inr ⟨⟨hb, _, ⟨h1, h2, hd, rfl, hA, hL⟩, hk⟩, hf⟩
theorem wait_apart (hs : Eng.Sep w0 w (rowS vW ts :: rowS vM ms :: L)) : Eng.Sep w0 w (waitM vW ts vM ms :: L) := (Eng.Sep.fold (M := [_, _]) hs).imp fun _ h => .inl h
theorem wait_same (hs : Eng.Sep w0 w (rowS vW ts :: L)) {A : Addr} {c : Nat} (e1 : vW = .slice (some A) ts.length c) (e2 : vM = .slice (some A) ms.length c) (h1 : ms.length ≤ ts.length) (h2 : ms = ts.take ms.length) : Eng.Sep w0 w (waitM vW ts vM ms :: L) := hs.imp fun _ h => .inr ⟨h, A, c, e1, e2, h1, h2⟩
theorem wait_form (hs : Eng.Sep w0 w (waitM vW ts vM ms :: L)) : ∃ A c, vW = .slice A ts.length c ∧ ts.length ≤ c := by
  rcases wait_cases hs with h | ⟨h, _⟩
  · exact h.rowForm
  · exact h.rowForm
theorem wait_rd {A : Option Addr} {c : Nat} (hs : Eng.Sep w0 w (waitM (.slice A ts.length c) ts vM ms :: L)) : Rd w 1 A ts.length (ts.map fun t => sV (ofL t)) := by
  rcases wait_cases hs with h | ⟨h, _⟩
  · exact h.rd
  · exact h.rd
theorem wait_maybe (hs : Eng.Sep w0 w (waitM vW ts vM ms :: L)) : ∃ A c, vM = .slice A ms.length c ∧ ms.length ≤ c ∧ Rd w 1 A ms.length (ms.map fun t => sV (ofL t)) := by
  rcases wait_cases hs with h | ⟨h, A, c, rfl, rfl, h1, h2⟩
  · obtain ⟨A, c, rfl, hc⟩ := (h.pull 1).rowForm
    exact ⟨A, c, rfl, hc, (h.pull 1).rd⟩
  · obtain ⟨A', c', e, hc⟩ := h.rowForm
    injection e with _ _ e
    have := rd_take h.rd h1
    rw [← List.map_take, ← h2] at this
    exact ⟨_, _, rfl, by omega, this⟩
/-- What waits is let go. -/
theorem wait_clear (hs : Eng.Sep w0 w (waitM vW ts vM ms :: L)) : Eng.Sep w0 w (waitM (.slice none 0 0) [] vM ms :: L) := by
  rcases wait_cases hs with h | ⟨h, A, c, rfl, rfl, h1, h2⟩
  · exact wait_apart (h.drop.rowNil 9 1)
  · refine wait_apart (Eng.Sep.rowNil ?_ 9 1)
    obtain ⟨hl, hc⟩ := h.rowCases
    rcases hc with ⟨e, _⟩ | ⟨b, cap, cur, e, g2, g3, g4, g5, hS⟩
    · cases e
    · injection e with e1 e2 e3
      injection e1 with e1
      subst e1; subst e3
      have := hS.rowOf 1 ms.length c (by omega) g3 g4
      have e5 : cur.take (ms.length * 1) = ms.map fun t => sV (ofL t) := by
        conv => rhs; rw [h2, List.map_take, ← g5, List.take_take]
        congr 1
        omega
      rw [e5] at this
      exact this
/-- What waits may have been written. -/
theorem wait_set {vN : Value} {ns : List (List UInt8)} (hs : Eng.Sep w0 w (waitM vW ts vN ns :: L)) (hne : ts ≠ []) : Eng.Sep w0 w (waitM vW ts vW ts :: L) := by
  have h : Eng.Sep w0 w (rowS vW ts :: L) := by
    rcases wait_cases hs with h | ⟨h, _⟩
    · exact (h.pull 1).drop
    · exact h
  obtain ⟨ad, c, e, _⟩ := h.rowAd (List.length_pos_iff.2 hne)
  exact wait_same h e e (Nat.le_refl _) (List.take_length).symm
end
section
variable {P : Program} {w w0 : World} {ty : TypeId} {L : List HP}
theorem append_wait {t : TypeId} {by_ c b : Nat} {vW vM : Value} {ts ms : List (List UInt8)} {u : List UInt8} {T : TypeId} (ht : P.underlying t = some (.slice 9)) (hi : TI P 9 (.string ByteArray.empty) 1 by_)
    (hs : Eng.Sep w0 w (blk b [sV (ofL u)] T :: waitM vW ts vM ms :: L)) (hby : (ts.length + 1) * by_ ≤ 140737488355328) (h63 : ts.length + 1 ≤ 9223372036854775807) :
    ∃ v' w', (Builtin.append_ #[t, t] ty #[vW, .slice (some ⟨b, 0, none⟩) 1 c]).run P w = .ok v' w' ∧ Eng.Sep w0 w' (waitM v' (ts ++ [u]) vM ms :: L) := by
  have hr : Rd w 1 (some ⟨b, 0, none⟩) 1 [sV (ofL u)] := rd_blk (hs.at_ 0).1 rfl (by decide)
  have h1 : ∀ v ∈ [sV (ofL u)], v.oneCell' = true := fun v hv => by rw [List.mem_singleton.1 hv]; rfl
  have hw := (hs.pull 1)
  rcases wait_cases hw with h | ⟨h, A, cc, rfl, rfl, g1, g2⟩
  · obtain ⟨v', w', hrun, h'⟩ := append_row (P := P) (ty := ty) (c := c) ht hi rfl (by decide) h hr h1 h63 hby
    exact ⟨v', w', hrun, wait_apart (rowS_app ((h'.pull 2).drop))⟩
  · obtain ⟨v', w', hrun, h'⟩ := append_keep (P := P) (ty := ty) (c := c) ht hi rfl (by decide) h (by decide) hr h1 h63 hby
    refine ⟨v', w', hrun, ?_⟩
    have g3 : ms.length ≤ (ts ++ [u]).length := by rw [List.length_append]; omega
    have g4 : ms = (ts ++ [u]).take ms.length := by rw [List.take_append_of_le_length g1]; exact g2
    have g5 : (ts ++ [u]).length = ts.length + 1 := by simp
    rcases h' with ⟨A', cp, e1, rfl, h'⟩ | h'
    · injection e1 with e1 _ e3
      injection e1 with e1
      subst e1; subst e3
      exact wait_same (rowS_app ((h'.pull 1).drop)) (by rw [g5]) rfl g3 g4
    · have k1 : Eng.Sep w0 w' (rowS v' (ts ++ [u]) :: rowS (.slice (some A) ts.length cc) ts :: L) := rowS_app (((h'.pull 2).drop))
      have k2 : Eng.Sep w0 w' (waitM (.slice (some A) ts.length cc) ts (.slice (some A) ms.length cc) ms :: rowS v' (ts ++ [u]) :: L) := wait_same (k1.pull 1) rfl rfl g1 g2
      have k3 := wait_clear k2
      rcases wait_cases k3 with k4 | ⟨_, _, _, k5, _⟩
      · exact wait_apart ((k4.drop).pull 1)
      · cases k5
end
end Go.Proofs.Ytlkljeghhahedaa.Wal
