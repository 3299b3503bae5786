/- The script of the law WalPlays, plain: what stays true from call to call. -/
import Derived.Test.YtlkljeghhahedaaWalMore
import Derived.Test.YtlkljeghhahedaaWalReplay
import Derived.Test.YtlkljeghhahedaaDskBackFn
namespace Go.Proofs.Ytlkljeghhahedaa.Wal
open Go Go.RowKit Go.Proofs.Ytlkljeghhahedaa.Eng Go.Proofs.Ytlkljeghhahedaa.Six Go.Proofs.Ytlkljeghhahedaa.CrcFn Go.Proofs.Ytlkljeghhahedaa.Dsk
set_option linter.unusedVariables false
set_option maxRecDepth 100000
theorem FF_all (xs : List (List UInt8)) : FF xs xs.length = xs.flatMap frame := by simp [FF]
theorem FF_app (a b : List (List UInt8)) : FF (a ++ b) (a ++ b).length = FF a a.length ++ FF b b.length := by rw [FF_all, FF_all, FF_all, List.flatMap_append]
theorem EE_app (a b : List (List UInt8)) : EE (a ++ b) (a ++ b).length = EE a a.length + EE b b.length := by unfold EE; rw [FF_app, List.length_append]
theorem EE_pre (a b : List (List UInt8)) {k : Nat} (h : k ≤ a.length) : EE (a ++ b) k = EE a k := by unfold EE FF; rw [List.take_append_of_le_length h]
theorem EE_one (x : List UInt8) : EE [x] [x].length = (frame x).length := by unfold EE; rw [FF_all]; simp
theorem EE_nil : EE [] ([] : List (List UInt8)).length = 0 := rfl
theorem EE_up {xs : List (List UInt8)} : ∀ {i j : Nat}, i ≤ j → EE xs i ≤ EE xs j := by
  intro i j h
  unfold EE
  rw [FF_split xs i j h, List.length_append]; omega
def bnd (xs : List (List UInt8)) : Prop := ∀ x ∈ xs, x.length ≤ 30000
theorem bnd_nil : bnd [] := fun x h => by cases h
theorem bnd_app {a b : List (List UInt8)} (ha : bnd a) (hb : bnd b) : bnd (a ++ b) := fun x h => (List.mem_append.1 h).elim (ha x) (hb x)
theorem bnd_big {a : List (List UInt8)} (ha : bnd a) : ∀ x ∈ a, x.length ≤ 1048576 := fun x h => Nat.le_trans (ha x h) (by decide)
structure Pl (i T : Nat) (S : DiskS) (file : Int) (ts ws ms : List (List UInt8)) (su : Nat) : Prop where
  good : GoodS S
  room : S.room 0 = 20000
  steps : S.steps ≤ (i : Int) + 1
  file1 : 1 ≤ file ∧ file ≤ (i : Int) + 1
  keys : ∀ q ∈ S.files, q.1 ≤ file
  here : ∃ sr, S.get file = some ⟨0, FF (ws ++ ms) (ws ++ ms).length, sr⟩ ∧ ((sr = -1 ∧ su = 0) ∨ sr = (EE ws su : Int))
  up : S.down = false → ms = []
  su : su ≤ ws.length
  pot : 64 * S.used 0 + (if S.down = true then (0 : Int) else (EE ts ts.length : Int)) ≤ 64 * (1 + (i : Int)) + (T : Int)
  siz : EE ts ts.length + EE ws ws.length ≤ T ∧ EE ws ws.length + EE ms ms.length ≤ T
  num : ts.length + ws.length ≤ i ∧ ws.length + ms.length ≤ i
  bt : bnd ts
  bw : bnd ws
  bm : bnd ms
theorem pl_start : Pl 0 0 (oneS 20000 0 ⟨0, [], -1⟩ 1 1) 1 [] [] [] 0 where
  good := good_one (by decide) (by decide)
  room := rfl
  steps := by show (1 : Int) ≤ _; omega
  file1 := by omega
  keys := fun q hq => by rw [List.mem_singleton.1 hq]; decide
  here := ⟨-1, rfl, .inl ⟨rfl, rfl⟩⟩
  up := fun _ => rfl
  su := Nat.le_refl _
  pot := by show 64 * (1 : Int) + (if (false : Bool) = true then (0 : Int) else 0) ≤ _; simp
  siz := ⟨Nat.le_refl _, Nat.le_refl _⟩
  num := ⟨Nat.le_refl _, Nat.le_refl _⟩
  bt := bnd_nil
  bw := bnd_nil
  bm := bnd_nil
variable {i T : Nat} {S : DiskS} {file : Int} {ts ws ms : List (List UInt8)} {su : Nat}
theorem Pl.more (h : Pl i T S file ts ws ms su) {j U : Nat} (hj : i ≤ j) (hU : T ≤ U) : Pl j U S file ts ws ms su := by
  have h1 := h.steps; have h2 := h.file1; have h3 := h.pot; have h4 := h.siz; have h5 := h.num
  exact ⟨h.good, h.room, by omega, by omega, h.keys, h.here, h.up, h.su, by omega, by omega, by omega, h.bt, h.bw, h.bm⟩
theorem Pl.add (h : Pl i T S file ts ws ms su) {x : List UInt8} (hx : x.length ≤ 30000) : Pl (i + 1) (T + (frame x).length) S file (ts ++ [x]) ws ms su := by
  have h1 := h.steps; have h2 := h.file1; have h3 := h.pot; have h4 := h.siz; have h5 := h.num
  have e := EE_app ts [x]
  rw [EE_one] at e
  have el : (ts ++ [x]).length = ts.length + 1 := by simp
  refine ⟨h.good, h.room, by omega, by omega, h.keys, h.here, h.up, h.su, ?_, by rw [e]; omega, by rw [el]; omega, bnd_app h.bt (fun y hy => by rw [List.mem_singleton.1 hy]; exact hx), h.bw, h.bm⟩
  rw [e]
  by_cases hd : S.down = true
  · rw [if_pos hd] at h3 ⊢; omega
  · rw [if_neg hd] at h3 ⊢; omega
theorem Pl.clear (h : Pl i T S file ts ws ms su) : Pl i T S file [] ws ms su := by
  have h3 := h.pot; have h4 := h.siz; have h5 := h.num
  refine ⟨h.good, h.room, h.steps, h.file1, h.keys, h.here, h.up, h.su, ?_, by rw [EE_nil]; omega, ⟨by rw [List.length_nil]; omega, h5.2⟩, bnd_nil, h.bw, h.bm⟩
  rw [EE_nil]
  by_cases hd : S.down = true
  · rw [if_pos hd] at h3 ⊢; exact h3
  · rw [if_neg hd] at h3 ⊢; omega
theorem Pl.arm (h : Pl i T S file ts ws ms su) {n : Int} (hn : n ≤ 9223372036854775807) : Pl i T (armS S n) file ts ws ms su :=
  ⟨⟨h.good.nd, h.good.tier, h.good.sum, h.good.le, h.good.sure, h.good.key, by show -1 ≤ (if n < -1 then (-1 : Int) else n) ∧ (if n < -1 then (-1 : Int) else n) ≤ _; split <;> omega, h.good.steps⟩, h.room, h.steps, h.file1, h.keys, h.here, h.up, h.su, h.pot, h.siz, h.num, h.bt, h.bw, h.bm⟩
theorem get_live (h : Pl i T S file ts ws ms su) (hd : S.down = false) : findE S file = 0 := by
  obtain ⟨sr, hx, _⟩ := h.here
  unfold findE
  rw [hd, hx]; rfl
theorem get_dead (hd : S.down = true) : findE S file = 8 := by unfold findE; rw [if_pos hd]
theorem fput_keys {l : List (Int × FileS)} {m n : Int} {x : FileS} (h : ∀ q ∈ l, q.1 ≤ m) (hn : n ≤ m) : ∀ q ∈ fput l n x, q.1 ≤ m := by
  intro q hq
  rcases List.mem_cons.1 hq with rfl | hq
  · exact hn
  · exact h q (del_sub q hq)
theorem step_eqs (S : DiskS) : (stepOk S = true → (stepS S).down = S.down ∧ (stepS S).steps = S.steps + 1) ∧ (stepOk S = false → (stepS S).down = true ∧ (stepS S).steps = S.steps) := by
  unfold stepOk stepS
  refine ⟨fun h => ?_, fun h => ?_⟩
  · rw [if_neg (of_decide_eq_true h)]; exact ⟨rfl, rfl⟩
  · rw [if_pos (Decidable.of_not_not (of_decide_eq_false h))]; exact ⟨rfl, rfl⟩
/-- A group is written. -/
theorem Pl.write (h : Pl i T S file ts ws ms su) (hne : ts ≠ []) :
    ((addS S file (FF ts ts.length)).2 = 0 ∧ (addS S file (FF ts ts.length)).1.steps = S.steps + 1 ∧ Pl (i + 1) T (addS S file (FF ts ts.length)).1 file [] (ws ++ ts) ms su) ∨
    ((addS S file (FF ts ts.length)).2 = 8 ∧ S.down = true ∧ (addS S file (FF ts ts.length)).1 = S) ∨
    ((addS S file (FF ts ts.length)).2 = 7 ∧ S.down = false ∧ (addS S file (FF ts ts.length)).1 = S) ∨
    ((addS S file (FF ts ts.length)).2 = 8 ∧ S.down = false ∧ (addS S file (FF ts ts.length)).1.steps = S.steps ∧ ms = [] ∧ Pl (i + 1) T (addS S file (FF ts ts.length)).1 file ts ws ts su) := by
  by_cases hd : S.down = true
  · have hf := get_dead (file := file) hd
    have ha := add_no (s := FF ts ts.length) (show findE S file ≠ 0 by rw [hf]; decide)
    rw [ha, hf]
    exact .inr (.inl ⟨rfl, hd, rfl⟩)
  · have hd' : S.down = false := by simpa using hd
    have hms := h.up hd'
    subst hms
    obtain ⟨sr, hx, hsr⟩ := h.here
    rw [List.append_nil] at hx
    have ha := add_yes (s := FF ts ts.length) (get_live h hd') hx
    have hgood := good_add h.good file (FF ts ts.length)
    have h1 := h.steps; have h2 := h.file1; have h3 := h.pot; have h4 := h.siz; have h5 := h.num
    rw [if_neg hd] at h3
    dsimp only at ha
    by_cases hr : (blocksN ((FF ws ws.length).length + (FF ts ts.length).length) : Int) - (blocksN (FF ws ws.length).length : Int) > S.room 0 - S.used 0
    · rw [if_pos hr] at ha
      rw [ha]
      exact .inr (.inr (.inl ⟨rfl, hd', rfl⟩))
    · rw [if_neg hr] at ha
      obtain ⟨f1, f2, f3, f4⟩ := step_files (addF S file ⟨0, FF ws ws.length, sr⟩ (FF ts ts.length))
      have hb : 64 * ((blocksN ((FF ws ws.length).length + (FF ts ts.length).length) : Int) - (blocksN (FF ws ws.length).length : Int)) ≤ ((FF ts ts.length).length : Int) + 63 := by unfold blocksN; omega
      have hE : (FF ts ts.length).length = EE ts ts.length := rfl
      have hu : (addS S file (FF ts ts.length)).1.used 0 = S.used 0 + ((blocksN ((FF ws ws.length).length + (FF ts ts.length).length) : Int) - (blocksN (FF ws ws.length).length : Int)) := by
        rw [ha]; show (stepS _).used 0 = _; rw [f3]; rfl
      have hget : (addS S file (FF ts ts.length)).1.get file = some ⟨0, FF (ws ++ ts) (ws ++ ts).length, sr⟩ := by
        rw [ha]
        show fget (stepS _).files file = _
        rw [f1, FF_app]
        show fget (fput S.files file _) file = _
        rw [fget_put, if_pos rfl]
      have hroom : (addS S file (FF ts ts.length)).1.room 0 = 20000 := by
        rw [ha]; show (stepS _).room 0 = _; rw [f2]; exact h.room
      have hkeys : ∀ q ∈ (addS S file (FF ts ts.length)).1.files, q.1 ≤ file := by
        rw [ha]; show ∀ q ∈ (stepS _).files, _
        rw [f1]
        exact fput_keys h.keys (Int.le_refl _)
      have hsr2 : (sr = -1 ∧ su = 0) ∨ sr = (EE (ws ++ ts) su : Int) := by rw [EE_pre ws ts h.su]; exact hsr
      have hea := EE_app ws ts
      obtain ⟨e1, e2⟩ := step_eqs (addF S file ⟨0, FF ws ws.length, sr⟩ (FF ts ts.length))
      by_cases hk : stepOk S = true
      · left
        have hk' : stepOk (addF S file ⟨0, FF ws ws.length, sr⟩ (FF ts ts.length)) = true := hk
        have hst : (addS S file (FF ts ts.length)).1.steps = S.steps + 1 := by rw [ha]; exact (e1 hk').2
        have hdn : (addS S file (FF ts ts.length)).1.down = false := by rw [ha]; exact (e1 hk').1.trans hd'
        refine ⟨by rw [ha]; exact if_pos hk, hst, hgood, hroom, by omega, by omega, hkeys, ⟨sr, by rw [List.append_nil]; exact hget, hsr2⟩, fun _ => rfl, by rw [List.length_append]; have := h.su; omega, ?_, ?_, ?_, bnd_nil, bnd_app h.bw h.bt, bnd_nil⟩
        · rw [hdn, if_neg (by decide), hu, EE_nil]; omega
        · rw [EE_nil, hea]; omega
        · rw [List.length_append, List.length_nil]; omega
      · have hk1 : stepOk S = false := by simpa using hk
        have hk' : stepOk (addF S file ⟨0, FF ws ws.length, sr⟩ (FF ts ts.length)) = false := hk1
        have hst : (addS S file (FF ts ts.length)).1.steps = S.steps := by rw [ha]; exact (e2 hk').2
        have hdn : (addS S file (FF ts ts.length)).1.down = true := by rw [ha]; exact (e2 hk').1
        refine .inr (.inr (.inr ⟨by rw [ha]; exact if_neg hk, hd', hst, rfl, hgood, hroom, by omega, by omega, hkeys, ⟨sr, hget, hsr⟩, fun hf => (by rw [hdn] at hf; cases hf), h.su, ?_, by omega, by omega, h.bt, h.bw, h.bt⟩))
        rw [hdn, if_pos rfl, hu]; omega
/-- What was written is made sure. -/
theorem Pl.sync (h : Pl i T S file ts ws ms su) :
    ((syncS S file).2 = 0 ∧ Pl (i + 1) T (syncS S file).1 file ts ws ms ws.length) ∨ ((syncS S file).2 = 8 ∧ Pl (i + 1) T (syncS S file).1 file ts ws ms su) := by
  by_cases hd : S.down = true
  · have hf := get_dead (file := file) hd
    rw [sync_no (show findE S file ≠ 0 by rw [hf]; decide), hf]
    exact .inr ⟨rfl, h.more (Nat.le_succ _) (Nat.le_refl _)⟩
  · have hd' : S.down = false := by simpa using hd
    have hms := h.up hd'
    subst hms
    obtain ⟨sr, hx, hsr⟩ := h.here
    have hgood := good_sync h.good file
    rw [sync_yes (get_live h hd') hx] at hgood ⊢
    rw [List.append_nil] at *
    have h1 := h.steps; have h2 := h.file1; have h3 := h.pot; have h4 := h.siz; have h5 := h.num
    rw [if_neg hd] at h3
    obtain ⟨f1, f2, f3, f4⟩ := step_files S
    obtain ⟨e1, e2⟩ := step_eqs S
    by_cases hk : stepOk S = true
    · rw [if_pos hk] at hgood ⊢
      obtain ⟨e3, e4⟩ := e1 hk
      refine .inl ⟨rfl, hgood, by show (stepS S).room 0 = _; rw [f2]; exact h.room, by show (stepS S).steps ≤ _; omega, by omega, fput_keys h.keys (Int.le_refl _), ⟨_, ?_, .inr rfl⟩, fun _ => rfl, Nat.le_refl _, ?_, h4, by omega, h.bt, h.bw, h.bm⟩
      · show fget (fput S.files file _) file = _
        rw [fget_put, if_pos rfl, List.append_nil]; rfl
      · show 64 * (stepS S).used 0 + (if (stepS S).down = true then _ else _) ≤ _
        rw [e3, hd', f3, if_neg (by decide)]; omega
    · rw [if_neg hk] at hgood ⊢
      obtain ⟨e3, e4⟩ := e2 (by simpa using hk)
      refine .inr ⟨rfl, hgood, by show (stepS S).room 0 = _; rw [f2]; exact h.room, by show (stepS S).steps ≤ _; omega, by omega, by rw [f1]; exact h.keys, ⟨sr, ?_, hsr⟩, fun _ => rfl, h.su, ?_, h4, by omega, h.bt, h.bw, h.bm⟩
      · show fget (stepS S).files file = _
        rw [f1, List.append_nil]; exact hx
      · rw [e3, f3, if_pos rfl]; omega
theorem cut_at (xs : List (List UInt8)) (q : Nat) : ∃ i, i ≤ xs.length ∧ EE xs i ≤ q ∧ (i < xs.length → q < EE xs (i + 1)) := by
  have : ∀ m, m ≤ xs.length → ∃ i, i ≤ m ∧ EE xs i ≤ q ∧ (i < m → q < EE xs (i + 1)) := by
    intro m
    induction m with
    | zero => intro _; exact ⟨0, Nat.le_refl _, by simp [EE, FF], fun h => by omega⟩
    | succ m ih =>
      intro hm
      obtain ⟨i, h1, h2, h3⟩ := ih (by omega)
      by_cases him : i = m
      · subst him
        by_cases hq : EE xs (i + 1) ≤ q
        · exact ⟨i + 1, Nat.le_refl _, hq, fun h => by omega⟩
        · exact ⟨i, by omega, h2, fun _ => by omega⟩
      · exact ⟨i, by omega, h2, fun _ => h3 (by omega)⟩
  exact this _ (Nat.le_refl _)
theorem back_get {S : DiskS} (hn : keysNd S.files) {n : Int} {x : FileS} (hx : S.get n = some x) (K : List (Int × Int)) : (backS S K).get n = backF x (keptF K n) := by
  have hm : (n, x) ∈ S.files := fget_mem hx
  show fget (backL K S.files) n = _
  cases hb : backF x (keptF K n) with
  | some y =>
    have hin : (n, y) ∈ backL K S.files := by
      unfold backL midL
      refine List.mem_filterMap.2 ⟨(n, x), hm, ?_⟩
      rw [if_neg Bool.false_ne_true]
      dsimp only
      rw [hb]; rfl
    exact fget_of (mid_nd hn) hin
  | none =>
    cases hg : fget (backL K S.files) n with
    | none => rfl
    | some y =>
      obtain ⟨z, hz, he⟩ := mid_keys (fget_mem hg)
      rw [if_neg Bool.false_ne_true] at he
      dsimp only at hz he
      have := fget_of hn hz
      have e : some x = some z := hx.symm.trans this
      injection e with e
      subst e
      rw [hb] at he; cases he
/-- The power goes and comes back. -/
theorem Pl.back (h : Pl i T S file ts ws ms su) (n : Int) (hT : T ≤ 100000) (hi : i ≤ 1000) :
    (∃ k y, su ≤ k ∧ k ≤ (ws ++ ms).length ∧ (replayS (backS S [(file, n)]) file).1 = (ws ++ ms).take k ∧ (replayS (backS S [(file, n)]) file).2.2 = 0 ∧ (backS S [(file, n)]).get file = some y ∧ y.data.length ≤ 16777216) ∧
    (makeS (backS S [(file, n)]) 0 (file + 1)).2 = 0 ∧ Pl (i + 1) T (makeS (backS S [(file, n)]) 0 (file + 1)).1 (file + 1) [] [] [] 0 := by
  obtain ⟨sr, hx, hsr⟩ := h.here
  have h1 := h.steps; have h2 := h.file1; have h3 := h.pot; have h4 := h.siz; have h5 := h.num; have h7 := h.su
  have hgb := good_back h.good [(file, n)]
  have hgx := h.good.size hx
  have hEa := EE_app ws ms
  have hbx : bnd (ws ++ ms) := bnd_app h.bw h.bm
  have hkx := back_get h.good.nd hx [(file, n)]
  have hkept : keptF [(file, n)] file = some n := if_pos rfl
  rw [hkept] at hkx
  have hbf : backF ⟨0, FF (ws ++ ms) (ws ++ ms).length, sr⟩ (some n) = some ⟨0, (FF (ws ++ ms) (ws ++ ms).length).take (cutB ⟨0, FF (ws ++ ms) (ws ++ ms).length, sr⟩ (some n)), (cutB ⟨0, FF (ws ++ ms) (ws ++ ms).length, sr⟩ (some n) : Int)⟩ := if_neg (fun h => by cases h.2)
  rw [hbf] at hkx
  have hcl := cut_le (x := ⟨0, FF (ws ++ ms) (ws ++ ms).length, sr⟩) ⟨hgx.2.2.2.1, hgx.2.2.2.2.1⟩ (some n)
  generalize cutB ⟨0, FF (ws ++ ms) (ws ++ ms).length, sr⟩ (some n) = q at *
  have hlen : (FF (ws ++ ms) (ws ++ ms).length).length = EE (ws ++ ms) (ws ++ ms).length := rfl
  obtain ⟨hc1, hc2, -⟩ := hcl
  dsimp only at hc2
  have hfz : findE (backS S [(file, n)]) file = 0 := by
    unfold findE
    rw [hkx]; rfl
  have hf9 : findE (backS S [(file, n)]) (file + 1) = 9 := by
    have hno : (backS S [(file, n)]).get (file + 1) = none := by
      cases hg : (backS S [(file, n)]).get (file + 1) with
      | none => rfl
      | some y =>
        obtain ⟨z, hz, _⟩ := mid_keys (K := [(file, n)]) (Lf := fun _ => false) (l := S.files) (fget_mem (show fget (backL [(file, n)] S.files) (file + 1) = some y from hg))
        have := h.keys _ hz
        dsimp only at this
        omega
    unfold findE
    rw [hno]; rfl
  refine ⟨?_, ?_⟩
  · obtain ⟨k, k1, k2, k3⟩ := cut_at (ws ++ ms) q
    have hsuk : su ≤ k := by
      rcases Nat.lt_or_ge k su with hlt | hge
      · exfalso
        have k4 := k3 (by rw [List.length_append]; omega)
        rcases hsr with ⟨_, h0⟩ | hsr
        · omega
        · have hb1 : sureB ⟨0, FF (ws ++ ms) (ws ++ ms).length, sr⟩ = (EE ws su : Int) := by
            unfold sureB; dsimp only; rw [hsr, if_neg (by omega)]
          rw [hb1, ← EE_pre ws ms h7] at hc1
          have hm := EE_up (xs := ws ++ ms) (show k + 1 ≤ su by omega)
          omega
      · exact hge
    have hl : (List.take q (FF (ws ++ ms) (ws ++ ms).length)).length = q := by rw [List.length_take]; omega
    have hrd : readS (backS S [(file, n)]) file 0 ((List.take q (FF (ws ++ ms) (ws ++ ms).length)).length : Int) = (List.take q (FF (ws ++ ms) (ws ++ ms).length), 0) := by
      rw [read_yes hfz hkx]
      dsimp only
      rw [if_neg (by omega), Int.toNat_zero, List.drop_zero, Int.toNat_natCast, List.take_length]
    have hrp : (replayS (backS S [(file, n)]) file).1 = (ws ++ ms).take k ∧ (replayS (backS S [(file, n)]) file).2.2 = 0 := by
      unfold replayS
      rw [size_yes hfz hkx]
      dsimp only
      rw [hrd, if_neg (fun h => h rfl), if_neg (fun h => h rfl)]
      dsimp only
      rw [hl, cut_law (bnd_big hbx) k1 (by omega) k2 k3 (Nat.le_trans (EE_bound (bnd_big hbx) k1).1 k2)]
      exact ⟨rfl, rfl⟩
    refine ⟨k, _, hsuk, k1, hrp.1, hrp.2, hkx, ?_⟩
    dsimp only
    rw [List.length_take]; omega
  · have hu : (backS S [(file, n)]).used 0 ≤ S.used 0 := by
      have e1 := h.good.sum 0 (by decide)
      have e2 := mid_sum (K := [(file, n)]) (Lf := fun _ => false) 0 S.files
      show ((sumT 0 (backL [(file, n)] S.files) : Nat) : Int) ≤ _
      unfold backL
      omega
    have hupper : 64 * S.used 0 ≤ 64 * (1 + (i : Int)) + (T : Int) := by split at h3 <;> omega
    have hgm := good_make hgb 0 (file + 1)
    have hr : (backS S [(file, n)]).room (0 : Int).toNat = 20000 := h.room
    have hM : makeS (backS S [(file, n)]) 0 (file + 1) = (setUsed (setFiles (stepS (backS S [(file, n)])) (fput (backS S [(file, n)]).files (file + 1) ⟨0, [], -1⟩)) 0 ((backS S [(file, n)]).used 0 + 1), 0) := by
      unfold makeS
      rw [hf9, if_neg (by decide), if_neg (by omega), if_neg (by decide), hr, if_neg (by show (backS S [(file, n)]).used 0 ≠ 20000; omega), if_pos (by rfl)]
      rfl
    rw [hM] at hgm ⊢
    have hst : (stepS (backS S [(file, n)])) = { backS S [(file, n)] with fuse := -1, steps := S.steps + 1 } := rfl
    refine ⟨rfl, hgm, h.room, by show S.steps + 1 ≤ _; omega, by omega, ?_, ⟨-1, ?_, .inl ⟨rfl, rfl⟩⟩, fun _ => rfl, Nat.le_refl _, ?_, by rw [EE_nil]; omega, by simp, bnd_nil, bnd_nil, bnd_nil⟩
    · refine fput_keys (fun q hq => ?_) (Int.le_refl _)
      obtain ⟨z, hz, _⟩ := mid_keys (K := [(file, n)]) (Lf := fun _ => false) (l := S.files) hq
      have := h.keys _ hz
      dsimp only at this
      omega
    · show fget (fput _ (file + 1) _) (file + 1) = _
      rw [fget_put, if_pos rfl]; rfl
    · show 64 * ((backS S [(file, n)]).used 0 + 1) + (if (false : Bool) = true then (0 : Int) else ((EE [] ([] : List (List UInt8)).length : Nat) : Int)) ≤ _
      rw [if_neg (by decide), EE_nil]; omega
end Go.Proofs.Ytlkljeghhahedaa.Wal
