/- A map of the call's own, keys ints: as the kit's word on maps says it; its keys. -/
import Derived.Test.YtnneoipoaoefkaaMap
import Derived.Lib.SlKeysI
namespace Go.Proofs.Ytnneoipoaoefkaa.Eng
open Go Go.RowKit Go.MapKept Go.WideElems
set_option linter.unusedVariables false
abbrev anyR : Value → Option (DataW Unit × List MemPlace) := fun _ => some (.lit (.bool true), [])
theorem key_int {k : Value} (h : IsKey (.int .i64) k) : ∃ n, k = iV n := by
  cases k <;> first | exact h.elim | skip
  rename_i q n
  have e : q = .i64 := h
  subst e
  exact ⟨n, rfl⟩
theorem own_of_map {P : Program} {K : TypeId} (hK : P.underlying K = some (.int .i64)) {F : MapF} {es : Array MapEntry} {clock b : Nat} {w : World} (hM : MapOf (.int .i64) F es clock) (hb : w.heap[b]? = some (.map es clock))
    (ks : List Int) (hnd : ks.Nodup) (hks : ∀ n, n ∈ ks ↔ (F (iV n)).isSome = true) (hlen : ks.length ≤ maxLen) (hwf : ∀ n ∈ ks, (Lit.int .i64 n).wf = true) :
    ∃ D0 : DataW Unit, w.ownsMap P K anyR b ks.length D0 ∧ Maps.size D0 = ks.length ∧ (intKeys D0).Perm ks := by
  have hx : ∀ x ∈ es.toList, ∃ n, x.key = iV n ∧ n ∈ ks ∧ rd P K anyR x = some (.int .i64 n, .lit (.bool true)) := by
    intro x hx
    obtain ⟨n, hn⟩ := key_int (hM.ks x hx)
    have hF : F (iV n) = some x.val := (hM.ok _ _).2 ⟨x, hx, hn, rfl⟩
    have hnk := (hks n).2 (by rw [hF]; rfl)
    have hw := hwf n hnk
    refine ⟨n, hn, hnk, ?_⟩
    unfold rd
    rw [hn, Maps.keyOf_int_mk hK hw]
    rfl
  have hg : ∀ x ∈ es.toList, x.key = iV (intOf (rg P K anyR x).1) := by
    intro x h
    obtain ⟨n, h1, _, h2⟩ := hx x h
    rw [rg_of h2]
    exact h1
  have hp := WideShapes.sorted_perm (es.toList.map (rg P K anyR))
  have hk : (intKeys (.map ((es.toList.map (rg P K anyR)).foldr DataW.insert []))).Perm (es.toList.map fun x => intOf (rg P K anyR x).1) := by
    show (((es.toList.map (rg P K anyR)).foldr DataW.insert []).map fun p => intOf p.1).Perm _
    have := hp.map fun p => intOf p.1
    rw [List.map_map] at this
    exact this
  have hnd2 : (es.toList.map fun x => intOf (rg P K anyR x).1).Nodup := by
    have h2 := hM.st.2.2
    have e : es.toList.map (·.key) = (es.toList.map fun x => intOf (rg P K anyR x).1).map iV := by
      rw [List.map_map]
      exact List.map_congr_left hg
    rw [e] at h2
    exact List.Pairwise.of_map iV (fun a b h e => h (congrArg iV e)) h2
  have hpk : (es.toList.map fun x => intOf (rg P K anyR x).1).Perm ks := by
    refine (List.perm_ext_iff_of_nodup hnd2 hnd).2 fun n => ?_
    rw [List.mem_map]
    constructor
    · rintro ⟨x, hxm, rfl⟩
      obtain ⟨n, h1, h2, h3⟩ := hx x hxm
      rw [rg_of h3]
      exact h2
    · intro h
      obtain ⟨v, hv⟩ := Option.isSome_iff_exists.1 ((hks n).1 h)
      obtain ⟨x, hxm, hk1, _⟩ := (hM.ok _ _).1 hv
      refine ⟨x, hxm, ?_⟩
      have := hg x hxm
      rw [hk1] at this
      injection this with _ this
      exact this.symm
  have hsz : es.size = ks.length := by
    have := hpk.length_eq
    rw [List.length_map, Array.length_toList] at this
    exact this
  have hfit : Fit P K anyR es clock := ⟨by omega, hM.st, fun x h => let ⟨n, _, _, h2⟩ := hx x h; ⟨_, h2⟩⟩
  refine ⟨_, ⟨es, clock, hb, hfit, by omega, rfl⟩, ?_, hk.trans hpk⟩
  show ((es.toList.map (rg P K anyR)).foldr DataW.insert []).length = _
  rw [hp.length_eq, List.length_map, Array.length_toList, hsz]
/-- A new block that a call has laid, taken up. -/
theorem Sep.take {w0 w w' : World} {L : List HP} {g : Nat} {o : Obj} (hs : Sep w0 w L) (hb : Below w.heap.size w w') (hg : w.heap.size ≤ g) (ho : w'.heap[g]? = some o) : Sep w0 w' (obj g o :: L) := by
  have hs1 := hs.below_ hb
  refine hs.nothing.change ⟨hb.os, hb.tape, hb.output, hb.size⟩ fun h hA _ => ⟨single g o, rfl, fun k o' e => ?_, fun k hk _ => hb.block k hk⟩
  unfold single at e
  split at e
  · rename_i hk; subst hk; injection e with e; subst e; exact ⟨ho, .inr hg⟩
  · cases e
theorem Sep.takeRow {w0 w w' : World} {L : List HP} {e : TypeId} {sz n : Nat} {v : Value} {xs : List Value} (hs : Sep w0 w L) (hb : Below w.heap.size w w') (hr : w'.ownsRow w.heap.size e sz v n xs) : Sep w0 w' (RowC e sz v n xs :: L) := by
  obtain ⟨hl, ⟨rfl, rfl⟩ | ⟨g, cap, cur, rfl, hg, ho, h1, h2, h3, h4⟩⟩ := hr
  · have hx : xs = [] := List.eq_nil_of_length_eq_zero (by omega)
    subst hx
    exact (hs.below_ hb).rowNil e sz
  · have := hs.take hb hg ho
    have := Sep.rowOf (cur := cur.toList) (e := e) this sz n cap h1 h2 (by rw [Array.length_toList]; exact h3)
    rw [h4] at this
    exact this
end Go.Proofs.Ytnneoipoaoefkaa.Eng
