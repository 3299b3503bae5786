/- The walks of six.Writer's New, Text, Bytes: a writer at a block of its own holds bytes; each call adds the groups or texts that it is given. -/
import Derived.Test.YtlkljeghhahedaaPBasex1
import Derived.Test.YtlkljeghhahedaaBase
import Derived.WalkSpells
import Derived.WalkLawsBesides
namespace Go.Proofs.Ytlkljeghhahedaa.Writer
open Go Go.RowKit Go.Proofs.YtlkljeghhahedaaW.PrintWords Go.Proofs.YtlkljeghhahedaaW.PrintLast Go.Proofs.YtlkljeghhahedaaW.PrintMore Go.Proofs.Ytlkljeghhahedaa.PBase Go.Proofs.Ytlkljeghhahedaa.Base
set_option linter.unusedVariables false
set_option linter.unusedSimpArgs false
set_option maxRecDepth 100000

/-- A writer at block g, which has gathered these bytes; it and its row lie from base on. -/
def WIs (base : Nat) (W : World) (g : Nat) (l : List Int) : Prop :=
  base ≤ g ∧ ∃ A c, W.heap[g]? = some (.cells #[.slice A l.length c] 98 (0, 0)) ∧ (Kd.int .u8).R 5 W base (fun _ => True) (.slice A l.length c) l
theorem WIs.below {base : Nat} {W W1 : World} {g : Nat} {l : List Int} (h : WIs base W g l) (hb : Below W.heap.size W W1) : WIs base W1 g l := by
  obtain ⟨hg, A, c, hh, hr⟩ := h
  exact ⟨hg, A, c, blk_below hh hb, Kd.R_below hr hb⟩
theorem WIs.lt {base : Nat} {W : World} {g : Nat} {l : List Int} (h : WIs base W g l) : g < W.heap.size := by
  obtain ⟨hg, A, c, hh, hr⟩ := h
  exact blk_lt hh
/-- Behind a change of what is no part of it. -/
theorem WIs.step {base : Nat} {W W1 : World} {g : Nat} {l : List Int} (h : WIs base W g l) (hm : ∀ k, base ≤ k → k < W.heap.size → W1.heap[k]? = W.heap[k]?) : WIs base W1 g l := by
  obtain ⟨hg, A, c, hh, hr⟩ := h
  refine ⟨hg, A, c, (hm g hg (blk_lt hh)).trans hh, Kd.R_step (Kd.R_bound hr) (fun k hk hlt => hm k hk.2.1 hlt) |> fun h => Kd.R_mono h (fun _ _ => trivial)⟩

/-- Behind the call that makes the row's new value, and the store of it. -/
theorem stored {w0 w' : World} {g : Nat} {A A' : Option Addr} {c c' m : Nat} {l r : List Int} {S : Nat → Prop}
    (hg : w0.heap.size ≤ g) (hh : w'.heap[g]? = some (.cells #[.slice A l.length c] 98 (0, 0)))
    (hR : (Kd.int .u8).R 5 w' w0.heap.size S (.slice A' r.length c') r) (hm : m = r.length) : WIs w0.heap.size (w'.setCell ⟨g, 0, none⟩ (.slice A' m c')) g r := by
  subst hm
  exact ⟨hg, A', c', by simpa using blk_set hh 0 (.slice A' r.length c'), Kd.R_mono (Kd.R_set hR hh (by decide) 0 _) (fun _ _ => trivial)⟩

set_option maxHeartbeats 2000000 in
theorem new_w (w0 w : World) (hB : Below w0.heap.size w0 w) :
    Calls Try.prog 33 #[] w fun e w' => e = .returned (.pointer (some ⟨w.heap.size, 0, none⟩)) ∧ WIs w0.heap.size w' w.heap.size [] ∧ Below w.heap.size w w' := by
  go_enter Try.func33, Try.ntmps33
  go_wp2
  go_ret
  refine ⟨rfl, ⟨hB.size, none, 0, heap_alloc_new w _, Kd.R_nil _ _ _ _ _⟩, (Below.refl _ _).alloc (Nat.le_refl _) _⟩

set_option maxHeartbeats 2000000 in
theorem text_w (k : Nat) (s : ByteArray) (l r : List Int) (g : Nat) (w0 w : World) (hI : WIs w0.heap.size w g l) (hB : Below w0.heap.size w0 w) (hz : s.size ≤ 9223372036854775807) (h : six_groups.f k l (s.size : Int) 64 = some r) (hs : r.length + s.size ≤ 140737488355328) :
    Calls Try.prog 34 #[.pointer (some ⟨g, 0, none⟩), .string s] w fun e w' => e = .returned (.int .i64 0) ∧ WIs w0.heap.size w' g (r ++ bytesOf s) ∧ Below w0.heap.size w0 w' := by
  obtain ⟨hg, A, c, hh, hr⟩ := hI
  have hc : w.cell? ⟨g, 0, none⟩ = some (.slice A l.length c) := (blk_cell hh 0).trans rfl
  have hne := Kd.R_ne hr hh (by decide)
  go_enter Try.func34, Try.ntmps34
  go_wp2_with fail
  refine (six_groups.calls k (fun q => some q = (Value.slice A l.length c).ownBlock) _ l (s.size : Int) 64 r w0 _ hB (Kd.R_tight rfl hr) h).mono ?_
  rintro e w1 ⟨v1, rfl, hR, hB1, hK⟩
  obtain ⟨A1, c1, rfl⟩ := Kd.R_slice hR
  have hh1 := blk_kept hh hK hne
  have hne1 := Kd.R_ne hR hh1 (by decide)
  clear hc
  go_wp2_with (at_builtin; refine print_append_str (w0 := w0) w0.heap.size rfl (.tmp 15) (.tmp 16) 34 9 5 rfl Try.underlying34 Try.underlying9 info5 (.slice A1 r.length c1) r s rfl rfl ?aO ?aB ?aS ?aL ?_)
  case aO => exact Kd.own_of_R hR
  case aB => exact hB1
  case aS => exact hB1.size
  case aL => exact hs
  intro v2 w2 hown hB2 hgr
  have hR2 : (Kd.int .u8).R 5 w2 w0.heap.size (fun _ => True) v2 (r ++ bytesOf s) := Kd.R_of_own (by rw [List.length_append]; exact hown) (fun _ _ => trivial)
  obtain ⟨A2, c2, rfl⟩ := Kd.R_slice hR2
  have hh2 := blk_grown hh1 hgr hne1
  have hc2 : w2.cell? ⟨g, 0, none⟩ = some (.slice A l.length c) := (blk_cell hh2 0).trans rfl
  have hf2 := blk_frozen hh2 0
  go_wp2
  go_ret
  exact ⟨rfl, stored hg hh2 hR2 (by simp), below_set hB2 hg⟩
set_option maxHeartbeats 2000000 in
theorem bytes_w (l : List Int) (g base : Nat) (w : World) (hI : WIs base w g l) :
    Calls Try.prog 36 #[.pointer (some ⟨g, 0, none⟩)] w fun e w' => e = .returned (.string (strOfNums l)) ∧ w = w' := by
  obtain ⟨hg, A, c, hh, hr⟩ := hI
  have hc : w.cell? ⟨g, 0, none⟩ = some (.slice A l.length c) := (blk_cell hh 0).trans rfl
  have hcv := own_string (P := Try.prog) Try.underlying34 Try.underlying5 Try.underlying9 (Kd.own_of_R hr)
  go_enter Try.func36, Try.ntmps36
  go_wp2
  go_ret
  exact ⟨rfl, rfl⟩
theorem bytes_is {l : List Int} {s : ByteArray} (h : strOfNums l = s) (g base : Nat) (w : World) (hI : WIs base w g l) :
    Calls Try.prog 36 #[.pointer (some ⟨g, 0, none⟩)] w fun e w' => e = .returned (.string s) ∧ w = w' := by
  subst h
  exact bytes_w l g base w hI
end Go.Proofs.Ytlkljeghhahedaa.Writer
