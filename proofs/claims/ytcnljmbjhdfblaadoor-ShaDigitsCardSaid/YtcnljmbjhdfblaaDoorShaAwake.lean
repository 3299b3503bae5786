/- The walk of awake. -/
import Derived.Test.YtcnljmbjhdfblaaDoorShaHex
import Derived.Test.YtcnljmbjhdfblaaDoorShaAbc
namespace Go.Proofs.YtcnljmbjhdfblaaDoor.Sha
open Go Go.RowKit Go.Proofs.YtcnljmbjhdfblaaDoor.Eng
set_option linter.unusedVariables false
set_option maxRecDepth 100000
set_option maxHeartbeats 1000000 in
theorem awake_c (w : World) (h0 : Ok0 w) :
    Calls Tryd.prog 7 #[] w fun e w' => e = .returned (bV true) ∧ Below w.heap.size w w' := by
  refine enter (P := Tryd.prog) Tryd.func7 rfl rfl ?_
  have hs := Sep.init w
  refine c_rseq ?_
  refine l_v (by first | exact (r_assign (v := bV _) rfl) | exact (r_assign rfl)) ?_
  refine l_nil (nrm_then ?_)
  refine c_rseq ?_
  refine l_lit1 [sV _, sV _, sV _] hs Tryd.underlying22 I9 rfl (by simp [Value.oneCell']) rfl (by decide) (by decide) ?_
  intro b1 w1 hs hB1 hlt1
  refine l_call (r_call Tryd.func9 rfl rfl) ?_
  refine Calls.mono (sum_c [⟨#[97]⟩, ⟨#[]⟩, ⟨#[98, 99]⟩] _ 3 _ (h0.sep hs) (rd_blk (hs.at_ 0).1 rfl (by decide)) (by decide)) ?_
  rintro e w_ ⟨rfl, hb⟩
  refine ⟨_, rfl, ?_⟩
  have hs := hs.below_ hb
  refine l_call (r_call Tryd.func16 rfl rfl) ?_
  refine Calls.mono (hex_c (digest [97, 98, 99]) (digest_length _) _) ?_
  rintro e w_ ⟨rfl, hb2⟩
  refine ⟨_, rfl, ?_⟩
  have hs := hs.below_ hb2
  refine l_v (r_eqls rfl rfl) ?_
  refine l_v (by first | exact (r_assign (v := bV _) rfl) | exact (r_assign rfl)) ?_
  refine l_nil (nrm_then ?_)
  refine c_ret ?_
  show Fin _ _ _ _ _
  refine fin1 rfl ?_
  refine ⟨?_, hs.below⟩
  refine congrArg Ending.returned (congrArg Value.bool (decide_eq_true ?_))
  rw [abc]
  rfl
end Go.Proofs.YtcnljmbjhdfblaaDoor.Sha
