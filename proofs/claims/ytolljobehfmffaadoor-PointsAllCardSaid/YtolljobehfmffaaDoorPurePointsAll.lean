/- What PointsAll tells. -/
import Derived.Test.YtolljobehfmffaaDoorPx5
import Derived.Test.YtolljobehfmffaaDoorPureTexts
namespace Go.Proofs.YtolljobehfmffaaDoor.Pure
open Go.RowKit Go.Proofs.YtolljobehfmffaaDoor.P Go.Proofs.YtolljobehfmffaaDoorW.PrintWords Go.Proofs.YtolljobehfmffaaDoorW.PrintLast Go.Proofs.YtolljobehfmffaaDoorW.PrintMore

theorem PointsAll : epitomelaw01_PointsAll.Pure := by
  intro a0 a1 a2 _ _ _
  obtain ⟨r, e, hr⟩ := few_ok a0
  refine ⟨200, ?_⟩
  unfold epitomelaw01_PointsAll.f points_Cut.f points_Valid.f points_Count.f
  rw [shown_ok, Option.bind_some, e, Option.bind_some, if_pos (by omega), refCut r (by omega) _ (by omega), Option.bind_some, Option.bind_some, if_pos rfl]
  rw [if_pos (by omega), refValid r (by omega) _ (by omega), Option.bind_some, Option.bind_some, if_pos (by simp)]
  rw [if_pos (by omega), refCount r (by omega) _ (by omega), Option.bind_some, Option.bind_some, if_pos rfl, if_pos rfl]
  simp
end Go.Proofs.YtolljobehfmffaaDoor.Pure
