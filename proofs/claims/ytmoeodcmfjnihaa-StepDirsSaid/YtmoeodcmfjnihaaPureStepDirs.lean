/- For every way and every number the law StepDirs answers true: a step that stays on the board is undone by the way turned about, and its files and ranks are the way's own. -/
import Derived.Test.YtmoeodcmfjnihaaPcx5
import Derived.Test.YtmoeodcmfjnihaaPcx4
import Derived.Laws.Bits64b
import Derived.OpenShut
namespace Go.Proofs.Ytmoeodcmfjnihaa.Pure
open Go.RowKit Go.Proofs.Ytmoeodcmfjnihaa.Pc Go.Proofs.YtmoeodcmfjnihaaW.PrintWords Go.Proofs.YtmoeodcmfjnihaaW.PrintLast Go.Proofs.YtmoeodcmfjnihaaW.PrintMore
set_option linter.unusedVariables false
set_option linter.unusedSimpArgs false

/-- The square that is so many files and ranks on, or -1. -/
def fromI (dx dy q : Int) : Int := if (0 ≤ q ∧ q ≤ 80 ∧ -8 ≤ dx ∧ dx ≤ 8 ∧ -8 ≤ dy ∧ dy ≤ 8) ∧ 0 ≤ q / 9 + dx ∧ q / 9 + dx ≤ 8 ∧ 0 ≤ q % 9 + dy ∧ q % 9 + dy ≤ 8 then 9 * (q / 9 + dx) + (q % 9 + dy) else -1
theorem from_is (dx dy q : Int) : step_Dir_From.f dx dy q = some (fromI dx dy q) := by
  unfold step_Dir_From.f fromI
  by_cases h1 : q < 0
  · rw [if_pos h1, if_neg (by omega)]
  rw [if_neg h1]
  by_cases h2 : q ≥ 81
  · rw [if_pos h2, if_neg (by omega)]
  rw [if_neg h2]
  by_cases h3 : dx < -8
  · rw [if_pos h3, if_neg (by omega)]
  rw [if_neg h3]
  by_cases h4 : dx > 8
  · rw [if_pos h4, if_neg (by omega)]
  rw [if_neg h4]
  by_cases h5 : dy < -8
  · rw [if_pos h5, if_neg (by omega)]
  rw [if_neg h5]
  by_cases h6 : dy > 8
  · rw [if_pos h6, if_neg (by omega)]
  rw [if_neg h6]
  unfold set_Square.f
  by_cases g1 : q / 9 + dx < 0
  · rw [if_pos g1, if_neg (by omega)]
  rw [if_neg g1]
  by_cases g2 : q / 9 + dx > 8
  · rw [if_pos g2, if_neg (by omega)]
  rw [if_neg g2]
  by_cases g3 : q % 9 + dy < 0
  · rw [if_pos g3, if_neg (by omega)]
  rw [if_neg g3]
  by_cases g4 : q % 9 + dy > 8
  · rw [if_pos g4, if_neg (by omega)]
  rw [if_neg g4, if_pos ⟨⟨by omega, by omega, by omega, by omega, by omega, by omega⟩, by omega, by omega, by omega, by omega⟩]
  have e1 : wrap64 (9 * (q / 9 + dx)) = 9 * (q / 9 + dx) := by unfold wrap64; omega
  rw [e1]
  have e2 : wrap64 (9 * (q / 9 + dx) + (q % 9 + dy)) = 9 * (q / 9 + dx) + (q % 9 + dy) := by unfold wrap64; omega
  rw [e2]

theorem file_is (q : Int) (h0 : 0 ≤ q) (h1 : q ≤ 80) : set_File.f q = some (q / 9) := by
  unfold set_File.f
  rw [Int.tdiv_eq_ediv_of_nonneg h0, show wrap64 (q / 9) = q / 9 by unfold wrap64; omega]
theorem rank_is (q : Int) (h0 : 0 ≤ q) : set_Rank.f q = some (q % 9) := by
  unfold set_Rank.f
  rw [Int.tmod_eq_emod_of_nonneg h0]
theorem StepDirs : kakugyolaw03_StepDirs.Pure := by
  intro dx dy q _ _ _
  refine ⟨100, ?_⟩
  have hn : kakugyolaw03_steps.f 100 = some true := by decide +kernel
  unfold kakugyolaw03_StepDirs.f
  rw [hn, Option.bind_some, if_pos rfl, from_is, Option.bind_some]
  by_cases h : (0 ≤ q ∧ q ≤ 80 ∧ -8 ≤ dx ∧ dx ≤ 8 ∧ -8 ≤ dy ∧ dy ≤ 8) ∧ 0 ≤ q / 9 + dx ∧ q / 9 + dx ≤ 8 ∧ 0 ≤ q % 9 + dy ∧ q % 9 + dy ≤ 8
  · have ht : fromI dx dy q = 9 * (q / 9 + dx) + (q % 9 + dy) := by unfold fromI; rw [if_pos h]
    obtain ⟨t, e⟩ : ∃ t, 9 * (q / 9 + dx) + (q % 9 + dy) = t := ⟨_, rfl⟩
    rw [ht, e]
    have t0 : 0 ≤ t := by omega
    have t1 : t ≤ 80 := by omega
    have f1 : t / 9 = q / 9 + dx := by omega
    have f2 : t % 9 = q % 9 + dy := by omega
    have w1 : wrap64 (-dx) = -dx := by unfold wrap64; omega
    have w2 : wrap64 (-dy) = -dy := by unfold wrap64; omega
    have hb : fromI (-dx) (-dy) t = q := by
      unfold fromI
      rw [f1, f2, if_pos (by omega)]
      omega
    have g1 : wrap64 (q / 9 + dx - q / 9) = dx := by unfold wrap64; omega
    have g2 : wrap64 (q % 9 + dy - q % 9) = dy := by unfold wrap64; omega
    have u1 : step_Dir_Turn.f dx dy 1 = some (-dx, -dy) := by
      unfold step_Dir_Turn.f
      rw [if_pos rfl, w1, w2]
    have u0 : step_Dir_Turn.f dx dy 0 = some (dx, dy) := by
      unfold step_Dir_Turn.f
      rw [if_neg (by decide)]
    rw [if_neg (by omega), if_pos t1, u1, Option.bind_some]
    dsimp only
    rw [from_is, Option.bind_some, hb, if_pos rfl, file_is t t0 t1, Option.bind_some, file_is q (by omega) (by omega), Option.bind_some, f1, g1, if_pos rfl, rank_is t t0, Option.bind_some, rank_is q (by omega), Option.bind_some, f2, g2, if_pos rfl, u0, Option.bind_some]
    simp
  · have ht : fromI dx dy q = -1 := by unfold fromI; rw [if_neg h]
    rw [ht, if_pos (by decide)]
    rfl

end Go.Proofs.Ytmoeodcmfjnihaa.Pure
