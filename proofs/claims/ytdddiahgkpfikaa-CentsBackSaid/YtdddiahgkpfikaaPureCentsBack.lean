/- The Go law CentsBack answers true at all numbers: what was added is taken away again; what was taken away is added. Conditions: none beyond the given statement's own. -/
import Derived.Test.YtdddiahgkpfikaaPx9
namespace Go.Proofs.Ytdddiahgkpfikaa.Pure
open Go.RowKit Go.Proofs.Ytdddiahgkpfikaa.P Go.Proofs.YtdddiahgkpfikaaW.PrintWords Go.Proofs.YtdddiahgkpfikaaW.PrintLast
set_option linter.unusedVariables false
set_option linter.unusedSimpArgs false
theorem CentsBack : trivetlaw01_CentsBack.Pure := by
  intro a b ha hb
  have ha := M.in_of_wf ha
  have hb := M.in_of_wf hb
  unfold trivetlaw01_CentsBack.f trivetlaw01_up_s.f
  simp only [Option.bind_some]
  have e1 : a + b - b = a := by omega
  have e2 : a - b + b = a := by omega
  have back : (cents_Sub_s.f a b).bind (fun bt => if bt.2.isNone = true then ((cents_Add_s.f bt.1 b).bind fun bt' => if bt'.2.isNone = true then some (bt'.1 == a) else some false) else some true) = some true := by
    unfold cents_Sub_s.f cents_Add_s.f
    rw [if_pos ⟨ha, hb⟩, Option.bind_some]
    rcases Classical.em (M.In (a - b)) with h | h
    · rw [M.told_in h]
      simp [h, hb, e2, M.told_in ha]
    · rw [M.told_out h]; simp
  have hadd : cents_Add_s.f a b = some (M.told (a + b)) := by unfold cents_Add_s.f; rw [if_pos ⟨ha, hb⟩]
  rw [hadd, Option.bind_some]
  rcases Classical.em (M.In (a + b)) with h | h
  · rw [M.told_in h]
    have : cents_Sub_s.f (a + b) b = some (a, none) := by unfold cents_Sub_s.f; rw [if_pos ⟨h, hb⟩, e1, M.told_in ha]
    simp only [Option.isNone_none, if_true]
    rw [this, Option.bind_some]
    simp only [Option.isNone_none, if_true]
    simpa using back
  · rw [M.told_out h]
    simpa using back

end Go.Proofs.Ytdddiahgkpfikaa.Pure
