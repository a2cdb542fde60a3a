/- The law on names. -/
import Derived.Test.YtlplkbbnpddihaaV1
set_option linter.unusedVariables false
set_option linter.unusedSimpArgs false
namespace Go.Proofs.Ytlplkbbnpddihaa
open Go Go.Wk
theorem lawValid_p (s : ByteArray) (w : World) (hlen : s.size ≤ 9223372036854775807) :
    PureC Try.prog 3 [.string s] (.bool true) w := by
  refine enter0 Try.func3 rfl Try.ntmps3 rfl ?_
  simp only [envOf]
  refine At.seq ?_
  refine At.region ?_
  refine At.val (Val.assign rfl) rfl rfl rfl ?_
  refine At.nil ?_
  refine At.thenN ?_
  refine At.seq ?_
  refine At.region ?_
  refine At.val (Val.move rfl) rfl rfl rfl ?_
  refine At.callP (fun w hw => validI_p _ w hlen) Try.call4 rfl rfl ?_
  refine At.val (Val.assign rfl) rfl rfl rfl ?_
  refine At.nil ?_
  refine At.thenN ?_
  refine At.seq ?_
  refine At.region ?_
  refine At.val (Val.move rfl) rfl rfl rfl ?_
  refine At.val (Val.move rfl) rfl rfl rfl ?_
  refine At.callP (fun w hw => validR_p _ w hlen) Try.call5 rfl rfl ?_
  refine At.val (Val.eqB Try.underlying4 rfl rfl) rfl rfl rfl ?_
  refine At.val (Val.assign rfl) rfl rfl rfl ?_
  refine At.nil ?_
  refine At.thenN ?_
  refine At.retC ?_
  refine At.ret1 (.inl rfl) rfl rfl rfl (fun w hw => ?_)
  exact ⟨by simp, hw.mod⟩

end Go.Proofs.Ytlplkbbnpddihaa
