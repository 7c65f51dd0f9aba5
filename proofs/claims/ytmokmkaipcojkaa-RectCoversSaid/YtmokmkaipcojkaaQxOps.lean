-- written by a program of this session after the way of the kit's print; not the kit's own print. Lean checks it.
import Derived.Test.YtmokmkaipcojkaaQx0
import Derived.Test.YtmokmkaipcojkaaOpens
namespace Go.Proofs.Ytmokmkaipcojkaa.Q
open Go.RowKit Go.Proofs.YtmokmkaipcojkaaW.PrintWords Go.Proofs.YtmokmkaipcojkaaW.PrintLast Go.Proofs.YtmokmkaipcojkaaW.PrintMore
attribute [local go_sem] max2_int min2_int max_two min_two max_three min_three max_four min_four   -- for this text's walks alone
set_option linter.unusedVariables false
set_option linter.unusedSimpArgs false

open Go.Proofs.Ytmokmkaipcojkaa.Opens
theorem op26 {H : Type} {enc : TypeId × Value → H} {w : World} : Opn enc Try.prog w 26 k26 okS26 :=
  Opn.iso (fun a => ⟨a.1, a.2.1, a.2.2.1, a.2.2.2⟩) (fun _ => rfl) (fun a h => ⟨h.1, h.2.1, h.2.2.1, h.2.2.2⟩) (Opn.struct Try.underlying26 (FOp.cons rfl (by kernel_rfl) (Opn.int Try.underlying3) (FOp.cons rfl (by kernel_rfl) (Opn.int Try.underlying3) (FOp.cons rfl (by kernel_rfl) (Opn.int Try.underlying3) (FOp.last rfl (by kernel_rfl) (by kernel_rfl) (Opn.int Try.underlying3))))))
end Go.Proofs.Ytmokmkaipcojkaa.Q
