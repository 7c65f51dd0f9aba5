-- written by a program of this session after the way of the kit's print; not the kit's own print. Lean checks it.
import Derived.Test.YtbdkphjpdoajpaaQx0
import Derived.Test.YtbdkphjpdoajpaaOpens
namespace Go.Proofs.Ytbdkphjpdoajpaa.Q
open Go.RowKit Go.Proofs.YtbdkphjpdoajpaaW.PrintWords Go.Proofs.YtbdkphjpdoajpaaW.PrintLast Go.Proofs.YtbdkphjpdoajpaaW.PrintMore
attribute [local go_sem] max2_int min2_int max_two min_two max_three min_three max_four min_four   -- for this text's walks alone
set_option linter.unusedVariables false
set_option linter.unusedSimpArgs false

open Go.Proofs.Ytbdkphjpdoajpaa.Opens
theorem op41 {H : Type} {enc : TypeId × Value → H} {w : World} : Opn enc Try.prog w 41 k41 okS41 :=
  Opn.iso (fun a => ⟨a.1, a.2⟩) (fun _ => rfl) (fun a h => ⟨h.1, h.2⟩) (Opn.struct Try.underlying41 (FOp.cons rfl (by kernel_rfl) (Opn.int Try.underlying3) (FOp.last rfl (by kernel_rfl) (by kernel_rfl) (Opn.int Try.underlying2))))
theorem op44 {H : Type} {enc : TypeId × Value → H} {w : World} : Opn enc Try.prog w 44 k44 okS44 :=
  Opn.iso (fun a => ⟨a.1, a.2.1, a.2.2.1, a.2.2.2⟩) (fun _ => rfl) (fun a h => ⟨h.1, h.2.1, h.2.2.1, (by have h_ := h.2.2.2; first | exact h_ | simpa using h_)⟩) (Opn.struct Try.underlying44 (FOp.cons rfl (by kernel_rfl) (Opn.int Try.underlying3) (FOp.cons rfl (by kernel_rfl) (Opn.int Try.underlying3) (FOp.cons rfl (by kernel_rfl) (Opn.int Try.underlying3) (FOp.last rfl (by kernel_rfl) (by kernel_rfl) (Opn.slice Try.underlying42 (by kernel_rfl) op41))))))
theorem op26 {H : Type} {enc : TypeId × Value → H} {w : World} : Opn enc Try.prog w 26 k26 okS26 :=
  Opn.iso (fun a => ⟨a.1, a.2.1, a.2.2⟩) (fun _ => rfl) (fun a h => ⟨h.1, (by have h_ := h.2.1; first | exact h_ | simpa using h_), (by have h_ := h.2.2; first | exact h_ | simpa using h_)⟩) (Opn.struct Try.underlying26 (FOp.cons rfl (by kernel_rfl) (Opn.int Try.underlying3) (FOp.cons rfl (by kernel_rfl) (Opn.slice Try.underlying22 (by kernel_rfl) (Opn.int Try.underlying5)) (FOp.last rfl (by kernel_rfl) (by kernel_rfl) (Opn.slice Try.underlying24 (by kernel_rfl) op44)))))
end Go.Proofs.Ytbdkphjpdoajpaa.Q
