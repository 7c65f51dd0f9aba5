-- written by a program of this session after the way of the kit's print; not the kit's own print. Lean checks it.
import Derived.Test.YtgngbbkaghmnpaaQx0
import Derived.Test.YtgngbbkaghmnpaaOpens
namespace Go.Proofs.Ytgngbbkaghmnpaa.Q
open Go.RowKit Go.Proofs.YtgngbbkaghmnpaaW.PrintWords Go.Proofs.YtgngbbkaghmnpaaW.PrintLast Go.Proofs.YtgngbbkaghmnpaaW.PrintMore
attribute [local go_sem] max2_int min2_int max_two min_two max_three min_three max_four min_four   -- for this text's walks alone
set_option linter.unusedVariables false
set_option linter.unusedSimpArgs false

open Go.Proofs.Ytgngbbkaghmnpaa.Opens
theorem op46 {H : Type} {enc : TypeId × Value → H} {w : World} : Opn enc Try.prog w 46 k46 okS46 :=
  Opn.iso (fun a => ⟨a.1, a.2⟩) (fun _ => rfl) (fun a h => ⟨h.1, h.2⟩) (Opn.struct Try.underlying46 (FOp.cons rfl (by kernel_rfl) (Opn.int Try.underlying3) (FOp.last rfl (by kernel_rfl) (by kernel_rfl) (Opn.int Try.underlying2))))
theorem op42 {H : Type} {enc : TypeId × Value → H} {w : World} : Opn enc Try.prog w 42 k42 okS42 :=
  Opn.iso (fun a => ⟨a.1, a.2.1, a.2.2.1, a.2.2.2⟩) (fun _ => rfl) (fun a h => ⟨h.1, h.2.1, h.2.2.1, (by have h_ := h.2.2.2; first | exact h_ | simpa using h_)⟩) (Opn.struct Try.underlying42 (FOp.cons rfl (by kernel_rfl) (Opn.int Try.underlying3) (FOp.cons rfl (by kernel_rfl) (Opn.int Try.underlying3) (FOp.cons rfl (by kernel_rfl) (Opn.int Try.underlying3) (FOp.last rfl (by kernel_rfl) (by kernel_rfl) (Opn.slice Try.underlying40 (by kernel_rfl) op46))))))
theorem op25 {H : Type} {enc : TypeId × Value → H} {w : World} : Opn enc Try.prog w 25 k25 okS25 :=
  Opn.iso (fun a => ⟨a.1, a.2.1, a.2.2⟩) (fun _ => rfl) (fun a h => ⟨h.1, (by have h_ := h.2.1; first | exact h_ | simpa using h_), (by have h_ := h.2.2; first | exact h_ | simpa using h_)⟩) (Opn.struct Try.underlying25 (FOp.cons rfl (by kernel_rfl) (Opn.int Try.underlying3) (FOp.cons rfl (by kernel_rfl) (Opn.slice Try.underlying22 (by kernel_rfl) (Opn.int Try.underlying5)) (FOp.last rfl (by kernel_rfl) (by kernel_rfl) (Opn.slice Try.underlying23 (by kernel_rfl) op42)))))
end Go.Proofs.Ytgngbbkaghmnpaa.Q
