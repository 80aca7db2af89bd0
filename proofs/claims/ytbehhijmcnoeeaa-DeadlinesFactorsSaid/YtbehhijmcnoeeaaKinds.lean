/- The program's structs read as data, read as the printed functions' own structures; no conditions. -/
import Derived.Test.YtbehhijmcnoeeaaOpens
import Derived.Test.YtbehhijmcnoeeaaXAx0
namespace Go.Proofs.Ytbehhijmcnoeeaa
open Go.Proofs.Ytbehhijmcnoeeaa.Opens Go.Proofs.Ytbehhijmcnoeeaa.XA Go.Proofs.YtbehhijmcnoeeaaW.PrintWords

theorem Opens.o34 : Opens Try.prog k34 34 (fun x => (Lit.int .i64 x.f0).wf = true ∧ (Lit.int .i64 x.f1).wf = true) :=
  opens_iso (opens_two Try.underlying34 (opens_int Try.underlying3 (by kernel_rfl)) (opens_int Try.underlying3 (by kernel_rfl)) rfl rfl (by kernel_rfl)) _ (fun y => ⟨y.1, y.2⟩) (fun _ => rfl)
theorem Opens.o49 : Opens Try.prog k49 49 (fun x => x.f0.size ≤ 9223372036854775807 ∧ (Lit.int .i64 x.f1).wf = true ∧ (Lit.int .i64 x.f2).wf = true) :=
  opens_iso (opens_three Try.underlying49 (opens_string Try.underlying9 (by kernel_rfl)) (opens_int Try.underlying3 (by kernel_rfl)) (opens_int Try.underlying3 (by kernel_rfl)) rfl rfl rfl (by kernel_rfl)) _ (fun y => ⟨y.1, y.2.1, y.2.2⟩) (fun _ => rfl)
end Go.Proofs.Ytbehhijmcnoeeaa
