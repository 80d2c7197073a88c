/- A part of the proof that the law of the statement is true of all inputs: VX6. -/
import Derived.Test.YtomcbkfnbagekaaGreatVh
/- The fixed calls of the examples come to true: a closed run, checked by the kernel. -/
set_option maxRecDepth 100000
namespace Go.Proofs.YtomcbkfnbagekaaGreat
open Go Go.Vm
theorem con6 : Con0 E0 6 [] [] (.bool true) [] := execX_ok good0 hooks_ok 400 6 [] [] (.bool true) [] (by kernel_rfl)
end Go.Proofs.YtomcbkfnbagekaaGreat
