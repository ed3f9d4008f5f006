/- The walk of BottomkNil, told of the arguments as the row has them. Condition: the settings' fields are bytes. -/
import Derived.Test.YtddhpkobingmhaaSk30

namespace Go.Proofs.Ytddhpkobingmhaa.PB
open Go.RowKit Go.Proofs.YtddhpkobingmhaaW.PrintWords Go.Proofs.YtddhpkobingmhaaW.PrintLast Go.Proofs.YtddhpkobingmhaaW.PrintMore

theorem nil_row (x y u v : Int) (key : ByteArray) (w : World) (wx : (Lit.int .u8 x).wf = true) (wy : (Lit.int .u8 y).wf = true) (wu : (Lit.int .u8 u).wf = true) (wv : (Lit.int .u8 v).wf = true) :
    Calls Try.prog 11 #[.agg #[.int .u8 x, .int .u8 y], .agg #[.int .u8 u, .int .u8 v], .string key] w fun e w' => e = .returned (.bool true) ∧ Below w.heap.size w w' :=
  nil_walk x y u v (byte_wf wx).1 (byte_wf wx).2 (byte_wf wy).1 (byte_wf wy).2 (byte_wf wu).1 (byte_wf wu).2 (byte_wf wv).1 (byte_wf wv).2 key w
end Go.Proofs.Ytddhpkobingmhaa.PB
