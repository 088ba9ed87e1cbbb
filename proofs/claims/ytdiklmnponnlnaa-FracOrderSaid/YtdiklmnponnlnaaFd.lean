import Derived.Test.YtdiklmnponnlnaaFc
namespace Go.Proofs.Ytdiklmnponnlnaa
open Go.RowKit
def frac_Cmp.f (i q s j p t : Int) : Option Int := some (cmpK i q s j p t)
theorem frac_Cmp.calls (i q s j p t : Int) (r : Int) (w : World) (h : frac_Cmp.f i q s j p t = some r) :
    Calls Try.prog 12 #[.agg #[.int .i64 i, .int .i64 q, .int .i64 s], .agg #[.int .i64 j, .int .i64 p, .int .i64 t]] w fun e w' => e = .returned (.int .i64 r) ∧ Below w.heap.size w w' := by
  obtain rfl := Option.some.inj h
  exact cmp_any i q s j p t w
end Go.Proofs.Ytdiklmnponnlnaa
