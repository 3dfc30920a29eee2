/-
  Numbers within bounds, elements, and rows lent to a search: answers. No condition.
-/
import Derived.Test.YtngoglhlhlfknaaGreatZRk
import Derived.Test.YtngoglhlhlfknaaGreatZTm
namespace Go.Eb
open Go.RowKit

def dec3 : List AV → Option (Int × Int × Int)
  | [.c (.d (.v (.int .i64 a))), .c (.d (.v (.int .i64 b))), .c (.d (.v (.int .i64 c)))] => some (a, b, c)
  | _ => none
theorem dec3_ok (args : List AV) (a : Int × Int × Int) (h : dec3 args = some a) : args = [vI a.1, vI a.2.1, vI a.2.2] := by
  unfold dec3 at h
  split at h
  · cases h; rfl
  · simp at h
def decE : List AV → Option (Bool × Int × Int × Int)
  | [.agg [.d (.v (.bool o)), .d (.v (.int .i64 a)), .d (.v (.int .i64 b))], .c (.d (.v (.int .i64 c)))] => some (o, a, b, c)
  | _ => none
theorem decE_ok (args : List AV) (a : Bool × Int × Int × Int) (h : decE args = some a) : args = [.agg [.d (dB a.1), .d (dI a.2.1), .d (dI a.2.2.1)], vI a.2.2.2] := by
  unfold decE at h
  split at h
  · cases h; rfl
  · simp at h
/-- an element with a least delay is in its ranges -/
def elOk (on : Bool) (pk dl least : Int) : Bool := bif on then within pk 1 16383 && within dl least 500 else (pk == 0) && (dl == 0)
end Go.Eb
