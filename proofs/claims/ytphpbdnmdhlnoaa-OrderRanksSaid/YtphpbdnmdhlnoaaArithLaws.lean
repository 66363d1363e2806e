/-
  The laws of chapter 1 that reach little: Div, Gcd, Up.
-/
import Derived.Test.YtphpbdnmdhlnoaaArith2
import Derived.Test.YtphpbdnmdhlnoaaRef01
import Derived.Deep.RegionWith
namespace Go.Proofs.Ytphpbdnmdhlnoaa
open Go.RowKit

end Go.Proofs.Ytphpbdnmdhlnoaa
