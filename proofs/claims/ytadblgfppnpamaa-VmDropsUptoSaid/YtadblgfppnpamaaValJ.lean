/- Plain: poison. No conditions. -/
import Derived.Test.YtadblgfppnpamaaValI
namespace Go.Proofs.Ytadblgfppnpamaa
open Go.RowKit
theorem clean_none0 : clean none0 = none0 := clean_none _ (by simp [none0]) (by simp [none0])
theorem fits0 : none0.fits := by simp [none0, V.fits]
/-- What Apply answers lies within the values, and counts as itself. -/
theorem rest_none {op : Int} {l : List V} (h : resK op (l.map fun x => (clean x).k) = 0) : restV op l = none := if_pos h
end Go.Proofs.Ytadblgfppnpamaa
