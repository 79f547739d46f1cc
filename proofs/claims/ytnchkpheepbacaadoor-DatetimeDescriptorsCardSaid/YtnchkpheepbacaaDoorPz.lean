/- A stamp that Stamp writes is read as its time and zone. -/
import Derived.Test.YtnchkpheepbacaaDoorPf
import Derived.Test.YtnchkpheepbacaaDoorPg
import Derived.Test.YtnchkpheepbacaaDoorSt
namespace Go.Proofs.YtnchkpheepbacaaDoor.Pure
open Go.RowKit Go.Proofs.YtnchkpheepbacaaDoor.Hand Go.Proofs.YtnchkpheepbacaaDoor.Q Go.Proofs.YtnchkpheepbacaaDoor.Cal Go.Proofs.YtnchkpheepbacaaDoorW.PrintWords

theorem nums_size (l : List Int) : (strOfNums l).size = l.length := by
  show (strOfNums l).data.size = _
  rw [← Array.length_toList, strOfNums_data, List.length_map]
end Go.Proofs.YtnchkpheepbacaaDoor.Pure
