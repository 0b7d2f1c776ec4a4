import PyProof.Rows.All
import Wide.All
import OpenK.AllK
import Wide.FinOn
import PySem.Challenge.RW_chairclans_k24_promised_distances
open PySem PySem.W PySem.W.X PyProof.Rows
set_option Elab.async false
set_option maxRecDepth 100000 in
set_option maxHeartbeats 0 in
theorem PySem.Challenge.cw_chairclans_k24_promised_distances_holds : PySem.Challenge.rw_chairclans_k24_promised_distances.Holds := by
  open_z
