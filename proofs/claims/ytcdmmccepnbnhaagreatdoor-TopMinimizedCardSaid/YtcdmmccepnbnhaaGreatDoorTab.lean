/-
  The table of functions.
-/
import Derived.Test.YtcdmmccepnbnhaaGreatDoorF1
import Derived.KernelRfl
namespace Go.Pv
def tabL : List (Nat × AFunc) := [(10,F10),(12,F12),(14,F14),(25,F25),(29,F29),(30,F30),(32,F32),(39,F39),(43,F43),(44,F44),(45,F45),(46,F46),(47,F47),(48,F48),(49,F49),(50,F50),(58,F58),(59,F59),(60,F60),(66,F66),(76,F76),(77,F77),(95,F95),(108,F108),(110,F110),(117,F117),(118,F118),(152,F152),(155,F155),(157,F157),(159,F159),(171,F171),(174,F174),(177,F177),(179,F179),(180,F180),(181,F181),(182,F182),(186,F186),(187,F187),(188,F188),(189,F189),(190,F190),(194,F194),(197,F197),(198,F198),(200,F200),(203,F203),(212,F212),(213,F213),(215,F215),(219,F219),(221,F221),(222,F222),(224,F224),(225,F225),(237,F237),(240,F240),(242,F242),(246,F246),(247,F247),(248,F248),(249,F249),(250,F250),(251,F251),(253,F253),(254,F254),(255,F255),(256,F256),(257,F257),(258,F258),(546,F546),(547,F547),(548,F548),(549,F549)]
def prL : List (Nat × Prim) := [(51,sortP 4 (sortRows Edge.c Edge.dec Edge.lt) 47),(191,cloneP 1),(196,sortP 3 (sortRows Mov.c Mov.dec Mov.lt) 197)]
def PrA : Prims := fun n => look1 n prL
def A (n : Nat) : Option AFunc := look1 n tabL
@[go_sem] theorem cp51 (vs : List V) (h : Heap) (K : V → Tn → Prop) : CW A PrA 51 vs h K = optK ((sortP 4 (sortRows Edge.c Edge.dec Edge.lt) 47 : Prim) vs h) fun r => K r.1 r.2 := CW_some (by kernel_rfl) (by kernel_rfl) vs h K
@[go_sem] theorem cp191 (vs : List V) (h : Heap) (K : V → Tn → Prop) : CW A PrA 191 vs h K = optK ((cloneP 1 : Prim) vs h) fun r => K r.1 r.2 := CW_some (by kernel_rfl) (by kernel_rfl) vs h K
@[go_sem] theorem cp196 (vs : List V) (h : Heap) (K : V → Tn → Prop) : CW A PrA 196 vs h K = optK ((sortP 3 (sortRows Mov.c Mov.dec Mov.lt) 197 : Prim) vs h) fun r => K r.1 r.2 := CW_some (by kernel_rfl) (by kernel_rfl) vs h K
theorem a10 : A 10 = some F10 := by kernel_rfl
theorem tk10 : takes A 10 = false := by kernel_rfl
@[go_sem] theorem cw10 (vs : List V) (h : Heap) (K : V → Tn → Prop) : CW A PrA 10 vs h K = CN A PrA false 10 vs h K := CW_CN (by kernel_rfl) (by kernel_rfl) tk10 vs h K
theorem a12 : A 12 = some F12 := by kernel_rfl
theorem tk12 : takes A 12 = false := by kernel_rfl
@[go_sem] theorem cw12 (vs : List V) (h : Heap) (K : V → Tn → Prop) : CW A PrA 12 vs h K = CN A PrA false 12 vs h K := CW_CN (by kernel_rfl) (by kernel_rfl) tk12 vs h K
theorem a14 : A 14 = some F14 := by kernel_rfl
theorem tk14 : takes A 14 = false := by kernel_rfl
@[go_sem] theorem cw14 (vs : List V) (h : Heap) (K : V → Tn → Prop) : CW A PrA 14 vs h K = CN A PrA false 14 vs h K := CW_CN (by kernel_rfl) (by kernel_rfl) tk14 vs h K
theorem a25 : A 25 = some F25 := by kernel_rfl
theorem tk25 : takes A 25 = false := by kernel_rfl
@[go_sem] theorem cw25 (vs : List V) (h : Heap) (K : V → Tn → Prop) : CW A PrA 25 vs h K = CN A PrA false 25 vs h K := CW_CN (by kernel_rfl) (by kernel_rfl) tk25 vs h K
theorem a29 : A 29 = some F29 := by kernel_rfl
theorem tk29 : takes A 29 = false := by kernel_rfl
@[go_sem] theorem cw29 (vs : List V) (h : Heap) (K : V → Tn → Prop) : CW A PrA 29 vs h K = CN A PrA false 29 vs h K := CW_CN (by kernel_rfl) (by kernel_rfl) tk29 vs h K
theorem a30 : A 30 = some F30 := by kernel_rfl
theorem tk30 : takes A 30 = false := by kernel_rfl
@[go_sem] theorem cw30 (vs : List V) (h : Heap) (K : V → Tn → Prop) : CW A PrA 30 vs h K = CN A PrA false 30 vs h K := CW_CN (by kernel_rfl) (by kernel_rfl) tk30 vs h K
theorem a32 : A 32 = some F32 := by kernel_rfl
theorem tk32 : takes A 32 = false := by kernel_rfl
@[go_sem] theorem cw32 (vs : List V) (h : Heap) (K : V → Tn → Prop) : CW A PrA 32 vs h K = CN A PrA false 32 vs h K := CW_CN (by kernel_rfl) (by kernel_rfl) tk32 vs h K
theorem a39 : A 39 = some F39 := by kernel_rfl
theorem tk39 : takes A 39 = false := by kernel_rfl
@[go_sem] theorem cw39 (vs : List V) (h : Heap) (K : V → Tn → Prop) : CW A PrA 39 vs h K = CN A PrA false 39 vs h K := CW_CN (by kernel_rfl) (by kernel_rfl) tk39 vs h K
theorem a43 : A 43 = some F43 := by kernel_rfl
theorem tk43 : takes A 43 = false := by kernel_rfl
@[go_sem] theorem cw43 (vs : List V) (h : Heap) (K : V → Tn → Prop) : CW A PrA 43 vs h K = CN A PrA false 43 vs h K := CW_CN (by kernel_rfl) (by kernel_rfl) tk43 vs h K
theorem a44 : A 44 = some F44 := by kernel_rfl
theorem tk44 : takes A 44 = false := by kernel_rfl
@[go_sem] theorem cw44 (vs : List V) (h : Heap) (K : V → Tn → Prop) : CW A PrA 44 vs h K = CN A PrA false 44 vs h K := CW_CN (by kernel_rfl) (by kernel_rfl) tk44 vs h K
theorem a45 : A 45 = some F45 := by kernel_rfl
theorem tk45 : takes A 45 = false := by kernel_rfl
@[go_sem] theorem cw45 (vs : List V) (h : Heap) (K : V → Tn → Prop) : CW A PrA 45 vs h K = CN A PrA false 45 vs h K := CW_CN (by kernel_rfl) (by kernel_rfl) tk45 vs h K
theorem a46 : A 46 = some F46 := by kernel_rfl
theorem tk46 : takes A 46 = false := by kernel_rfl
@[go_sem] theorem cw46 (vs : List V) (h : Heap) (K : V → Tn → Prop) : CW A PrA 46 vs h K = CN A PrA false 46 vs h K := CW_CN (by kernel_rfl) (by kernel_rfl) tk46 vs h K
theorem a47 : A 47 = some F47 := by kernel_rfl
theorem tk47 : takes A 47 = false := by kernel_rfl
@[go_sem] theorem cw47 (vs : List V) (h : Heap) (K : V → Tn → Prop) : CW A PrA 47 vs h K = CN A PrA false 47 vs h K := CW_CN (by kernel_rfl) (by kernel_rfl) tk47 vs h K
theorem a48 : A 48 = some F48 := by kernel_rfl
theorem tk48 : takes A 48 = false := by kernel_rfl
@[go_sem] theorem cw48 (vs : List V) (h : Heap) (K : V → Tn → Prop) : CW A PrA 48 vs h K = CN A PrA false 48 vs h K := CW_CN (by kernel_rfl) (by kernel_rfl) tk48 vs h K
theorem a49 : A 49 = some F49 := by kernel_rfl
theorem tk49 : takes A 49 = false := by kernel_rfl
@[go_sem] theorem cw49 (vs : List V) (h : Heap) (K : V → Tn → Prop) : CW A PrA 49 vs h K = CN A PrA false 49 vs h K := CW_CN (by kernel_rfl) (by kernel_rfl) tk49 vs h K
theorem a50 : A 50 = some F50 := by kernel_rfl
theorem tk50 : takes A 50 = false := by kernel_rfl
@[go_sem] theorem cw50 (vs : List V) (h : Heap) (K : V → Tn → Prop) : CW A PrA 50 vs h K = CN A PrA false 50 vs h K := CW_CN (by kernel_rfl) (by kernel_rfl) tk50 vs h K
theorem a58 : A 58 = some F58 := by kernel_rfl
theorem tk58 : takes A 58 = false := by kernel_rfl
@[go_sem] theorem cw58 (vs : List V) (h : Heap) (K : V → Tn → Prop) : CW A PrA 58 vs h K = CN A PrA false 58 vs h K := CW_CN (by kernel_rfl) (by kernel_rfl) tk58 vs h K
theorem a59 : A 59 = some F59 := by kernel_rfl
theorem tk59 : takes A 59 = false := by kernel_rfl
@[go_sem] theorem cw59 (vs : List V) (h : Heap) (K : V → Tn → Prop) : CW A PrA 59 vs h K = CN A PrA false 59 vs h K := CW_CN (by kernel_rfl) (by kernel_rfl) tk59 vs h K
theorem a60 : A 60 = some F60 := by kernel_rfl
theorem tk60 : takes A 60 = false := by kernel_rfl
@[go_sem] theorem cw60 (vs : List V) (h : Heap) (K : V → Tn → Prop) : CW A PrA 60 vs h K = CN A PrA false 60 vs h K := CW_CN (by kernel_rfl) (by kernel_rfl) tk60 vs h K
theorem a66 : A 66 = some F66 := by kernel_rfl
theorem tk66 : takes A 66 = false := by kernel_rfl
@[go_sem] theorem cw66 (vs : List V) (h : Heap) (K : V → Tn → Prop) : CW A PrA 66 vs h K = CN A PrA false 66 vs h K := CW_CN (by kernel_rfl) (by kernel_rfl) tk66 vs h K
theorem a76 : A 76 = some F76 := by kernel_rfl
theorem tk76 : takes A 76 = false := by kernel_rfl
@[go_sem] theorem cw76 (vs : List V) (h : Heap) (K : V → Tn → Prop) : CW A PrA 76 vs h K = CN A PrA false 76 vs h K := CW_CN (by kernel_rfl) (by kernel_rfl) tk76 vs h K
theorem a77 : A 77 = some F77 := by kernel_rfl
theorem tk77 : takes A 77 = false := by kernel_rfl
@[go_sem] theorem cw77 (vs : List V) (h : Heap) (K : V → Tn → Prop) : CW A PrA 77 vs h K = CN A PrA false 77 vs h K := CW_CN (by kernel_rfl) (by kernel_rfl) tk77 vs h K
theorem a95 : A 95 = some F95 := by kernel_rfl
theorem tk95 : takes A 95 = false := by kernel_rfl
@[go_sem] theorem cw95 (vs : List V) (h : Heap) (K : V → Tn → Prop) : CW A PrA 95 vs h K = CN A PrA false 95 vs h K := CW_CN (by kernel_rfl) (by kernel_rfl) tk95 vs h K
theorem a108 : A 108 = some F108 := by kernel_rfl
theorem tk108 : takes A 108 = false := by kernel_rfl
@[go_sem] theorem cw108 (vs : List V) (h : Heap) (K : V → Tn → Prop) : CW A PrA 108 vs h K = CN A PrA false 108 vs h K := CW_CN (by kernel_rfl) (by kernel_rfl) tk108 vs h K
theorem a110 : A 110 = some F110 := by kernel_rfl
theorem tk110 : takes A 110 = false := by kernel_rfl
@[go_sem] theorem cw110 (vs : List V) (h : Heap) (K : V → Tn → Prop) : CW A PrA 110 vs h K = CN A PrA false 110 vs h K := CW_CN (by kernel_rfl) (by kernel_rfl) tk110 vs h K
theorem a117 : A 117 = some F117 := by kernel_rfl
theorem tk117 : takes A 117 = false := by kernel_rfl
@[go_sem] theorem cw117 (vs : List V) (h : Heap) (K : V → Tn → Prop) : CW A PrA 117 vs h K = CN A PrA false 117 vs h K := CW_CN (by kernel_rfl) (by kernel_rfl) tk117 vs h K
theorem a118 : A 118 = some F118 := by kernel_rfl
theorem tk118 : takes A 118 = false := by kernel_rfl
@[go_sem] theorem cw118 (vs : List V) (h : Heap) (K : V → Tn → Prop) : CW A PrA 118 vs h K = CN A PrA false 118 vs h K := CW_CN (by kernel_rfl) (by kernel_rfl) tk118 vs h K
theorem a152 : A 152 = some F152 := by kernel_rfl
theorem tk152 : takes A 152 = false := by kernel_rfl
@[go_sem] theorem cw152 (vs : List V) (h : Heap) (K : V → Tn → Prop) : CW A PrA 152 vs h K = CN A PrA false 152 vs h K := CW_CN (by kernel_rfl) (by kernel_rfl) tk152 vs h K
theorem a155 : A 155 = some F155 := by kernel_rfl
theorem tk155 : takes A 155 = false := by kernel_rfl
@[go_sem] theorem cw155 (vs : List V) (h : Heap) (K : V → Tn → Prop) : CW A PrA 155 vs h K = CN A PrA false 155 vs h K := CW_CN (by kernel_rfl) (by kernel_rfl) tk155 vs h K
theorem a157 : A 157 = some F157 := by kernel_rfl
theorem tk157 : takes A 157 = false := by kernel_rfl
@[go_sem] theorem cw157 (vs : List V) (h : Heap) (K : V → Tn → Prop) : CW A PrA 157 vs h K = CN A PrA false 157 vs h K := CW_CN (by kernel_rfl) (by kernel_rfl) tk157 vs h K
theorem a159 : A 159 = some F159 := by kernel_rfl
theorem tk159 : takes A 159 = false := by kernel_rfl
@[go_sem] theorem cw159 (vs : List V) (h : Heap) (K : V → Tn → Prop) : CW A PrA 159 vs h K = CN A PrA false 159 vs h K := CW_CN (by kernel_rfl) (by kernel_rfl) tk159 vs h K
theorem a171 : A 171 = some F171 := by kernel_rfl
theorem tk171 : takes A 171 = false := by kernel_rfl
@[go_sem] theorem cw171 (vs : List V) (h : Heap) (K : V → Tn → Prop) : CW A PrA 171 vs h K = CN A PrA false 171 vs h K := CW_CN (by kernel_rfl) (by kernel_rfl) tk171 vs h K
theorem a174 : A 174 = some F174 := by kernel_rfl
theorem tk174 : takes A 174 = false := by kernel_rfl
@[go_sem] theorem cw174 (vs : List V) (h : Heap) (K : V → Tn → Prop) : CW A PrA 174 vs h K = CN A PrA false 174 vs h K := CW_CN (by kernel_rfl) (by kernel_rfl) tk174 vs h K
theorem a177 : A 177 = some F177 := by kernel_rfl
theorem tk177 : takes A 177 = false := by kernel_rfl
@[go_sem] theorem cw177 (vs : List V) (h : Heap) (K : V → Tn → Prop) : CW A PrA 177 vs h K = CN A PrA false 177 vs h K := CW_CN (by kernel_rfl) (by kernel_rfl) tk177 vs h K
theorem a179 : A 179 = some F179 := by kernel_rfl
theorem tk179 : takes A 179 = false := by kernel_rfl
@[go_sem] theorem cw179 (vs : List V) (h : Heap) (K : V → Tn → Prop) : CW A PrA 179 vs h K = CN A PrA false 179 vs h K := CW_CN (by kernel_rfl) (by kernel_rfl) tk179 vs h K
theorem a180 : A 180 = some F180 := by kernel_rfl
theorem tk180 : takes A 180 = false := by kernel_rfl
@[go_sem] theorem cw180 (vs : List V) (h : Heap) (K : V → Tn → Prop) : CW A PrA 180 vs h K = CN A PrA false 180 vs h K := CW_CN (by kernel_rfl) (by kernel_rfl) tk180 vs h K
theorem a181 : A 181 = some F181 := by kernel_rfl
theorem tk181 : takes A 181 = false := by kernel_rfl
@[go_sem] theorem cw181 (vs : List V) (h : Heap) (K : V → Tn → Prop) : CW A PrA 181 vs h K = CN A PrA false 181 vs h K := CW_CN (by kernel_rfl) (by kernel_rfl) tk181 vs h K
theorem a182 : A 182 = some F182 := by kernel_rfl
theorem tk182 : takes A 182 = false := by kernel_rfl
@[go_sem] theorem cw182 (vs : List V) (h : Heap) (K : V → Tn → Prop) : CW A PrA 182 vs h K = CN A PrA false 182 vs h K := CW_CN (by kernel_rfl) (by kernel_rfl) tk182 vs h K
theorem a186 : A 186 = some F186 := by kernel_rfl
theorem tk186 : takes A 186 = false := by kernel_rfl
@[go_sem] theorem cw186 (vs : List V) (h : Heap) (K : V → Tn → Prop) : CW A PrA 186 vs h K = CN A PrA false 186 vs h K := CW_CN (by kernel_rfl) (by kernel_rfl) tk186 vs h K
theorem a187 : A 187 = some F187 := by kernel_rfl
theorem tk187 : takes A 187 = false := by kernel_rfl
@[go_sem] theorem cw187 (vs : List V) (h : Heap) (K : V → Tn → Prop) : CW A PrA 187 vs h K = CN A PrA false 187 vs h K := CW_CN (by kernel_rfl) (by kernel_rfl) tk187 vs h K
theorem a188 : A 188 = some F188 := by kernel_rfl
theorem tk188 : takes A 188 = false := by kernel_rfl
@[go_sem] theorem cw188 (vs : List V) (h : Heap) (K : V → Tn → Prop) : CW A PrA 188 vs h K = CN A PrA false 188 vs h K := CW_CN (by kernel_rfl) (by kernel_rfl) tk188 vs h K
theorem a189 : A 189 = some F189 := by kernel_rfl
theorem tk189 : takes A 189 = false := by kernel_rfl
@[go_sem] theorem cw189 (vs : List V) (h : Heap) (K : V → Tn → Prop) : CW A PrA 189 vs h K = CN A PrA false 189 vs h K := CW_CN (by kernel_rfl) (by kernel_rfl) tk189 vs h K
theorem a190 : A 190 = some F190 := by kernel_rfl
theorem tk190 : takes A 190 = false := by kernel_rfl
@[go_sem] theorem cw190 (vs : List V) (h : Heap) (K : V → Tn → Prop) : CW A PrA 190 vs h K = CN A PrA false 190 vs h K := CW_CN (by kernel_rfl) (by kernel_rfl) tk190 vs h K
theorem a194 : A 194 = some F194 := by kernel_rfl
theorem tk194 : takes A 194 = false := by kernel_rfl
@[go_sem] theorem cw194 (vs : List V) (h : Heap) (K : V → Tn → Prop) : CW A PrA 194 vs h K = CN A PrA false 194 vs h K := CW_CN (by kernel_rfl) (by kernel_rfl) tk194 vs h K
theorem a197 : A 197 = some F197 := by kernel_rfl
theorem tk197 : takes A 197 = false := by kernel_rfl
@[go_sem] theorem cw197 (vs : List V) (h : Heap) (K : V → Tn → Prop) : CW A PrA 197 vs h K = CN A PrA false 197 vs h K := CW_CN (by kernel_rfl) (by kernel_rfl) tk197 vs h K
theorem a198 : A 198 = some F198 := by kernel_rfl
theorem tk198 : takes A 198 = false := by kernel_rfl
@[go_sem] theorem cw198 (vs : List V) (h : Heap) (K : V → Tn → Prop) : CW A PrA 198 vs h K = CN A PrA false 198 vs h K := CW_CN (by kernel_rfl) (by kernel_rfl) tk198 vs h K
theorem a200 : A 200 = some F200 := by kernel_rfl
theorem tk200 : takes A 200 = false := by kernel_rfl
@[go_sem] theorem cw200 (vs : List V) (h : Heap) (K : V → Tn → Prop) : CW A PrA 200 vs h K = CN A PrA false 200 vs h K := CW_CN (by kernel_rfl) (by kernel_rfl) tk200 vs h K
theorem a203 : A 203 = some F203 := by kernel_rfl
theorem tk203 : takes A 203 = false := by kernel_rfl
@[go_sem] theorem cw203 (vs : List V) (h : Heap) (K : V → Tn → Prop) : CW A PrA 203 vs h K = CN A PrA false 203 vs h K := CW_CN (by kernel_rfl) (by kernel_rfl) tk203 vs h K
theorem a212 : A 212 = some F212 := by kernel_rfl
theorem tk212 : takes A 212 = false := by kernel_rfl
@[go_sem] theorem cw212 (vs : List V) (h : Heap) (K : V → Tn → Prop) : CW A PrA 212 vs h K = CN A PrA false 212 vs h K := CW_CN (by kernel_rfl) (by kernel_rfl) tk212 vs h K
theorem a213 : A 213 = some F213 := by kernel_rfl
theorem tk213 : takes A 213 = false := by kernel_rfl
@[go_sem] theorem cw213 (vs : List V) (h : Heap) (K : V → Tn → Prop) : CW A PrA 213 vs h K = CN A PrA false 213 vs h K := CW_CN (by kernel_rfl) (by kernel_rfl) tk213 vs h K
theorem a215 : A 215 = some F215 := by kernel_rfl
theorem tk215 : takes A 215 = false := by kernel_rfl
@[go_sem] theorem cw215 (vs : List V) (h : Heap) (K : V → Tn → Prop) : CW A PrA 215 vs h K = CN A PrA false 215 vs h K := CW_CN (by kernel_rfl) (by kernel_rfl) tk215 vs h K
theorem a219 : A 219 = some F219 := by kernel_rfl
theorem tk219 : takes A 219 = false := by kernel_rfl
@[go_sem] theorem cw219 (vs : List V) (h : Heap) (K : V → Tn → Prop) : CW A PrA 219 vs h K = CN A PrA false 219 vs h K := CW_CN (by kernel_rfl) (by kernel_rfl) tk219 vs h K
theorem a221 : A 221 = some F221 := by kernel_rfl
theorem tk221 : takes A 221 = false := by kernel_rfl
@[go_sem] theorem cw221 (vs : List V) (h : Heap) (K : V → Tn → Prop) : CW A PrA 221 vs h K = CN A PrA false 221 vs h K := CW_CN (by kernel_rfl) (by kernel_rfl) tk221 vs h K
theorem a222 : A 222 = some F222 := by kernel_rfl
theorem tk222 : takes A 222 = false := by kernel_rfl
@[go_sem] theorem cw222 (vs : List V) (h : Heap) (K : V → Tn → Prop) : CW A PrA 222 vs h K = CN A PrA false 222 vs h K := CW_CN (by kernel_rfl) (by kernel_rfl) tk222 vs h K
theorem a224 : A 224 = some F224 := by kernel_rfl
theorem tk224 : takes A 224 = false := by kernel_rfl
@[go_sem] theorem cw224 (vs : List V) (h : Heap) (K : V → Tn → Prop) : CW A PrA 224 vs h K = CN A PrA false 224 vs h K := CW_CN (by kernel_rfl) (by kernel_rfl) tk224 vs h K
theorem a225 : A 225 = some F225 := by kernel_rfl
theorem tk225 : takes A 225 = false := by kernel_rfl
@[go_sem] theorem cw225 (vs : List V) (h : Heap) (K : V → Tn → Prop) : CW A PrA 225 vs h K = CN A PrA false 225 vs h K := CW_CN (by kernel_rfl) (by kernel_rfl) tk225 vs h K
theorem a237 : A 237 = some F237 := by kernel_rfl
theorem tk237 : takes A 237 = false := by kernel_rfl
@[go_sem] theorem cw237 (vs : List V) (h : Heap) (K : V → Tn → Prop) : CW A PrA 237 vs h K = CN A PrA false 237 vs h K := CW_CN (by kernel_rfl) (by kernel_rfl) tk237 vs h K
theorem a240 : A 240 = some F240 := by kernel_rfl
theorem tk240 : takes A 240 = false := by kernel_rfl
@[go_sem] theorem cw240 (vs : List V) (h : Heap) (K : V → Tn → Prop) : CW A PrA 240 vs h K = CN A PrA false 240 vs h K := CW_CN (by kernel_rfl) (by kernel_rfl) tk240 vs h K
theorem a242 : A 242 = some F242 := by kernel_rfl
theorem tk242 : takes A 242 = false := by kernel_rfl
@[go_sem] theorem cw242 (vs : List V) (h : Heap) (K : V → Tn → Prop) : CW A PrA 242 vs h K = CN A PrA false 242 vs h K := CW_CN (by kernel_rfl) (by kernel_rfl) tk242 vs h K
theorem a246 : A 246 = some F246 := by kernel_rfl
theorem tk246 : takes A 246 = false := by kernel_rfl
@[go_sem] theorem cw246 (vs : List V) (h : Heap) (K : V → Tn → Prop) : CW A PrA 246 vs h K = CN A PrA false 246 vs h K := CW_CN (by kernel_rfl) (by kernel_rfl) tk246 vs h K
theorem a247 : A 247 = some F247 := by kernel_rfl
theorem tk247 : takes A 247 = false := by kernel_rfl
@[go_sem] theorem cw247 (vs : List V) (h : Heap) (K : V → Tn → Prop) : CW A PrA 247 vs h K = CN A PrA false 247 vs h K := CW_CN (by kernel_rfl) (by kernel_rfl) tk247 vs h K
theorem a248 : A 248 = some F248 := by kernel_rfl
theorem tk248 : takes A 248 = false := by kernel_rfl
@[go_sem] theorem cw248 (vs : List V) (h : Heap) (K : V → Tn → Prop) : CW A PrA 248 vs h K = CN A PrA false 248 vs h K := CW_CN (by kernel_rfl) (by kernel_rfl) tk248 vs h K
theorem a249 : A 249 = some F249 := by kernel_rfl
theorem tk249 : takes A 249 = false := by kernel_rfl
@[go_sem] theorem cw249 (vs : List V) (h : Heap) (K : V → Tn → Prop) : CW A PrA 249 vs h K = CN A PrA false 249 vs h K := CW_CN (by kernel_rfl) (by kernel_rfl) tk249 vs h K
theorem a250 : A 250 = some F250 := by kernel_rfl
theorem tk250 : takes A 250 = false := by kernel_rfl
@[go_sem] theorem cw250 (vs : List V) (h : Heap) (K : V → Tn → Prop) : CW A PrA 250 vs h K = CN A PrA false 250 vs h K := CW_CN (by kernel_rfl) (by kernel_rfl) tk250 vs h K
theorem a251 : A 251 = some F251 := by kernel_rfl
theorem tk251 : takes A 251 = false := by kernel_rfl
@[go_sem] theorem cw251 (vs : List V) (h : Heap) (K : V → Tn → Prop) : CW A PrA 251 vs h K = CN A PrA false 251 vs h K := CW_CN (by kernel_rfl) (by kernel_rfl) tk251 vs h K
theorem a253 : A 253 = some F253 := by kernel_rfl
theorem tk253 : takes A 253 = false := by kernel_rfl
@[go_sem] theorem cw253 (vs : List V) (h : Heap) (K : V → Tn → Prop) : CW A PrA 253 vs h K = CN A PrA false 253 vs h K := CW_CN (by kernel_rfl) (by kernel_rfl) tk253 vs h K
theorem a254 : A 254 = some F254 := by kernel_rfl
@[go_sem] theorem cw254 (vs : List V) (h : Heap) (K : V → Tn → Prop) : CW A PrA 254 vs h K = IW A PrA 254 vs h K := CW_inl (by kernel_rfl) vs h K
theorem a255 : A 255 = some F255 := by kernel_rfl
theorem tk255 : takes A 255 = false := by kernel_rfl
@[go_sem] theorem cw255 (vs : List V) (h : Heap) (K : V → Tn → Prop) : CW A PrA 255 vs h K = CN A PrA false 255 vs h K := CW_CN (by kernel_rfl) (by kernel_rfl) tk255 vs h K
theorem a256 : A 256 = some F256 := by kernel_rfl
@[go_sem] theorem cw256 (vs : List V) (h : Heap) (K : V → Tn → Prop) : CW A PrA 256 vs h K = IW A PrA 256 vs h K := CW_inl (by kernel_rfl) vs h K
theorem a257 : A 257 = some F257 := by kernel_rfl
theorem tk257 : takes A 257 = false := by kernel_rfl
@[go_sem] theorem cw257 (vs : List V) (h : Heap) (K : V → Tn → Prop) : CW A PrA 257 vs h K = CN A PrA false 257 vs h K := CW_CN (by kernel_rfl) (by kernel_rfl) tk257 vs h K
theorem a258 : A 258 = some F258 := by kernel_rfl
theorem tk258 : takes A 258 = false := by kernel_rfl
@[go_sem] theorem cw258 (vs : List V) (h : Heap) (K : V → Tn → Prop) : CW A PrA 258 vs h K = CN A PrA false 258 vs h K := CW_CN (by kernel_rfl) (by kernel_rfl) tk258 vs h K
theorem a546 : A 546 = some F546 := by kernel_rfl
theorem tk546 : takes A 546 = false := by kernel_rfl
@[go_sem] theorem cw546 (vs : List V) (h : Heap) (K : V → Tn → Prop) : CW A PrA 546 vs h K = CN A PrA false 546 vs h K := CW_CN (by kernel_rfl) (by kernel_rfl) tk546 vs h K
theorem a547 : A 547 = some F547 := by kernel_rfl
theorem tk547 : takes A 547 = false := by kernel_rfl
@[go_sem] theorem cw547 (vs : List V) (h : Heap) (K : V → Tn → Prop) : CW A PrA 547 vs h K = CN A PrA false 547 vs h K := CW_CN (by kernel_rfl) (by kernel_rfl) tk547 vs h K
theorem a548 : A 548 = some F548 := by kernel_rfl
theorem tk548 : takes A 548 = false := by kernel_rfl
@[go_sem] theorem cw548 (vs : List V) (h : Heap) (K : V → Tn → Prop) : CW A PrA 548 vs h K = CN A PrA false 548 vs h K := CW_CN (by kernel_rfl) (by kernel_rfl) tk548 vs h K
theorem a549 : A 549 = some F549 := by kernel_rfl
theorem tk549 : takes A 549 = false := by kernel_rfl
@[go_sem] theorem cw549 (vs : List V) (h : Heap) (K : V → Tn → Prop) : CW A PrA 549 vs h K = CN A PrA false 549 vs h K := CW_CN (by kernel_rfl) (by kernel_rfl) tk549 vs h K
end Go.Pv
