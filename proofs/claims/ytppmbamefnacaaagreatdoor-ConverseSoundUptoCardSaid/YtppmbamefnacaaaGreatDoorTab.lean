/-
  The table of functions.
-/
import Derived.Test.YtppmbamefnacaaaGreatDoorF1
import Derived.KernelRfl
namespace Go.Pv
def tabL : List (Nat × AFunc) := [(25,F25),(26,F26),(29,F29),(39,F39),(43,F43),(44,F44),(45,F45),(46,F46),(47,F47),(58,F58),(59,F59),(60,F60),(66,F66),(77,F77),(95,F95),(106,F106),(108,F108),(110,F110),(117,F117),(118,F118),(152,F152),(153,F153),(154,F154),(155,F155),(156,F156),(157,F157),(158,F158),(159,F159),(160,F160),(164,F164),(167,F167),(168,F168),(169,F169),(171,F171),(173,F173),(174,F174),(176,F176),(177,F177),(178,F178),(179,F179),(180,F180),(181,F181),(182,F182),(183,F183),(184,F184),(186,F186),(187,F187),(188,F188),(189,F189),(190,F190),(192,F192),(197,F197),(198,F198),(235,F235),(236,F236),(240,F240),(241,F241),(243,F243),(244,F244),(245,F245),(246,F246),(247,F247),(248,F248),(249,F249),(250,F250),(251,F251),(253,F253),(254,F254),(255,F255),(256,F256),(257,F257),(258,F258),(528,F528),(534,F534),(541,F541)]
def prL : List (Nat × Prim) := [(191,cloneP 1),(194,itoaP),(196,sortP 3 (sortRows Mov.c Mov.dec Mov.lt) 197),(252,autoP)]
def PrA : Prims := fun n => look1 n prL
def A (n : Nat) : Option AFunc := look1 n tabL
@[go_sem] theorem cp191 (vs : List V) (h : Heap) (K : V → Tn → Prop) : CW A PrA 191 vs h K = optK ((cloneP 1 : Prim) vs h) fun r => K r.1 r.2 := CW_some (by kernel_rfl) (by kernel_rfl) vs h K
@[go_sem] theorem cp194 (vs : List V) (h : Heap) (K : V → Tn → Prop) : CW A PrA 194 vs h K = optK ((itoaP : Prim) vs h) fun r => K r.1 r.2 := CW_some (by kernel_rfl) (by kernel_rfl) vs h K
@[go_sem] theorem cp196 (vs : List V) (h : Heap) (K : V → Tn → Prop) : CW A PrA 196 vs h K = optK ((sortP 3 (sortRows Mov.c Mov.dec Mov.lt) 197 : Prim) vs h) fun r => K r.1 r.2 := CW_some (by kernel_rfl) (by kernel_rfl) vs h K
@[go_sem] theorem cp252 (vs : List V) (h : Heap) (K : V → Tn → Prop) : CW A PrA 252 vs h K = optK ((autoP : Prim) vs h) fun r => K r.1 r.2 := CW_some (by kernel_rfl) (by kernel_rfl) vs h K
theorem a25 : A 25 = some F25 := by kernel_rfl
theorem tk25 : takes A 25 = false := by kernel_rfl
@[go_sem] theorem cw25 (vs : List V) (h : Heap) (K : V → Tn → Prop) : CW A PrA 25 vs h K = CN A PrA false 25 vs h K := CW_CN (by kernel_rfl) (by kernel_rfl) tk25 vs h K
theorem a26 : A 26 = some F26 := by kernel_rfl
theorem tk26 : takes A 26 = false := by kernel_rfl
@[go_sem] theorem cw26 (vs : List V) (h : Heap) (K : V → Tn → Prop) : CW A PrA 26 vs h K = CN A PrA false 26 vs h K := CW_CN (by kernel_rfl) (by kernel_rfl) tk26 vs h K
theorem a29 : A 29 = some F29 := by kernel_rfl
theorem tk29 : takes A 29 = false := by kernel_rfl
@[go_sem] theorem cw29 (vs : List V) (h : Heap) (K : V → Tn → Prop) : CW A PrA 29 vs h K = CN A PrA false 29 vs h K := CW_CN (by kernel_rfl) (by kernel_rfl) tk29 vs h K
theorem a39 : A 39 = some F39 := by kernel_rfl
theorem tk39 : takes A 39 = false := by kernel_rfl
@[go_sem] theorem cw39 (vs : List V) (h : Heap) (K : V → Tn → Prop) : CW A PrA 39 vs h K = CN A PrA false 39 vs h K := CW_CN (by kernel_rfl) (by kernel_rfl) tk39 vs h K
theorem a43 : A 43 = some F43 := by kernel_rfl
theorem tk43 : takes A 43 = false := by kernel_rfl
@[go_sem] theorem cw43 (vs : List V) (h : Heap) (K : V → Tn → Prop) : CW A PrA 43 vs h K = CN A PrA false 43 vs h K := CW_CN (by kernel_rfl) (by kernel_rfl) tk43 vs h K
theorem a44 : A 44 = some F44 := by kernel_rfl
theorem tk44 : takes A 44 = false := by kernel_rfl
@[go_sem] theorem cw44 (vs : List V) (h : Heap) (K : V → Tn → Prop) : CW A PrA 44 vs h K = CN A PrA false 44 vs h K := CW_CN (by kernel_rfl) (by kernel_rfl) tk44 vs h K
theorem a45 : A 45 = some F45 := by kernel_rfl
theorem tk45 : takes A 45 = false := by kernel_rfl
@[go_sem] theorem cw45 (vs : List V) (h : Heap) (K : V → Tn → Prop) : CW A PrA 45 vs h K = CN A PrA false 45 vs h K := CW_CN (by kernel_rfl) (by kernel_rfl) tk45 vs h K
theorem a46 : A 46 = some F46 := by kernel_rfl
theorem tk46 : takes A 46 = false := by kernel_rfl
@[go_sem] theorem cw46 (vs : List V) (h : Heap) (K : V → Tn → Prop) : CW A PrA 46 vs h K = CN A PrA false 46 vs h K := CW_CN (by kernel_rfl) (by kernel_rfl) tk46 vs h K
theorem a47 : A 47 = some F47 := by kernel_rfl
theorem tk47 : takes A 47 = false := by kernel_rfl
@[go_sem] theorem cw47 (vs : List V) (h : Heap) (K : V → Tn → Prop) : CW A PrA 47 vs h K = CN A PrA false 47 vs h K := CW_CN (by kernel_rfl) (by kernel_rfl) tk47 vs h K
theorem a58 : A 58 = some F58 := by kernel_rfl
theorem tk58 : takes A 58 = false := by kernel_rfl
@[go_sem] theorem cw58 (vs : List V) (h : Heap) (K : V → Tn → Prop) : CW A PrA 58 vs h K = CN A PrA false 58 vs h K := CW_CN (by kernel_rfl) (by kernel_rfl) tk58 vs h K
theorem a59 : A 59 = some F59 := by kernel_rfl
theorem tk59 : takes A 59 = false := by kernel_rfl
@[go_sem] theorem cw59 (vs : List V) (h : Heap) (K : V → Tn → Prop) : CW A PrA 59 vs h K = CN A PrA false 59 vs h K := CW_CN (by kernel_rfl) (by kernel_rfl) tk59 vs h K
theorem a60 : A 60 = some F60 := by kernel_rfl
theorem tk60 : takes A 60 = false := by kernel_rfl
@[go_sem] theorem cw60 (vs : List V) (h : Heap) (K : V → Tn → Prop) : CW A PrA 60 vs h K = CN A PrA false 60 vs h K := CW_CN (by kernel_rfl) (by kernel_rfl) tk60 vs h K
theorem a66 : A 66 = some F66 := by kernel_rfl
theorem tk66 : takes A 66 = false := by kernel_rfl
@[go_sem] theorem cw66 (vs : List V) (h : Heap) (K : V → Tn → Prop) : CW A PrA 66 vs h K = CN A PrA false 66 vs h K := CW_CN (by kernel_rfl) (by kernel_rfl) tk66 vs h K
theorem a77 : A 77 = some F77 := by kernel_rfl
theorem tk77 : takes A 77 = false := by kernel_rfl
@[go_sem] theorem cw77 (vs : List V) (h : Heap) (K : V → Tn → Prop) : CW A PrA 77 vs h K = CN A PrA false 77 vs h K := CW_CN (by kernel_rfl) (by kernel_rfl) tk77 vs h K
theorem a95 : A 95 = some F95 := by kernel_rfl
theorem tk95 : takes A 95 = false := by kernel_rfl
@[go_sem] theorem cw95 (vs : List V) (h : Heap) (K : V → Tn → Prop) : CW A PrA 95 vs h K = CN A PrA false 95 vs h K := CW_CN (by kernel_rfl) (by kernel_rfl) tk95 vs h K
theorem a106 : A 106 = some F106 := by kernel_rfl
theorem tk106 : takes A 106 = false := by kernel_rfl
@[go_sem] theorem cw106 (vs : List V) (h : Heap) (K : V → Tn → Prop) : CW A PrA 106 vs h K = CN A PrA false 106 vs h K := CW_CN (by kernel_rfl) (by kernel_rfl) tk106 vs h K
theorem a108 : A 108 = some F108 := by kernel_rfl
theorem tk108 : takes A 108 = false := by kernel_rfl
@[go_sem] theorem cw108 (vs : List V) (h : Heap) (K : V → Tn → Prop) : CW A PrA 108 vs h K = CN A PrA false 108 vs h K := CW_CN (by kernel_rfl) (by kernel_rfl) tk108 vs h K
theorem a110 : A 110 = some F110 := by kernel_rfl
theorem tk110 : takes A 110 = false := by kernel_rfl
@[go_sem] theorem cw110 (vs : List V) (h : Heap) (K : V → Tn → Prop) : CW A PrA 110 vs h K = CN A PrA false 110 vs h K := CW_CN (by kernel_rfl) (by kernel_rfl) tk110 vs h K
theorem a117 : A 117 = some F117 := by kernel_rfl
theorem tk117 : takes A 117 = false := by kernel_rfl
@[go_sem] theorem cw117 (vs : List V) (h : Heap) (K : V → Tn → Prop) : CW A PrA 117 vs h K = CN A PrA false 117 vs h K := CW_CN (by kernel_rfl) (by kernel_rfl) tk117 vs h K
theorem a118 : A 118 = some F118 := by kernel_rfl
theorem tk118 : takes A 118 = false := by kernel_rfl
@[go_sem] theorem cw118 (vs : List V) (h : Heap) (K : V → Tn → Prop) : CW A PrA 118 vs h K = CN A PrA false 118 vs h K := CW_CN (by kernel_rfl) (by kernel_rfl) tk118 vs h K
theorem a152 : A 152 = some F152 := by kernel_rfl
theorem tk152 : takes A 152 = false := by kernel_rfl
@[go_sem] theorem cw152 (vs : List V) (h : Heap) (K : V → Tn → Prop) : CW A PrA 152 vs h K = CN A PrA false 152 vs h K := CW_CN (by kernel_rfl) (by kernel_rfl) tk152 vs h K
theorem a153 : A 153 = some F153 := by kernel_rfl
theorem tk153 : takes A 153 = false := by kernel_rfl
@[go_sem] theorem cw153 (vs : List V) (h : Heap) (K : V → Tn → Prop) : CW A PrA 153 vs h K = CN A PrA false 153 vs h K := CW_CN (by kernel_rfl) (by kernel_rfl) tk153 vs h K
theorem a154 : A 154 = some F154 := by kernel_rfl
theorem tk154 : takes A 154 = false := by kernel_rfl
@[go_sem] theorem cw154 (vs : List V) (h : Heap) (K : V → Tn → Prop) : CW A PrA 154 vs h K = CN A PrA false 154 vs h K := CW_CN (by kernel_rfl) (by kernel_rfl) tk154 vs h K
theorem a155 : A 155 = some F155 := by kernel_rfl
theorem tk155 : takes A 155 = false := by kernel_rfl
@[go_sem] theorem cw155 (vs : List V) (h : Heap) (K : V → Tn → Prop) : CW A PrA 155 vs h K = CN A PrA false 155 vs h K := CW_CN (by kernel_rfl) (by kernel_rfl) tk155 vs h K
theorem a156 : A 156 = some F156 := by kernel_rfl
theorem tk156 : takes A 156 = false := by kernel_rfl
@[go_sem] theorem cw156 (vs : List V) (h : Heap) (K : V → Tn → Prop) : CW A PrA 156 vs h K = CN A PrA false 156 vs h K := CW_CN (by kernel_rfl) (by kernel_rfl) tk156 vs h K
theorem a157 : A 157 = some F157 := by kernel_rfl
theorem tk157 : takes A 157 = false := by kernel_rfl
@[go_sem] theorem cw157 (vs : List V) (h : Heap) (K : V → Tn → Prop) : CW A PrA 157 vs h K = CN A PrA false 157 vs h K := CW_CN (by kernel_rfl) (by kernel_rfl) tk157 vs h K
theorem a158 : A 158 = some F158 := by kernel_rfl
theorem tk158 : takes A 158 = false := by kernel_rfl
@[go_sem] theorem cw158 (vs : List V) (h : Heap) (K : V → Tn → Prop) : CW A PrA 158 vs h K = CN A PrA false 158 vs h K := CW_CN (by kernel_rfl) (by kernel_rfl) tk158 vs h K
theorem a159 : A 159 = some F159 := by kernel_rfl
theorem tk159 : takes A 159 = false := by kernel_rfl
@[go_sem] theorem cw159 (vs : List V) (h : Heap) (K : V → Tn → Prop) : CW A PrA 159 vs h K = CN A PrA false 159 vs h K := CW_CN (by kernel_rfl) (by kernel_rfl) tk159 vs h K
theorem a160 : A 160 = some F160 := by kernel_rfl
theorem tk160 : takes A 160 = false := by kernel_rfl
@[go_sem] theorem cw160 (vs : List V) (h : Heap) (K : V → Tn → Prop) : CW A PrA 160 vs h K = CN A PrA false 160 vs h K := CW_CN (by kernel_rfl) (by kernel_rfl) tk160 vs h K
theorem a164 : A 164 = some F164 := by kernel_rfl
theorem tk164 : takes A 164 = false := by kernel_rfl
@[go_sem] theorem cw164 (vs : List V) (h : Heap) (K : V → Tn → Prop) : CW A PrA 164 vs h K = CN A PrA false 164 vs h K := CW_CN (by kernel_rfl) (by kernel_rfl) tk164 vs h K
theorem a167 : A 167 = some F167 := by kernel_rfl
theorem tk167 : takes A 167 = false := by kernel_rfl
@[go_sem] theorem cw167 (vs : List V) (h : Heap) (K : V → Tn → Prop) : CW A PrA 167 vs h K = CN A PrA false 167 vs h K := CW_CN (by kernel_rfl) (by kernel_rfl) tk167 vs h K
theorem a168 : A 168 = some F168 := by kernel_rfl
theorem tk168 : takes A 168 = false := by kernel_rfl
@[go_sem] theorem cw168 (vs : List V) (h : Heap) (K : V → Tn → Prop) : CW A PrA 168 vs h K = CN A PrA false 168 vs h K := CW_CN (by kernel_rfl) (by kernel_rfl) tk168 vs h K
theorem a169 : A 169 = some F169 := by kernel_rfl
theorem tk169 : takes A 169 = false := by kernel_rfl
@[go_sem] theorem cw169 (vs : List V) (h : Heap) (K : V → Tn → Prop) : CW A PrA 169 vs h K = CN A PrA false 169 vs h K := CW_CN (by kernel_rfl) (by kernel_rfl) tk169 vs h K
theorem a171 : A 171 = some F171 := by kernel_rfl
theorem tk171 : takes A 171 = false := by kernel_rfl
@[go_sem] theorem cw171 (vs : List V) (h : Heap) (K : V → Tn → Prop) : CW A PrA 171 vs h K = CN A PrA false 171 vs h K := CW_CN (by kernel_rfl) (by kernel_rfl) tk171 vs h K
theorem a173 : A 173 = some F173 := by kernel_rfl
theorem tk173 : takes A 173 = false := by kernel_rfl
@[go_sem] theorem cw173 (vs : List V) (h : Heap) (K : V → Tn → Prop) : CW A PrA 173 vs h K = CN A PrA false 173 vs h K := CW_CN (by kernel_rfl) (by kernel_rfl) tk173 vs h K
theorem a174 : A 174 = some F174 := by kernel_rfl
theorem tk174 : takes A 174 = false := by kernel_rfl
@[go_sem] theorem cw174 (vs : List V) (h : Heap) (K : V → Tn → Prop) : CW A PrA 174 vs h K = CN A PrA false 174 vs h K := CW_CN (by kernel_rfl) (by kernel_rfl) tk174 vs h K
theorem a176 : A 176 = some F176 := by kernel_rfl
theorem tk176 : takes A 176 = false := by kernel_rfl
@[go_sem] theorem cw176 (vs : List V) (h : Heap) (K : V → Tn → Prop) : CW A PrA 176 vs h K = CN A PrA false 176 vs h K := CW_CN (by kernel_rfl) (by kernel_rfl) tk176 vs h K
theorem a177 : A 177 = some F177 := by kernel_rfl
theorem tk177 : takes A 177 = false := by kernel_rfl
@[go_sem] theorem cw177 (vs : List V) (h : Heap) (K : V → Tn → Prop) : CW A PrA 177 vs h K = CN A PrA false 177 vs h K := CW_CN (by kernel_rfl) (by kernel_rfl) tk177 vs h K
theorem a178 : A 178 = some F178 := by kernel_rfl
theorem tk178 : takes A 178 = false := by kernel_rfl
@[go_sem] theorem cw178 (vs : List V) (h : Heap) (K : V → Tn → Prop) : CW A PrA 178 vs h K = CN A PrA false 178 vs h K := CW_CN (by kernel_rfl) (by kernel_rfl) tk178 vs h K
theorem a179 : A 179 = some F179 := by kernel_rfl
theorem tk179 : takes A 179 = false := by kernel_rfl
@[go_sem] theorem cw179 (vs : List V) (h : Heap) (K : V → Tn → Prop) : CW A PrA 179 vs h K = CN A PrA false 179 vs h K := CW_CN (by kernel_rfl) (by kernel_rfl) tk179 vs h K
theorem a180 : A 180 = some F180 := by kernel_rfl
theorem tk180 : takes A 180 = false := by kernel_rfl
@[go_sem] theorem cw180 (vs : List V) (h : Heap) (K : V → Tn → Prop) : CW A PrA 180 vs h K = CN A PrA false 180 vs h K := CW_CN (by kernel_rfl) (by kernel_rfl) tk180 vs h K
theorem a181 : A 181 = some F181 := by kernel_rfl
theorem tk181 : takes A 181 = false := by kernel_rfl
@[go_sem] theorem cw181 (vs : List V) (h : Heap) (K : V → Tn → Prop) : CW A PrA 181 vs h K = CN A PrA false 181 vs h K := CW_CN (by kernel_rfl) (by kernel_rfl) tk181 vs h K
theorem a182 : A 182 = some F182 := by kernel_rfl
theorem tk182 : takes A 182 = false := by kernel_rfl
@[go_sem] theorem cw182 (vs : List V) (h : Heap) (K : V → Tn → Prop) : CW A PrA 182 vs h K = CN A PrA false 182 vs h K := CW_CN (by kernel_rfl) (by kernel_rfl) tk182 vs h K
theorem a183 : A 183 = some F183 := by kernel_rfl
theorem tk183 : takes A 183 = false := by kernel_rfl
@[go_sem] theorem cw183 (vs : List V) (h : Heap) (K : V → Tn → Prop) : CW A PrA 183 vs h K = CN A PrA false 183 vs h K := CW_CN (by kernel_rfl) (by kernel_rfl) tk183 vs h K
theorem a184 : A 184 = some F184 := by kernel_rfl
theorem tk184 : takes A 184 = false := by kernel_rfl
@[go_sem] theorem cw184 (vs : List V) (h : Heap) (K : V → Tn → Prop) : CW A PrA 184 vs h K = CN A PrA false 184 vs h K := CW_CN (by kernel_rfl) (by kernel_rfl) tk184 vs h K
theorem a186 : A 186 = some F186 := by kernel_rfl
theorem tk186 : takes A 186 = false := by kernel_rfl
@[go_sem] theorem cw186 (vs : List V) (h : Heap) (K : V → Tn → Prop) : CW A PrA 186 vs h K = CN A PrA false 186 vs h K := CW_CN (by kernel_rfl) (by kernel_rfl) tk186 vs h K
theorem a187 : A 187 = some F187 := by kernel_rfl
theorem tk187 : takes A 187 = false := by kernel_rfl
@[go_sem] theorem cw187 (vs : List V) (h : Heap) (K : V → Tn → Prop) : CW A PrA 187 vs h K = CN A PrA false 187 vs h K := CW_CN (by kernel_rfl) (by kernel_rfl) tk187 vs h K
theorem a188 : A 188 = some F188 := by kernel_rfl
theorem tk188 : takes A 188 = false := by kernel_rfl
@[go_sem] theorem cw188 (vs : List V) (h : Heap) (K : V → Tn → Prop) : CW A PrA 188 vs h K = CN A PrA false 188 vs h K := CW_CN (by kernel_rfl) (by kernel_rfl) tk188 vs h K
theorem a189 : A 189 = some F189 := by kernel_rfl
theorem tk189 : takes A 189 = false := by kernel_rfl
@[go_sem] theorem cw189 (vs : List V) (h : Heap) (K : V → Tn → Prop) : CW A PrA 189 vs h K = CN A PrA false 189 vs h K := CW_CN (by kernel_rfl) (by kernel_rfl) tk189 vs h K
theorem a190 : A 190 = some F190 := by kernel_rfl
theorem tk190 : takes A 190 = false := by kernel_rfl
@[go_sem] theorem cw190 (vs : List V) (h : Heap) (K : V → Tn → Prop) : CW A PrA 190 vs h K = CN A PrA false 190 vs h K := CW_CN (by kernel_rfl) (by kernel_rfl) tk190 vs h K
theorem a192 : A 192 = some F192 := by kernel_rfl
theorem tk192 : takes A 192 = false := by kernel_rfl
@[go_sem] theorem cw192 (vs : List V) (h : Heap) (K : V → Tn → Prop) : CW A PrA 192 vs h K = CN A PrA false 192 vs h K := CW_CN (by kernel_rfl) (by kernel_rfl) tk192 vs h K
theorem a197 : A 197 = some F197 := by kernel_rfl
theorem tk197 : takes A 197 = false := by kernel_rfl
@[go_sem] theorem cw197 (vs : List V) (h : Heap) (K : V → Tn → Prop) : CW A PrA 197 vs h K = CN A PrA false 197 vs h K := CW_CN (by kernel_rfl) (by kernel_rfl) tk197 vs h K
theorem a198 : A 198 = some F198 := by kernel_rfl
theorem tk198 : takes A 198 = false := by kernel_rfl
@[go_sem] theorem cw198 (vs : List V) (h : Heap) (K : V → Tn → Prop) : CW A PrA 198 vs h K = CN A PrA false 198 vs h K := CW_CN (by kernel_rfl) (by kernel_rfl) tk198 vs h K
theorem a235 : A 235 = some F235 := by kernel_rfl
theorem tk235 : takes A 235 = false := by kernel_rfl
@[go_sem] theorem cw235 (vs : List V) (h : Heap) (K : V → Tn → Prop) : CW A PrA 235 vs h K = CN A PrA false 235 vs h K := CW_CN (by kernel_rfl) (by kernel_rfl) tk235 vs h K
theorem a236 : A 236 = some F236 := by kernel_rfl
theorem tk236 : takes A 236 = false := by kernel_rfl
@[go_sem] theorem cw236 (vs : List V) (h : Heap) (K : V → Tn → Prop) : CW A PrA 236 vs h K = CN A PrA false 236 vs h K := CW_CN (by kernel_rfl) (by kernel_rfl) tk236 vs h K
theorem a240 : A 240 = some F240 := by kernel_rfl
theorem tk240 : takes A 240 = false := by kernel_rfl
@[go_sem] theorem cw240 (vs : List V) (h : Heap) (K : V → Tn → Prop) : CW A PrA 240 vs h K = CN A PrA false 240 vs h K := CW_CN (by kernel_rfl) (by kernel_rfl) tk240 vs h K
theorem a241 : A 241 = some F241 := by kernel_rfl
theorem tk241 : takes A 241 = false := by kernel_rfl
@[go_sem] theorem cw241 (vs : List V) (h : Heap) (K : V → Tn → Prop) : CW A PrA 241 vs h K = CN A PrA false 241 vs h K := CW_CN (by kernel_rfl) (by kernel_rfl) tk241 vs h K
theorem a243 : A 243 = some F243 := by kernel_rfl
theorem tk243 : takes A 243 = false := by kernel_rfl
@[go_sem] theorem cw243 (vs : List V) (h : Heap) (K : V → Tn → Prop) : CW A PrA 243 vs h K = CN A PrA false 243 vs h K := CW_CN (by kernel_rfl) (by kernel_rfl) tk243 vs h K
theorem a244 : A 244 = some F244 := by kernel_rfl
theorem tk244 : takes A 244 = false := by kernel_rfl
@[go_sem] theorem cw244 (vs : List V) (h : Heap) (K : V → Tn → Prop) : CW A PrA 244 vs h K = CN A PrA false 244 vs h K := CW_CN (by kernel_rfl) (by kernel_rfl) tk244 vs h K
theorem a245 : A 245 = some F245 := by kernel_rfl
theorem tk245 : takes A 245 = false := by kernel_rfl
@[go_sem] theorem cw245 (vs : List V) (h : Heap) (K : V → Tn → Prop) : CW A PrA 245 vs h K = CN A PrA false 245 vs h K := CW_CN (by kernel_rfl) (by kernel_rfl) tk245 vs h K
theorem a246 : A 246 = some F246 := by kernel_rfl
theorem tk246 : takes A 246 = false := by kernel_rfl
@[go_sem] theorem cw246 (vs : List V) (h : Heap) (K : V → Tn → Prop) : CW A PrA 246 vs h K = CN A PrA false 246 vs h K := CW_CN (by kernel_rfl) (by kernel_rfl) tk246 vs h K
theorem a247 : A 247 = some F247 := by kernel_rfl
theorem tk247 : takes A 247 = false := by kernel_rfl
@[go_sem] theorem cw247 (vs : List V) (h : Heap) (K : V → Tn → Prop) : CW A PrA 247 vs h K = CN A PrA false 247 vs h K := CW_CN (by kernel_rfl) (by kernel_rfl) tk247 vs h K
theorem a248 : A 248 = some F248 := by kernel_rfl
theorem tk248 : takes A 248 = false := by kernel_rfl
@[go_sem] theorem cw248 (vs : List V) (h : Heap) (K : V → Tn → Prop) : CW A PrA 248 vs h K = CN A PrA false 248 vs h K := CW_CN (by kernel_rfl) (by kernel_rfl) tk248 vs h K
theorem a249 : A 249 = some F249 := by kernel_rfl
theorem tk249 : takes A 249 = false := by kernel_rfl
@[go_sem] theorem cw249 (vs : List V) (h : Heap) (K : V → Tn → Prop) : CW A PrA 249 vs h K = CN A PrA false 249 vs h K := CW_CN (by kernel_rfl) (by kernel_rfl) tk249 vs h K
theorem a250 : A 250 = some F250 := by kernel_rfl
theorem tk250 : takes A 250 = false := by kernel_rfl
@[go_sem] theorem cw250 (vs : List V) (h : Heap) (K : V → Tn → Prop) : CW A PrA 250 vs h K = CN A PrA false 250 vs h K := CW_CN (by kernel_rfl) (by kernel_rfl) tk250 vs h K
theorem a251 : A 251 = some F251 := by kernel_rfl
theorem tk251 : takes A 251 = false := by kernel_rfl
@[go_sem] theorem cw251 (vs : List V) (h : Heap) (K : V → Tn → Prop) : CW A PrA 251 vs h K = CN A PrA false 251 vs h K := CW_CN (by kernel_rfl) (by kernel_rfl) tk251 vs h K
theorem a253 : A 253 = some F253 := by kernel_rfl
theorem tk253 : takes A 253 = false := by kernel_rfl
@[go_sem] theorem cw253 (vs : List V) (h : Heap) (K : V → Tn → Prop) : CW A PrA 253 vs h K = CN A PrA false 253 vs h K := CW_CN (by kernel_rfl) (by kernel_rfl) tk253 vs h K
theorem a254 : A 254 = some F254 := by kernel_rfl
@[go_sem] theorem cw254 (vs : List V) (h : Heap) (K : V → Tn → Prop) : CW A PrA 254 vs h K = IW A PrA 254 vs h K := CW_inl (by kernel_rfl) vs h K
theorem a255 : A 255 = some F255 := by kernel_rfl
theorem tk255 : takes A 255 = false := by kernel_rfl
@[go_sem] theorem cw255 (vs : List V) (h : Heap) (K : V → Tn → Prop) : CW A PrA 255 vs h K = CN A PrA false 255 vs h K := CW_CN (by kernel_rfl) (by kernel_rfl) tk255 vs h K
theorem a256 : A 256 = some F256 := by kernel_rfl
@[go_sem] theorem cw256 (vs : List V) (h : Heap) (K : V → Tn → Prop) : CW A PrA 256 vs h K = IW A PrA 256 vs h K := CW_inl (by kernel_rfl) vs h K
theorem a257 : A 257 = some F257 := by kernel_rfl
theorem tk257 : takes A 257 = false := by kernel_rfl
@[go_sem] theorem cw257 (vs : List V) (h : Heap) (K : V → Tn → Prop) : CW A PrA 257 vs h K = CN A PrA false 257 vs h K := CW_CN (by kernel_rfl) (by kernel_rfl) tk257 vs h K
theorem a258 : A 258 = some F258 := by kernel_rfl
theorem tk258 : takes A 258 = false := by kernel_rfl
@[go_sem] theorem cw258 (vs : List V) (h : Heap) (K : V → Tn → Prop) : CW A PrA 258 vs h K = CN A PrA false 258 vs h K := CW_CN (by kernel_rfl) (by kernel_rfl) tk258 vs h K
theorem a528 : A 528 = some F528 := by kernel_rfl
theorem tk528 : takes A 528 = false := by kernel_rfl
@[go_sem] theorem cw528 (vs : List V) (h : Heap) (K : V → Tn → Prop) : CW A PrA 528 vs h K = CN A PrA false 528 vs h K := CW_CN (by kernel_rfl) (by kernel_rfl) tk528 vs h K
theorem a534 : A 534 = some F534 := by kernel_rfl
theorem tk534 : takes A 534 = false := by kernel_rfl
@[go_sem] theorem cw534 (vs : List V) (h : Heap) (K : V → Tn → Prop) : CW A PrA 534 vs h K = CN A PrA false 534 vs h K := CW_CN (by kernel_rfl) (by kernel_rfl) tk534 vs h K
theorem a541 : A 541 = some F541 := by kernel_rfl
theorem tk541 : takes A 541 = false := by kernel_rfl
@[go_sem] theorem cw541 (vs : List V) (h : Heap) (K : V → Tn → Prop) : CW A PrA 541 vs h K = CN A PrA false 541 vs h K := CW_CN (by kernel_rfl) (by kernel_rfl) tk541 vs h K
end Go.Pv
