/-
  The table of functions.
-/
import Derived.Test.YthpgcipmnblhpaaDoorF1
import Derived.KernelRfl
namespace Go.Pv
def tabL : List (Nat × AFunc) := [(29, F29), (45, F45), (46, F46), (47, F47), (58, F58), (59, F59), (60, F60), (66, F66), (76, F76), (77, F77), (108, F108), (117, F117), (147, F147), (150, F150), (152, F152), (154, F154), (155, F155), (157, F157), (159, F159), (161, F161), (165, F165), (166, F166), (170, F170), (176, F176), (177, F177), (179, F179), (180, F180), (181, F181), (182, F182), (186, F186), (188, F188), (189, F189), (190, F190), (194, F194), (197, F197), (198, F198), (200, F200), (203, F203), (212, F212), (213, F213), (215, F215), (219, F219), (221, F221), (222, F222), (224, F224), (225, F225)]
def prL : List (Nat × Prim) := [(185, keyP), (191, cloneP 1), (196, sortP 3 (sortRows Mov.c Mov.dec Mov.lt) 197)]
def PrA : Prims := fun n => look1 n prL
def A (n : Nat) : Option AFunc := look1 n tabL
@[go_sem] theorem cp185 (vs : List V) (h : Heap) (K : V → Tn → Prop) : CW A PrA 185 vs h K = optK ((keyP : Prim) vs h) fun r => K r.1 r.2 := CW_some (by kernel_rfl) (by kernel_rfl) vs h K
@[go_sem] theorem cp191 (vs : List V) (h : Heap) (K : V → Tn → Prop) : CW A PrA 191 vs h K = optK ((cloneP 1 : Prim) vs h) fun r => K r.1 r.2 := CW_some (by kernel_rfl) (by kernel_rfl) vs h K
@[go_sem] theorem cp196 (vs : List V) (h : Heap) (K : V → Tn → Prop) : CW A PrA 196 vs h K = optK ((sortP 3 (sortRows Mov.c Mov.dec Mov.lt) 197 : Prim) vs h) fun r => K r.1 r.2 := CW_some (by kernel_rfl) (by kernel_rfl) vs h K
theorem a29 : A 29 = some F29 := by kernel_rfl
theorem tk29 : takes A 29 = false := by kernel_rfl
@[go_sem] theorem cw29 (vs : List V) (h : Heap) (K : V → Tn → Prop) : CW A PrA 29 vs h K = CN A PrA false 29 vs h K := CW_CN (by kernel_rfl) (by kernel_rfl) tk29 vs h K
theorem a45 : A 45 = some F45 := by kernel_rfl
theorem tk45 : takes A 45 = false := by kernel_rfl
@[go_sem] theorem cw45 (vs : List V) (h : Heap) (K : V → Tn → Prop) : CW A PrA 45 vs h K = CN A PrA false 45 vs h K := CW_CN (by kernel_rfl) (by kernel_rfl) tk45 vs h K
theorem a46 : A 46 = some F46 := by kernel_rfl
theorem tk46 : takes A 46 = false := by kernel_rfl
@[go_sem] theorem cw46 (vs : List V) (h : Heap) (K : V → Tn → Prop) : CW A PrA 46 vs h K = CN A PrA false 46 vs h K := CW_CN (by kernel_rfl) (by kernel_rfl) tk46 vs h K
theorem a47 : A 47 = some F47 := by kernel_rfl
theorem tk47 : takes A 47 = false := by kernel_rfl
@[go_sem] theorem cw47 (vs : List V) (h : Heap) (K : V → Tn → Prop) : CW A PrA 47 vs h K = CN A PrA false 47 vs h K := CW_CN (by kernel_rfl) (by kernel_rfl) tk47 vs h K
theorem a58 : A 58 = some F58 := by kernel_rfl
theorem tk58 : takes A 58 = false := by kernel_rfl
@[go_sem] theorem cw58 (vs : List V) (h : Heap) (K : V → Tn → Prop) : CW A PrA 58 vs h K = CN A PrA false 58 vs h K := CW_CN (by kernel_rfl) (by kernel_rfl) tk58 vs h K
theorem a59 : A 59 = some F59 := by kernel_rfl
theorem tk59 : takes A 59 = false := by kernel_rfl
@[go_sem] theorem cw59 (vs : List V) (h : Heap) (K : V → Tn → Prop) : CW A PrA 59 vs h K = CN A PrA false 59 vs h K := CW_CN (by kernel_rfl) (by kernel_rfl) tk59 vs h K
theorem a60 : A 60 = some F60 := by kernel_rfl
theorem tk60 : takes A 60 = false := by kernel_rfl
@[go_sem] theorem cw60 (vs : List V) (h : Heap) (K : V → Tn → Prop) : CW A PrA 60 vs h K = CN A PrA false 60 vs h K := CW_CN (by kernel_rfl) (by kernel_rfl) tk60 vs h K
theorem a66 : A 66 = some F66 := by kernel_rfl
theorem tk66 : takes A 66 = false := by kernel_rfl
@[go_sem] theorem cw66 (vs : List V) (h : Heap) (K : V → Tn → Prop) : CW A PrA 66 vs h K = CN A PrA false 66 vs h K := CW_CN (by kernel_rfl) (by kernel_rfl) tk66 vs h K
theorem a76 : A 76 = some F76 := by kernel_rfl
theorem tk76 : takes A 76 = false := by kernel_rfl
@[go_sem] theorem cw76 (vs : List V) (h : Heap) (K : V → Tn → Prop) : CW A PrA 76 vs h K = CN A PrA false 76 vs h K := CW_CN (by kernel_rfl) (by kernel_rfl) tk76 vs h K
theorem a77 : A 77 = some F77 := by kernel_rfl
theorem tk77 : takes A 77 = false := by kernel_rfl
@[go_sem] theorem cw77 (vs : List V) (h : Heap) (K : V → Tn → Prop) : CW A PrA 77 vs h K = CN A PrA false 77 vs h K := CW_CN (by kernel_rfl) (by kernel_rfl) tk77 vs h K
theorem a108 : A 108 = some F108 := by kernel_rfl
theorem tk108 : takes A 108 = false := by kernel_rfl
@[go_sem] theorem cw108 (vs : List V) (h : Heap) (K : V → Tn → Prop) : CW A PrA 108 vs h K = CN A PrA false 108 vs h K := CW_CN (by kernel_rfl) (by kernel_rfl) tk108 vs h K
theorem a117 : A 117 = some F117 := by kernel_rfl
theorem tk117 : takes A 117 = false := by kernel_rfl
@[go_sem] theorem cw117 (vs : List V) (h : Heap) (K : V → Tn → Prop) : CW A PrA 117 vs h K = CN A PrA false 117 vs h K := CW_CN (by kernel_rfl) (by kernel_rfl) tk117 vs h K
theorem a147 : A 147 = some F147 := by kernel_rfl
theorem tk147 : takes A 147 = false := by kernel_rfl
@[go_sem] theorem cw147 (vs : List V) (h : Heap) (K : V → Tn → Prop) : CW A PrA 147 vs h K = CN A PrA false 147 vs h K := CW_CN (by kernel_rfl) (by kernel_rfl) tk147 vs h K
theorem a150 : A 150 = some F150 := by kernel_rfl
theorem tk150 : takes A 150 = false := by kernel_rfl
@[go_sem] theorem cw150 (vs : List V) (h : Heap) (K : V → Tn → Prop) : CW A PrA 150 vs h K = CN A PrA false 150 vs h K := CW_CN (by kernel_rfl) (by kernel_rfl) tk150 vs h K
theorem a152 : A 152 = some F152 := by kernel_rfl
theorem tk152 : takes A 152 = false := by kernel_rfl
@[go_sem] theorem cw152 (vs : List V) (h : Heap) (K : V → Tn → Prop) : CW A PrA 152 vs h K = CN A PrA false 152 vs h K := CW_CN (by kernel_rfl) (by kernel_rfl) tk152 vs h K
theorem a154 : A 154 = some F154 := by kernel_rfl
theorem tk154 : takes A 154 = false := by kernel_rfl
@[go_sem] theorem cw154 (vs : List V) (h : Heap) (K : V → Tn → Prop) : CW A PrA 154 vs h K = CN A PrA false 154 vs h K := CW_CN (by kernel_rfl) (by kernel_rfl) tk154 vs h K
theorem a155 : A 155 = some F155 := by kernel_rfl
theorem tk155 : takes A 155 = false := by kernel_rfl
@[go_sem] theorem cw155 (vs : List V) (h : Heap) (K : V → Tn → Prop) : CW A PrA 155 vs h K = CN A PrA false 155 vs h K := CW_CN (by kernel_rfl) (by kernel_rfl) tk155 vs h K
theorem a157 : A 157 = some F157 := by kernel_rfl
theorem tk157 : takes A 157 = false := by kernel_rfl
@[go_sem] theorem cw157 (vs : List V) (h : Heap) (K : V → Tn → Prop) : CW A PrA 157 vs h K = CN A PrA false 157 vs h K := CW_CN (by kernel_rfl) (by kernel_rfl) tk157 vs h K
theorem a159 : A 159 = some F159 := by kernel_rfl
theorem tk159 : takes A 159 = false := by kernel_rfl
@[go_sem] theorem cw159 (vs : List V) (h : Heap) (K : V → Tn → Prop) : CW A PrA 159 vs h K = CN A PrA false 159 vs h K := CW_CN (by kernel_rfl) (by kernel_rfl) tk159 vs h K
theorem a161 : A 161 = some F161 := by kernel_rfl
theorem tk161 : takes A 161 = false := by kernel_rfl
@[go_sem] theorem cw161 (vs : List V) (h : Heap) (K : V → Tn → Prop) : CW A PrA 161 vs h K = CN A PrA false 161 vs h K := CW_CN (by kernel_rfl) (by kernel_rfl) tk161 vs h K
theorem a165 : A 165 = some F165 := by kernel_rfl
theorem tk165 : takes A 165 = false := by kernel_rfl
@[go_sem] theorem cw165 (vs : List V) (h : Heap) (K : V → Tn → Prop) : CW A PrA 165 vs h K = CN A PrA false 165 vs h K := CW_CN (by kernel_rfl) (by kernel_rfl) tk165 vs h K
theorem a166 : A 166 = some F166 := by kernel_rfl
theorem tk166 : takes A 166 = false := by kernel_rfl
@[go_sem] theorem cw166 (vs : List V) (h : Heap) (K : V → Tn → Prop) : CW A PrA 166 vs h K = CN A PrA false 166 vs h K := CW_CN (by kernel_rfl) (by kernel_rfl) tk166 vs h K
theorem a170 : A 170 = some F170 := by kernel_rfl
theorem tk170 : takes A 170 = false := by kernel_rfl
@[go_sem] theorem cw170 (vs : List V) (h : Heap) (K : V → Tn → Prop) : CW A PrA 170 vs h K = CN A PrA false 170 vs h K := CW_CN (by kernel_rfl) (by kernel_rfl) tk170 vs h K
theorem a176 : A 176 = some F176 := by kernel_rfl
theorem tk176 : takes A 176 = false := by kernel_rfl
@[go_sem] theorem cw176 (vs : List V) (h : Heap) (K : V → Tn → Prop) : CW A PrA 176 vs h K = CN A PrA false 176 vs h K := CW_CN (by kernel_rfl) (by kernel_rfl) tk176 vs h K
theorem a177 : A 177 = some F177 := by kernel_rfl
theorem tk177 : takes A 177 = false := by kernel_rfl
@[go_sem] theorem cw177 (vs : List V) (h : Heap) (K : V → Tn → Prop) : CW A PrA 177 vs h K = CN A PrA false 177 vs h K := CW_CN (by kernel_rfl) (by kernel_rfl) tk177 vs h K
theorem a179 : A 179 = some F179 := by kernel_rfl
theorem tk179 : takes A 179 = false := by kernel_rfl
@[go_sem] theorem cw179 (vs : List V) (h : Heap) (K : V → Tn → Prop) : CW A PrA 179 vs h K = CN A PrA false 179 vs h K := CW_CN (by kernel_rfl) (by kernel_rfl) tk179 vs h K
theorem a180 : A 180 = some F180 := by kernel_rfl
theorem tk180 : takes A 180 = false := by kernel_rfl
@[go_sem] theorem cw180 (vs : List V) (h : Heap) (K : V → Tn → Prop) : CW A PrA 180 vs h K = CN A PrA false 180 vs h K := CW_CN (by kernel_rfl) (by kernel_rfl) tk180 vs h K
theorem a181 : A 181 = some F181 := by kernel_rfl
theorem tk181 : takes A 181 = false := by kernel_rfl
@[go_sem] theorem cw181 (vs : List V) (h : Heap) (K : V → Tn → Prop) : CW A PrA 181 vs h K = CN A PrA false 181 vs h K := CW_CN (by kernel_rfl) (by kernel_rfl) tk181 vs h K
theorem a182 : A 182 = some F182 := by kernel_rfl
theorem tk182 : takes A 182 = false := by kernel_rfl
@[go_sem] theorem cw182 (vs : List V) (h : Heap) (K : V → Tn → Prop) : CW A PrA 182 vs h K = CN A PrA false 182 vs h K := CW_CN (by kernel_rfl) (by kernel_rfl) tk182 vs h K
theorem a186 : A 186 = some F186 := by kernel_rfl
theorem tk186 : takes A 186 = false := by kernel_rfl
@[go_sem] theorem cw186 (vs : List V) (h : Heap) (K : V → Tn → Prop) : CW A PrA 186 vs h K = CN A PrA false 186 vs h K := CW_CN (by kernel_rfl) (by kernel_rfl) tk186 vs h K
theorem a188 : A 188 = some F188 := by kernel_rfl
theorem tk188 : takes A 188 = false := by kernel_rfl
@[go_sem] theorem cw188 (vs : List V) (h : Heap) (K : V → Tn → Prop) : CW A PrA 188 vs h K = CN A PrA false 188 vs h K := CW_CN (by kernel_rfl) (by kernel_rfl) tk188 vs h K
theorem a189 : A 189 = some F189 := by kernel_rfl
theorem tk189 : takes A 189 = false := by kernel_rfl
@[go_sem] theorem cw189 (vs : List V) (h : Heap) (K : V → Tn → Prop) : CW A PrA 189 vs h K = CN A PrA false 189 vs h K := CW_CN (by kernel_rfl) (by kernel_rfl) tk189 vs h K
theorem a190 : A 190 = some F190 := by kernel_rfl
theorem tk190 : takes A 190 = false := by kernel_rfl
@[go_sem] theorem cw190 (vs : List V) (h : Heap) (K : V → Tn → Prop) : CW A PrA 190 vs h K = CN A PrA false 190 vs h K := CW_CN (by kernel_rfl) (by kernel_rfl) tk190 vs h K
theorem a194 : A 194 = some F194 := by kernel_rfl
theorem tk194 : takes A 194 = false := by kernel_rfl
@[go_sem] theorem cw194 (vs : List V) (h : Heap) (K : V → Tn → Prop) : CW A PrA 194 vs h K = CN A PrA false 194 vs h K := CW_CN (by kernel_rfl) (by kernel_rfl) tk194 vs h K
theorem a197 : A 197 = some F197 := by kernel_rfl
theorem tk197 : takes A 197 = false := by kernel_rfl
@[go_sem] theorem cw197 (vs : List V) (h : Heap) (K : V → Tn → Prop) : CW A PrA 197 vs h K = CN A PrA false 197 vs h K := CW_CN (by kernel_rfl) (by kernel_rfl) tk197 vs h K
theorem a198 : A 198 = some F198 := by kernel_rfl
theorem tk198 : takes A 198 = false := by kernel_rfl
@[go_sem] theorem cw198 (vs : List V) (h : Heap) (K : V → Tn → Prop) : CW A PrA 198 vs h K = CN A PrA false 198 vs h K := CW_CN (by kernel_rfl) (by kernel_rfl) tk198 vs h K
theorem a200 : A 200 = some F200 := by kernel_rfl
theorem tk200 : takes A 200 = false := by kernel_rfl
@[go_sem] theorem cw200 (vs : List V) (h : Heap) (K : V → Tn → Prop) : CW A PrA 200 vs h K = CN A PrA false 200 vs h K := CW_CN (by kernel_rfl) (by kernel_rfl) tk200 vs h K
theorem a203 : A 203 = some F203 := by kernel_rfl
theorem tk203 : takes A 203 = false := by kernel_rfl
@[go_sem] theorem cw203 (vs : List V) (h : Heap) (K : V → Tn → Prop) : CW A PrA 203 vs h K = CN A PrA false 203 vs h K := CW_CN (by kernel_rfl) (by kernel_rfl) tk203 vs h K
theorem a212 : A 212 = some F212 := by kernel_rfl
theorem tk212 : takes A 212 = false := by kernel_rfl
@[go_sem] theorem cw212 (vs : List V) (h : Heap) (K : V → Tn → Prop) : CW A PrA 212 vs h K = CN A PrA false 212 vs h K := CW_CN (by kernel_rfl) (by kernel_rfl) tk212 vs h K
theorem a213 : A 213 = some F213 := by kernel_rfl
theorem tk213 : takes A 213 = false := by kernel_rfl
@[go_sem] theorem cw213 (vs : List V) (h : Heap) (K : V → Tn → Prop) : CW A PrA 213 vs h K = CN A PrA false 213 vs h K := CW_CN (by kernel_rfl) (by kernel_rfl) tk213 vs h K
theorem a215 : A 215 = some F215 := by kernel_rfl
theorem tk215 : takes A 215 = false := by kernel_rfl
@[go_sem] theorem cw215 (vs : List V) (h : Heap) (K : V → Tn → Prop) : CW A PrA 215 vs h K = CN A PrA false 215 vs h K := CW_CN (by kernel_rfl) (by kernel_rfl) tk215 vs h K
theorem a219 : A 219 = some F219 := by kernel_rfl
theorem tk219 : takes A 219 = false := by kernel_rfl
@[go_sem] theorem cw219 (vs : List V) (h : Heap) (K : V → Tn → Prop) : CW A PrA 219 vs h K = CN A PrA false 219 vs h K := CW_CN (by kernel_rfl) (by kernel_rfl) tk219 vs h K
theorem a221 : A 221 = some F221 := by kernel_rfl
theorem tk221 : takes A 221 = false := by kernel_rfl
@[go_sem] theorem cw221 (vs : List V) (h : Heap) (K : V → Tn → Prop) : CW A PrA 221 vs h K = CN A PrA false 221 vs h K := CW_CN (by kernel_rfl) (by kernel_rfl) tk221 vs h K
theorem a222 : A 222 = some F222 := by kernel_rfl
theorem tk222 : takes A 222 = false := by kernel_rfl
@[go_sem] theorem cw222 (vs : List V) (h : Heap) (K : V → Tn → Prop) : CW A PrA 222 vs h K = CN A PrA false 222 vs h K := CW_CN (by kernel_rfl) (by kernel_rfl) tk222 vs h K
theorem a224 : A 224 = some F224 := by kernel_rfl
theorem tk224 : takes A 224 = false := by kernel_rfl
@[go_sem] theorem cw224 (vs : List V) (h : Heap) (K : V → Tn → Prop) : CW A PrA 224 vs h K = CN A PrA false 224 vs h K := CW_CN (by kernel_rfl) (by kernel_rfl) tk224 vs h K
theorem a225 : A 225 = some F225 := by kernel_rfl
theorem tk225 : takes A 225 = false := by kernel_rfl
@[go_sem] theorem cw225 (vs : List V) (h : Heap) (K : V → Tn → Prop) : CW A PrA 225 vs h K = CN A PrA false 225 vs h K := CW_CN (by kernel_rfl) (by kernel_rfl) tk225 vs h K
end Go.Pv
