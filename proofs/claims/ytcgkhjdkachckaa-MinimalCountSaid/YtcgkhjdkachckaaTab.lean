/-
  The table of functions.
-/
import Derived.Test.YtcgkhjdkachckaaF1
import Derived.KernelRfl
set_option linter.unusedSimpArgs false
set_option linter.unusedVariables false
namespace Go.Pv
def tabL : List (Nat × AFunc) := [(3, F3), (8, F8), (9, F9), (10, F10), (12, F12), (14, F14), (15, F15), (16, F16), (18, F18), (20, F20), (22, F22), (23, F23), (24, F24), (26, F26), (28, F28), (29, F29), (30, F30), (32, F32), (34, F34), (35, F35), (44, F44), (45, F45), (46, F46), (47, F47), (48, F48), (49, F49), (50, F50), (54, F54), (55, F55), (56, F56), (58, F58), (59, F59), (60, F60), (63, F63), (65, F65), (66, F66), (77, F77)]
def prL : List (Nat × Prim) := [(51, sortP 4 (sortRows Edge.c Edge.dec Edge.lt) 47), (57, cloneP 2), (64, cloneP 4)]
def PrA : Prims := fun n => look1 n prL
def A (n : Nat) : Option AFunc := look1 n tabL
@[go_sem] theorem cp51 (vs : List V) (h : Heap) (K : V → Tn → Prop) : CW A PrA 51 vs h K = optK ((sortP 4 (sortRows Edge.c Edge.dec Edge.lt) 47 : Prim) vs h) fun r => K r.1 r.2 := CW_some (by kernel_rfl) vs h K
@[go_sem] theorem cp57 (vs : List V) (h : Heap) (K : V → Tn → Prop) : CW A PrA 57 vs h K = optK ((cloneP 2 : Prim) vs h) fun r => K r.1 r.2 := CW_some (by kernel_rfl) vs h K
@[go_sem] theorem cp64 (vs : List V) (h : Heap) (K : V → Tn → Prop) : CW A PrA 64 vs h K = optK ((cloneP 4 : Prim) vs h) fun r => K r.1 r.2 := CW_some (by kernel_rfl) vs h K
theorem a3 : A 3 = some F3 := by kernel_rfl
theorem tk3 : takes A 3 = false := by kernel_rfl
@[go_sem] theorem cw3 (vs : List V) (h : Heap) (K : V → Tn → Prop) : CW A PrA 3 vs h K = CN A PrA false 3 vs h K := CW_CN (by kernel_rfl) tk3 vs h K
theorem a8 : A 8 = some F8 := by kernel_rfl
theorem tk8 : takes A 8 = false := by kernel_rfl
@[go_sem] theorem cw8 (vs : List V) (h : Heap) (K : V → Tn → Prop) : CW A PrA 8 vs h K = CN A PrA false 8 vs h K := CW_CN (by kernel_rfl) tk8 vs h K
theorem a9 : A 9 = some F9 := by kernel_rfl
theorem tk9 : takes A 9 = false := by kernel_rfl
@[go_sem] theorem cw9 (vs : List V) (h : Heap) (K : V → Tn → Prop) : CW A PrA 9 vs h K = CN A PrA false 9 vs h K := CW_CN (by kernel_rfl) tk9 vs h K
theorem a10 : A 10 = some F10 := by kernel_rfl
theorem tk10 : takes A 10 = false := by kernel_rfl
@[go_sem] theorem cw10 (vs : List V) (h : Heap) (K : V → Tn → Prop) : CW A PrA 10 vs h K = CN A PrA false 10 vs h K := CW_CN (by kernel_rfl) tk10 vs h K
theorem a12 : A 12 = some F12 := by kernel_rfl
theorem tk12 : takes A 12 = false := by kernel_rfl
@[go_sem] theorem cw12 (vs : List V) (h : Heap) (K : V → Tn → Prop) : CW A PrA 12 vs h K = CN A PrA false 12 vs h K := CW_CN (by kernel_rfl) tk12 vs h K
theorem a14 : A 14 = some F14 := by kernel_rfl
theorem tk14 : takes A 14 = false := by kernel_rfl
@[go_sem] theorem cw14 (vs : List V) (h : Heap) (K : V → Tn → Prop) : CW A PrA 14 vs h K = CN A PrA false 14 vs h K := CW_CN (by kernel_rfl) tk14 vs h K
theorem a15 : A 15 = some F15 := by kernel_rfl
theorem tk15 : takes A 15 = false := by kernel_rfl
@[go_sem] theorem cw15 (vs : List V) (h : Heap) (K : V → Tn → Prop) : CW A PrA 15 vs h K = CN A PrA false 15 vs h K := CW_CN (by kernel_rfl) tk15 vs h K
theorem a16 : A 16 = some F16 := by kernel_rfl
theorem tk16 : takes A 16 = false := by kernel_rfl
@[go_sem] theorem cw16 (vs : List V) (h : Heap) (K : V → Tn → Prop) : CW A PrA 16 vs h K = CN A PrA false 16 vs h K := CW_CN (by kernel_rfl) tk16 vs h K
theorem a18 : A 18 = some F18 := by kernel_rfl
theorem tk18 : takes A 18 = false := by kernel_rfl
@[go_sem] theorem cw18 (vs : List V) (h : Heap) (K : V → Tn → Prop) : CW A PrA 18 vs h K = CN A PrA false 18 vs h K := CW_CN (by kernel_rfl) tk18 vs h K
theorem a20 : A 20 = some F20 := by kernel_rfl
theorem tk20 : takes A 20 = false := by kernel_rfl
@[go_sem] theorem cw20 (vs : List V) (h : Heap) (K : V → Tn → Prop) : CW A PrA 20 vs h K = CN A PrA false 20 vs h K := CW_CN (by kernel_rfl) tk20 vs h K
theorem a22 : A 22 = some F22 := by kernel_rfl
theorem tk22 : takes A 22 = false := by kernel_rfl
@[go_sem] theorem cw22 (vs : List V) (h : Heap) (K : V → Tn → Prop) : CW A PrA 22 vs h K = CN A PrA false 22 vs h K := CW_CN (by kernel_rfl) tk22 vs h K
theorem a23 : A 23 = some F23 := by kernel_rfl
theorem tk23 : takes A 23 = false := by kernel_rfl
@[go_sem] theorem cw23 (vs : List V) (h : Heap) (K : V → Tn → Prop) : CW A PrA 23 vs h K = CN A PrA false 23 vs h K := CW_CN (by kernel_rfl) tk23 vs h K
theorem a24 : A 24 = some F24 := by kernel_rfl
theorem tk24 : takes A 24 = false := by kernel_rfl
@[go_sem] theorem cw24 (vs : List V) (h : Heap) (K : V → Tn → Prop) : CW A PrA 24 vs h K = CN A PrA false 24 vs h K := CW_CN (by kernel_rfl) tk24 vs h K
theorem a26 : A 26 = some F26 := by kernel_rfl
theorem tk26 : takes A 26 = false := by kernel_rfl
@[go_sem] theorem cw26 (vs : List V) (h : Heap) (K : V → Tn → Prop) : CW A PrA 26 vs h K = CN A PrA false 26 vs h K := CW_CN (by kernel_rfl) tk26 vs h K
theorem a28 : A 28 = some F28 := by kernel_rfl
theorem tk28 : takes A 28 = false := by kernel_rfl
@[go_sem] theorem cw28 (vs : List V) (h : Heap) (K : V → Tn → Prop) : CW A PrA 28 vs h K = CN A PrA false 28 vs h K := CW_CN (by kernel_rfl) tk28 vs h K
theorem a29 : A 29 = some F29 := by kernel_rfl
theorem tk29 : takes A 29 = false := by kernel_rfl
@[go_sem] theorem cw29 (vs : List V) (h : Heap) (K : V → Tn → Prop) : CW A PrA 29 vs h K = CN A PrA false 29 vs h K := CW_CN (by kernel_rfl) tk29 vs h K
theorem a30 : A 30 = some F30 := by kernel_rfl
theorem tk30 : takes A 30 = false := by kernel_rfl
@[go_sem] theorem cw30 (vs : List V) (h : Heap) (K : V → Tn → Prop) : CW A PrA 30 vs h K = CN A PrA false 30 vs h K := CW_CN (by kernel_rfl) tk30 vs h K
theorem a32 : A 32 = some F32 := by kernel_rfl
theorem tk32 : takes A 32 = false := by kernel_rfl
@[go_sem] theorem cw32 (vs : List V) (h : Heap) (K : V → Tn → Prop) : CW A PrA 32 vs h K = CN A PrA false 32 vs h K := CW_CN (by kernel_rfl) tk32 vs h K
theorem a34 : A 34 = some F34 := by kernel_rfl
theorem tk34 : takes A 34 = false := by kernel_rfl
@[go_sem] theorem cw34 (vs : List V) (h : Heap) (K : V → Tn → Prop) : CW A PrA 34 vs h K = CN A PrA false 34 vs h K := CW_CN (by kernel_rfl) tk34 vs h K
theorem a35 : A 35 = some F35 := by kernel_rfl
theorem tk35 : takes A 35 = false := by kernel_rfl
@[go_sem] theorem cw35 (vs : List V) (h : Heap) (K : V → Tn → Prop) : CW A PrA 35 vs h K = CN A PrA false 35 vs h K := CW_CN (by kernel_rfl) tk35 vs h K
theorem a44 : A 44 = some F44 := by kernel_rfl
theorem tk44 : takes A 44 = false := by kernel_rfl
@[go_sem] theorem cw44 (vs : List V) (h : Heap) (K : V → Tn → Prop) : CW A PrA 44 vs h K = CN A PrA false 44 vs h K := CW_CN (by kernel_rfl) tk44 vs h K
theorem a45 : A 45 = some F45 := by kernel_rfl
theorem tk45 : takes A 45 = false := by kernel_rfl
@[go_sem] theorem cw45 (vs : List V) (h : Heap) (K : V → Tn → Prop) : CW A PrA 45 vs h K = CN A PrA false 45 vs h K := CW_CN (by kernel_rfl) tk45 vs h K
theorem a46 : A 46 = some F46 := by kernel_rfl
theorem tk46 : takes A 46 = false := by kernel_rfl
@[go_sem] theorem cw46 (vs : List V) (h : Heap) (K : V → Tn → Prop) : CW A PrA 46 vs h K = CN A PrA false 46 vs h K := CW_CN (by kernel_rfl) tk46 vs h K
theorem a47 : A 47 = some F47 := by kernel_rfl
theorem tk47 : takes A 47 = false := by kernel_rfl
@[go_sem] theorem cw47 (vs : List V) (h : Heap) (K : V → Tn → Prop) : CW A PrA 47 vs h K = CN A PrA false 47 vs h K := CW_CN (by kernel_rfl) tk47 vs h K
theorem a48 : A 48 = some F48 := by kernel_rfl
theorem tk48 : takes A 48 = false := by kernel_rfl
@[go_sem] theorem cw48 (vs : List V) (h : Heap) (K : V → Tn → Prop) : CW A PrA 48 vs h K = CN A PrA false 48 vs h K := CW_CN (by kernel_rfl) tk48 vs h K
theorem a49 : A 49 = some F49 := by kernel_rfl
theorem tk49 : takes A 49 = false := by kernel_rfl
@[go_sem] theorem cw49 (vs : List V) (h : Heap) (K : V → Tn → Prop) : CW A PrA 49 vs h K = CN A PrA false 49 vs h K := CW_CN (by kernel_rfl) tk49 vs h K
theorem a50 : A 50 = some F50 := by kernel_rfl
theorem tk50 : takes A 50 = false := by kernel_rfl
@[go_sem] theorem cw50 (vs : List V) (h : Heap) (K : V → Tn → Prop) : CW A PrA 50 vs h K = CN A PrA false 50 vs h K := CW_CN (by kernel_rfl) tk50 vs h K
theorem a54 : A 54 = some F54 := by kernel_rfl
theorem tk54 : takes A 54 = false := by kernel_rfl
@[go_sem] theorem cw54 (vs : List V) (h : Heap) (K : V → Tn → Prop) : CW A PrA 54 vs h K = CN A PrA false 54 vs h K := CW_CN (by kernel_rfl) tk54 vs h K
theorem a55 : A 55 = some F55 := by kernel_rfl
theorem tk55 : takes A 55 = false := by kernel_rfl
@[go_sem] theorem cw55 (vs : List V) (h : Heap) (K : V → Tn → Prop) : CW A PrA 55 vs h K = CN A PrA false 55 vs h K := CW_CN (by kernel_rfl) tk55 vs h K
theorem a56 : A 56 = some F56 := by kernel_rfl
theorem tk56 : takes A 56 = false := by kernel_rfl
@[go_sem] theorem cw56 (vs : List V) (h : Heap) (K : V → Tn → Prop) : CW A PrA 56 vs h K = CN A PrA false 56 vs h K := CW_CN (by kernel_rfl) tk56 vs h K
theorem a58 : A 58 = some F58 := by kernel_rfl
theorem tk58 : takes A 58 = false := by kernel_rfl
@[go_sem] theorem cw58 (vs : List V) (h : Heap) (K : V → Tn → Prop) : CW A PrA 58 vs h K = CN A PrA false 58 vs h K := CW_CN (by kernel_rfl) tk58 vs h K
theorem a59 : A 59 = some F59 := by kernel_rfl
theorem tk59 : takes A 59 = false := by kernel_rfl
@[go_sem] theorem cw59 (vs : List V) (h : Heap) (K : V → Tn → Prop) : CW A PrA 59 vs h K = CN A PrA false 59 vs h K := CW_CN (by kernel_rfl) tk59 vs h K
theorem a60 : A 60 = some F60 := by kernel_rfl
theorem tk60 : takes A 60 = false := by kernel_rfl
@[go_sem] theorem cw60 (vs : List V) (h : Heap) (K : V → Tn → Prop) : CW A PrA 60 vs h K = CN A PrA false 60 vs h K := CW_CN (by kernel_rfl) tk60 vs h K
theorem a63 : A 63 = some F63 := by kernel_rfl
theorem tk63 : takes A 63 = true := by kernel_rfl
@[go_sem] theorem cw63 (vs : List V) (h : Heap) (K : V → Tn → Prop) : CW A PrA 63 vs h K = CN A PrA true 63 vs h K := CW_CN (by kernel_rfl) tk63 vs h K
theorem a65 : A 65 = some F65 := by kernel_rfl
theorem tk65 : takes A 65 = false := by kernel_rfl
@[go_sem] theorem cw65 (vs : List V) (h : Heap) (K : V → Tn → Prop) : CW A PrA 65 vs h K = CN A PrA false 65 vs h K := CW_CN (by kernel_rfl) tk65 vs h K
theorem a66 : A 66 = some F66 := by kernel_rfl
theorem tk66 : takes A 66 = false := by kernel_rfl
@[go_sem] theorem cw66 (vs : List V) (h : Heap) (K : V → Tn → Prop) : CW A PrA 66 vs h K = CN A PrA false 66 vs h K := CW_CN (by kernel_rfl) tk66 vs h K
theorem a77 : A 77 = some F77 := by kernel_rfl
theorem tk77 : takes A 77 = false := by kernel_rfl
@[go_sem] theorem cw77 (vs : List V) (h : Heap) (K : V → Tn → Prop) : CW A PrA 77 vs h K = CN A PrA false 77 vs h K := CW_CN (by kernel_rfl) tk77 vs h K
end Go.Pv
