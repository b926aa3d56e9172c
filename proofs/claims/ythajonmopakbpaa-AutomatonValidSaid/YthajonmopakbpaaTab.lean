/-
  The table of functions.
-/
import Derived.Test.YthajonmopakbpaaF1
import Derived.KernelRfl
set_option linter.unusedSimpArgs false
set_option linter.unusedVariables false
namespace Go.Pv
def tabL : List (Nat × AFunc) := [(26, F26), (27, F27), (29, F29), (44, F44), (45, F45), (46, F46), (47, F47), (50, F50), (58, F58), (59, F59), (60, F60), (66, F66), (84, F84), (91, F91), (94, F94), (95, F95), (97, F97), (98, F98), (102, F102), (104, F104), (107, F107), (108, F108), (109, F109), (110, F110), (112, F112), (113, F113), (114, F114), (115, F115), (116, F116), (117, F117), (118, F118), (128, F128), (129, F129), (130, F130), (134, F134), (135, F135), (136, F136), (138, F138), (139, F139), (140, F140)]
def prL : List (Nat × Prim) := [(51, sortP 4 (sortRows Edge.c Edge.dec Edge.lt) 47), (64, cloneP 4), (103, sortIP)]
def PrA : Prims := fun n => look1 n prL
def A (n : Nat) : Option AFunc := look1 n tabL
@[go_sem] theorem cp51 (vs : List V) (h : Heap) (K : V → Tn → Prop) : CW A PrA 51 vs h K = optK ((sortP 4 (sortRows Edge.c Edge.dec Edge.lt) 47 : Prim) vs h) fun r => K r.1 r.2 := CW_some (by kernel_rfl) vs h K
@[go_sem] theorem cp64 (vs : List V) (h : Heap) (K : V → Tn → Prop) : CW A PrA 64 vs h K = optK ((cloneP 4 : Prim) vs h) fun r => K r.1 r.2 := CW_some (by kernel_rfl) vs h K
@[go_sem] theorem cp103 (vs : List V) (h : Heap) (K : V → Tn → Prop) : CW A PrA 103 vs h K = optK ((sortIP : Prim) vs h) fun r => K r.1 r.2 := CW_some (by kernel_rfl) vs h K
theorem a26 : A 26 = some F26 := by kernel_rfl
theorem tk26 : takes A 26 = false := by kernel_rfl
@[go_sem] theorem cw26 (vs : List V) (h : Heap) (K : V → Tn → Prop) : CW A PrA 26 vs h K = CN A PrA false 26 vs h K := CW_CN (by kernel_rfl) tk26 vs h K
theorem a27 : A 27 = some F27 := by kernel_rfl
theorem tk27 : takes A 27 = false := by kernel_rfl
@[go_sem] theorem cw27 (vs : List V) (h : Heap) (K : V → Tn → Prop) : CW A PrA 27 vs h K = CN A PrA false 27 vs h K := CW_CN (by kernel_rfl) tk27 vs h K
theorem a29 : A 29 = some F29 := by kernel_rfl
theorem tk29 : takes A 29 = false := by kernel_rfl
@[go_sem] theorem cw29 (vs : List V) (h : Heap) (K : V → Tn → Prop) : CW A PrA 29 vs h K = CN A PrA false 29 vs h K := CW_CN (by kernel_rfl) tk29 vs h K
theorem a44 : A 44 = some F44 := by kernel_rfl
theorem tk44 : takes A 44 = false := by kernel_rfl
@[go_sem] theorem cw44 (vs : List V) (h : Heap) (K : V → Tn → Prop) : CW A PrA 44 vs h K = CN A PrA false 44 vs h K := CW_CN (by kernel_rfl) tk44 vs h K
theorem a45 : A 45 = some F45 := by kernel_rfl
theorem tk45 : takes A 45 = false := by kernel_rfl
@[go_sem] theorem cw45 (vs : List V) (h : Heap) (K : V → Tn → Prop) : CW A PrA 45 vs h K = CN A PrA false 45 vs h K := CW_CN (by kernel_rfl) tk45 vs h K
theorem a46 : A 46 = some F46 := by kernel_rfl
theorem tk46 : takes A 46 = false := by kernel_rfl
@[go_sem] theorem cw46 (vs : List V) (h : Heap) (K : V → Tn → Prop) : CW A PrA 46 vs h K = CN A PrA false 46 vs h K := CW_CN (by kernel_rfl) tk46 vs h K
theorem a47 : A 47 = some F47 := by kernel_rfl
theorem tk47 : takes A 47 = false := by kernel_rfl
@[go_sem] theorem cw47 (vs : List V) (h : Heap) (K : V → Tn → Prop) : CW A PrA 47 vs h K = CN A PrA false 47 vs h K := CW_CN (by kernel_rfl) tk47 vs h K
theorem a50 : A 50 = some F50 := by kernel_rfl
theorem tk50 : takes A 50 = false := by kernel_rfl
@[go_sem] theorem cw50 (vs : List V) (h : Heap) (K : V → Tn → Prop) : CW A PrA 50 vs h K = CN A PrA false 50 vs h K := CW_CN (by kernel_rfl) tk50 vs h K
theorem a58 : A 58 = some F58 := by kernel_rfl
theorem tk58 : takes A 58 = false := by kernel_rfl
@[go_sem] theorem cw58 (vs : List V) (h : Heap) (K : V → Tn → Prop) : CW A PrA 58 vs h K = CN A PrA false 58 vs h K := CW_CN (by kernel_rfl) tk58 vs h K
theorem a59 : A 59 = some F59 := by kernel_rfl
theorem tk59 : takes A 59 = false := by kernel_rfl
@[go_sem] theorem cw59 (vs : List V) (h : Heap) (K : V → Tn → Prop) : CW A PrA 59 vs h K = CN A PrA false 59 vs h K := CW_CN (by kernel_rfl) tk59 vs h K
theorem a60 : A 60 = some F60 := by kernel_rfl
theorem tk60 : takes A 60 = false := by kernel_rfl
@[go_sem] theorem cw60 (vs : List V) (h : Heap) (K : V → Tn → Prop) : CW A PrA 60 vs h K = CN A PrA false 60 vs h K := CW_CN (by kernel_rfl) tk60 vs h K
theorem a66 : A 66 = some F66 := by kernel_rfl
theorem tk66 : takes A 66 = false := by kernel_rfl
@[go_sem] theorem cw66 (vs : List V) (h : Heap) (K : V → Tn → Prop) : CW A PrA 66 vs h K = CN A PrA false 66 vs h K := CW_CN (by kernel_rfl) tk66 vs h K
theorem a84 : A 84 = some F84 := by kernel_rfl
theorem tk84 : takes A 84 = false := by kernel_rfl
@[go_sem] theorem cw84 (vs : List V) (h : Heap) (K : V → Tn → Prop) : CW A PrA 84 vs h K = CN A PrA false 84 vs h K := CW_CN (by kernel_rfl) tk84 vs h K
theorem a91 : A 91 = some F91 := by kernel_rfl
theorem tk91 : takes A 91 = false := by kernel_rfl
@[go_sem] theorem cw91 (vs : List V) (h : Heap) (K : V → Tn → Prop) : CW A PrA 91 vs h K = CN A PrA false 91 vs h K := CW_CN (by kernel_rfl) tk91 vs h K
theorem a94 : A 94 = some F94 := by kernel_rfl
theorem tk94 : takes A 94 = false := by kernel_rfl
@[go_sem] theorem cw94 (vs : List V) (h : Heap) (K : V → Tn → Prop) : CW A PrA 94 vs h K = CN A PrA false 94 vs h K := CW_CN (by kernel_rfl) tk94 vs h K
theorem a95 : A 95 = some F95 := by kernel_rfl
theorem tk95 : takes A 95 = false := by kernel_rfl
@[go_sem] theorem cw95 (vs : List V) (h : Heap) (K : V → Tn → Prop) : CW A PrA 95 vs h K = CN A PrA false 95 vs h K := CW_CN (by kernel_rfl) tk95 vs h K
theorem a97 : A 97 = some F97 := by kernel_rfl
theorem tk97 : takes A 97 = false := by kernel_rfl
@[go_sem] theorem cw97 (vs : List V) (h : Heap) (K : V → Tn → Prop) : CW A PrA 97 vs h K = CN A PrA false 97 vs h K := CW_CN (by kernel_rfl) tk97 vs h K
theorem a98 : A 98 = some F98 := by kernel_rfl
theorem tk98 : takes A 98 = false := by kernel_rfl
@[go_sem] theorem cw98 (vs : List V) (h : Heap) (K : V → Tn → Prop) : CW A PrA 98 vs h K = CN A PrA false 98 vs h K := CW_CN (by kernel_rfl) tk98 vs h K
theorem a102 : A 102 = some F102 := by kernel_rfl
theorem tk102 : takes A 102 = false := by kernel_rfl
@[go_sem] theorem cw102 (vs : List V) (h : Heap) (K : V → Tn → Prop) : CW A PrA 102 vs h K = CN A PrA false 102 vs h K := CW_CN (by kernel_rfl) tk102 vs h K
theorem a104 : A 104 = some F104 := by kernel_rfl
theorem tk104 : takes A 104 = true := by kernel_rfl
@[go_sem] theorem cw104 (vs : List V) (h : Heap) (K : V → Tn → Prop) : CW A PrA 104 vs h K = CN A PrA true 104 vs h K := CW_CN (by kernel_rfl) tk104 vs h K
theorem a107 : A 107 = some F107 := by kernel_rfl
theorem tk107 : takes A 107 = false := by kernel_rfl
@[go_sem] theorem cw107 (vs : List V) (h : Heap) (K : V → Tn → Prop) : CW A PrA 107 vs h K = CN A PrA false 107 vs h K := CW_CN (by kernel_rfl) tk107 vs h K
theorem a108 : A 108 = some F108 := by kernel_rfl
theorem tk108 : takes A 108 = false := by kernel_rfl
@[go_sem] theorem cw108 (vs : List V) (h : Heap) (K : V → Tn → Prop) : CW A PrA 108 vs h K = CN A PrA false 108 vs h K := CW_CN (by kernel_rfl) tk108 vs h K
theorem a109 : A 109 = some F109 := by kernel_rfl
theorem tk109 : takes A 109 = false := by kernel_rfl
@[go_sem] theorem cw109 (vs : List V) (h : Heap) (K : V → Tn → Prop) : CW A PrA 109 vs h K = CN A PrA false 109 vs h K := CW_CN (by kernel_rfl) tk109 vs h K
theorem a110 : A 110 = some F110 := by kernel_rfl
theorem tk110 : takes A 110 = false := by kernel_rfl
@[go_sem] theorem cw110 (vs : List V) (h : Heap) (K : V → Tn → Prop) : CW A PrA 110 vs h K = CN A PrA false 110 vs h K := CW_CN (by kernel_rfl) tk110 vs h K
theorem a112 : A 112 = some F112 := by kernel_rfl
theorem tk112 : takes A 112 = false := by kernel_rfl
@[go_sem] theorem cw112 (vs : List V) (h : Heap) (K : V → Tn → Prop) : CW A PrA 112 vs h K = CN A PrA false 112 vs h K := CW_CN (by kernel_rfl) tk112 vs h K
theorem a113 : A 113 = some F113 := by kernel_rfl
theorem tk113 : takes A 113 = false := by kernel_rfl
@[go_sem] theorem cw113 (vs : List V) (h : Heap) (K : V → Tn → Prop) : CW A PrA 113 vs h K = CN A PrA false 113 vs h K := CW_CN (by kernel_rfl) tk113 vs h K
theorem a114 : A 114 = some F114 := by kernel_rfl
theorem tk114 : takes A 114 = false := by kernel_rfl
@[go_sem] theorem cw114 (vs : List V) (h : Heap) (K : V → Tn → Prop) : CW A PrA 114 vs h K = CN A PrA false 114 vs h K := CW_CN (by kernel_rfl) tk114 vs h K
theorem a115 : A 115 = some F115 := by kernel_rfl
theorem tk115 : takes A 115 = false := by kernel_rfl
@[go_sem] theorem cw115 (vs : List V) (h : Heap) (K : V → Tn → Prop) : CW A PrA 115 vs h K = CN A PrA false 115 vs h K := CW_CN (by kernel_rfl) tk115 vs h K
theorem a116 : A 116 = some F116 := by kernel_rfl
theorem tk116 : takes A 116 = false := by kernel_rfl
@[go_sem] theorem cw116 (vs : List V) (h : Heap) (K : V → Tn → Prop) : CW A PrA 116 vs h K = CN A PrA false 116 vs h K := CW_CN (by kernel_rfl) tk116 vs h K
theorem a117 : A 117 = some F117 := by kernel_rfl
theorem tk117 : takes A 117 = false := by kernel_rfl
@[go_sem] theorem cw117 (vs : List V) (h : Heap) (K : V → Tn → Prop) : CW A PrA 117 vs h K = CN A PrA false 117 vs h K := CW_CN (by kernel_rfl) tk117 vs h K
theorem a118 : A 118 = some F118 := by kernel_rfl
theorem tk118 : takes A 118 = false := by kernel_rfl
@[go_sem] theorem cw118 (vs : List V) (h : Heap) (K : V → Tn → Prop) : CW A PrA 118 vs h K = CN A PrA false 118 vs h K := CW_CN (by kernel_rfl) tk118 vs h K
theorem a128 : A 128 = some F128 := by kernel_rfl
theorem tk128 : takes A 128 = false := by kernel_rfl
@[go_sem] theorem cw128 (vs : List V) (h : Heap) (K : V → Tn → Prop) : CW A PrA 128 vs h K = CN A PrA false 128 vs h K := CW_CN (by kernel_rfl) tk128 vs h K
theorem a129 : A 129 = some F129 := by kernel_rfl
theorem tk129 : takes A 129 = false := by kernel_rfl
@[go_sem] theorem cw129 (vs : List V) (h : Heap) (K : V → Tn → Prop) : CW A PrA 129 vs h K = CN A PrA false 129 vs h K := CW_CN (by kernel_rfl) tk129 vs h K
theorem a130 : A 130 = some F130 := by kernel_rfl
theorem tk130 : takes A 130 = false := by kernel_rfl
@[go_sem] theorem cw130 (vs : List V) (h : Heap) (K : V → Tn → Prop) : CW A PrA 130 vs h K = CN A PrA false 130 vs h K := CW_CN (by kernel_rfl) tk130 vs h K
theorem a134 : A 134 = some F134 := by kernel_rfl
theorem tk134 : takes A 134 = false := by kernel_rfl
@[go_sem] theorem cw134 (vs : List V) (h : Heap) (K : V → Tn → Prop) : CW A PrA 134 vs h K = CN A PrA false 134 vs h K := CW_CN (by kernel_rfl) tk134 vs h K
theorem a135 : A 135 = some F135 := by kernel_rfl
theorem tk135 : takes A 135 = false := by kernel_rfl
@[go_sem] theorem cw135 (vs : List V) (h : Heap) (K : V → Tn → Prop) : CW A PrA 135 vs h K = CN A PrA false 135 vs h K := CW_CN (by kernel_rfl) tk135 vs h K
theorem a136 : A 136 = some F136 := by kernel_rfl
theorem tk136 : takes A 136 = false := by kernel_rfl
@[go_sem] theorem cw136 (vs : List V) (h : Heap) (K : V → Tn → Prop) : CW A PrA 136 vs h K = CN A PrA false 136 vs h K := CW_CN (by kernel_rfl) tk136 vs h K
theorem a138 : A 138 = some F138 := by kernel_rfl
theorem tk138 : takes A 138 = false := by kernel_rfl
@[go_sem] theorem cw138 (vs : List V) (h : Heap) (K : V → Tn → Prop) : CW A PrA 138 vs h K = CN A PrA false 138 vs h K := CW_CN (by kernel_rfl) tk138 vs h K
theorem a139 : A 139 = some F139 := by kernel_rfl
theorem tk139 : takes A 139 = false := by kernel_rfl
@[go_sem] theorem cw139 (vs : List V) (h : Heap) (K : V → Tn → Prop) : CW A PrA 139 vs h K = CN A PrA false 139 vs h K := CW_CN (by kernel_rfl) tk139 vs h K
theorem a140 : A 140 = some F140 := by kernel_rfl
theorem tk140 : takes A 140 = false := by kernel_rfl
@[go_sem] theorem cw140 (vs : List V) (h : Heap) (K : V → Tn → Prop) : CW A PrA 140 vs h K = CN A PrA false 140 vs h K := CW_CN (by kernel_rfl) tk140 vs h K
end Go.Pv
