/-
  The table of functions.
-/
import Derived.Test.YtnhbggnlnfcpkaaF1
import Derived.KernelRfl
set_option linter.unusedSimpArgs false
set_option linter.unusedVariables false
namespace Go.Pv
def tabL : List (Nat × AFunc) := [(14, F14), (60, F60), (62, F62), (66, F66), (75, F75), (76, F76), (79, F79), (80, F80), (104, F104), (108, F108), (112, F112), (113, F113), (114, F114), (115, F115), (116, F116), (117, F117), (118, F118), (128, F128), (129, F129), (130, F130), (134, F134), (135, F135), (136, F136), (138, F138), (139, F139), (140, F140), (340, F340), (342, F342), (343, F343), (345, F345), (346, F346), (348, F348), (349, F349), (350, F350), (351, F351), (353, F353), (354, F354), (355, F355), (356, F356), (358, F358), (359, F359), (360, F360), (361, F361), (362, F362), (363, F363), (367, F367), (368, F368), (369, F369), (370, F370), (371, F371), (372, F372), (373, F373), (374, F374), (375, F375), (376, F376), (377, F377), (378, F378), (379, F379), (380, F380), (381, F381), (382, F382), (383, F383), (384, F384), (385, F385), (386, F386), (387, F387), (388, F388)]
def prL : List (Nat × Prim) := [(103, sortIP), (191, cloneP 1), (347, cloneP 2)]
def PrA : Prims := fun n => look1 n prL
def A (n : Nat) : Option AFunc := look1 n tabL
@[go_sem] theorem cp103 (vs : List V) (h : Heap) (K : V → Tn → Prop) : CW A PrA 103 vs h K = optK ((sortIP : Prim) vs h) fun r => K r.1 r.2 := CW_some (by kernel_rfl) (by kernel_rfl) vs h K
@[go_sem] theorem cp191 (vs : List V) (h : Heap) (K : V → Tn → Prop) : CW A PrA 191 vs h K = optK ((cloneP 1 : Prim) vs h) fun r => K r.1 r.2 := CW_some (by kernel_rfl) (by kernel_rfl) vs h K
@[go_sem] theorem cp347 (vs : List V) (h : Heap) (K : V → Tn → Prop) : CW A PrA 347 vs h K = optK ((cloneP 2 : Prim) vs h) fun r => K r.1 r.2 := CW_some (by kernel_rfl) (by kernel_rfl) vs h K
theorem a14 : A 14 = some F14 := by kernel_rfl
theorem tk14 : takes A 14 = false := by kernel_rfl
@[go_sem] theorem cw14 (vs : List V) (h : Heap) (K : V → Tn → Prop) : CW A PrA 14 vs h K = CN A PrA false 14 vs h K := CW_CN (by kernel_rfl) (by kernel_rfl) tk14 vs h K
theorem a60 : A 60 = some F60 := by kernel_rfl
theorem tk60 : takes A 60 = false := by kernel_rfl
@[go_sem] theorem cw60 (vs : List V) (h : Heap) (K : V → Tn → Prop) : CW A PrA 60 vs h K = CN A PrA false 60 vs h K := CW_CN (by kernel_rfl) (by kernel_rfl) tk60 vs h K
theorem a62 : A 62 = some F62 := by kernel_rfl
theorem tk62 : takes A 62 = false := by kernel_rfl
@[go_sem] theorem cw62 (vs : List V) (h : Heap) (K : V → Tn → Prop) : CW A PrA 62 vs h K = CN A PrA false 62 vs h K := CW_CN (by kernel_rfl) (by kernel_rfl) tk62 vs h K
theorem a66 : A 66 = some F66 := by kernel_rfl
theorem tk66 : takes A 66 = false := by kernel_rfl
@[go_sem] theorem cw66 (vs : List V) (h : Heap) (K : V → Tn → Prop) : CW A PrA 66 vs h K = CN A PrA false 66 vs h K := CW_CN (by kernel_rfl) (by kernel_rfl) tk66 vs h K
theorem a75 : A 75 = some F75 := by kernel_rfl
theorem tk75 : takes A 75 = false := by kernel_rfl
@[go_sem] theorem cw75 (vs : List V) (h : Heap) (K : V → Tn → Prop) : CW A PrA 75 vs h K = CN A PrA false 75 vs h K := CW_CN (by kernel_rfl) (by kernel_rfl) tk75 vs h K
theorem a76 : A 76 = some F76 := by kernel_rfl
theorem tk76 : takes A 76 = false := by kernel_rfl
@[go_sem] theorem cw76 (vs : List V) (h : Heap) (K : V → Tn → Prop) : CW A PrA 76 vs h K = CN A PrA false 76 vs h K := CW_CN (by kernel_rfl) (by kernel_rfl) tk76 vs h K
theorem a79 : A 79 = some F79 := by kernel_rfl
theorem tk79 : takes A 79 = false := by kernel_rfl
@[go_sem] theorem cw79 (vs : List V) (h : Heap) (K : V → Tn → Prop) : CW A PrA 79 vs h K = CN A PrA false 79 vs h K := CW_CN (by kernel_rfl) (by kernel_rfl) tk79 vs h K
theorem a80 : A 80 = some F80 := by kernel_rfl
theorem tk80 : takes A 80 = false := by kernel_rfl
@[go_sem] theorem cw80 (vs : List V) (h : Heap) (K : V → Tn → Prop) : CW A PrA 80 vs h K = CN A PrA false 80 vs h K := CW_CN (by kernel_rfl) (by kernel_rfl) tk80 vs h K
theorem a104 : A 104 = some F104 := by kernel_rfl
theorem tk104 : takes A 104 = true := by kernel_rfl
@[go_sem] theorem cw104 (vs : List V) (h : Heap) (K : V → Tn → Prop) : CW A PrA 104 vs h K = CN A PrA true 104 vs h K := CW_CN (by kernel_rfl) (by kernel_rfl) tk104 vs h K
theorem a108 : A 108 = some F108 := by kernel_rfl
theorem tk108 : takes A 108 = false := by kernel_rfl
@[go_sem] theorem cw108 (vs : List V) (h : Heap) (K : V → Tn → Prop) : CW A PrA 108 vs h K = CN A PrA false 108 vs h K := CW_CN (by kernel_rfl) (by kernel_rfl) tk108 vs h K
theorem a112 : A 112 = some F112 := by kernel_rfl
theorem tk112 : takes A 112 = false := by kernel_rfl
@[go_sem] theorem cw112 (vs : List V) (h : Heap) (K : V → Tn → Prop) : CW A PrA 112 vs h K = CN A PrA false 112 vs h K := CW_CN (by kernel_rfl) (by kernel_rfl) tk112 vs h K
theorem a113 : A 113 = some F113 := by kernel_rfl
theorem tk113 : takes A 113 = false := by kernel_rfl
@[go_sem] theorem cw113 (vs : List V) (h : Heap) (K : V → Tn → Prop) : CW A PrA 113 vs h K = CN A PrA false 113 vs h K := CW_CN (by kernel_rfl) (by kernel_rfl) tk113 vs h K
theorem a114 : A 114 = some F114 := by kernel_rfl
theorem tk114 : takes A 114 = false := by kernel_rfl
@[go_sem] theorem cw114 (vs : List V) (h : Heap) (K : V → Tn → Prop) : CW A PrA 114 vs h K = CN A PrA false 114 vs h K := CW_CN (by kernel_rfl) (by kernel_rfl) tk114 vs h K
theorem a115 : A 115 = some F115 := by kernel_rfl
theorem tk115 : takes A 115 = false := by kernel_rfl
@[go_sem] theorem cw115 (vs : List V) (h : Heap) (K : V → Tn → Prop) : CW A PrA 115 vs h K = CN A PrA false 115 vs h K := CW_CN (by kernel_rfl) (by kernel_rfl) tk115 vs h K
theorem a116 : A 116 = some F116 := by kernel_rfl
theorem tk116 : takes A 116 = false := by kernel_rfl
@[go_sem] theorem cw116 (vs : List V) (h : Heap) (K : V → Tn → Prop) : CW A PrA 116 vs h K = CN A PrA false 116 vs h K := CW_CN (by kernel_rfl) (by kernel_rfl) tk116 vs h K
theorem a117 : A 117 = some F117 := by kernel_rfl
theorem tk117 : takes A 117 = false := by kernel_rfl
@[go_sem] theorem cw117 (vs : List V) (h : Heap) (K : V → Tn → Prop) : CW A PrA 117 vs h K = CN A PrA false 117 vs h K := CW_CN (by kernel_rfl) (by kernel_rfl) tk117 vs h K
theorem a118 : A 118 = some F118 := by kernel_rfl
theorem tk118 : takes A 118 = false := by kernel_rfl
@[go_sem] theorem cw118 (vs : List V) (h : Heap) (K : V → Tn → Prop) : CW A PrA 118 vs h K = CN A PrA false 118 vs h K := CW_CN (by kernel_rfl) (by kernel_rfl) tk118 vs h K
theorem a128 : A 128 = some F128 := by kernel_rfl
theorem tk128 : takes A 128 = false := by kernel_rfl
@[go_sem] theorem cw128 (vs : List V) (h : Heap) (K : V → Tn → Prop) : CW A PrA 128 vs h K = CN A PrA false 128 vs h K := CW_CN (by kernel_rfl) (by kernel_rfl) tk128 vs h K
theorem a129 : A 129 = some F129 := by kernel_rfl
theorem tk129 : takes A 129 = false := by kernel_rfl
@[go_sem] theorem cw129 (vs : List V) (h : Heap) (K : V → Tn → Prop) : CW A PrA 129 vs h K = CN A PrA false 129 vs h K := CW_CN (by kernel_rfl) (by kernel_rfl) tk129 vs h K
theorem a130 : A 130 = some F130 := by kernel_rfl
theorem tk130 : takes A 130 = false := by kernel_rfl
@[go_sem] theorem cw130 (vs : List V) (h : Heap) (K : V → Tn → Prop) : CW A PrA 130 vs h K = CN A PrA false 130 vs h K := CW_CN (by kernel_rfl) (by kernel_rfl) tk130 vs h K
theorem a134 : A 134 = some F134 := by kernel_rfl
theorem tk134 : takes A 134 = false := by kernel_rfl
@[go_sem] theorem cw134 (vs : List V) (h : Heap) (K : V → Tn → Prop) : CW A PrA 134 vs h K = CN A PrA false 134 vs h K := CW_CN (by kernel_rfl) (by kernel_rfl) tk134 vs h K
theorem a135 : A 135 = some F135 := by kernel_rfl
theorem tk135 : takes A 135 = false := by kernel_rfl
@[go_sem] theorem cw135 (vs : List V) (h : Heap) (K : V → Tn → Prop) : CW A PrA 135 vs h K = CN A PrA false 135 vs h K := CW_CN (by kernel_rfl) (by kernel_rfl) tk135 vs h K
theorem a136 : A 136 = some F136 := by kernel_rfl
theorem tk136 : takes A 136 = false := by kernel_rfl
@[go_sem] theorem cw136 (vs : List V) (h : Heap) (K : V → Tn → Prop) : CW A PrA 136 vs h K = CN A PrA false 136 vs h K := CW_CN (by kernel_rfl) (by kernel_rfl) tk136 vs h K
theorem a138 : A 138 = some F138 := by kernel_rfl
theorem tk138 : takes A 138 = false := by kernel_rfl
@[go_sem] theorem cw138 (vs : List V) (h : Heap) (K : V → Tn → Prop) : CW A PrA 138 vs h K = CN A PrA false 138 vs h K := CW_CN (by kernel_rfl) (by kernel_rfl) tk138 vs h K
theorem a139 : A 139 = some F139 := by kernel_rfl
theorem tk139 : takes A 139 = false := by kernel_rfl
@[go_sem] theorem cw139 (vs : List V) (h : Heap) (K : V → Tn → Prop) : CW A PrA 139 vs h K = CN A PrA false 139 vs h K := CW_CN (by kernel_rfl) (by kernel_rfl) tk139 vs h K
theorem a140 : A 140 = some F140 := by kernel_rfl
theorem tk140 : takes A 140 = false := by kernel_rfl
@[go_sem] theorem cw140 (vs : List V) (h : Heap) (K : V → Tn → Prop) : CW A PrA 140 vs h K = CN A PrA false 140 vs h K := CW_CN (by kernel_rfl) (by kernel_rfl) tk140 vs h K
theorem a340 : A 340 = some F340 := by kernel_rfl
theorem tk340 : takes A 340 = false := by kernel_rfl
@[go_sem] theorem cw340 (vs : List V) (h : Heap) (K : V → Tn → Prop) : CW A PrA 340 vs h K = CN A PrA false 340 vs h K := CW_CN (by kernel_rfl) (by kernel_rfl) tk340 vs h K
theorem a342 : A 342 = some F342 := by kernel_rfl
theorem tk342 : takes A 342 = false := by kernel_rfl
@[go_sem] theorem cw342 (vs : List V) (h : Heap) (K : V → Tn → Prop) : CW A PrA 342 vs h K = CN A PrA false 342 vs h K := CW_CN (by kernel_rfl) (by kernel_rfl) tk342 vs h K
theorem a343 : A 343 = some F343 := by kernel_rfl
theorem tk343 : takes A 343 = false := by kernel_rfl
@[go_sem] theorem cw343 (vs : List V) (h : Heap) (K : V → Tn → Prop) : CW A PrA 343 vs h K = CN A PrA false 343 vs h K := CW_CN (by kernel_rfl) (by kernel_rfl) tk343 vs h K
theorem a345 : A 345 = some F345 := by kernel_rfl
theorem tk345 : takes A 345 = false := by kernel_rfl
@[go_sem] theorem cw345 (vs : List V) (h : Heap) (K : V → Tn → Prop) : CW A PrA 345 vs h K = CN A PrA false 345 vs h K := CW_CN (by kernel_rfl) (by kernel_rfl) tk345 vs h K
theorem a346 : A 346 = some F346 := by kernel_rfl
theorem tk346 : takes A 346 = false := by kernel_rfl
@[go_sem] theorem cw346 (vs : List V) (h : Heap) (K : V → Tn → Prop) : CW A PrA 346 vs h K = CN A PrA false 346 vs h K := CW_CN (by kernel_rfl) (by kernel_rfl) tk346 vs h K
theorem a348 : A 348 = some F348 := by kernel_rfl
theorem tk348 : takes A 348 = false := by kernel_rfl
@[go_sem] theorem cw348 (vs : List V) (h : Heap) (K : V → Tn → Prop) : CW A PrA 348 vs h K = CN A PrA false 348 vs h K := CW_CN (by kernel_rfl) (by kernel_rfl) tk348 vs h K
theorem a349 : A 349 = some F349 := by kernel_rfl
theorem tk349 : takes A 349 = false := by kernel_rfl
@[go_sem] theorem cw349 (vs : List V) (h : Heap) (K : V → Tn → Prop) : CW A PrA 349 vs h K = CN A PrA false 349 vs h K := CW_CN (by kernel_rfl) (by kernel_rfl) tk349 vs h K
theorem a350 : A 350 = some F350 := by kernel_rfl
theorem tk350 : takes A 350 = false := by kernel_rfl
@[go_sem] theorem cw350 (vs : List V) (h : Heap) (K : V → Tn → Prop) : CW A PrA 350 vs h K = CN A PrA false 350 vs h K := CW_CN (by kernel_rfl) (by kernel_rfl) tk350 vs h K
theorem a351 : A 351 = some F351 := by kernel_rfl
theorem tk351 : takes A 351 = false := by kernel_rfl
@[go_sem] theorem cw351 (vs : List V) (h : Heap) (K : V → Tn → Prop) : CW A PrA 351 vs h K = CN A PrA false 351 vs h K := CW_CN (by kernel_rfl) (by kernel_rfl) tk351 vs h K
theorem a353 : A 353 = some F353 := by kernel_rfl
theorem tk353 : takes A 353 = false := by kernel_rfl
@[go_sem] theorem cw353 (vs : List V) (h : Heap) (K : V → Tn → Prop) : CW A PrA 353 vs h K = CN A PrA false 353 vs h K := CW_CN (by kernel_rfl) (by kernel_rfl) tk353 vs h K
theorem a354 : A 354 = some F354 := by kernel_rfl
theorem tk354 : takes A 354 = false := by kernel_rfl
@[go_sem] theorem cw354 (vs : List V) (h : Heap) (K : V → Tn → Prop) : CW A PrA 354 vs h K = CN A PrA false 354 vs h K := CW_CN (by kernel_rfl) (by kernel_rfl) tk354 vs h K
theorem a355 : A 355 = some F355 := by kernel_rfl
theorem tk355 : takes A 355 = false := by kernel_rfl
@[go_sem] theorem cw355 (vs : List V) (h : Heap) (K : V → Tn → Prop) : CW A PrA 355 vs h K = CN A PrA false 355 vs h K := CW_CN (by kernel_rfl) (by kernel_rfl) tk355 vs h K
theorem a356 : A 356 = some F356 := by kernel_rfl
theorem tk356 : takes A 356 = false := by kernel_rfl
@[go_sem] theorem cw356 (vs : List V) (h : Heap) (K : V → Tn → Prop) : CW A PrA 356 vs h K = CN A PrA false 356 vs h K := CW_CN (by kernel_rfl) (by kernel_rfl) tk356 vs h K
theorem a358 : A 358 = some F358 := by kernel_rfl
theorem tk358 : takes A 358 = false := by kernel_rfl
@[go_sem] theorem cw358 (vs : List V) (h : Heap) (K : V → Tn → Prop) : CW A PrA 358 vs h K = CN A PrA false 358 vs h K := CW_CN (by kernel_rfl) (by kernel_rfl) tk358 vs h K
theorem a359 : A 359 = some F359 := by kernel_rfl
theorem tk359 : takes A 359 = false := by kernel_rfl
@[go_sem] theorem cw359 (vs : List V) (h : Heap) (K : V → Tn → Prop) : CW A PrA 359 vs h K = CN A PrA false 359 vs h K := CW_CN (by kernel_rfl) (by kernel_rfl) tk359 vs h K
theorem a360 : A 360 = some F360 := by kernel_rfl
theorem tk360 : takes A 360 = false := by kernel_rfl
@[go_sem] theorem cw360 (vs : List V) (h : Heap) (K : V → Tn → Prop) : CW A PrA 360 vs h K = CN A PrA false 360 vs h K := CW_CN (by kernel_rfl) (by kernel_rfl) tk360 vs h K
theorem a361 : A 361 = some F361 := by kernel_rfl
theorem tk361 : takes A 361 = false := by kernel_rfl
@[go_sem] theorem cw361 (vs : List V) (h : Heap) (K : V → Tn → Prop) : CW A PrA 361 vs h K = CN A PrA false 361 vs h K := CW_CN (by kernel_rfl) (by kernel_rfl) tk361 vs h K
theorem a362 : A 362 = some F362 := by kernel_rfl
theorem tk362 : takes A 362 = false := by kernel_rfl
@[go_sem] theorem cw362 (vs : List V) (h : Heap) (K : V → Tn → Prop) : CW A PrA 362 vs h K = CN A PrA false 362 vs h K := CW_CN (by kernel_rfl) (by kernel_rfl) tk362 vs h K
theorem a363 : A 363 = some F363 := by kernel_rfl
theorem tk363 : takes A 363 = false := by kernel_rfl
@[go_sem] theorem cw363 (vs : List V) (h : Heap) (K : V → Tn → Prop) : CW A PrA 363 vs h K = CN A PrA false 363 vs h K := CW_CN (by kernel_rfl) (by kernel_rfl) tk363 vs h K
theorem a367 : A 367 = some F367 := by kernel_rfl
theorem tk367 : takes A 367 = false := by kernel_rfl
@[go_sem] theorem cw367 (vs : List V) (h : Heap) (K : V → Tn → Prop) : CW A PrA 367 vs h K = CN A PrA false 367 vs h K := CW_CN (by kernel_rfl) (by kernel_rfl) tk367 vs h K
theorem a368 : A 368 = some F368 := by kernel_rfl
theorem tk368 : takes A 368 = false := by kernel_rfl
@[go_sem] theorem cw368 (vs : List V) (h : Heap) (K : V → Tn → Prop) : CW A PrA 368 vs h K = CN A PrA false 368 vs h K := CW_CN (by kernel_rfl) (by kernel_rfl) tk368 vs h K
theorem a369 : A 369 = some F369 := by kernel_rfl
theorem tk369 : takes A 369 = false := by kernel_rfl
@[go_sem] theorem cw369 (vs : List V) (h : Heap) (K : V → Tn → Prop) : CW A PrA 369 vs h K = CN A PrA false 369 vs h K := CW_CN (by kernel_rfl) (by kernel_rfl) tk369 vs h K
theorem a370 : A 370 = some F370 := by kernel_rfl
@[go_sem] theorem cw370 (vs : List V) (h : Heap) (K : V → Tn → Prop) : CW A PrA 370 vs h K = IW A PrA 370 vs h K := CW_inl (by kernel_rfl) vs h K
theorem a371 : A 371 = some F371 := by kernel_rfl
@[go_sem] theorem cw371 (vs : List V) (h : Heap) (K : V → Tn → Prop) : CW A PrA 371 vs h K = IW A PrA 371 vs h K := CW_inl (by kernel_rfl) vs h K
theorem a372 : A 372 = some F372 := by kernel_rfl
theorem tk372 : takes A 372 = false := by kernel_rfl
@[go_sem] theorem cw372 (vs : List V) (h : Heap) (K : V → Tn → Prop) : CW A PrA 372 vs h K = CN A PrA false 372 vs h K := CW_CN (by kernel_rfl) (by kernel_rfl) tk372 vs h K
theorem a373 : A 373 = some F373 := by kernel_rfl
theorem tk373 : takes A 373 = false := by kernel_rfl
@[go_sem] theorem cw373 (vs : List V) (h : Heap) (K : V → Tn → Prop) : CW A PrA 373 vs h K = CN A PrA false 373 vs h K := CW_CN (by kernel_rfl) (by kernel_rfl) tk373 vs h K
theorem a374 : A 374 = some F374 := by kernel_rfl
theorem tk374 : takes A 374 = false := by kernel_rfl
@[go_sem] theorem cw374 (vs : List V) (h : Heap) (K : V → Tn → Prop) : CW A PrA 374 vs h K = CN A PrA false 374 vs h K := CW_CN (by kernel_rfl) (by kernel_rfl) tk374 vs h K
theorem a375 : A 375 = some F375 := by kernel_rfl
theorem tk375 : takes A 375 = false := by kernel_rfl
@[go_sem] theorem cw375 (vs : List V) (h : Heap) (K : V → Tn → Prop) : CW A PrA 375 vs h K = CN A PrA false 375 vs h K := CW_CN (by kernel_rfl) (by kernel_rfl) tk375 vs h K
theorem a376 : A 376 = some F376 := by kernel_rfl
@[go_sem] theorem cw376 (vs : List V) (h : Heap) (K : V → Tn → Prop) : CW A PrA 376 vs h K = IW A PrA 376 vs h K := CW_inl (by kernel_rfl) vs h K
theorem a377 : A 377 = some F377 := by kernel_rfl
@[go_sem] theorem cw377 (vs : List V) (h : Heap) (K : V → Tn → Prop) : CW A PrA 377 vs h K = IW A PrA 377 vs h K := CW_inl (by kernel_rfl) vs h K
theorem a378 : A 378 = some F378 := by kernel_rfl
theorem tk378 : takes A 378 = false := by kernel_rfl
@[go_sem] theorem cw378 (vs : List V) (h : Heap) (K : V → Tn → Prop) : CW A PrA 378 vs h K = CN A PrA false 378 vs h K := CW_CN (by kernel_rfl) (by kernel_rfl) tk378 vs h K
theorem a379 : A 379 = some F379 := by kernel_rfl
theorem tk379 : takes A 379 = false := by kernel_rfl
@[go_sem] theorem cw379 (vs : List V) (h : Heap) (K : V → Tn → Prop) : CW A PrA 379 vs h K = CN A PrA false 379 vs h K := CW_CN (by kernel_rfl) (by kernel_rfl) tk379 vs h K
theorem a380 : A 380 = some F380 := by kernel_rfl
theorem tk380 : takes A 380 = false := by kernel_rfl
@[go_sem] theorem cw380 (vs : List V) (h : Heap) (K : V → Tn → Prop) : CW A PrA 380 vs h K = CN A PrA false 380 vs h K := CW_CN (by kernel_rfl) (by kernel_rfl) tk380 vs h K
theorem a381 : A 381 = some F381 := by kernel_rfl
theorem tk381 : takes A 381 = false := by kernel_rfl
@[go_sem] theorem cw381 (vs : List V) (h : Heap) (K : V → Tn → Prop) : CW A PrA 381 vs h K = CN A PrA false 381 vs h K := CW_CN (by kernel_rfl) (by kernel_rfl) tk381 vs h K
theorem a382 : A 382 = some F382 := by kernel_rfl
theorem tk382 : takes A 382 = false := by kernel_rfl
@[go_sem] theorem cw382 (vs : List V) (h : Heap) (K : V → Tn → Prop) : CW A PrA 382 vs h K = CN A PrA false 382 vs h K := CW_CN (by kernel_rfl) (by kernel_rfl) tk382 vs h K
theorem a383 : A 383 = some F383 := by kernel_rfl
theorem tk383 : takes A 383 = false := by kernel_rfl
@[go_sem] theorem cw383 (vs : List V) (h : Heap) (K : V → Tn → Prop) : CW A PrA 383 vs h K = CN A PrA false 383 vs h K := CW_CN (by kernel_rfl) (by kernel_rfl) tk383 vs h K
theorem a384 : A 384 = some F384 := by kernel_rfl
theorem tk384 : takes A 384 = false := by kernel_rfl
@[go_sem] theorem cw384 (vs : List V) (h : Heap) (K : V → Tn → Prop) : CW A PrA 384 vs h K = CN A PrA false 384 vs h K := CW_CN (by kernel_rfl) (by kernel_rfl) tk384 vs h K
theorem a385 : A 385 = some F385 := by kernel_rfl
theorem tk385 : takes A 385 = false := by kernel_rfl
@[go_sem] theorem cw385 (vs : List V) (h : Heap) (K : V → Tn → Prop) : CW A PrA 385 vs h K = CN A PrA false 385 vs h K := CW_CN (by kernel_rfl) (by kernel_rfl) tk385 vs h K
theorem a386 : A 386 = some F386 := by kernel_rfl
theorem tk386 : takes A 386 = false := by kernel_rfl
@[go_sem] theorem cw386 (vs : List V) (h : Heap) (K : V → Tn → Prop) : CW A PrA 386 vs h K = CN A PrA false 386 vs h K := CW_CN (by kernel_rfl) (by kernel_rfl) tk386 vs h K
theorem a387 : A 387 = some F387 := by kernel_rfl
theorem tk387 : takes A 387 = false := by kernel_rfl
@[go_sem] theorem cw387 (vs : List V) (h : Heap) (K : V → Tn → Prop) : CW A PrA 387 vs h K = CN A PrA false 387 vs h K := CW_CN (by kernel_rfl) (by kernel_rfl) tk387 vs h K
theorem a388 : A 388 = some F388 := by kernel_rfl
theorem tk388 : takes A 388 = false := by kernel_rfl
@[go_sem] theorem cw388 (vs : List V) (h : Heap) (K : V → Tn → Prop) : CW A PrA 388 vs h K = CN A PrA false 388 vs h K := CW_CN (by kernel_rfl) (by kernel_rfl) tk388 vs h K
end Go.Pv
