/-
  The table of functions.
-/
import Derived.Test.YtdeoikfaclbniaaF1
import Derived.KernelRfl
namespace Go.Pv
def tabL : List (Nat × AFunc) := [(94,F94),(110,F110),(118,F118),(259,F259),(261,F261),(262,F262),(265,F265),(266,F266),(267,F267),(268,F268),(269,F269),(271,F271),(272,F272),(273,F273),(274,F274),(275,F275),(276,F276),(277,F277),(278,F278),(280,F280),(281,F281),(282,F282),(283,F283),(284,F284),(285,F285),(286,F286),(287,F287),(288,F288),(289,F289),(290,F290),(291,F291),(292,F292),(293,F293),(294,F294),(295,F295),(296,F296),(297,F297),(304,F304),(305,F305),(306,F306),(307,F307),(308,F308),(309,F309),(310,F310),(311,F311),(312,F312),(315,F315),(316,F316),(317,F317),(318,F318),(319,F319),(320,F320),(323,F323),(324,F324),(325,F325),(326,F326),(327,F327),(328,F328),(329,F329),(330,F330),(333,F333),(334,F334),(336,F336)]
def prL : List (Nat × Prim) := [(103,sortIP),(313,cloneP 2),(314,cloneP 13),(331,cloneX 8 1172812402961),(332,cloneX 2 5864062014805)]
def PrA : Prims := fun n => look1 n prL
def A (n : Nat) : Option AFunc := look1 n tabL
theorem cwO {f : Nat} {t : Bool} (vs : List V) (h : Heap) (K : V → Tn → Prop) (a : inls A f = false := by kernel_rfl) (b : PrA f = none := by kernel_rfl) (c : takes A f = t := by kernel_rfl) : CW A PrA f vs h K = CN A PrA t f vs h K := CW_CN a b c vs h K
variable (vs : List V) (h : Heap) (K : V → Tn → Prop)
@[go_sem] theorem cp103 : CW A PrA 103 vs h K = optK ((sortIP : Prim) vs h) fun r => K r.1 r.2 := CW_some (by kernel_rfl) (by kernel_rfl) vs h K
@[go_sem] theorem cp313 : CW A PrA 313 vs h K = optK ((cloneP 2 : Prim) vs h) fun r => K r.1 r.2 := CW_some (by kernel_rfl) (by kernel_rfl) vs h K
@[go_sem] theorem cp314 : CW A PrA 314 vs h K = optK ((cloneP 13 : Prim) vs h) fun r => K r.1 r.2 := CW_some (by kernel_rfl) (by kernel_rfl) vs h K
@[go_sem] theorem cp331 : CW A PrA 331 vs h K = optK ((cloneX 8 1172812402961 : Prim) vs h) fun r => K r.1 r.2 := CW_some (by kernel_rfl) (by kernel_rfl) vs h K
@[go_sem] theorem cp332 : CW A PrA 332 vs h K = optK ((cloneX 2 5864062014805 : Prim) vs h) fun r => K r.1 r.2 := CW_some (by kernel_rfl) (by kernel_rfl) vs h K
theorem a94 : A 94 = some F94 := by kernel_rfl
@[go_sem] theorem cw94 : CW A PrA 94 vs h K = CN A PrA false 94 vs h K := cwO vs h K
theorem a110 : A 110 = some F110 := by kernel_rfl
@[go_sem] theorem cw110 : CW A PrA 110 vs h K = CN A PrA false 110 vs h K := cwO vs h K
theorem a118 : A 118 = some F118 := by kernel_rfl
@[go_sem] theorem cw118 : CW A PrA 118 vs h K = CN A PrA false 118 vs h K := cwO vs h K
theorem a259 : A 259 = some F259 := by kernel_rfl
@[go_sem] theorem cw259 : CW A PrA 259 vs h K = CN A PrA false 259 vs h K := cwO vs h K
theorem a261 : A 261 = some F261 := by kernel_rfl
@[go_sem] theorem cw261 : CW A PrA 261 vs h K = CN A PrA false 261 vs h K := cwO vs h K
theorem a262 : A 262 = some F262 := by kernel_rfl
@[go_sem] theorem cw262 : CW A PrA 262 vs h K = CN A PrA false 262 vs h K := cwO vs h K
theorem a266 : A 266 = some F266 := by kernel_rfl
@[go_sem] theorem cw266 : CW A PrA 266 vs h K = CN A PrA false 266 vs h K := cwO vs h K
theorem a267 : A 267 = some F267 := by kernel_rfl
@[go_sem] theorem cw267 : CW A PrA 267 vs h K = CN A PrA false 267 vs h K := cwO vs h K
theorem a268 : A 268 = some F268 := by kernel_rfl
@[go_sem] theorem cw268 : CW A PrA 268 vs h K = CN A PrA false 268 vs h K := cwO vs h K
theorem a271 : A 271 = some F271 := by kernel_rfl
@[go_sem] theorem cw271 : CW A PrA 271 vs h K = CN A PrA false 271 vs h K := cwO vs h K
theorem a272 : A 272 = some F272 := by kernel_rfl
@[go_sem] theorem cw272 : CW A PrA 272 vs h K = CN A PrA false 272 vs h K := cwO vs h K
theorem a273 : A 273 = some F273 := by kernel_rfl
@[go_sem] theorem cw273 : CW A PrA 273 vs h K = CN A PrA false 273 vs h K := cwO vs h K
theorem a274 : A 274 = some F274 := by kernel_rfl
@[go_sem] theorem cw274 : CW A PrA 274 vs h K = CN A PrA false 274 vs h K := cwO vs h K
theorem a275 : A 275 = some F275 := by kernel_rfl
@[go_sem] theorem cw275 : CW A PrA 275 vs h K = CN A PrA false 275 vs h K := cwO vs h K
theorem a276 : A 276 = some F276 := by kernel_rfl
@[go_sem] theorem cw276 : CW A PrA 276 vs h K = CN A PrA false 276 vs h K := cwO vs h K
theorem a277 : A 277 = some F277 := by kernel_rfl
@[go_sem] theorem cw277 : CW A PrA 277 vs h K = CN A PrA false 277 vs h K := cwO vs h K
theorem a282 : A 282 = some F282 := by kernel_rfl
@[go_sem] theorem cw282 : CW A PrA 282 vs h K = CN A PrA false 282 vs h K := cwO vs h K
theorem a283 : A 283 = some F283 := by kernel_rfl
@[go_sem] theorem cw283 : CW A PrA 283 vs h K = CN A PrA false 283 vs h K := cwO vs h K
theorem a284 : A 284 = some F284 := by kernel_rfl
@[go_sem] theorem cw284 : CW A PrA 284 vs h K = CN A PrA false 284 vs h K := cwO vs h K
theorem a285 : A 285 = some F285 := by kernel_rfl
@[go_sem] theorem cw285 : CW A PrA 285 vs h K = CN A PrA false 285 vs h K := cwO vs h K
theorem a286 : A 286 = some F286 := by kernel_rfl
@[go_sem] theorem cw286 : CW A PrA 286 vs h K = CN A PrA false 286 vs h K := cwO vs h K
theorem a287 : A 287 = some F287 := by kernel_rfl
@[go_sem] theorem cw287 : CW A PrA 287 vs h K = CN A PrA false 287 vs h K := cwO vs h K
theorem a288 : A 288 = some F288 := by kernel_rfl
@[go_sem] theorem cw288 : CW A PrA 288 vs h K = CN A PrA false 288 vs h K := cwO vs h K
theorem a291 : A 291 = some F291 := by kernel_rfl
@[go_sem] theorem cw291 : CW A PrA 291 vs h K = CN A PrA false 291 vs h K := cwO vs h K
theorem a292 : A 292 = some F292 := by kernel_rfl
@[go_sem] theorem cw292 : CW A PrA 292 vs h K = CN A PrA false 292 vs h K := cwO vs h K
theorem a293 : A 293 = some F293 := by kernel_rfl
@[go_sem] theorem cw293 : CW A PrA 293 vs h K = CN A PrA false 293 vs h K := cwO vs h K
theorem a294 : A 294 = some F294 := by kernel_rfl
@[go_sem] theorem cw294 : CW A PrA 294 vs h K = CN A PrA false 294 vs h K := cwO vs h K
theorem a295 : A 295 = some F295 := by kernel_rfl
@[go_sem] theorem cw295 : CW A PrA 295 vs h K = CN A PrA false 295 vs h K := cwO vs h K
theorem a297 : A 297 = some F297 := by kernel_rfl
@[go_sem] theorem cw297 : CW A PrA 297 vs h K = CN A PrA false 297 vs h K := cwO vs h K
theorem a306 : A 306 = some F306 := by kernel_rfl
@[go_sem] theorem cw306 : CW A PrA 306 vs h K = CN A PrA false 306 vs h K := cwO vs h K
theorem a307 : A 307 = some F307 := by kernel_rfl
@[go_sem] theorem cw307 : CW A PrA 307 vs h K = CN A PrA false 307 vs h K := cwO vs h K
theorem a308 : A 308 = some F308 := by kernel_rfl
@[go_sem] theorem cw308 : CW A PrA 308 vs h K = CN A PrA false 308 vs h K := cwO vs h K
theorem a309 : A 309 = some F309 := by kernel_rfl
@[go_sem] theorem cw309 : CW A PrA 309 vs h K = CN A PrA false 309 vs h K := cwO vs h K
theorem a310 : A 310 = some F310 := by kernel_rfl
@[go_sem] theorem cw310 : CW A PrA 310 vs h K = CN A PrA false 310 vs h K := cwO vs h K
theorem a311 : A 311 = some F311 := by kernel_rfl
@[go_sem] theorem cw311 : CW A PrA 311 vs h K = CN A PrA false 311 vs h K := cwO vs h K
theorem a312 : A 312 = some F312 := by kernel_rfl
@[go_sem] theorem cw312 : CW A PrA 312 vs h K = CN A PrA false 312 vs h K := cwO vs h K
theorem a315 : A 315 = some F315 := by kernel_rfl
@[go_sem] theorem cw315 : CW A PrA 315 vs h K = CN A PrA false 315 vs h K := cwO vs h K
theorem a316 : A 316 = some F316 := by kernel_rfl
@[go_sem] theorem cw316 : CW A PrA 316 vs h K = CN A PrA false 316 vs h K := cwO vs h K
theorem a317 : A 317 = some F317 := by kernel_rfl
@[go_sem] theorem cw317 : CW A PrA 317 vs h K = CN A PrA false 317 vs h K := cwO vs h K
theorem a318 : A 318 = some F318 := by kernel_rfl
@[go_sem] theorem cw318 : CW A PrA 318 vs h K = CN A PrA false 318 vs h K := cwO vs h K
theorem a319 : A 319 = some F319 := by kernel_rfl
@[go_sem] theorem cw319 : CW A PrA 319 vs h K = CN A PrA false 319 vs h K := cwO vs h K
theorem a320 : A 320 = some F320 := by kernel_rfl
@[go_sem] theorem cw320 : CW A PrA 320 vs h K = CN A PrA false 320 vs h K := cwO vs h K
theorem a323 : A 323 = some F323 := by kernel_rfl
@[go_sem] theorem cw323 : CW A PrA 323 vs h K = CN A PrA false 323 vs h K := cwO vs h K
theorem a324 : A 324 = some F324 := by kernel_rfl
@[go_sem] theorem cw324 : CW A PrA 324 vs h K = CN A PrA false 324 vs h K := cwO vs h K
theorem a325 : A 325 = some F325 := by kernel_rfl
@[go_sem] theorem cw325 : CW A PrA 325 vs h K = CN A PrA false 325 vs h K := cwO vs h K
theorem a326 : A 326 = some F326 := by kernel_rfl
@[go_sem] theorem cw326 : CW A PrA 326 vs h K = CN A PrA false 326 vs h K := cwO vs h K
theorem a327 : A 327 = some F327 := by kernel_rfl
@[go_sem] theorem cw327 : CW A PrA 327 vs h K = CN A PrA false 327 vs h K := cwO vs h K
theorem a328 : A 328 = some F328 := by kernel_rfl
@[go_sem] theorem cw328 : CW A PrA 328 vs h K = CN A PrA false 328 vs h K := cwO vs h K
theorem a329 : A 329 = some F329 := by kernel_rfl
@[go_sem] theorem cw329 : CW A PrA 329 vs h K = CN A PrA false 329 vs h K := cwO vs h K
theorem a330 : A 330 = some F330 := by kernel_rfl
@[go_sem] theorem cw330 : CW A PrA 330 vs h K = CN A PrA false 330 vs h K := cwO vs h K
theorem a333 : A 333 = some F333 := by kernel_rfl
@[go_sem] theorem cw333 : CW A PrA 333 vs h K = CN A PrA false 333 vs h K := cwO vs h K
theorem a334 : A 334 = some F334 := by kernel_rfl
@[go_sem] theorem cw334 : CW A PrA 334 vs h K = CN A PrA false 334 vs h K := cwO vs h K
theorem a336 : A 336 = some F336 := by kernel_rfl
@[go_sem] theorem cw336 : CW A PrA 336 vs h K = CN A PrA false 336 vs h K := cwO vs h K
end Go.Pv
