/-
  The table of functions.
-/
import Derived.Test.YtpchfogcccagjaaGreatF1
import Derived.KernelRfl
namespace Go.Pv
def Mg:List (Nat×bA):=[(14,F14),(15,F15),(16,F16),(17,F17),(26,F26),(29,F29),(31,F31),(32,F32),(33,F33),(34,F34),(35,F35),(36,F36),(37,F37),(38,F38),(39,F39),(41,F41),(43,F43),(44,F44),(45,F45),(46,F46),(47,F47),(50,F50),(52,F52),(53,F53),(54,F54),(55,F55),(56,F56),(58,F58),(59,F59),(60,F60),(63,F63),(65,F65),(66,F66),(77,F77),(104,F104),(110,F110),(118,F118),(266,F266),(267,F267),(268,F268),(273,F273),(277,F277),(281,F281),(282,F282),(283,F283),(284,F284),(285,F285),(286,F286),(287,F287),(288,F288),(291,F291),(295,F295),(297,F297),(304,F304),(305,F305),(306,F306),(307,F307),(308,F308),(309,F309),(310,F310),(311,F311),(312,F312),(316,F316),(317,F317),(318,F318),(319,F319),(320,F320),(323,F323),(324,F324),(325,F325),(326,F326),(327,F327),(328,F328),(329,F329),(330,F330),(333,F333),(334,F334),(336,F336),(391,F391),(392,F392),(393,F393),(394,F394),(395,F395),(396,F396),(401,F401),(404,F404),(405,F405),(406,F406),(407,F407),(408,F408),(409,F409),(410,F410),(411,F411),(412,F412),(413,F413),(414,F414),(415,F415),(416,F416),(417,F417),(421,F421),(423,F423),(433,F433),(434,F434),(435,F435),(436,F436),(437,F437),(438,F438),(439,F439),(440,F440),(441,F441),(442,F442),(443,F443),(444,F444),(445,F445),(446,F446),(447,F447),(448,F448),(449,F449),(450,F450),(451,F451),(455,F455),(456,F456),(458,F458),(459,F459),(460,F460),(461,F461),(462,F462),(463,F463),(464,F464),(465,F465),(466,F466),(468,F468),(469,F469),(470,F470),(471,F471),(472,F472),(473,F473),(474,F474),(475,F475),(476,F476),(477,F477),(478,F478),(479,F479),(480,F480),(481,F481),(482,F482),(483,F483),(484,F484),(485,F485),(486,F486),(487,F487),(488,F488),(489,F489),(490,F490),(491,F491),(492,F492),(493,F493),(494,F494),(495,F495),(496,F496),(497,F497),(498,F498),(499,F499),(500,F500),(501,F501),(502,F502),(503,F503),(504,F504),(505,F505),(506,F506),(507,F507),(508,F508),(509,F509),(510,F510),(511,F511),(512,F512),(513,F513),(514,F514),(515,F515),(516,F516),(517,F517),(518,F518),(519,F519),(520,F520),(521,F521),(522,F522),(523,F523),(524,F524)]
def Uy:List (Nat×Prim):=[(51,jC 4 (gC Edge.c Edge.dec Edge.lt) 47),(57,aZ 2),(64,aZ 4),(103,gL),(313,aZ 2),(314,aZ 13),(467,aZ 3)]
def aA:bm:=fun n=>aE n Uy
def A (n:Nat):Option bA:=aE n Mg
theorem cd {f:Nat} {t:Bool} (vs:List V) (h:aa) (K:V->Tn->Prop) (a:pB A f=false:=by kernel_rfl) (b:aA f=none:=by kernel_rfl) (c:dx A f=t:=by kernel_rfl):CW A aA f vs h K=CN A aA t f vs h K:=yb a b c vs h K
variable (vs:List V) (h:aa) (K:V->Tn->Prop)
@[go_sem] theorem cp51:CW A aA 51 vs h K=bM ((jC 4 (gC Edge.c Edge.dec Edge.lt) 47:Prim) vs h) fun r=>K r.1 r.2:=ew (by kernel_rfl) (by kernel_rfl) vs h K
@[go_sem] theorem cp57:CW A aA 57 vs h K=bM ((aZ 2:Prim) vs h) fun r=>K r.1 r.2:=ew (by kernel_rfl) (by kernel_rfl) vs h K
@[go_sem] theorem cp64:CW A aA 64 vs h K=bM ((aZ 4:Prim) vs h) fun r=>K r.1 r.2:=ew (by kernel_rfl) (by kernel_rfl) vs h K
@[go_sem] theorem cp103:CW A aA 103 vs h K=bM ((gL:Prim) vs h) fun r=>K r.1 r.2:=ew (by kernel_rfl) (by kernel_rfl) vs h K
@[go_sem] theorem cp313:CW A aA 313 vs h K=bM ((aZ 2:Prim) vs h) fun r=>K r.1 r.2:=ew (by kernel_rfl) (by kernel_rfl) vs h K
@[go_sem] theorem cp314:CW A aA 314 vs h K=bM ((aZ 13:Prim) vs h) fun r=>K r.1 r.2:=ew (by kernel_rfl) (by kernel_rfl) vs h K
@[go_sem] theorem cp467:CW A aA 467 vs h K=bM ((aZ 3:Prim) vs h) fun r=>K r.1 r.2:=ew (by kernel_rfl) (by kernel_rfl) vs h K
theorem a15:A 15=some F15:=by kernel_rfl
@[go_sem] theorem cw15:CW A aA 15 vs h K=CN A aA false 15 vs h K:=cd vs h K
theorem a16:A 16=some F16:=by kernel_rfl
@[go_sem] theorem cw16:CW A aA 16 vs h K=CN A aA false 16 vs h K:=cd vs h K
theorem a17:A 17=some F17:=by kernel_rfl
@[go_sem] theorem cw17:CW A aA 17 vs h K=CN A aA false 17 vs h K:=cd vs h K
theorem a26:A 26=some F26:=by kernel_rfl
@[go_sem] theorem cw26:CW A aA 26 vs h K=CN A aA false 26 vs h K:=cd vs h K
theorem a29:A 29=some F29:=by kernel_rfl
@[go_sem] theorem cw29:CW A aA 29 vs h K=CN A aA false 29 vs h K:=cd vs h K
theorem a31:A 31=some F31:=by kernel_rfl
@[go_sem] theorem cw31:CW A aA 31 vs h K=CN A aA false 31 vs h K:=cd vs h K
theorem a32:A 32=some F32:=by kernel_rfl
@[go_sem] theorem cw32:CW A aA 32 vs h K=CN A aA false 32 vs h K:=cd vs h K
theorem a33:A 33=some F33:=by kernel_rfl
@[go_sem] theorem cw33:CW A aA 33 vs h K=CN A aA false 33 vs h K:=cd vs h K
theorem a34:A 34=some F34:=by kernel_rfl
@[go_sem] theorem cw34:CW A aA 34 vs h K=CN A aA false 34 vs h K:=cd vs h K
theorem a35:A 35=some F35:=by kernel_rfl
@[go_sem] theorem cw35:CW A aA 35 vs h K=CN A aA false 35 vs h K:=cd vs h K
theorem a36:A 36=some F36:=by kernel_rfl
@[go_sem] theorem cw36:CW A aA 36 vs h K=CN A aA false 36 vs h K:=cd vs h K
theorem a37:A 37=some F37:=by kernel_rfl
@[go_sem] theorem cw37:CW A aA 37 vs h K=CN A aA false 37 vs h K:=cd vs h K
theorem a38:A 38=some F38:=by kernel_rfl
@[go_sem] theorem cw38:CW A aA 38 vs h K=CN A aA false 38 vs h K:=cd vs h K
theorem a39:A 39=some F39:=by kernel_rfl
@[go_sem] theorem cw39:CW A aA 39 vs h K=CN A aA false 39 vs h K:=cd vs h K
theorem a41:A 41=some F41:=by kernel_rfl
@[go_sem] theorem cw41:CW A aA 41 vs h K=CN A aA false 41 vs h K:=cd vs h K
theorem a43:A 43=some F43:=by kernel_rfl
@[go_sem] theorem cw43:CW A aA 43 vs h K=CN A aA false 43 vs h K:=cd vs h K
theorem a44:A 44=some F44:=by kernel_rfl
@[go_sem] theorem cw44:CW A aA 44 vs h K=CN A aA false 44 vs h K:=cd vs h K
theorem a45:A 45=some F45:=by kernel_rfl
@[go_sem] theorem cw45:CW A aA 45 vs h K=CN A aA false 45 vs h K:=cd vs h K
theorem a46:A 46=some F46:=by kernel_rfl
@[go_sem] theorem cw46:CW A aA 46 vs h K=CN A aA false 46 vs h K:=cd vs h K
theorem a47:A 47=some F47:=by kernel_rfl
@[go_sem] theorem cw47:CW A aA 47 vs h K=CN A aA false 47 vs h K:=cd vs h K
theorem a50:A 50=some F50:=by kernel_rfl
@[go_sem] theorem cw50:CW A aA 50 vs h K=CN A aA false 50 vs h K:=cd vs h K
theorem a52:A 52=some F52:=by kernel_rfl
@[go_sem] theorem cw52:CW A aA 52 vs h K=CN A aA false 52 vs h K:=cd vs h K
theorem a53:A 53=some F53:=by kernel_rfl
@[go_sem] theorem cw53:CW A aA 53 vs h K=CN A aA false 53 vs h K:=cd vs h K
theorem a54:A 54=some F54:=by kernel_rfl
@[go_sem] theorem cw54:CW A aA 54 vs h K=CN A aA false 54 vs h K:=cd vs h K
theorem a55:A 55=some F55:=by kernel_rfl
@[go_sem] theorem cw55:CW A aA 55 vs h K=CN A aA false 55 vs h K:=cd vs h K
theorem a56:A 56=some F56:=by kernel_rfl
@[go_sem] theorem cw56:CW A aA 56 vs h K=CN A aA false 56 vs h K:=cd vs h K
theorem Uz:dx A 58=false:=by kernel_rfl
theorem a58:A 58=some F58:=by kernel_rfl
@[go_sem] theorem cw58:CW A aA 58 vs h K=CN A aA false 58 vs h K:=cd vs h K
theorem UA:dx A 59=false:=by kernel_rfl
theorem a59:A 59=some F59:=by kernel_rfl
@[go_sem] theorem cw59:CW A aA 59 vs h K=CN A aA false 59 vs h K:=cd vs h K
theorem UB:dx A 60=false:=by kernel_rfl
theorem a60:A 60=some F60:=by kernel_rfl
@[go_sem] theorem cw60:CW A aA 60 vs h K=CN A aA false 60 vs h K:=cd vs h K
theorem a63:A 63=some F63:=by kernel_rfl
@[go_sem] theorem cw63:CW A aA 63 vs h K=CN A aA true 63 vs h K:=cd vs h K
theorem a65:A 65=some F65:=by kernel_rfl
@[go_sem] theorem cw65:CW A aA 65 vs h K=CN A aA false 65 vs h K:=cd vs h K
theorem UC:dx A 66=false:=by kernel_rfl
theorem a66:A 66=some F66:=by kernel_rfl
@[go_sem] theorem cw66:CW A aA 66 vs h K=CN A aA false 66 vs h K:=cd vs h K
theorem a77:A 77=some F77:=by kernel_rfl
@[go_sem] theorem cw77:CW A aA 77 vs h K=CN A aA false 77 vs h K:=cd vs h K
theorem a104:A 104=some F104:=by kernel_rfl
@[go_sem] theorem cw104:CW A aA 104 vs h K=CN A aA true 104 vs h K:=cd vs h K
theorem a110:A 110=some F110:=by kernel_rfl
@[go_sem] theorem cw110:CW A aA 110 vs h K=CN A aA false 110 vs h K:=cd vs h K
theorem a118:A 118=some F118:=by kernel_rfl
@[go_sem] theorem cw118:CW A aA 118 vs h K=CN A aA false 118 vs h K:=cd vs h K
theorem a266:A 266=some F266:=by kernel_rfl
@[go_sem] theorem cw266:CW A aA 266 vs h K=CN A aA false 266 vs h K:=cd vs h K
theorem a267:A 267=some F267:=by kernel_rfl
@[go_sem] theorem cw267:CW A aA 267 vs h K=CN A aA false 267 vs h K:=cd vs h K
theorem a268:A 268=some F268:=by kernel_rfl
@[go_sem] theorem cw268:CW A aA 268 vs h K=CN A aA false 268 vs h K:=cd vs h K
theorem a273:A 273=some F273:=by kernel_rfl
@[go_sem] theorem cw273:CW A aA 273 vs h K=CN A aA false 273 vs h K:=cd vs h K
theorem a277:A 277=some F277:=by kernel_rfl
@[go_sem] theorem cw277:CW A aA 277 vs h K=CN A aA false 277 vs h K:=cd vs h K
theorem a281:A 281=some F281:=by kernel_rfl
@[go_sem] theorem cw281:CW A aA 281 vs h K=CN A aA false 281 vs h K:=cd vs h K
theorem a282:A 282=some F282:=by kernel_rfl
@[go_sem] theorem cw282:CW A aA 282 vs h K=CN A aA false 282 vs h K:=cd vs h K
theorem a283:A 283=some F283:=by kernel_rfl
@[go_sem] theorem cw283:CW A aA 283 vs h K=CN A aA false 283 vs h K:=cd vs h K
theorem a284:A 284=some F284:=by kernel_rfl
@[go_sem] theorem cw284:CW A aA 284 vs h K=CN A aA false 284 vs h K:=cd vs h K
theorem a285:A 285=some F285:=by kernel_rfl
@[go_sem] theorem cw285:CW A aA 285 vs h K=CN A aA false 285 vs h K:=cd vs h K
theorem a286:A 286=some F286:=by kernel_rfl
@[go_sem] theorem cw286:CW A aA 286 vs h K=CN A aA false 286 vs h K:=cd vs h K
theorem a287:A 287=some F287:=by kernel_rfl
@[go_sem] theorem cw287:CW A aA 287 vs h K=CN A aA false 287 vs h K:=cd vs h K
theorem a288:A 288=some F288:=by kernel_rfl
@[go_sem] theorem cw288:CW A aA 288 vs h K=CN A aA false 288 vs h K:=cd vs h K
theorem a291:A 291=some F291:=by kernel_rfl
@[go_sem] theorem cw291:CW A aA 291 vs h K=CN A aA false 291 vs h K:=cd vs h K
theorem a295:A 295=some F295:=by kernel_rfl
@[go_sem] theorem cw295:CW A aA 295 vs h K=CN A aA false 295 vs h K:=cd vs h K
theorem a297:A 297=some F297:=by kernel_rfl
@[go_sem] theorem cw297:CW A aA 297 vs h K=CN A aA false 297 vs h K:=cd vs h K
theorem a304:A 304=some F304:=by kernel_rfl
@[go_sem] theorem cw304:CW A aA 304 vs h K=CN A aA false 304 vs h K:=cd vs h K
theorem a305:A 305=some F305:=by kernel_rfl
@[go_sem] theorem cw305:CW A aA 305 vs h K=CN A aA false 305 vs h K:=cd vs h K
theorem a306:A 306=some F306:=by kernel_rfl
@[go_sem] theorem cw306:CW A aA 306 vs h K=CN A aA false 306 vs h K:=cd vs h K
theorem a307:A 307=some F307:=by kernel_rfl
@[go_sem] theorem cw307:CW A aA 307 vs h K=CN A aA false 307 vs h K:=cd vs h K
theorem a308:A 308=some F308:=by kernel_rfl
@[go_sem] theorem cw308:CW A aA 308 vs h K=CN A aA false 308 vs h K:=cd vs h K
theorem a309:A 309=some F309:=by kernel_rfl
@[go_sem] theorem cw309:CW A aA 309 vs h K=CN A aA false 309 vs h K:=cd vs h K
theorem a310:A 310=some F310:=by kernel_rfl
@[go_sem] theorem cw310:CW A aA 310 vs h K=CN A aA false 310 vs h K:=cd vs h K
theorem a311:A 311=some F311:=by kernel_rfl
@[go_sem] theorem cw311:CW A aA 311 vs h K=CN A aA false 311 vs h K:=cd vs h K
theorem a312:A 312=some F312:=by kernel_rfl
@[go_sem] theorem cw312:CW A aA 312 vs h K=CN A aA false 312 vs h K:=cd vs h K
theorem a316:A 316=some F316:=by kernel_rfl
@[go_sem] theorem cw316:CW A aA 316 vs h K=CN A aA false 316 vs h K:=cd vs h K
theorem a317:A 317=some F317:=by kernel_rfl
@[go_sem] theorem cw317:CW A aA 317 vs h K=CN A aA false 317 vs h K:=cd vs h K
theorem a318:A 318=some F318:=by kernel_rfl
@[go_sem] theorem cw318:CW A aA 318 vs h K=CN A aA false 318 vs h K:=cd vs h K
theorem a319:A 319=some F319:=by kernel_rfl
@[go_sem] theorem cw319:CW A aA 319 vs h K=CN A aA false 319 vs h K:=cd vs h K
theorem a320:A 320=some F320:=by kernel_rfl
@[go_sem] theorem cw320:CW A aA 320 vs h K=CN A aA false 320 vs h K:=cd vs h K
theorem a323:A 323=some F323:=by kernel_rfl
@[go_sem] theorem cw323:CW A aA 323 vs h K=CN A aA false 323 vs h K:=cd vs h K
theorem a324:A 324=some F324:=by kernel_rfl
@[go_sem] theorem cw324:CW A aA 324 vs h K=CN A aA false 324 vs h K:=cd vs h K
theorem a325:A 325=some F325:=by kernel_rfl
@[go_sem] theorem cw325:CW A aA 325 vs h K=CN A aA false 325 vs h K:=cd vs h K
theorem a326:A 326=some F326:=by kernel_rfl
@[go_sem] theorem cw326:CW A aA 326 vs h K=CN A aA false 326 vs h K:=cd vs h K
theorem a327:A 327=some F327:=by kernel_rfl
@[go_sem] theorem cw327:CW A aA 327 vs h K=CN A aA false 327 vs h K:=cd vs h K
theorem a328:A 328=some F328:=by kernel_rfl
@[go_sem] theorem cw328:CW A aA 328 vs h K=CN A aA false 328 vs h K:=cd vs h K
theorem a329:A 329=some F329:=by kernel_rfl
@[go_sem] theorem cw329:CW A aA 329 vs h K=CN A aA false 329 vs h K:=cd vs h K
theorem a330:A 330=some F330:=by kernel_rfl
@[go_sem] theorem cw330:CW A aA 330 vs h K=CN A aA false 330 vs h K:=cd vs h K
theorem a333:A 333=some F333:=by kernel_rfl
@[go_sem] theorem cw333:CW A aA 333 vs h K=CN A aA false 333 vs h K:=cd vs h K
theorem a334:A 334=some F334:=by kernel_rfl
@[go_sem] theorem cw334:CW A aA 334 vs h K=CN A aA false 334 vs h K:=cd vs h K
theorem a336:A 336=some F336:=by kernel_rfl
@[go_sem] theorem cw336:CW A aA 336 vs h K=CN A aA false 336 vs h K:=cd vs h K
theorem a391:A 391=some F391:=by kernel_rfl
@[go_sem] theorem cw391:CW A aA 391 vs h K=CN A aA false 391 vs h K:=cd vs h K
theorem a392:A 392=some F392:=by kernel_rfl
@[go_sem] theorem cw392:CW A aA 392 vs h K=CN A aA false 392 vs h K:=cd vs h K
theorem a393:A 393=some F393:=by kernel_rfl
@[go_sem] theorem cw393:CW A aA 393 vs h K=CN A aA false 393 vs h K:=cd vs h K
theorem a394:A 394=some F394:=by kernel_rfl
@[go_sem] theorem cw394:CW A aA 394 vs h K=CN A aA false 394 vs h K:=cd vs h K
theorem a395:A 395=some F395:=by kernel_rfl
@[go_sem] theorem cw395:CW A aA 395 vs h K=CN A aA false 395 vs h K:=cd vs h K
theorem a396:A 396=some F396:=by kernel_rfl
@[go_sem] theorem cw396:CW A aA 396 vs h K=CN A aA false 396 vs h K:=cd vs h K
theorem a401:A 401=some F401:=by kernel_rfl
@[go_sem] theorem cw401:CW A aA 401 vs h K=CN A aA false 401 vs h K:=cd vs h K
theorem a405:A 405=some F405:=by kernel_rfl
@[go_sem] theorem cw405:CW A aA 405 vs h K=CN A aA false 405 vs h K:=cd vs h K
theorem a406:A 406=some F406:=by kernel_rfl
@[go_sem] theorem cw406:CW A aA 406 vs h K=CN A aA false 406 vs h K:=cd vs h K
theorem a407:A 407=some F407:=by kernel_rfl
@[go_sem] theorem cw407:CW A aA 407 vs h K=CN A aA false 407 vs h K:=cd vs h K
theorem a408:A 408=some F408:=by kernel_rfl
@[go_sem] theorem cw408:CW A aA 408 vs h K=CN A aA false 408 vs h K:=cd vs h K
theorem a409:A 409=some F409:=by kernel_rfl
@[go_sem] theorem cw409:CW A aA 409 vs h K=CN A aA false 409 vs h K:=cd vs h K
theorem a410:A 410=some F410:=by kernel_rfl
@[go_sem] theorem cw410:CW A aA 410 vs h K=CN A aA false 410 vs h K:=cd vs h K
theorem a411:A 411=some F411:=by kernel_rfl
@[go_sem] theorem cw411:CW A aA 411 vs h K=CN A aA false 411 vs h K:=cd vs h K
theorem a412:A 412=some F412:=by kernel_rfl
@[go_sem] theorem cw412:CW A aA 412 vs h K=CN A aA false 412 vs h K:=cd vs h K
theorem a413:A 413=some F413:=by kernel_rfl
@[go_sem] theorem cw413:CW A aA 413 vs h K=CN A aA false 413 vs h K:=cd vs h K
theorem a414:A 414=some F414:=by kernel_rfl
@[go_sem] theorem cw414:CW A aA 414 vs h K=CN A aA false 414 vs h K:=cd vs h K
theorem a415:A 415=some F415:=by kernel_rfl
@[go_sem] theorem cw415:CW A aA 415 vs h K=CN A aA false 415 vs h K:=cd vs h K
theorem a416:A 416=some F416:=by kernel_rfl
@[go_sem] theorem cw416:CW A aA 416 vs h K=CN A aA false 416 vs h K:=cd vs h K
theorem a417:A 417=some F417:=by kernel_rfl
@[go_sem] theorem cw417:CW A aA 417 vs h K=CN A aA false 417 vs h K:=cd vs h K
theorem a421:A 421=some F421:=by kernel_rfl
@[go_sem] theorem cw421:CW A aA 421 vs h K=CN A aA false 421 vs h K:=cd vs h K
theorem a423:A 423=some F423:=by kernel_rfl
@[go_sem] theorem cw423:CW A aA 423 vs h K=CN A aA false 423 vs h K:=cd vs h K
theorem a434:A 434=some F434:=by kernel_rfl
@[go_sem] theorem cw434:CW A aA 434 vs h K=CN A aA false 434 vs h K:=cd vs h K
theorem a435:A 435=some F435:=by kernel_rfl
@[go_sem] theorem cw435:CW A aA 435 vs h K=CN A aA false 435 vs h K:=cd vs h K
theorem a436:A 436=some F436:=by kernel_rfl
@[go_sem] theorem cw436:CW A aA 436 vs h K=CN A aA false 436 vs h K:=cd vs h K
theorem a437:A 437=some F437:=by kernel_rfl
@[go_sem] theorem cw437:CW A aA 437 vs h K=CN A aA false 437 vs h K:=cd vs h K
theorem a438:A 438=some F438:=by kernel_rfl
@[go_sem] theorem cw438:CW A aA 438 vs h K=CN A aA false 438 vs h K:=cd vs h K
theorem a439:A 439=some F439:=by kernel_rfl
@[go_sem] theorem cw439:CW A aA 439 vs h K=CN A aA false 439 vs h K:=cd vs h K
theorem a440:A 440=some F440:=by kernel_rfl
@[go_sem] theorem cw440:CW A aA 440 vs h K=CN A aA false 440 vs h K:=cd vs h K
theorem a441:A 441=some F441:=by kernel_rfl
@[go_sem] theorem cw441:CW A aA 441 vs h K=IW A aA 441 vs h K:=JB (by kernel_rfl) vs h K
theorem a442:A 442=some F442:=by kernel_rfl
@[go_sem] theorem cw442:CW A aA 442 vs h K=CN A aA false 442 vs h K:=cd vs h K
theorem a443:A 443=some F443:=by kernel_rfl
@[go_sem] theorem cw443:CW A aA 443 vs h K=CN A aA false 443 vs h K:=cd vs h K
theorem a444:A 444=some F444:=by kernel_rfl
@[go_sem] theorem cw444:CW A aA 444 vs h K=CN A aA false 444 vs h K:=cd vs h K
theorem a445:A 445=some F445:=by kernel_rfl
@[go_sem] theorem cw445:CW A aA 445 vs h K=CN A aA false 445 vs h K:=cd vs h K
theorem a446:A 446=some F446:=by kernel_rfl
@[go_sem] theorem cw446:CW A aA 446 vs h K=CN A aA false 446 vs h K:=cd vs h K
theorem a447:A 447=some F447:=by kernel_rfl
@[go_sem] theorem cw447:CW A aA 447 vs h K=CN A aA false 447 vs h K:=cd vs h K
theorem a448:A 448=some F448:=by kernel_rfl
@[go_sem] theorem cw448:CW A aA 448 vs h K=CN A aA false 448 vs h K:=cd vs h K
theorem a449:A 449=some F449:=by kernel_rfl
@[go_sem] theorem cw449:CW A aA 449 vs h K=CN A aA false 449 vs h K:=cd vs h K
theorem a450:A 450=some F450:=by kernel_rfl
@[go_sem] theorem cw450:CW A aA 450 vs h K=CN A aA false 450 vs h K:=cd vs h K
theorem a451:A 451=some F451:=by kernel_rfl
@[go_sem] theorem cw451:CW A aA 451 vs h K=CN A aA false 451 vs h K:=cd vs h K
theorem a455:A 455=some F455:=by kernel_rfl
@[go_sem] theorem cw455:CW A aA 455 vs h K=CN A aA false 455 vs h K:=cd vs h K
theorem a456:A 456=some F456:=by kernel_rfl
@[go_sem] theorem cw456:CW A aA 456 vs h K=CN A aA false 456 vs h K:=cd vs h K
theorem a458:A 458=some F458:=by kernel_rfl
@[go_sem] theorem cw458:CW A aA 458 vs h K=CN A aA false 458 vs h K:=cd vs h K
theorem a459:A 459=some F459:=by kernel_rfl
@[go_sem] theorem cw459:CW A aA 459 vs h K=CN A aA false 459 vs h K:=cd vs h K
theorem a461:A 461=some F461:=by kernel_rfl
@[go_sem] theorem cw461:CW A aA 461 vs h K=CN A aA false 461 vs h K:=cd vs h K
theorem a462:A 462=some F462:=by kernel_rfl
@[go_sem] theorem cw462:CW A aA 462 vs h K=CN A aA false 462 vs h K:=cd vs h K
theorem a463:A 463=some F463:=by kernel_rfl
@[go_sem] theorem cw463:CW A aA 463 vs h K=CN A aA false 463 vs h K:=cd vs h K
theorem a464:A 464=some F464:=by kernel_rfl
@[go_sem] theorem cw464:CW A aA 464 vs h K=CN A aA false 464 vs h K:=cd vs h K
theorem a465:A 465=some F465:=by kernel_rfl
@[go_sem] theorem cw465:CW A aA 465 vs h K=CN A aA false 465 vs h K:=cd vs h K
theorem a466:A 466=some F466:=by kernel_rfl
@[go_sem] theorem cw466:CW A aA 466 vs h K=CN A aA false 466 vs h K:=cd vs h K
theorem a468:A 468=some F468:=by kernel_rfl
@[go_sem] theorem cw468:CW A aA 468 vs h K=CN A aA false 468 vs h K:=cd vs h K
theorem a469:A 469=some F469:=by kernel_rfl
@[go_sem] theorem cw469:CW A aA 469 vs h K=CN A aA false 469 vs h K:=cd vs h K
theorem a470:A 470=some F470:=by kernel_rfl
@[go_sem] theorem cw470:CW A aA 470 vs h K=CN A aA false 470 vs h K:=cd vs h K
theorem a471:A 471=some F471:=by kernel_rfl
@[go_sem] theorem cw471:CW A aA 471 vs h K=CN A aA false 471 vs h K:=cd vs h K
theorem a472:A 472=some F472:=by kernel_rfl
@[go_sem] theorem cw472:CW A aA 472 vs h K=CN A aA false 472 vs h K:=cd vs h K
theorem a473:A 473=some F473:=by kernel_rfl
@[go_sem] theorem cw473:CW A aA 473 vs h K=CN A aA false 473 vs h K:=cd vs h K
theorem a474:A 474=some F474:=by kernel_rfl
@[go_sem] theorem cw474:CW A aA 474 vs h K=CN A aA false 474 vs h K:=cd vs h K
theorem a475:A 475=some F475:=by kernel_rfl
@[go_sem] theorem cw475:CW A aA 475 vs h K=CN A aA false 475 vs h K:=cd vs h K
theorem a476:A 476=some F476:=by kernel_rfl
@[go_sem] theorem cw476:CW A aA 476 vs h K=CN A aA false 476 vs h K:=cd vs h K
theorem a477:A 477=some F477:=by kernel_rfl
@[go_sem] theorem cw477:CW A aA 477 vs h K=CN A aA false 477 vs h K:=cd vs h K
theorem a478:A 478=some F478:=by kernel_rfl
@[go_sem] theorem cw478:CW A aA 478 vs h K=CN A aA false 478 vs h K:=cd vs h K
theorem a479:A 479=some F479:=by kernel_rfl
@[go_sem] theorem cw479:CW A aA 479 vs h K=CN A aA false 479 vs h K:=cd vs h K
theorem a480:A 480=some F480:=by kernel_rfl
@[go_sem] theorem cw480:CW A aA 480 vs h K=CN A aA false 480 vs h K:=cd vs h K
theorem a481:A 481=some F481:=by kernel_rfl
@[go_sem] theorem cw481:CW A aA 481 vs h K=CN A aA false 481 vs h K:=cd vs h K
theorem a482:A 482=some F482:=by kernel_rfl
@[go_sem] theorem cw482:CW A aA 482 vs h K=CN A aA false 482 vs h K:=cd vs h K
theorem a483:A 483=some F483:=by kernel_rfl
@[go_sem] theorem cw483:CW A aA 483 vs h K=CN A aA false 483 vs h K:=cd vs h K
theorem a484:A 484=some F484:=by kernel_rfl
@[go_sem] theorem cw484:CW A aA 484 vs h K=CN A aA false 484 vs h K:=cd vs h K
theorem a485:A 485=some F485:=by kernel_rfl
@[go_sem] theorem cw485:CW A aA 485 vs h K=CN A aA false 485 vs h K:=cd vs h K
theorem a486:A 486=some F486:=by kernel_rfl
@[go_sem] theorem cw486:CW A aA 486 vs h K=CN A aA false 486 vs h K:=cd vs h K
theorem a487:A 487=some F487:=by kernel_rfl
@[go_sem] theorem cw487:CW A aA 487 vs h K=CN A aA false 487 vs h K:=cd vs h K
theorem a488:A 488=some F488:=by kernel_rfl
@[go_sem] theorem cw488:CW A aA 488 vs h K=CN A aA false 488 vs h K:=cd vs h K
theorem a489:A 489=some F489:=by kernel_rfl
@[go_sem] theorem cw489:CW A aA 489 vs h K=CN A aA false 489 vs h K:=cd vs h K
theorem a490:A 490=some F490:=by kernel_rfl
@[go_sem] theorem cw490:CW A aA 490 vs h K=CN A aA false 490 vs h K:=cd vs h K
theorem a491:A 491=some F491:=by kernel_rfl
@[go_sem] theorem cw491:CW A aA 491 vs h K=CN A aA false 491 vs h K:=cd vs h K
theorem a492:A 492=some F492:=by kernel_rfl
@[go_sem] theorem cw492:CW A aA 492 vs h K=CN A aA false 492 vs h K:=cd vs h K
theorem a493:A 493=some F493:=by kernel_rfl
@[go_sem] theorem cw493:CW A aA 493 vs h K=CN A aA false 493 vs h K:=cd vs h K
theorem a494:A 494=some F494:=by kernel_rfl
@[go_sem] theorem cw494:CW A aA 494 vs h K=CN A aA false 494 vs h K:=cd vs h K
theorem a495:A 495=some F495:=by kernel_rfl
@[go_sem] theorem cw495:CW A aA 495 vs h K=CN A aA false 495 vs h K:=cd vs h K
theorem a496:A 496=some F496:=by kernel_rfl
@[go_sem] theorem cw496:CW A aA 496 vs h K=CN A aA false 496 vs h K:=cd vs h K
theorem a497:A 497=some F497:=by kernel_rfl
@[go_sem] theorem cw497:CW A aA 497 vs h K=CN A aA false 497 vs h K:=cd vs h K
theorem a498:A 498=some F498:=by kernel_rfl
@[go_sem] theorem cw498:CW A aA 498 vs h K=CN A aA false 498 vs h K:=cd vs h K
theorem a499:A 499=some F499:=by kernel_rfl
@[go_sem] theorem cw499:CW A aA 499 vs h K=CN A aA false 499 vs h K:=cd vs h K
theorem a500:A 500=some F500:=by kernel_rfl
@[go_sem] theorem cw500:CW A aA 500 vs h K=CN A aA false 500 vs h K:=cd vs h K
theorem a501:A 501=some F501:=by kernel_rfl
@[go_sem] theorem cw501:CW A aA 501 vs h K=CN A aA false 501 vs h K:=cd vs h K
theorem a502:A 502=some F502:=by kernel_rfl
@[go_sem] theorem cw502:CW A aA 502 vs h K=CN A aA false 502 vs h K:=cd vs h K
theorem a503:A 503=some F503:=by kernel_rfl
@[go_sem] theorem cw503:CW A aA 503 vs h K=CN A aA false 503 vs h K:=cd vs h K
theorem a504:A 504=some F504:=by kernel_rfl
@[go_sem] theorem cw504:CW A aA 504 vs h K=CN A aA false 504 vs h K:=cd vs h K
theorem a505:A 505=some F505:=by kernel_rfl
@[go_sem] theorem cw505:CW A aA 505 vs h K=CN A aA false 505 vs h K:=cd vs h K
theorem a507:A 507=some F507:=by kernel_rfl
@[go_sem] theorem cw507:CW A aA 507 vs h K=CN A aA false 507 vs h K:=cd vs h K
theorem a508:A 508=some F508:=by kernel_rfl
@[go_sem] theorem cw508:CW A aA 508 vs h K=CN A aA false 508 vs h K:=cd vs h K
theorem a509:A 509=some F509:=by kernel_rfl
@[go_sem] theorem cw509:CW A aA 509 vs h K=CN A aA false 509 vs h K:=cd vs h K
theorem a510:A 510=some F510:=by kernel_rfl
@[go_sem] theorem cw510:CW A aA 510 vs h K=CN A aA false 510 vs h K:=cd vs h K
theorem a512:A 512=some F512:=by kernel_rfl
@[go_sem] theorem cw512:CW A aA 512 vs h K=CN A aA false 512 vs h K:=cd vs h K
theorem a513:A 513=some F513:=by kernel_rfl
@[go_sem] theorem cw513:CW A aA 513 vs h K=CN A aA false 513 vs h K:=cd vs h K
theorem a514:A 514=some F514:=by kernel_rfl
@[go_sem] theorem cw514:CW A aA 514 vs h K=CN A aA false 514 vs h K:=cd vs h K
theorem a515:A 515=some F515:=by kernel_rfl
@[go_sem] theorem cw515:CW A aA 515 vs h K=CN A aA false 515 vs h K:=cd vs h K
theorem a516:A 516=some F516:=by kernel_rfl
@[go_sem] theorem cw516:CW A aA 516 vs h K=CN A aA false 516 vs h K:=cd vs h K
theorem a517:A 517=some F517:=by kernel_rfl
@[go_sem] theorem cw517:CW A aA 517 vs h K=CN A aA false 517 vs h K:=cd vs h K
theorem a518:A 518=some F518:=by kernel_rfl
@[go_sem] theorem cw518:CW A aA 518 vs h K=CN A aA false 518 vs h K:=cd vs h K
theorem a519:A 519=some F519:=by kernel_rfl
@[go_sem] theorem cw519:CW A aA 519 vs h K=CN A aA false 519 vs h K:=cd vs h K
theorem a520:A 520=some F520:=by kernel_rfl
@[go_sem] theorem cw520:CW A aA 520 vs h K=CN A aA false 520 vs h K:=cd vs h K
theorem a521:A 521=some F521:=by kernel_rfl
@[go_sem] theorem cw521:CW A aA 521 vs h K=CN A aA false 521 vs h K:=cd vs h K
theorem a522:A 522=some F522:=by kernel_rfl
@[go_sem] theorem cw522:CW A aA 522 vs h K=CN A aA false 522 vs h K:=cd vs h K
theorem a523:A 523=some F523:=by kernel_rfl
@[go_sem] theorem cw523:CW A aA 523 vs h K=CN A aA false 523 vs h K:=cd vs h K
theorem a524:A 524=some F524:=by kernel_rfl
@[go_sem] theorem cw524:CW A aA 524 vs h K=CN A aA false 524 vs h K:=cd vs h K
end Go.Pv
