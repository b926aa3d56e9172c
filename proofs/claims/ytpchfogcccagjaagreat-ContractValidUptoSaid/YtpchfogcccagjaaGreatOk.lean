/-
  The functions read are those of the program.
-/
import Derived.Test.YtpchfogcccagjaaGreatTab
import Derived.Test.YtpchfogcccagjaaGreatProg
import Derived.KernelRfl
open List renaming forall_mem_cons → PK
open Nat renaming le_of_ble_eq_true → Qk
namespace Go.Proofs.YtpchfogcccagjaaGreat
open Go Go.Pv Go.Proofs
def N7:List Nat:=[99999,99999,99999,99999,99999,99999,99999,99999,99999,99999,99999,99999,99999,99999,24,67,77,99999,99999,99999,99999,99999,99999,99999,99999,99999,147,99999,99999,152,99999,99999,127,110,115,116,99999,99999,99999,99999,99999,99999,99999,146,184,156,189,173,99999,99999,171,172,148,149,153,154,155,157,208,209,210,99999,99999,190,98,191,182,99999,99999,99999,99999,99999,99999,99999,99999,99999,99999,217,99999,99999,99999,99999,99999,99999,99999,99999,99999,99999,99999,99999,99999,99999,99999,99999,99999,99999,99999,99999,99999,99999,99999,99999,99999,68,69,99999,99999,99999,99999,99999,96,99999,99999,99999,99999,99999,99999,99999,129,99999,99999,99999,99999,99999,99999,99999,99999,99999,99999,99999,99999,99999,99999,99999,99999,99999,99999,99999,99999,99999,99999,99999,99999,99999,99999,99999,99999,99999,99999,99999,99999,99999,99999,99999,99999,99999,99999,99999,99999,99999,99999,99999,99999,99999,99999,99999,99999,99999,99999,99999,99999,99999,99999,99999,99999,99999,99999,99999,99999,99999,99999,99999,99999,99999,99999,99999,99999,99999,99999,99999,99999,99999,99999,99999,99999,99999,99999,99999,99999,99999,99999,99999,99999,99999,99999,99999,99999,99999,99999,99999,99999,99999,99999,99999,99999,99999,99999,99999,99999,99999,99999,99999,99999,99999,99999,99999,99999,99999,99999,99999,99999,99999,99999,99999,99999,99999,99999,99999,99999,99999,99999,99999,99999,99999,99999,99999,99999,99999,99999,99999,99999,99999,99999,99999,99999,99999,99999,99999,99999,99999,99999,99999,99999,99999,99999,99999,42,92,121,99999,99999,99999,99999,56,99999,99999,99999,60,99999,99999,99999,245,82,126,95,163,103,112,144,99999,99999,94,99999,99999,99999,99,99999,170,99999,99999,99999,99999,99999,99999,256,257,49,168,169,197,44,198,199,57,58,99999,130,203,204,205,206,99999,99999,88,89,201,202,83,84,222,176,99999,99999,224,225,99999,211,99999,99999,99999,99999,99999,99999,99999,99999,99999,99999,99999,99999,99999,99999,99999,99999,99999,99999,99999,99999,99999,99999,99999,99999,99999,99999,99999,99999,99999,99999,99999,99999,99999,99999,99999,99999,99999,99999,99999,99999,99999,99999,99999,99999,99999,99999,99999,99999,99999,99999,99999,99999,99999,99999,239,243,236,254,255,3,99999,99999,99999,99999,99999,99999,99999,11,12,13,14,15,16,17,99999,19,99999,21,99999,23,25,99999,99999,99999,29,99999,99999,99999,99999,99999,99999,99999,99999,99999,99999,99999,41,43,45,46,47,48,50,51,52,53,54,55,59,61,62,63,64,65,66,99999,99999,99999,75,76,99999,99999,99999,81,85,86,87,90,91,93,97,114,99999,119,120,122,123,124,125,128,150,151,99999,161,162,164,165,166,167,174,175,185,186,187,188,99999,99999,196,200,213,214,215,216,99999,99999,221,223,99999,235,237,238,240,241,242,244,246,247,251,252,253,258,259,260,261,262,264,265,266]
def num (n:Nat):Nat:=N7.getD n 99999
def N8:List Nat:=[99999,99999,99999,396,99999,99999,99999,99999,99999,99999,99999,404,405,406,407,408,409,410,99999,412,99999,414,99999,416,14,417,99999,99999,99999,421,99999,99999,99999,99999,99999,99999,99999,99999,99999,99999,99999,433,266,434,310,435,436,437,438,306,439,440,441,442,443,444,273,313,314,445,277,446,447,448,449,450,451,15,103,104,99999,99999,99999,99999,99999,455,456,16,99999,99999,99999,460,282,327,328,461,462,463,323,324,464,465,267,466,291,284,110,467,64,295,99999,99999,99999,286,99999,99999,99999,99999,99999,99999,33,99999,287,99999,468,34,35,99999,99999,470,471,268,472,473,474,475,283,32,476,118,316,99999,99999,99999,99999,99999,99999,99999,99999,99999,99999,99999,99999,99999,288,99999,43,26,52,53,477,478,29,54,55,56,45,57,99999,99999,99999,480,481,285,482,483,484,485,307,308,297,50,51,47,486,487,330,99999,99999,99999,99999,99999,66,99999,44,488,489,490,491,46,63,65,99999,99999,99999,99999,494,309,311,312,495,325,326,317,318,319,320,99999,58,59,60,336,99999,496,497,498,499,77,99999,99999,99999,502,329,503,333,334,99999,99999,99999,99999,99999,99999,99999,99999,99999,505,393,506,507,391,508,509,510,392,511,281,512,513,99999,99999,99999,514,515,516,394,395,304,305,517,518,519,520,521,99999,522,523,524]
def M4 (f:Nat):Nat:=N8.getD f 99999
def notes:AC→Dx
 |.region _ a b=>[(a,b)]
 |.draw _ a b=>[(a,b)]
 |.sg _ _ a b=>[(a,b)]
 |.mask a b c=>(a,b)::notes c
 |.seq a b=>notes a++notes b
 |.cond _ a b=>notes a++notes b
 |.block _ a=>notes a
 |.loop a=>notes a
 |_=>[]
def br (k:Nat) (F:aa):Prop:=∃an,u5 Tryz.prog num M4 (num k) an F
theorem bt {k:Nat} {F:aa} (f:Func) (an:Dx) (a:Tryz.prog.funcs[num k]?=some f) (b:f.body=some (f.body.getD .skip):=by kernel_rfl) (c:(f.name=="runtime.NumGoroutine")=false:=by kernel_rfl) (d:Nat.ble F.nX f.ntmps=true:=by kernel_rfl) (e:dM Tryz.prog num M4 f.ntmps (f.body.getD .skip) an=some (F.body,[]):=by kernel_rfl) (g:ax (qo Tryz.prog) f.results.toList=some F.results:=by kernel_rfl):br k F:=⟨an,f,f.body.getD .skip,a,b,c,Qk d,e,g⟩
theorem bu {α:Type} {p:α→Prop} {a:α} {l:List α} (h:p a) (t:∀x∈l,p x):∀x∈a::l,p x:=PK.2 ⟨h,t⟩
set_option maxRecDepth 100000 in
theorem ok14:br 14 F14:=bt Tryz.f24 (notes F14.body) Tryz.func24
set_option maxRecDepth 100000 in
theorem ok15:br 15 F15:=bt Tryz.f67 (notes F15.body) Tryz.func67
set_option maxRecDepth 100000 in
theorem ok16:br 16 F16:=bt Tryz.f77 (notes F16.body) Tryz.func77
set_option maxRecDepth 100000 in
theorem ok26:br 26 F26:=bt Tryz.f147 (notes F26.body) Tryz.func147
set_option maxRecDepth 100000 in
theorem ok29:br 29 F29:=bt Tryz.f152 (notes F29.body) Tryz.func152
set_option maxRecDepth 100000 in
theorem ok32:br 32 F32:=bt Tryz.f127 (notes F32.body) Tryz.func127
set_option maxRecDepth 100000 in
theorem ok33:br 33 F33:=bt Tryz.f110 (notes F33.body) Tryz.func110
set_option maxRecDepth 100000 in
theorem ok34:br 34 F34:=bt Tryz.f115 (notes F34.body) Tryz.func115
set_option maxRecDepth 100000 in
theorem ok35:br 35 F35:=bt Tryz.f116 (notes F35.body) Tryz.func116
set_option maxRecDepth 100000 in
theorem ok43:br 43 F43:=bt Tryz.f146 (notes F43.body) Tryz.func146
set_option maxRecDepth 100000 in
theorem ok44:br 44 F44:=bt Tryz.f184 (notes F44.body) Tryz.func184
set_option maxRecDepth 100000 in
theorem ok45:br 45 F45:=bt Tryz.f156 (notes F45.body) Tryz.func156
set_option maxRecDepth 100000 in
theorem ok46:br 46 F46:=bt Tryz.f189 (notes F46.body) Tryz.func189
set_option maxRecDepth 100000 in
theorem ok47:br 47 F47:=bt Tryz.f173 (notes F47.body) Tryz.func173
set_option maxRecDepth 100000 in
theorem ok50:br 50 F50:=bt Tryz.f171 (notes F50.body) Tryz.func171
set_option maxRecDepth 100000 in
theorem ok52:br 52 F52:=bt Tryz.f148 (notes F52.body) Tryz.func148
set_option maxRecDepth 100000 in
theorem ok53:br 53 F53:=bt Tryz.f149 (notes F53.body) Tryz.func149
set_option maxRecDepth 100000 in
theorem ok54:br 54 F54:=bt Tryz.f153 (notes F54.body) Tryz.func153
set_option maxRecDepth 100000 in
theorem ok55:br 55 F55:=bt Tryz.f154 (notes F55.body) Tryz.func154
set_option maxRecDepth 100000 in
theorem ok56:br 56 F56:=bt Tryz.f155 (notes F56.body) Tryz.func155
set_option maxRecDepth 100000 in
theorem ok58:br 58 F58:=bt Tryz.f208 (notes F58.body) Tryz.func208
set_option maxRecDepth 100000 in
theorem ok59:br 59 F59:=bt Tryz.f209 (notes F59.body) Tryz.func209
set_option maxRecDepth 100000 in
theorem ok60:br 60 F60:=bt Tryz.f210 (notes F60.body) Tryz.func210
set_option maxRecDepth 100000 in
theorem ok63:br 63 F63:=bt Tryz.f190 (notes F63.body) Tryz.func190
set_option maxRecDepth 100000 in
theorem ok65:br 65 F65:=bt Tryz.f191 (notes F65.body) Tryz.func191
set_option maxRecDepth 100000 in
theorem ok66:br 66 F66:=bt Tryz.f182 (notes F66.body) Tryz.func182
set_option maxRecDepth 100000 in
theorem ok77:br 77 F77:=bt Tryz.f217 (notes F77.body) Tryz.func217
set_option maxRecDepth 100000 in
theorem ok104:br 104 F104:=bt Tryz.f69 (notes F104.body) Tryz.func69
set_option maxRecDepth 100000 in
theorem ok110:br 110 F110:=bt Tryz.f96 (notes F110.body) Tryz.func96
set_option maxRecDepth 100000 in
theorem ok118:br 118 F118:=bt Tryz.f129 (notes F118.body) Tryz.func129
set_option maxRecDepth 100000 in
theorem ok266:br 266 F266:=bt Tryz.f42 (notes F266.body) Tryz.func42
set_option maxRecDepth 100000 in
theorem ok267:br 267 F267:=bt Tryz.f92 (notes F267.body) Tryz.func92
set_option maxRecDepth 100000 in
theorem ok268:br 268 F268:=bt Tryz.f121 (notes F268.body) Tryz.func121
set_option maxRecDepth 100000 in
theorem ok273:br 273 F273:=bt Tryz.f56 (notes F273.body) Tryz.func56
set_option maxRecDepth 100000 in
theorem ok277:br 277 F277:=bt Tryz.f60 (notes F277.body) Tryz.func60
set_option maxRecDepth 100000 in
theorem ok281:br 281 F281:=bt Tryz.f245 (notes F281.body) Tryz.func245
set_option maxRecDepth 100000 in
theorem ok282:br 282 F282:=bt Tryz.f82 (notes F282.body) Tryz.func82
set_option maxRecDepth 100000 in
theorem ok283:br 283 F283:=bt Tryz.f126 (notes F283.body) Tryz.func126
set_option maxRecDepth 100000 in
theorem ok284:br 284 F284:=bt Tryz.f95 (notes F284.body) Tryz.func95
set_option maxRecDepth 100000 in
theorem ok285:br 285 F285:=bt Tryz.f163 (notes F285.body) Tryz.func163
set_option maxRecDepth 100000 in
theorem ok286:br 286 F286:=bt Tryz.f103 (notes F286.body) Tryz.func103
set_option maxRecDepth 100000 in
theorem ok287:br 287 F287:=bt Tryz.f112 (notes F287.body) Tryz.func112
set_option maxRecDepth 100000 in
theorem ok288:br 288 F288:=bt Tryz.f144 (notes F288.body) Tryz.func144
set_option maxRecDepth 100000 in
theorem ok291:br 291 F291:=bt Tryz.f94 (notes F291.body) Tryz.func94
set_option maxRecDepth 100000 in
theorem ok295:br 295 F295:=bt Tryz.f99 (notes F295.body) Tryz.func99
set_option maxRecDepth 100000 in
theorem ok297:br 297 F297:=bt Tryz.f170 (notes F297.body) Tryz.func170
set_option maxRecDepth 100000 in
theorem ok304:br 304 F304:=bt Tryz.f256 (notes F304.body) Tryz.func256
set_option maxRecDepth 100000 in
theorem ok305:br 305 F305:=bt Tryz.f257 (notes F305.body) Tryz.func257
set_option maxRecDepth 100000 in
theorem ok306:br 306 F306:=bt Tryz.f49 (notes F306.body) Tryz.func49
set_option maxRecDepth 100000 in
theorem ok307:br 307 F307:=bt Tryz.f168 (notes F307.body) Tryz.func168
set_option maxRecDepth 100000 in
theorem ok308:br 308 F308:=bt Tryz.f169 (notes F308.body) Tryz.func169
set_option maxRecDepth 100000 in
theorem ok309:br 309 F309:=bt Tryz.f197 (notes F309.body) Tryz.func197
set_option maxRecDepth 100000 in
theorem ok310:br 310 F310:=bt Tryz.f44 (notes F310.body) Tryz.func44
set_option maxRecDepth 100000 in
theorem ok311:br 311 F311:=bt Tryz.f198 (notes F311.body) Tryz.func198
set_option maxRecDepth 100000 in
theorem ok312:br 312 F312:=bt Tryz.f199 (notes F312.body) Tryz.func199
set_option maxRecDepth 100000 in
theorem ok316:br 316 F316:=bt Tryz.f130 (notes F316.body) Tryz.func130
set_option maxRecDepth 100000 in
theorem ok317:br 317 F317:=bt Tryz.f203 (notes F317.body) Tryz.func203
set_option maxRecDepth 100000 in
theorem ok318:br 318 F318:=bt Tryz.f204 (notes F318.body) Tryz.func204
set_option maxRecDepth 100000 in
theorem ok319:br 319 F319:=bt Tryz.f205 (notes F319.body) Tryz.func205
set_option maxRecDepth 100000 in
theorem ok320:br 320 F320:=bt Tryz.f206 (notes F320.body) Tryz.func206
set_option maxRecDepth 100000 in
theorem ok323:br 323 F323:=bt Tryz.f88 (notes F323.body) Tryz.func88
set_option maxRecDepth 100000 in
theorem ok324:br 324 F324:=bt Tryz.f89 (notes F324.body) Tryz.func89
set_option maxRecDepth 100000 in
theorem ok325:br 325 F325:=bt Tryz.f201 (notes F325.body) Tryz.func201
set_option maxRecDepth 100000 in
theorem ok326:br 326 F326:=bt Tryz.f202 (notes F326.body) Tryz.func202
set_option maxRecDepth 100000 in
theorem ok327:br 327 F327:=bt Tryz.f83 (notes F327.body) Tryz.func83
set_option maxRecDepth 100000 in
theorem ok328:br 328 F328:=bt Tryz.f84 (notes F328.body) Tryz.func84
set_option maxRecDepth 100000 in
theorem ok329:br 329 F329:=bt Tryz.f222 (notes F329.body) Tryz.func222
set_option maxRecDepth 100000 in
theorem ok330:br 330 F330:=bt Tryz.f176 (notes F330.body) Tryz.func176
set_option maxRecDepth 100000 in
theorem ok333:br 333 F333:=bt Tryz.f224 (notes F333.body) Tryz.func224
set_option maxRecDepth 100000 in
theorem ok334:br 334 F334:=bt Tryz.f225 (notes F334.body) Tryz.func225
set_option maxRecDepth 100000 in
theorem ok336:br 336 F336:=bt Tryz.f211 (notes F336.body) Tryz.func211
set_option maxRecDepth 100000 in
theorem ok391:br 391 F391:=bt Tryz.f239 (notes F391.body) Tryz.func239
set_option maxRecDepth 100000 in
theorem ok392:br 392 F392:=bt Tryz.f243 (notes F392.body) Tryz.func243
set_option maxRecDepth 100000 in
theorem ok393:br 393 F393:=bt Tryz.f236 (notes F393.body) Tryz.func236
set_option maxRecDepth 100000 in
theorem ok394:br 394 F394:=bt Tryz.f254 (notes F394.body) Tryz.func254
set_option maxRecDepth 100000 in
theorem ok395:br 395 F395:=bt Tryz.f255 (notes F395.body) Tryz.func255
set_option maxRecDepth 100000 in
theorem ok396:br 396 F396:=bt Tryz.f3 (notes F396.body) Tryz.func3
set_option maxRecDepth 100000 in
theorem ok404:br 404 F404:=bt Tryz.f11 (notes F404.body) Tryz.func11
set_option maxRecDepth 100000 in
theorem ok405:br 405 F405:=bt Tryz.f12 (notes F405.body) Tryz.func12
set_option maxRecDepth 100000 in
theorem ok406:br 406 F406:=bt Tryz.f13 (notes F406.body) Tryz.func13
set_option maxRecDepth 100000 in
theorem ok407:br 407 F407:=bt Tryz.f14 (notes F407.body) Tryz.func14
set_option maxRecDepth 100000 in
theorem ok408:br 408 F408:=bt Tryz.f15 (notes F408.body) Tryz.func15
set_option maxRecDepth 100000 in
theorem ok409:br 409 F409:=bt Tryz.f16 (notes F409.body) Tryz.func16
set_option maxRecDepth 100000 in
theorem ok410:br 410 F410:=bt Tryz.f17 (notes F410.body) Tryz.func17
set_option maxRecDepth 100000 in
theorem ok412:br 412 F412:=bt Tryz.f19 (notes F412.body) Tryz.func19
set_option maxRecDepth 100000 in
theorem ok414:br 414 F414:=bt Tryz.f21 (notes F414.body) Tryz.func21
set_option maxRecDepth 100000 in
theorem ok416:br 416 F416:=bt Tryz.f23 (notes F416.body) Tryz.func23
set_option maxRecDepth 100000 in
theorem ok417:br 417 F417:=bt Tryz.f25 (notes F417.body) Tryz.func25
set_option maxRecDepth 100000 in
theorem ok421:br 421 F421:=bt Tryz.f29 (notes F421.body) Tryz.func29
set_option maxRecDepth 100000 in
theorem ok433:br 433 F433:=bt Tryz.f41 [([0],[0]),([0,1],[0]),([0],[0,999998])] Tryz.func41
set_option maxRecDepth 100000 in
theorem ok434:br 434 F434:=bt Tryz.f43 (notes F434.body) Tryz.func43
set_option maxRecDepth 100000 in
theorem ok435:br 435 F435:=bt Tryz.f45 (notes F435.body) Tryz.func45
set_option maxRecDepth 100000 in
theorem ok436:br 436 F436:=bt Tryz.f46 (notes F436.body) Tryz.func46
set_option maxRecDepth 100000 in
theorem ok437:br 437 F437:=bt Tryz.f47 (notes F437.body) Tryz.func47
set_option maxRecDepth 100000 in
theorem ok438:br 438 F438:=bt Tryz.f48 (notes F438.body) Tryz.func48
set_option maxRecDepth 100000 in
theorem ok439:br 439 F439:=bt Tryz.f50 (notes F439.body) Tryz.func50
set_option maxRecDepth 100000 in
theorem ok440:br 440 F440:=bt Tryz.f51 (notes F440.body) Tryz.func51
set_option maxRecDepth 100000 in
theorem ok441:br 441 F441:=bt Tryz.f52 (notes F441.body) Tryz.func52
set_option maxRecDepth 100000 in
theorem ok442:br 442 F442:=bt Tryz.f53 (notes F442.body) Tryz.func53
set_option maxRecDepth 100000 in
theorem ok443:br 443 F443:=bt Tryz.f54 (notes F443.body) Tryz.func54
set_option maxRecDepth 100000 in
theorem ok444:br 444 F444:=bt Tryz.f55 (notes F444.body) Tryz.func55
set_option maxRecDepth 100000 in
theorem ok445:br 445 F445:=bt Tryz.f59 (notes F445.body) Tryz.func59
set_option maxRecDepth 100000 in
theorem ok446:br 446 F446:=bt Tryz.f61 (notes F446.body) Tryz.func61
set_option maxRecDepth 100000 in
theorem ok447:br 447 F447:=bt Tryz.f62 (notes F447.body) Tryz.func62
set_option maxRecDepth 100000 in
theorem ok448:br 448 F448:=bt Tryz.f63 (notes F448.body) Tryz.func63
set_option maxRecDepth 100000 in
theorem ok449:br 449 F449:=bt Tryz.f64 (notes F449.body) Tryz.func64
set_option maxRecDepth 100000 in
theorem ok450:br 450 F450:=bt Tryz.f65 (notes F450.body) Tryz.func65
set_option maxRecDepth 100000 in
theorem ok451:br 451 F451:=bt Tryz.f66 (notes F451.body) Tryz.func66
set_option maxRecDepth 100000 in
theorem ok455:br 455 F455:=bt Tryz.f75 (notes F455.body) Tryz.func75
set_option maxRecDepth 100000 in
theorem ok456:br 456 F456:=bt Tryz.f76 (notes F456.body) Tryz.func76
set_option maxRecDepth 100000 in
theorem ok460:br 460 F460:=bt Tryz.f81 (notes F460.body) Tryz.func81
set_option maxRecDepth 100000 in
theorem ok461:br 461 F461:=bt Tryz.f85 (notes F461.body) Tryz.func85
set_option maxRecDepth 100000 in
theorem ok462:br 462 F462:=bt Tryz.f86 (notes F462.body) Tryz.func86
set_option maxRecDepth 100000 in
theorem ok463:br 463 F463:=bt Tryz.f87 (notes F463.body) Tryz.func87
set_option maxRecDepth 100000 in
theorem ok464:br 464 F464:=bt Tryz.f90 (notes F464.body) Tryz.func90
set_option maxRecDepth 100000 in
theorem ok465:br 465 F465:=bt Tryz.f91 (notes F465.body) Tryz.func91
set_option maxRecDepth 100000 in
theorem ok466:br 466 F466:=bt Tryz.f93 (notes F466.body) Tryz.func93
set_option maxRecDepth 100000 in
theorem ok468:br 468 F468:=bt Tryz.f114 (notes F468.body) Tryz.func114
set_option maxRecDepth 100000 in
theorem ok470:br 470 F470:=bt Tryz.f119 (notes F470.body) Tryz.func119
set_option maxRecDepth 100000 in
theorem ok471:br 471 F471:=bt Tryz.f120 (notes F471.body) Tryz.func120
set_option maxRecDepth 100000 in
theorem ok472:br 472 F472:=bt Tryz.f122 (notes F472.body) Tryz.func122
set_option maxRecDepth 100000 in
theorem ok473:br 473 F473:=bt Tryz.f123 (notes F473.body) Tryz.func123
set_option maxRecDepth 100000 in
theorem ok474:br 474 F474:=bt Tryz.f124 (notes F474.body) Tryz.func124
set_option maxRecDepth 100000 in
theorem ok475:br 475 F475:=bt Tryz.f125 (notes F475.body) Tryz.func125
set_option maxRecDepth 100000 in
theorem ok476:br 476 F476:=bt Tryz.f128 (notes F476.body) Tryz.func128
set_option maxRecDepth 100000 in
theorem ok477:br 477 F477:=bt Tryz.f150 (notes F477.body) Tryz.func150
set_option maxRecDepth 100000 in
theorem ok478:br 478 F478:=bt Tryz.f151 (notes F478.body) Tryz.func151
set_option maxRecDepth 100000 in
theorem ok480:br 480 F480:=bt Tryz.f161 (notes F480.body) Tryz.func161
set_option maxRecDepth 100000 in
theorem ok481:br 481 F481:=bt Tryz.f162 (notes F481.body) Tryz.func162
set_option maxRecDepth 100000 in
theorem ok482:br 482 F482:=bt Tryz.f164 (notes F482.body) Tryz.func164
set_option maxRecDepth 100000 in
theorem ok483:br 483 F483:=bt Tryz.f165 (notes F483.body) Tryz.func165
set_option maxRecDepth 100000 in
theorem ok484:br 484 F484:=bt Tryz.f166 (notes F484.body) Tryz.func166
set_option maxRecDepth 100000 in
theorem ok485:br 485 F485:=bt Tryz.f167 (notes F485.body) Tryz.func167
set_option maxRecDepth 100000 in
theorem ok486:br 486 F486:=bt Tryz.f174 (notes F486.body) Tryz.func174
set_option maxRecDepth 100000 in
theorem ok487:br 487 F487:=bt Tryz.f175 (notes F487.body) Tryz.func175
set_option maxRecDepth 100000 in
theorem ok488:br 488 F488:=bt Tryz.f185 (notes F488.body) Tryz.func185
set_option maxRecDepth 100000 in
theorem ok489:br 489 F489:=bt Tryz.f186 (notes F489.body) Tryz.func186
set_option maxRecDepth 100000 in
theorem ok490:br 490 F490:=bt Tryz.f187 (notes F490.body) Tryz.func187
set_option maxRecDepth 100000 in
theorem ok491:br 491 F491:=bt Tryz.f188 (notes F491.body) Tryz.func188
set_option maxRecDepth 100000 in
theorem ok494:br 494 F494:=bt Tryz.f196 (notes F494.body) Tryz.func196
set_option maxRecDepth 100000 in
theorem ok495:br 495 F495:=bt Tryz.f200 (notes F495.body) Tryz.func200
set_option maxRecDepth 100000 in
theorem ok496:br 496 F496:=bt Tryz.f213 (notes F496.body) Tryz.func213
set_option maxRecDepth 100000 in
theorem ok497:br 497 F497:=bt Tryz.f214 (notes F497.body) Tryz.func214
set_option maxRecDepth 100000 in
theorem ok498:br 498 F498:=bt Tryz.f215 (notes F498.body) Tryz.func215
set_option maxRecDepth 100000 in
theorem ok499:br 499 F499:=bt Tryz.f216 (notes F499.body) Tryz.func216
set_option maxRecDepth 100000 in
theorem ok502:br 502 F502:=bt Tryz.f221 (notes F502.body) Tryz.func221
set_option maxRecDepth 100000 in
theorem ok503:br 503 F503:=bt Tryz.f223 (notes F503.body) Tryz.func223
set_option maxRecDepth 100000 in
theorem ok505:br 505 F505:=bt Tryz.f235 (notes F505.body) Tryz.func235
set_option maxRecDepth 100000 in
theorem ok506:br 506 F506:=bt Tryz.f237 (notes F506.body) Tryz.func237
set_option maxRecDepth 100000 in
theorem ok507:br 507 F507:=bt Tryz.f238 (notes F507.body) Tryz.func238
set_option maxRecDepth 100000 in
theorem ok508:br 508 F508:=bt Tryz.f240 (notes F508.body) Tryz.func240
set_option maxRecDepth 100000 in
theorem ok509:br 509 F509:=bt Tryz.f241 (notes F509.body) Tryz.func241
set_option maxRecDepth 100000 in
theorem ok510:br 510 F510:=bt Tryz.f242 (notes F510.body) Tryz.func242
set_option maxRecDepth 100000 in
theorem ok511:br 511 F511:=bt Tryz.f244 (notes F511.body) Tryz.func244
set_option maxRecDepth 100000 in
theorem ok512:br 512 F512:=bt Tryz.f246 (notes F512.body) Tryz.func246
set_option maxRecDepth 100000 in
theorem ok513:br 513 F513:=bt Tryz.f247 (notes F513.body) Tryz.func247
set_option maxRecDepth 100000 in
theorem ok514:br 514 F514:=bt Tryz.f251 (notes F514.body) Tryz.func251
set_option maxRecDepth 100000 in
theorem ok515:br 515 F515:=bt Tryz.f252 (notes F515.body) Tryz.func252
set_option maxRecDepth 100000 in
theorem ok516:br 516 F516:=bt Tryz.f253 (notes F516.body) Tryz.func253
set_option maxRecDepth 100000 in
theorem ok517:br 517 F517:=bt Tryz.f258 (notes F517.body) Tryz.func258
set_option maxRecDepth 100000 in
theorem ok518:br 518 F518:=bt Tryz.f259 (notes F518.body) Tryz.func259
set_option maxRecDepth 100000 in
theorem ok519:br 519 F519:=bt Tryz.f260 (notes F519.body) Tryz.func260
set_option maxRecDepth 100000 in
theorem ok520:br 520 F520:=bt Tryz.f261 (notes F520.body) Tryz.func261
set_option maxRecDepth 100000 in
theorem ok521:br 521 F521:=bt Tryz.f262 (notes F521.body) Tryz.func262
set_option maxRecDepth 100000 in
theorem ok522:br 522 F522:=bt Tryz.f264 (notes F522.body) Tryz.func264
set_option maxRecDepth 100000 in
theorem ok523:br 523 F523:=bt Tryz.f265 (notes F523.body) Tryz.func265
set_option maxRecDepth 100000 in
theorem ok524:br 524 F524:=bt Tryz.f266 (notes F524.body) Tryz.func266
set_option maxRecDepth 100000 in
theorem LN:∀x∈GP,∃an,u5 Tryz.prog num M4 (num x.1) an x.2:=by
 unfold GP
 exact bu ok14<|bu ok15<|bu ok16<|bu ok26<|bu ok29<|bu ok32<|bu ok33<|bu ok34<|bu ok35<|bu ok43<|bu ok44<|bu ok45<|bu ok46<|bu ok47<|bu ok50<|bu ok52<|bu ok53<|bu ok54<|bu ok55<|bu ok56<|bu ok58<|bu ok59<|bu ok60<|bu ok63<|bu ok65<|bu ok66<|bu ok77<|bu ok104<|bu ok110<|bu ok118<|bu ok266<|bu ok267<|bu ok268<|bu ok273<|bu ok277<|bu ok281<|bu ok282<|bu ok283<|bu ok284<|bu ok285<|bu ok286<|bu ok287<|bu ok288<|bu ok291<|bu ok295<|bu ok297<|bu ok304<|bu ok305<|bu ok306<|bu ok307<|bu ok308<|bu ok309<|bu ok310<|bu ok311<|bu ok312<|bu ok316<|bu ok317<|bu ok318<|bu ok319<|bu ok320<|bu ok323<|bu ok324<|bu ok325<|bu ok326<|bu ok327<|bu ok328<|bu ok329<|bu ok330<|bu ok333<|bu ok334<|bu ok336<|bu ok391<|bu ok392<|bu ok393<|bu ok394<|bu ok395<|bu ok396<|bu ok404<|bu ok405<|bu ok406<|bu ok407<|bu ok408<|bu ok409<|bu ok410<|bu ok412<|bu ok414<|bu ok416<|bu ok417<|bu ok421<|bu ok433<|bu ok434<|bu ok435<|bu ok436<|bu ok437<|bu ok438<|bu ok439<|bu ok440<|bu ok441<|bu ok442<|bu ok443<|bu ok444<|bu ok445<|bu ok446<|bu ok447<|bu ok448<|bu ok449<|bu ok450<|bu ok451<|bu ok455<|bu ok456<|bu ok460<|bu ok461<|bu ok462<|bu ok463<|bu ok464<|bu ok465<|bu ok466<|bu ok468<|bu ok470<|bu ok471<|bu ok472<|bu ok473<|bu ok474<|bu ok475<|bu ok476<|bu ok477<|bu ok478<|bu ok480<|bu ok481<|bu ok482<|bu ok483<|bu ok484<|bu ok485<|bu ok486<|bu ok487<|bu ok488<|bu ok489<|bu ok490<|bu ok491<|bu ok494<|bu ok495<|bu ok496<|bu ok497<|bu ok498<|bu ok499<|bu ok502<|bu ok503<|bu ok505<|bu ok506<|bu ok507<|bu ok508<|bu ok509<|bu ok510<|bu ok511<|bu ok512<|bu ok513<|bu ok514<|bu ok515<|bu ok516<|bu ok517<|bu ok518<|bu ok519<|bu ok520<|bu ok521<|bu ok522<|bu ok523<|bu ok524<|fun x hx=>by cases hx
set_option maxRecDepth 100000 in
theorem OM (f:Nat) (fn:aa) (h:A f=some fn):∃an,u5 Tryz.prog num M4 (num f) an fn:=LN _ (hJ h)
end Go.Proofs.YtpchfogcccagjaaGreat
