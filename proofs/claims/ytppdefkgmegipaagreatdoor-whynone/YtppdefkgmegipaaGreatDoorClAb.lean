import Derived.Shelf.Strings.SlTrimAscii
import Derived.Shelf.Sort.Plain
import Derived.Shelf.SlSortCmp.NoneTotal
import Derived.Shelf.Slices.In.SortNone
import Derived.Test.YtppdefkgmegipaaGreatDoorProg
import Derived.Test.YtppdefkgmegipaaGreatDoorClAa
import Derived.Test.YtppdefkgmegipaaGreatDoorAbsI
set_option linter.unusedSimpArgs false
set_option linter.unusedVariables false
namespace Go.Proofs.YtppdefkgmegipaaGreatDoor
open Go Go.Proofs Go.Shelf
def aC5 :Ren:=⟨λx=>match x with
 |189=>187
 |125=>63
 |257=>228
 |128=>105
 |129=>106
 |294=>252
 |295=>253
 |296=>254
 |297=>255
 |298=>256
 |299=>257
 |216=>258
 |300=>259
 |301=>260
 |328=>272
 |329=>146
 |330=>147
 |331=>273
 |332=>274
 |215=>64
 |343=>291
 |n=>n,λx=>match x with
 |28=>31
 |3=>3
 |46=>140
 |0=>0
 |51=>189
 |53=>191
 |4=>4
 |183=>183
 |182=>182
 |131=>136
 |5=>5
 |9=>9
 |218=>225
 |222=>229
 |228=>257
 |229=>258
 |n=>n,λx=>x⟩
theorem aDd :Lays.n189 Tryz.prog aC5 where
 mixed:=rfl
 f125:=Tryz.func63.trans (by kernel_rfl)
 f128:=Tryz.func105.trans (by kernel_rfl)
 f129:=Tryz.func106.trans (by kernel_rfl)
 f189:=Tryz.func187.trans (by kernel_rfl)
 f215:=Tryz.func64.trans (by kernel_rfl)
 f216:=Tryz.func258.trans (by kernel_rfl)
 f257:=Tryz.func228.trans (by kernel_rfl)
 f294:=Tryz.func252.trans (by kernel_rfl)
 f295:=Tryz.func253.trans (by kernel_rfl)
 f296:=Tryz.func254.trans (by kernel_rfl)
 f297:=Tryz.func255.trans (by kernel_rfl)
 f298:=Tryz.func256.trans (by kernel_rfl)
 f299:=Tryz.func257.trans (by kernel_rfl)
 f300:=Tryz.func259.trans (by kernel_rfl)
 f301:=Tryz.func260.trans (by kernel_rfl)
 f328:=Tryz.func272.trans (by kernel_rfl)
 f329:=Tryz.func146.trans (by kernel_rfl)
 f330:=Tryz.func147.trans (by kernel_rfl)
 f331:=Tryz.func273.trans (by kernel_rfl)
 f332:=Tryz.func274.trans (by kernel_rfl)
 f343:=Tryz.func291.trans (by kernel_rfl)
 t0:=Tryz.underlying0
 a0:=Tryz.isAgg0
 z0:=Tryz.sizeOf0
 v0:=Tryz.zeroValue0
 t3:=Tryz.underlying3
 a3:=Tryz.isAgg3
 z3:=Tryz.sizeOf3
 v3:=Tryz.zeroValue3
 t4:=Tryz.underlying4
 a4:=Tryz.isAgg4
 z4:=Tryz.sizeOf4
 v4:=Tryz.zeroValue4
 t5:=Tryz.underlying5
 a5:=Tryz.isAgg5
 z5:=Tryz.sizeOf5
 v5:=Tryz.zeroValue5
 t9:=Tryz.underlying9
 a9:=Tryz.isAgg9
 z9:=Tryz.sizeOf9
 v9:=Tryz.zeroValue9
 t28:=Tryz.underlying31
 a28:=Tryz.isAgg31
 z28:=Tryz.sizeOf31
 v28:=Tryz.zeroValue31
 t46:=Tryz.underlying140
 a46:=Tryz.isAgg140
 z46:=Tryz.sizeOf140
 v46:=Tryz.zeroValue140
 t51:=Tryz.underlying189
 a51:=Tryz.isAgg189
 z51:=Tryz.sizeOf189
 v51:=Tryz.zeroValue189
 t53:=Tryz.underlying191
 a53:=Tryz.isAgg191
 z53:=Tryz.sizeOf191
 v53:=Tryz.zeroValue191
 t131:=Tryz.underlying136
 a131:=Tryz.isAgg136
 z131:=Tryz.sizeOf136
 v131:=Tryz.zeroValue136
 t182:=Tryz.underlying182
 a182:=Tryz.isAgg182
 z182:=Tryz.sizeOf182
 v182:=Tryz.zeroValue182
 t183:=Tryz.underlying183
 a183:=Tryz.isAgg183
 z183:=Tryz.sizeOf183
 v183:=Tryz.zeroValue183
 t218:=Tryz.underlying225
 a218:=Tryz.isAgg225
 z218:=Tryz.sizeOf225
 v218:=Tryz.zeroValue225
 t222:=Tryz.underlying229
 a222:=Tryz.isAgg229
 z222:=Tryz.sizeOf229
 v222:=Tryz.zeroValue229
 t228:=Tryz.underlying257
 a228:=Tryz.isAgg257
 z228:=Tryz.sizeOf257
 v228:=Tryz.zeroValue257
 t229:=Tryz.underlying258
 a229:=Tryz.isAgg258
 z229:=Tryz.sizeOf258
 v229:=Tryz.zeroValue258
def renT :Ren:=⟨λx=>match x with
 |160=>192
 |232=>237
 |231=>236
 |227=>238
 |234=>240
 |233=>239
 |236=>242
 |235=>241
 |228=>266
 |271=>269
 |151=>268
 |197=>267
 |120=>286
 |152=>285
 |260=>284
 |137=>297
 |119=>298
 |224=>289
 |225=>288
 |217=>287
 |266=>299
 |n=>n,λx=>match x with
 |9=>9
 |4=>4
 |3=>3
 |5=>5
 |117=>311
 |116=>310
 |0=>0
 |124=>314
 |21=>21
 |105=>332
 |46=>140
 |119=>353
 |139=>356
 |138=>355
 |n=>n,λx=>match x with
 |3=>1
 |4=>2
 |n=>n⟩
theorem aC0 :Lays.n160 Tryz.prog renT where
 mixed:=rfl
 f119:=Tryz.func298.trans (by kernel_rfl)
 f120:=Tryz.func286.trans (by kernel_rfl)
 f137:=Tryz.func297.trans (by kernel_rfl)
 f151:=Tryz.func268.trans (by kernel_rfl)
 f152:=Tryz.func285.trans (by kernel_rfl)
 f160:=Tryz.func192.trans (by kernel_rfl)
 f197:=Tryz.func267.trans (by kernel_rfl)
 f217:=Tryz.func287.trans (by kernel_rfl)
 f224:=Tryz.func289.trans (by kernel_rfl)
 f225:=Tryz.func288.trans (by kernel_rfl)
 f227:=Tryz.func238.trans (by kernel_rfl)
 f228:=Tryz.func266.trans (by kernel_rfl)
 f231:=Tryz.func236.trans (by kernel_rfl)
 f232:=Tryz.func237.trans (by kernel_rfl)
 f233:=Tryz.func239.trans (by kernel_rfl)
 f234:=Tryz.func240.trans (by kernel_rfl)
 f235:=Tryz.func241.trans (by kernel_rfl)
 f236:=Tryz.func242.trans (by kernel_rfl)
 f260:=Tryz.func284.trans (by kernel_rfl)
 f266:=Tryz.func299.trans (by kernel_rfl)
 f271:=Tryz.func269.trans (by kernel_rfl)
 t0:=Tryz.underlying0
 a0:=Tryz.isAgg0
 z0:=Tryz.sizeOf0
 v0:=Tryz.zeroValue0
 t3:=Tryz.underlying3
 a3:=Tryz.isAgg3
 z3:=Tryz.sizeOf3
 v3:=Tryz.zeroValue3
 t4:=Tryz.underlying4
 a4:=Tryz.isAgg4
 z4:=Tryz.sizeOf4
 v4:=Tryz.zeroValue4
 t5:=Tryz.underlying5
 a5:=Tryz.isAgg5
 z5:=Tryz.sizeOf5
 v5:=Tryz.zeroValue5
 t9:=Tryz.underlying9
 a9:=Tryz.isAgg9
 z9:=Tryz.sizeOf9
 v9:=Tryz.zeroValue9
 t21:=Tryz.underlying21
 a21:=Tryz.isAgg21
 z21:=Tryz.sizeOf21
 v21:=Tryz.zeroValue21
 t46:=Tryz.underlying140
 a46:=Tryz.isAgg140
 z46:=Tryz.sizeOf140
 v46:=Tryz.zeroValue140
 t105:=Tryz.underlying332
 a105:=Tryz.isAgg332
 z105:=Tryz.sizeOf332
 v105:=Tryz.zeroValue332
 t116:=Tryz.underlying310
 a116:=Tryz.isAgg310
 z116:=Tryz.sizeOf310
 t117:=Tryz.underlying311
 a117:=Tryz.isAgg311
 z117:=Tryz.sizeOf311
 v117:=Tryz.zeroValue311
 t119:=Tryz.underlying353
 a119:=Tryz.isAgg353
 z119:=Tryz.sizeOf353
 t124:=Tryz.underlying314
 a124:=Tryz.isAgg314
 z124:=Tryz.sizeOf314
 v124:=Tryz.zeroValue314
 t138:=Tryz.underlying355
 a138:=Tryz.isAgg355
 z138:=Tryz.sizeOf355
 v138:=Tryz.zeroValue355
 t139:=Tryz.underlying356
 a139:=Tryz.isAgg356
 z139:=Tryz.sizeOf356
 v139:=Tryz.zeroValue356
 g3:=by kernel_rfl
 g4:=by kernel_rfl
def aCZ :Ren:=⟨λx=>match x with
 |6=>234
 |15=>63
 |14=>265
 |28=>105
 |29=>106
 |20=>276
 |21=>277
 |22=>278
 |23=>279
 |24=>280
 |25=>281
 |26=>282
 |27=>283
 |46=>294
 |47=>146
 |48=>147
 |49=>295
 |50=>296
 |57=>301
 |n=>n,λx=>match x with
 |22=>91
 |24=>237
 |25=>307
 |3=>3
 |39=>140
 |0=>0
 |53=>189
 |55=>191
 |4=>4
 |46=>183
 |45=>182
 |50=>136
 |5=>5
 |9=>9
 |66=>225
 |70=>229
 |76=>257
 |77=>258
 |n=>n,λx=>x⟩
theorem aDh :SlLaysF0.n6 Tryz.prog aCZ where
  mixed:=rfl
  f6 := ⟨ "slices.SortFunc[[]homestead/api.Part,homestead/api.Part]", by decide, Tryz.func234.trans (by kernel_rfl)⟩
  f14 := ⟨ "slices.pdqsortCmpFunc[homestead/api.Part]", by decide, Tryz.func265.trans (by kernel_rfl)⟩
  f15:=Tryz.func63.trans (by kernel_rfl)
  f20 := ⟨ "slices.insertionSortCmpFunc[homestead/api.Part]", by decide, Tryz.func276.trans (by kernel_rfl)⟩
  f21 := ⟨ "slices.heapSortCmpFunc[homestead/api.Part]", by decide, Tryz.func277.trans (by kernel_rfl)⟩
  f22 := ⟨ "slices.breakPatternsCmpFunc[homestead/api.Part]", by decide, Tryz.func278.trans (by kernel_rfl)⟩
  f23 := ⟨ "slices.choosePivotCmpFunc[homestead/api.Part]", by decide, Tryz.func279.trans (by kernel_rfl)⟩
  f24 := ⟨ "slices.reverseRangeCmpFunc[homestead/api.Part]", by decide, Tryz.func280.trans (by kernel_rfl)⟩
  f25 := ⟨ "slices.partialInsertionSortCmpFunc[homestead/api.Part]", by decide, Tryz.func281.trans (by kernel_rfl)⟩
  f26 := ⟨ "slices.partitionEqualCmpFunc[homestead/api.Part]", by decide, Tryz.func282.trans (by kernel_rfl)⟩
  f27 := ⟨ "slices.partitionCmpFunc[homestead/api.Part]", by decide, Tryz.func283.trans (by kernel_rfl)⟩
  f28:=Tryz.func105.trans (by kernel_rfl)
  f29:=Tryz.func106.trans (by kernel_rfl)
  f46 := ⟨ "slices.siftDownCmpFunc[homestead/api.Part]", by decide, Tryz.func294.trans (by kernel_rfl)⟩
  f47:=Tryz.func146.trans (by kernel_rfl)
  f48:=Tryz.func147.trans (by kernel_rfl)
  f49 := ⟨ "slices.medianAdjacentCmpFunc[homestead/api.Part]", by decide, Tryz.func295.trans (by kernel_rfl)⟩
  f50 := ⟨ "slices.medianCmpFunc[homestead/api.Part]", by decide, Tryz.func296.trans (by kernel_rfl)⟩
  f57 := ⟨ "slices.order2CmpFunc[homestead/api.Part]", by decide, Tryz.func301.trans (by kernel_rfl)⟩
  t0:=Tryz.underlying0
  a0:=Tryz.isAgg0
  z0:=Tryz.sizeOf0
  v0:=Tryz.zeroValue0
  t3:=Tryz.underlying3
  a3:=Tryz.isAgg3
  z3:=Tryz.sizeOf3
  v3:=Tryz.zeroValue3
  t4:=Tryz.underlying4
  a4:=Tryz.isAgg4
  z4:=Tryz.sizeOf4
  v4:=Tryz.zeroValue4
  t5:=Tryz.underlying5
  a5:=Tryz.isAgg5
  z5:=Tryz.sizeOf5
  v5:=Tryz.zeroValue5
  t9:=Tryz.underlying9
  a9:=Tryz.isAgg9
  z9:=Tryz.sizeOf9
  v9:=Tryz.zeroValue9
  t22:=Tryz.underlying91
  a22:=Tryz.isAgg91
  z22:=Tryz.sizeOf91
  v22:=Tryz.zeroValue91
  t25:=Tryz.underlying307
  a25:=Tryz.isAgg307
  z25:=Tryz.sizeOf307
  v25:=Tryz.zeroValue307
  t39:=Tryz.underlying140
  a39:=Tryz.isAgg140
  z39:=Tryz.sizeOf140
  v39:=Tryz.zeroValue140
  t45:=Tryz.underlying182
  a45:=Tryz.isAgg182
  z45:=Tryz.sizeOf182
  v45:=Tryz.zeroValue182
  t46:=Tryz.underlying183
  a46:=Tryz.isAgg183
  z46:=Tryz.sizeOf183
  v46:=Tryz.zeroValue183
  t50:=Tryz.underlying136
  a50:=Tryz.isAgg136
  z50:=Tryz.sizeOf136
  v50:=Tryz.zeroValue136
  t53:=Tryz.underlying189
  a53:=Tryz.isAgg189
  z53:=Tryz.sizeOf189
  v53:=Tryz.zeroValue189
  t55:=Tryz.underlying191
  a55:=Tryz.isAgg191
  z55:=Tryz.sizeOf191
  v55:=Tryz.zeroValue191
  t66:=Tryz.underlying225
  a66:=Tryz.isAgg225
  z66:=Tryz.sizeOf225
  v66:=Tryz.zeroValue225
  t70:=Tryz.underlying229
  a70:=Tryz.isAgg229
  z70:=Tryz.sizeOf229
  v70:=Tryz.zeroValue229
  t76:=Tryz.underlying257
  a76:=Tryz.isAgg257
  z76:=Tryz.sizeOf257
  v76:=Tryz.zeroValue257
  t77:=Tryz.underlying258
  a77:=Tryz.isAgg258
  z77:=Tryz.sizeOf258
  v77:=Tryz.zeroValue258
def aDe :Ren:=⟨λx=>match x with
 |6=>32
 |15=>63
 |14=>62
 |28=>105
 |29=>106
 |20=>97
 |21=>98
 |22=>99
 |23=>100
 |24=>101
 |25=>102
 |26=>103
 |27=>104
 |46=>145
 |47=>146
 |48=>147
 |49=>148
 |50=>149
 |57=>185
 |n=>n,λx=>match x with
 |22=>37
 |24=>69
 |25=>104
 |3=>3
 |39=>140
 |0=>0
 |53=>189
 |55=>191
 |4=>4
 |46=>183
 |45=>182
 |50=>136
 |5=>5
 |9=>9
 |66=>225
 |70=>229
 |76=>257
 |77=>258
 |n=>n,λx=>x⟩
theorem aC1 :SlLaysF0.n6 Tryz.prog aDe where
  mixed:=rfl
  f6 := ⟨ "slices.SortFunc[[]homestead/api.Dot,homestead/api.Dot]", by decide, Tryz.func32.trans (by kernel_rfl)⟩
  f14 := ⟨ "slices.pdqsortCmpFunc[homestead/api.Dot]", by decide, Tryz.func62.trans (by kernel_rfl)⟩
  f15:=Tryz.func63.trans (by kernel_rfl)
  f20 := ⟨ "slices.insertionSortCmpFunc[homestead/api.Dot]", by decide, Tryz.func97.trans (by kernel_rfl)⟩
  f21 := ⟨ "slices.heapSortCmpFunc[homestead/api.Dot]", by decide, Tryz.func98.trans (by kernel_rfl)⟩
  f22 := ⟨ "slices.breakPatternsCmpFunc[homestead/api.Dot]", by decide, Tryz.func99.trans (by kernel_rfl)⟩
  f23 := ⟨ "slices.choosePivotCmpFunc[homestead/api.Dot]", by decide, Tryz.func100.trans (by kernel_rfl)⟩
  f24 := ⟨ "slices.reverseRangeCmpFunc[homestead/api.Dot]", by decide, Tryz.func101.trans (by kernel_rfl)⟩
  f25 := ⟨ "slices.partialInsertionSortCmpFunc[homestead/api.Dot]", by decide, Tryz.func102.trans (by kernel_rfl)⟩
  f26 := ⟨ "slices.partitionEqualCmpFunc[homestead/api.Dot]", by decide, Tryz.func103.trans (by kernel_rfl)⟩
  f27 := ⟨ "slices.partitionCmpFunc[homestead/api.Dot]", by decide, Tryz.func104.trans (by kernel_rfl)⟩
  f28:=Tryz.func105.trans (by kernel_rfl)
  f29:=Tryz.func106.trans (by kernel_rfl)
  f46 := ⟨ "slices.siftDownCmpFunc[homestead/api.Dot]", by decide, Tryz.func145.trans (by kernel_rfl)⟩
  f47:=Tryz.func146.trans (by kernel_rfl)
  f48:=Tryz.func147.trans (by kernel_rfl)
  f49 := ⟨ "slices.medianAdjacentCmpFunc[homestead/api.Dot]", by decide, Tryz.func148.trans (by kernel_rfl)⟩
  f50 := ⟨ "slices.medianCmpFunc[homestead/api.Dot]", by decide, Tryz.func149.trans (by kernel_rfl)⟩
  f57 := ⟨ "slices.order2CmpFunc[homestead/api.Dot]", by decide, Tryz.func185.trans (by kernel_rfl)⟩
  t0:=Tryz.underlying0
  a0:=Tryz.isAgg0
  z0:=Tryz.sizeOf0
  v0:=Tryz.zeroValue0
  t3:=Tryz.underlying3
  a3:=Tryz.isAgg3
  z3:=Tryz.sizeOf3
  v3:=Tryz.zeroValue3
  t4:=Tryz.underlying4
  a4:=Tryz.isAgg4
  z4:=Tryz.sizeOf4
  v4:=Tryz.zeroValue4
  t5:=Tryz.underlying5
  a5:=Tryz.isAgg5
  z5:=Tryz.sizeOf5
  v5:=Tryz.zeroValue5
  t9:=Tryz.underlying9
  a9:=Tryz.isAgg9
  z9:=Tryz.sizeOf9
  v9:=Tryz.zeroValue9
  t22:=Tryz.underlying37
  a22:=Tryz.isAgg37
  z22:=Tryz.sizeOf37
  v22:=Tryz.zeroValue37
  t25:=Tryz.underlying104
  a25:=Tryz.isAgg104
  z25:=Tryz.sizeOf104
  v25:=Tryz.zeroValue104
  t39:=Tryz.underlying140
  a39:=Tryz.isAgg140
  z39:=Tryz.sizeOf140
  v39:=Tryz.zeroValue140
  t45:=Tryz.underlying182
  a45:=Tryz.isAgg182
  z45:=Tryz.sizeOf182
  v45:=Tryz.zeroValue182
  t46:=Tryz.underlying183
  a46:=Tryz.isAgg183
  z46:=Tryz.sizeOf183
  v46:=Tryz.zeroValue183
  t50:=Tryz.underlying136
  a50:=Tryz.isAgg136
  z50:=Tryz.sizeOf136
  v50:=Tryz.zeroValue136
  t53:=Tryz.underlying189
  a53:=Tryz.isAgg189
  z53:=Tryz.sizeOf189
  v53:=Tryz.zeroValue189
  t55:=Tryz.underlying191
  a55:=Tryz.isAgg191
  z55:=Tryz.sizeOf191
  v55:=Tryz.zeroValue191
  t66:=Tryz.underlying225
  a66:=Tryz.isAgg225
  z66:=Tryz.sizeOf225
  v66:=Tryz.zeroValue225
  t70:=Tryz.underlying229
  a70:=Tryz.isAgg229
  z70:=Tryz.sizeOf229
  v70:=Tryz.zeroValue229
  t76:=Tryz.underlying257
  a76:=Tryz.isAgg257
  z76:=Tryz.sizeOf257
  v76:=Tryz.zeroValue257
  t77:=Tryz.underlying258
  a77:=Tryz.isAgg258
  z77:=Tryz.sizeOf258
  v77:=Tryz.zeroValue258
def aDg :Ren:=⟨λx=>match x with
 |6=>49
 |15=>63
 |14=>89
 |28=>105
 |29=>106
 |20=>137
 |21=>138
 |22=>139
 |23=>140
 |24=>141
 |25=>142
 |26=>143
 |27=>144
 |46=>182
 |47=>146
 |48=>147
 |49=>183
 |50=>184
 |57=>225
 |n=>n,λx=>match x with
 |22=>72
 |24=>77
 |25=>126
 |3=>3
 |39=>140
 |0=>0
 |53=>189
 |55=>191
 |4=>4
 |46=>183
 |45=>182
 |50=>136
 |5=>5
 |9=>9
 |66=>225
 |70=>229
 |76=>257
 |77=>258
 |n=>n,λx=>x⟩
theorem aDk :SlLaysF0.n6 Tryz.prog aDg where
  mixed:=rfl
  f6 := ⟨ "slices.SortFunc[[]homestead/api.Item,homestead/api.Item]", by decide, Tryz.func49.trans (by kernel_rfl)⟩
  f14 := ⟨ "slices.pdqsortCmpFunc[homestead/api.Item]", by decide, Tryz.func89.trans (by kernel_rfl)⟩
  f15:=Tryz.func63.trans (by kernel_rfl)
  f20 := ⟨ "slices.insertionSortCmpFunc[homestead/api.Item]", by decide, Tryz.func137.trans (by kernel_rfl)⟩
  f21 := ⟨ "slices.heapSortCmpFunc[homestead/api.Item]", by decide, Tryz.func138.trans (by kernel_rfl)⟩
  f22 := ⟨ "slices.breakPatternsCmpFunc[homestead/api.Item]", by decide, Tryz.func139.trans (by kernel_rfl)⟩
  f23 := ⟨ "slices.choosePivotCmpFunc[homestead/api.Item]", by decide, Tryz.func140.trans (by kernel_rfl)⟩
  f24 := ⟨ "slices.reverseRangeCmpFunc[homestead/api.Item]", by decide, Tryz.func141.trans (by kernel_rfl)⟩
  f25 := ⟨ "slices.partialInsertionSortCmpFunc[homestead/api.Item]", by decide, Tryz.func142.trans (by kernel_rfl)⟩
  f26 := ⟨ "slices.partitionEqualCmpFunc[homestead/api.Item]", by decide, Tryz.func143.trans (by kernel_rfl)⟩
  f27 := ⟨ "slices.partitionCmpFunc[homestead/api.Item]", by decide, Tryz.func144.trans (by kernel_rfl)⟩
  f28:=Tryz.func105.trans (by kernel_rfl)
  f29:=Tryz.func106.trans (by kernel_rfl)
  f46 := ⟨ "slices.siftDownCmpFunc[homestead/api.Item]", by decide, Tryz.func182.trans (by kernel_rfl)⟩
  f47:=Tryz.func146.trans (by kernel_rfl)
  f48:=Tryz.func147.trans (by kernel_rfl)
  f49 := ⟨ "slices.medianAdjacentCmpFunc[homestead/api.Item]", by decide, Tryz.func183.trans (by kernel_rfl)⟩
  f50 := ⟨ "slices.medianCmpFunc[homestead/api.Item]", by decide, Tryz.func184.trans (by kernel_rfl)⟩
  f57 := ⟨ "slices.order2CmpFunc[homestead/api.Item]", by decide, Tryz.func225.trans (by kernel_rfl)⟩
  t0:=Tryz.underlying0
  a0:=Tryz.isAgg0
  z0:=Tryz.sizeOf0
  v0:=Tryz.zeroValue0
  t3:=Tryz.underlying3
  a3:=Tryz.isAgg3
  z3:=Tryz.sizeOf3
  v3:=Tryz.zeroValue3
  t4:=Tryz.underlying4
  a4:=Tryz.isAgg4
  z4:=Tryz.sizeOf4
  v4:=Tryz.zeroValue4
  t5:=Tryz.underlying5
  a5:=Tryz.isAgg5
  z5:=Tryz.sizeOf5
  v5:=Tryz.zeroValue5
  t9:=Tryz.underlying9
  a9:=Tryz.isAgg9
  z9:=Tryz.sizeOf9
  v9:=Tryz.zeroValue9
  t22:=Tryz.underlying72
  a22:=Tryz.isAgg72
  z22:=Tryz.sizeOf72
  v22:=Tryz.zeroValue72
  t25:=Tryz.underlying126
  a25:=Tryz.isAgg126
  z25:=Tryz.sizeOf126
  v25:=Tryz.zeroValue126
  t39:=Tryz.underlying140
  a39:=Tryz.isAgg140
  z39:=Tryz.sizeOf140
  v39:=Tryz.zeroValue140
  t45:=Tryz.underlying182
  a45:=Tryz.isAgg182
  z45:=Tryz.sizeOf182
  v45:=Tryz.zeroValue182
  t46:=Tryz.underlying183
  a46:=Tryz.isAgg183
  z46:=Tryz.sizeOf183
  v46:=Tryz.zeroValue183
  t50:=Tryz.underlying136
  a50:=Tryz.isAgg136
  z50:=Tryz.sizeOf136
  v50:=Tryz.zeroValue136
  t53:=Tryz.underlying189
  a53:=Tryz.isAgg189
  z53:=Tryz.sizeOf189
  v53:=Tryz.zeroValue189
  t55:=Tryz.underlying191
  a55:=Tryz.isAgg191
  z55:=Tryz.sizeOf191
  v55:=Tryz.zeroValue191
  t66:=Tryz.underlying225
  a66:=Tryz.isAgg225
  z66:=Tryz.sizeOf225
  v66:=Tryz.zeroValue225
  t70:=Tryz.underlying229
  a70:=Tryz.isAgg229
  z70:=Tryz.sizeOf229
  v70:=Tryz.zeroValue229
  t76:=Tryz.underlying257
  a76:=Tryz.isAgg257
  z76:=Tryz.sizeOf257
  v76:=Tryz.zeroValue257
  t77:=Tryz.underlying258
  a77:=Tryz.isAgg258
  z77:=Tryz.sizeOf258
  v77:=Tryz.zeroValue258
end Go.Proofs.YtppdefkgmegipaaGreatDoor
namespace Go.Proofs.YtppdefkgmegipaaGreatDoor
open Go Go.Abs
attribute [local irreducible] Ev PWp
set_option maxRecDepth 10000
set_option maxHeartbeats 4000000
def abc :ByteArray:=⟨#[97,98,99,100,101,102,103,104,105,106,107,108,109,110,111,112,113,114,115,116,117,118,119,120,121,122]⟩
def abc9 :ByteArray:=⟨#[97,98,99,100,101,102,103,104,105,106,107,108,109,110,111,112,113,114,115,116,117,118,119,120,121,122,48,49,50,51,52,53,54,55,56,57,95]⟩
def asS (b:UInt8):Bool:=decide (97<=b.toNat)&&decide (b.toNat<=122)
def alB (b:UInt8):Bool:=(asS b||(decide (48<=b.toNat)&&decide (b.toNat<=57)))||decide (b.toNat=95)
theorem avO {p:UInt8->Bool} (h:((List.range 256).all λn=>p (UInt8.ofNat n))=true) (b:UInt8):p b=true:=by
 have:=zal.1 h b.toNat (List.mem_range.2 b.toNat_lt)
 simpa using this
theorem alX (b:UInt8):abc9.data.toList.contains b=alB b:=by
 have:=avO (p:=λb=>abc9.data.toList.contains b==alB b) (by decide+kernel) b
 simpa using this
theorem axN (b:UInt8):decide (firstIdx abc b>=0)=asS b:=by
 have:=avO (p:=λb=>decide (firstIdx abc b>=0)==asS b) (by decide+kernel) b
 simpa using this
theorem vA {α:Type} {p:α->Bool}:∀{l:List α},l.dropWhile p=[]↔∀x∈l,p x=true
 |[]=>by simp
 |a::l=>by
  rw [List.dropWhile_cons]
  cases h:p a with
  |true=>simp [h,vA (l:=l)]
  |false=>simp [h]
theorem zW {l cs:List UInt8}:Lib.trimS l cs=[]↔∀x∈l,cs.contains x=true:=by
 have drop_mem:∀{m:List UInt8} {p:UInt8->Bool},(∀x∈m,p x=true)↔∀x∈m.dropWhile p,p x=true:=by
  intro m p
  constructor
  ·exact λh x hx=>h x (List.dropWhile_sublist p|>.subset hx)
  ·intro h
   cases e:m.dropWhile p with
   |nil=>exact vA.1 e
   |cons a rs=>
    have h1:=h a (by rw [e];simp)
    have h2:=List.head_dropWhile_not p (l:=m) (by rw [e];simp)
    simp only [e,List.head_cons] at h2
    rw [h1] at h2;cases h2
 unfold Lib.trimS Lib.trimLeftS Lib.trimRightS
 rw [vA]
 have:=drop_mem (m:=l.reverse) (p:=λx=>cs.contains x)
 simp only [List.mem_reverse] at this⊢
 exact this.symm
theorem aeO :(Tryz.prog.info? (renT.t 116)).map (λi=>(i.zero,i.size))=some (some (.agg (Array.replicate 256 (.bool false))),256):=by kernel_rfl
theorem aqH (s:ByteArray) (h0:0<s.size) (hs:s.size<=9223372036854775807):PF Tryz.prog 192 [(vs (s)),(vs (abc9))] (vs (⟨(Lib.trimS s.data.toList abc9.data.toList).toArray⟩)):=
 aA1 (by kernel_rfl) λw=>(Any.strings_Trim_set aC0 (zero_of_info aeO).1 (zero_of_info aeO).2 s abc9 w (by decide) h0 hs (by decide) (ascii_of_all (by decide))).mono λe w' ⟨h1,q,h2⟩=>⟨h1, .inr ⟨_,_,q,h2⟩⟩
theorem ajM (s:ByteArray) (h:s.data.toList.all alB=true):(⟨(Lib.trimS s.data.toList abc9.data.toList).toArray⟩:ByteArray)=e0:=by
 rw [zW.2 λx hx=>by rw [alX];exact zal.1 h x hx]
theorem awE (s:ByteArray) (h:s.data.toList.all alB=false):(⟨(Lib.trimS s.data.toList abc9.data.toList).toArray⟩:ByteArray)≠e0:=λe=>by
 have:Lib.trimS s.data.toList abc9.data.toList=[]:=by
  have:=congrArg (λb:ByteArray=>b.data.toList) e
  simpa using this
 rw [zW] at this
 rw [<-Bool.not_eq_true,zal] at h
 exact h λx hx=>by rw [<-alX];exact this x hx
theorem abT (b:ByteArray) (c:UInt8):PF Tryz.prog 287 [(vs (b)), .val (.int .u8 (c.toNat:Int))] (vi (firstIdx b c)):=by
 have e:(((c.toNat:Nat):Int).toNat).toUInt8=c:=by simp
 refine pF Tryz.func287 rfl (λst=> ?_)
 (repeat' first|apply wZ;rfl|show Cn _;constructor|exact rfl|show (_:PV)=_;(rw [e]);done|apply aBr pk;rfl;rfl;exact Tryz.func299;kernel_rfl;kernel_rfl;kernel_rfl;kernel_rfl;rfl;rfl;rotate_left;rfl;rfl)
def one (c:UInt8):ByteArray:=⟨#[c]⟩
theorem aqE (c:UInt8):PF Tryz.prog 270 [(vs (abc)),(vs (one c))] (vi (firstIdx abc c)):=by
 have hb:=abT abc c
 have hz:(one c).size=1:=rfl
 have hg:(one c)[0]?=some c:=rfl
 have hne:¬(one c=abc):=λe=>by have:=congrArg ByteArray.size e;rw [hz] at this;cases this
 have hno:¬(one c=ByteArray.empty\/one c=abc):=λq=>q.elim (λe=>by have:=congrArg ByteArray.size e;rw [hz] at this;cases this) hne
 refine pF Tryz.func270 rfl (λst=> ?_)
 (repeat' first|apply wZ;rfl|show Cn _;constructor|exact rfl|(apply hb)|apply sxA pk.htt 0 c;(iterate 6 rfl);exact hg;rfl|apply wY;rfl)
theorem aiY (c:UInt8):PF Tryz.prog 193 [(vs (abc)),(vs (one c))] (vb (asS c)):=by
 have h1:=aqE c
 have h2:PF Tryz.prog 243 [(vs (abc)),(vs (one c))] (vi (firstIdx abc c)):=by
  refine pF Tryz.func243 rfl (λst=> ?_)
  (repeat' first|apply wZ;rfl|show Cn _;constructor|exact rfl|(apply h1)|apply wY;rfl)
 refine pF Tryz.func193 rfl (λst=> ?_)
 (repeat' first|apply wZ;rfl|show Cn _;constructor|exact rfl|(apply h2)|show (_:PV)=_;(rw [<-axN]);done|apply wY;rfl)
def vM (s:ByteArray):Bool:=match s.data.toList with
 |[]=>false
 |c::l=>asS c&&(decide (s.size<=12)&&(c::l).all alB)
theorem aqM (s:ByteArray):s.size=s.data.toList.length:=(Array.length_toList (xs:=s.data)).symm
theorem zK (s:ByteArray):PF Tryz.prog 155 [(vs (s))] (vb (vM s)):=by
 unfold vM
 cases hl:s.data.toList with
 |nil=>
  obtain rfl:s=e0:=by
   apply ByteArray.ext
   apply Array.toList_inj.1
   rw [hl]
  refine pF Tryz.func155 rfl (λst=> ?_)
  (repeat' first|(apply cW;focus (intro _;(apply (show PF Tryz.prog 192 [_,_] (vs (e0)) from by rename_i hh;exact absurd (show false=true from hh) (by simp)));done))|(apply cW;focus (intro _;(apply (show PF Tryz.prog 193 [_,_] (vb (false)) from by rename_i hh;exact absurd (show false=true from hh) (by simp)));done))|apply wZ;rfl|show Cn _;constructor|exact rfl|apply slT pk 0 1;rfl;rfl;rfl;rotate_left;rfl;(intro _;exact cC);(intro _;exact bL rfl rfl);(intro _;omega);(intro hh;exact absurd (show false=true from hh) (by simp));rfl|apply wY;rfl)
 |cons c l=>
  have hz:=aqM s
  rw [hl] at hz
  have h0:0<s.size:=by rw [hz];simp
  have hne:¬(s=e0):=λe=>by rw [e] at h0;exact absurd h0 (by decide)
  have hne':¬(s=(⟨#[]⟩:ByteArray)):=hne
  have hone:s.extract 0 1=one c:=by
   apply ByteArray.ext
   apply Array.toList_inj.1
   show _=[c]
   rw [ByteArray.data_extract,Array.toList_extract,hl];rfl
  dsimp only
  by_cases h12:s.size<=12
  ·have ht:=aqH s h0 (by omega)
   have hi12:(s.size:Int)<=12:=by omega
   have hc:=aiY c
   rw [<-hone] at hc
   cases ha:s.data.toList.all alB with
   |true=>
    rw [ajM s ha] at ht
    rw [hl] at ha
    rw [ha]
    refine pF Tryz.func155 rfl (λst=> ?_)
    (repeat' first|apply wZ;rfl|show Cn _;constructor|exact rfl|((first|apply ht|apply hc))|show (_:PV)=_;(simp [hne,hne',h12,hi12,e0];done);done|apply slT pk 0 1;rfl;rfl;rfl;rotate_left;rfl;(intro _;exact cC);(intro _;exact bL rfl rfl);(intro _;omega);(intro _;omega);rfl|apply wY;rfl)
   |false=>
    have htn:=awE s ha
    rw [hl] at ha
    rw [ha]
    have htn':¬((⟨(Lib.trimS s.data.toList abc9.data.toList).toArray⟩:ByteArray)=(⟨#[]⟩:ByteArray)):=htn
    generalize (⟨(Lib.trimS s.data.toList abc9.data.toList).toArray⟩:ByteArray)=T at*
    refine pF Tryz.func155 rfl (λst=> ?_)
    (repeat' first|apply wZ;rfl|show Cn _;constructor|exact rfl|((first|apply ht|apply hc))|show (_:PV)=_;(simp [hne,hne',h12,hi12,htn,htn'];done);done|apply slT pk 0 1;rfl;rfl;rfl;rotate_left;rfl;(intro _;exact cC);(intro _;exact bL rfl rfl);(intro _;omega);(intro _;omega);rfl|apply wY;rfl)
  ·have hi12:¬(s.size:Int)<=12:=by omega
   have e:decide (s.size<=12)=false:=decide_eq_false h12
   have e2:decide ((s.size:Int)<=12)=false:=decide_eq_false (by omega)
   have e3:decide (s=e0)=false:=decide_eq_false hne
   have hT:∀p,(gw true (!decide (s=e0)) true&&p)=true->True:=λ_ _=>trivial
   rw [e,Bool.false_and,Bool.and_false]
   refine pF Tryz.func155 rfl (λst=> ?_)
   (repeat' first|(apply cW;focus (intro _;(apply (show PF Tryz.prog 192 [_,_] (vs (e0)) from by rename_i hh;simp [gw,hne] at hh;omega));done))|(apply cW;focus (intro _;(apply (show PF Tryz.prog 193 [_,_] (vb (false)) from by rename_i hh;simp [gw,hne] at hh;omega));done))|apply wZ;rfl|show Cn _;constructor|exact rfl|show (_:PV)=_;(simp [hne,hne',h12,hi12,e0];done);done|apply slT pk 0 1;rfl;rfl;rfl;rotate_left;rfl;(intro _;exact cC);(intro _;exact bL rfl rfl);(intro _;omega);(intro hh;omega);rfl|apply wY;rfl)
def jP (v:Vl):Bool:=if v.kind=0 then decide (v.n=0)&&decide (v.s=e0) else if v.kind=1 then (decide (v.s=e0)&&decide (v.n>= -1099511627776))&&decide (v.n<=1099511627776) else if v.kind=2 then decide (v.n=0)&&decide ((v.s.size:Int)<=200) else false
theorem mM (v:Vl):PF Tryz.prog 168 [.agg v.cells] (vb (jP v)):=by
 unfold jP
 by_cases h0:v.kind=0
 ·rw [zp h0]
  refine pF Tryz.func168 rfl (λst=> ?_)
  (repeat' first|apply wZ;rfl|show Cn _;constructor|exact rfl|show (_:PV)=_;((simp [h0];done));done|omega|intro h)
 by_cases h1:v.kind=1
 ·rw [zn h0,zp h1]
  refine pF Tryz.func168 rfl (λst=> ?_)
  (repeat' first|apply wZ;rfl|show Cn _;constructor|exact rfl|omega|intro h)
 rw [zn h0,zn h1]
 by_cases h2:v.kind=2
 ·rw [zp h2]
  refine pF Tryz.func168 rfl (λst=> ?_)
  (repeat' first|apply wZ;rfl|show Cn _;constructor|exact rfl|omega|intro h)
 rw [zn h2]
 refine pF Tryz.func168 rfl (λst=> ?_)
 (repeat' first|apply wZ;rfl|show Cn _;constructor|exact rfl|omega|intro h)
def kW (c:Cl):Int:=if c.kind≠2\/c.val.kind≠1 then 6 else if c.val.s≠e0\/0<c.parts.length then 1 else if c.val.n< -1099511627776\/c.val.n>1099511627776 then 20 else 0
theorem amN (n:Int):PF Tryz.prog 207 [(vi (n))] (vb (decide (n>= -1099511627776)&&decide (n<=1099511627776))):=by
 refine pF Tryz.func207 rfl (λst=> ?_)
 (repeat' first|apply wZ;rfl|show Cn _;constructor|exact rfl)
theorem tF (c:Cl):PF Tryz.prog 170 [.agg c.cells] (vi (kW c)):=by
 have hf:=amN c.val.n
 unfold kW
 by_cases h1:c.kind≠2\/c.val.kind≠1
 ·rw [zp h1]
  refine pF Tryz.func170 rfl (λst=> ?_)
  (repeat' first|apply wZ;rfl|show Cn _;constructor|exact rfl|intro h;simp at h;omega|(intro h;simp at h))
 rw [zn h1]
 by_cases h2:c.val.s≠e0\/0<c.parts.length
 ·rw [zp h2]
  refine pF Tryz.func170 rfl (λst=> ?_)
  (repeat' first|apply wZ;rfl|show Cn _;constructor|exact rfl|(apply hf)|show (_:PV)=_;((exfalso;simp at*;grind));done|apply wY;rfl|intro h;simp at h;omega|(intro h;simp at h))
 rw [zn h2]
 by_cases h3:c.val.n< -1099511627776\/c.val.n>1099511627776
 ·rw [zp h3]
  refine pF Tryz.func170 rfl (λst=> ?_)
  (repeat' first|apply wZ;rfl|show Cn _;constructor|exact rfl|(apply hf)|show (_:PV)=_;((exfalso;simp at*;grind));done|apply wY;rfl|intro h;simp at h;omega|(intro h;simp at h))
 rw [zn h3]
 refine pF Tryz.func170 rfl (λst=> ?_)
 (repeat' first|apply wZ;rfl|show Cn _;constructor|exact rfl|(apply hf)|show (_:PV)=_;((exfalso;simp at*;grind));done|apply wY;rfl|intro h;simp at h;omega|(intro h;simp at h))
theorem abO (c:Cl):PF Tryz.prog 151 [.seq [c.cells]] (vi (kW c)):=by
 have hc:=tF c
 generalize kW c=R at*
 refine pF Tryz.func151 rfl (λst=> ?_)
 (repeat' first|apply wZ;rfl|show Cn _;constructor)
 refine aG (X:={x:Nat//x<=1/\(x=1->R=0)}) (λi=>((((St.nil 18 st).pv 6 (.seq [c.cells])).pv 7 ((vi ((([c.cells]).length:Nat))))).pv 8 ((vi ((i.1:Nat)))))) (λi=>1-i.1) ⟨0,by omega,by omega⟩ ?_ (λi=> ?_)
 ·(repeat' first|show Cn _;constructor|exact rfl)
 obtain ⟨i,h1,hinv⟩:=i
 dsimp only
 rcases (show i=0\/i=1 by omega) with rfl|rfl
 ·(repeat' first|(refine ⟨⟨1,by omega,λ_=>by assumption⟩, ?_, ?_⟩)|apply wZ;rfl|show Cn _;constructor|exact rfl|apply bX pk;(iterate 6 rfl);rotate_left;rfl;(intro hw;rfl);(intro hw;apply (rfl:([c.cells]:List (List PV))[0]?=some c.cells)<;>omega);(intro _;rfl);rfl|(apply hc)|apply wY;rfl|omega|simp only [zql];omega|intro h)
 ·have h0:=hinv rfl
  (repeat' first|apply wZ;rfl|show Cn _;constructor|exact rfl|show (_:PV)=_;(rw [h0]);done)
def aeW (c:Cl):Vl:=if kW c=0 then c.val else Vl.zero
theorem aiM (c:Cl):PF Tryz.prog 108 [.agg c.cells] (.agg (aeW c).cells):=by
 have hc:=abO c
 unfold aeW
 by_cases h:kW c=0
 ·rw [zp h]
  rw [h] at hc
  refine pF Tryz.func108 rfl (λst=> ?_)
  (repeat' first|apply wZ;rfl|show Cn _;constructor|exact rfl|(apply hc)|apply wY;rfl)
 rw [zn h]
 refine pF Tryz.func108 rfl (λst=> ?_)
 (repeat' first|apply wZ;rfl|show Cn _;constructor|exact rfl|(apply hc)|apply wY;rfl|omega|intro h)
theorem aoL (a b:Dt):PF Tryz.prog 206 [.agg a.cells, .agg b.cells] (vi (byD a b)):=by
 have ho:=qB [eG a.dev b.dev,eG a.seq b.seq] (by simp)
 refine pF Tryz.func206 rfl (λst=> ?_)
 (repeat' first|apply wZ;rfl|show Cn _;constructor|exact rfl|apply KR.mk;kernel_rfl|((first|apply (dT a.dev b.dev)|apply (dT a.seq b.seq)|apply ho))|apply wY;rfl)
theorem akM (a b:Dt):decide (byD a b>=0)= !eY b a:=by
 unfold byD eY eG
 simp only [orI]
 rw [Bool.eq_iff_iff]
 simp only [zde,Bool.not_eq_true',Bool.or_eq_false_iff,Bool.and_eq_false_iff,decide_eq_false_iff_not]
 grind
def lS (p:Pt):Prop:=p.at_=0/\p.time=0/\p.after=Dt.zero/\p.afterAt=0/\p.gone=false
instance (p :Pt):Decidable (lS p):=by unfold lS;infer_instance
def jY (d:Dt):Bool:=((decide (1<=d.dev)&&decide (d.dev<=64))&&decide (1<=d.seq))&&decide (d.seq<=1048576)
def gW (p:Pt):Bool:=(decide (lS p)&&jP p.val)&&jY p.dot
def jL (p:Pt):Bool:=(decide (lS p)&&(decide (p.val.kind=1)&&jP p.val))&&jY p.dot
def vZ (ok:Pt->Bool) (bh:Pt->Pt->Bool) (l:List Pt):Bool:=(List.range l.length).all λj=>ok l[j]! &&(decide (j=0)||bh l[j]! l[j-1]!)
theorem asU {ok:Pt->Bool} {bh:Pt->Pt->Bool} {l:List Pt} {j:Nat} (h:j<l.length) (hf:(ok l[j]&&(decide (j=0)||bh l[j] (l[j-1]'(by omega))))=false):vZ ok bh l=false:=by
 unfold vZ
 rw [<-Bool.not_eq_true,zal]
 intro q
 have:=q j (List.mem_range.2 h)
 rw [getElem!_pos l j h,getElem!_pos l (j-1) (by omega),hf] at this
 cases this
theorem alM {ok:Pt->Bool} {bh:Pt->Pt->Bool} {l:List Pt} (hf:∀j (h:j<l.length),(ok l[j]&&(decide (j=0)||bh l[j] (l[j-1]'(by omega))))=true):vZ ok bh l=true:=by
 unfold vZ
 rw [zal]
 intro j hj
 have h:=List.mem_range.1 hj
 rw [getElem!_pos l j h,getElem!_pos l (j-1) (by omega)]
 exact hf j h
def uS (c:Cl):Bool:=decide (c.kind=1/\c.val=Vl.zero)&&vZ gW (λp q=>eY p.dot q.dot) c.parts
def ajT (p:Pt):List PV:=[(vi (p.val.n)),(vi (p.dot.dev)),(vi (p.dot.seq))]
theorem xQ (p:Pt):PF Tryz.prog 208 [.agg p.cells] (.agg (ajT p)):=by
 refine pF Tryz.func208 rfl (λst=> ?_)
 (repeat' first|apply wZ;rfl|show Cn _;constructor|exact rfl)
def ahI (p q:Pt):Int:=orI [eG p.val.n q.val.n,eG p.dot.dev q.dot.dev,eG p.dot.seq q.dot.seq]
theorem axP (p q:Pt):PF Tryz.prog 209 [.agg (ajT p), .agg (ajT q)] (vi (ahI p q)):=by
 have ho:=qB [eG p.val.n q.val.n,eG p.dot.dev q.dot.dev,eG p.dot.seq q.dot.seq] (by simp)
 refine pF Tryz.func209 rfl (λst=> ?_)
 (repeat' first|apply wZ;rfl|show Cn _;constructor|exact rfl|apply KR.mk;kernel_rfl|((first|apply (dT p.val.n q.val.n)|apply (dT p.dot.dev q.dot.dev)|apply (dT p.dot.seq q.dot.seq)|apply ho))|apply wY;rfl)
def tP (p q:Pt):Bool:=decide (p.val.n>q.val.n)||(decide (p.val.n=q.val.n)&&eY p.dot q.dot)
theorem aBH (p q:Pt):decide (ahI p q>=0)= !tP q p:=by
 unfold ahI tP eY eG
 simp only [orI]
 rw [Bool.eq_iff_iff]
 simp only [zde,Bool.not_eq_true',Bool.or_eq_false_iff,Bool.and_eq_false_iff,decide_eq_false_iff_not]
 grind
def abJ (c:Cl):Bool:=decide (c.kind=3/\c.val=Vl.zero)&&vZ jL tP c.parts
theorem qW {x:Bool} (h:gw x (decide (((0:Nat):Int)>0)) true=true):False:=by
 cases x<;>simp [gw] at h
theorem adV (c:Cl) (hl:c.parts.length<4611686018427387904):PF Tryz.prog 169 [.agg c.cells] (vb (uS c)):=by
 unfold uS
 by_cases hk:¬(c.kind=1/\c.val=Vl.zero)
 ·rw [decide_eq_false hk,Bool.false_and]
  rw [Vl.ext_iff] at hk
  simp only [Vl.zero] at hk
  refine pF Tryz.func169 rfl (λst=> ?_)
  (repeat' first|(exfalso;grind)|apply wZ;rfl|show Cn _;constructor|exact rfl|(intro h;simp at h))
 replace hk:=zdn hk
 rw [decide_eq_true hk,Bool.true_and]
 obtain ⟨k1,k2⟩:=hk
 rw [Vl.ext_iff] at k2
 obtain ⟨k2,k3,k4⟩:=k2
 simp only [Vl.zero] at k2 k3 k4
 refine pF Tryz.func169 rfl (λst=> ?_)
 (repeat' first|apply wZ;rfl|show Cn _;constructor|exact rfl|show (_:PV)=_;(exfalso;grind);done|(intro h;simp at h))
 refine aG (X:={x:Nat//x<=c.parts.length/\∀j (h:j<x) (h1:j<c.parts.length),(gW c.parts[j]&&(decide (j=0)||eY c.parts[j].dot (c.parts[j-1]'(by omega)).dot))=true}) (λi=>(((((St.nil 79 st).var 1 93 (c.cells)).pv 16 (.seq (c.parts.map Pt.cells))).pv 17 ((vi (((c.parts.map Pt.cells).length:Nat))))).pv 18 ((vi ((i.1:Nat)))))) (λi=>c.parts.length-i.1) ⟨0,by omega,λ_ h=>absurd h (Nat.not_lt_zero _)⟩ ?_ (λi=> ?_)
 ·(repeat' first|show Cn _;constructor|exact rfl)
 obtain ⟨i,hi,hI⟩:=i
 dsimp only
 by_cases hend:c.parts.length<=i
 ·have e:=alM (ok:=gW) (bh:=λp q=>eY p.dot q.dot) λj h=>hI j (by omega) h
  (repeat' first|apply wZ;rfl|show Cn _;constructor|exact rfl|show (_:PV)=_;(rw [e]);done|simp only [zql];omega|(intro h;simp at h))
 have h1:i<c.parts.length:=by omega
 have hF:=asU (ok:=gW) (bh:=λp q=>eY p.dot q.dot) h1
 have hS:(gW c.parts[i]&&(decide (i=0)||eY c.parts[i].dot (c.parts[i-1]'(by omega)).dot))=true->∀j (h:j<i+1) (h1:j<c.parts.length),(gW c.parts[j]&&(decide (j=0)||eY c.parts[j].dot (c.parts[j-1]'(by omega)).dot))=true:=λh j hj h1=>by
  rcases zls.1 hj with q|q
  ·exact hI j q h1
  ·subst q;exact h
 have hv:=mM c.parts[i].val
 by_cases h0:i=0
 ·subst h0
  have hF':¬(gW c.parts[0]=true)->vZ gW (λp q=>eY p.dot q.dot) c.parts=false:=λh=>hF (by rw [<-Bool.not_eq_true];intro q;rw [zba] at q;exact h q.1)
  simp only [gW,lS,jY,Dt.ext_iff,Dt.zero,zba,zde] at hF'
  (repeat' first|apply iX;(intro hw;exact (show _=((0:Nat):Int) from by exact (qW hw).elim));(apply gE;omega);rfl|(apply cW;focus (intro _;(apply (show PF Tryz.prog 206 [_, .agg c.parts[0].dot.cells] (vi (0)) from by rename_i hh;exact (qW hh).elim));done))|(refine ⟨⟨1,by omega,hS (by simp [gW,lS,jY,Dt.ext_iff,Dt.zero];grind)⟩, ?_, ?_⟩)|apply wZ;rfl|show Cn _;constructor|exact rfl|apply KR.mk;kernel_rfl|(apply hv)|show (_:PV)=_;((rw [hF' (by grind)];done));done|apply wY;rfl|apply wI;rfl|apply gE;omega|omega|simp only [zql];omega|(intro h;simp at h))
 obtain ⟨k,rfl⟩:∃k,i=k+1:=⟨i-1,by omega⟩
 have hd:=aoL c.parts[k].dot c.parts[k+1].dot
 have hb:byD c.parts[k].dot c.parts[k+1].dot>=0↔eY c.parts[k+1].dot c.parts[k].dot=false:=by have:=akM c.parts[k].dot c.parts[k+1].dot;cases h:eY c.parts[k+1].dot c.parts[k].dot<;>simp [h] at this⊢ <;>omega
 have hF':¬(gW c.parts[k+1]=true/\byD c.parts[k].dot c.parts[k+1].dot<0)->vZ gW (λp q=>eY p.dot q.dot) c.parts=false:=λh=>hF (by rw [<-Bool.not_eq_true];intro q;rw [zba] at q;exact h ⟨q.1,by have q2:=q.2;simp at q2;grind⟩)
 simp only [gW,lS,jY,Dt.ext_iff,Dt.zero,zba,zde] at hF'
 (repeat' first|apply iX;(intro hw;exact (show ((((k+1:Nat):Int))-1=((k:Nat):Int)) from by omega));(apply gE;omega);rfl|(refine ⟨⟨k+2,by omega,hS (by simp [gW,lS,jY,Dt.ext_iff,Dt.zero];grind)⟩, ?_, ?_⟩)|apply wZ;rfl|show Cn _;constructor|exact rfl|apply KR.mk;kernel_rfl|((first|apply hv|apply hd))|show (_:PV)=_;(rw [hF' (by grind)]);done|apply wY;rfl|apply wI;rfl|apply gE;omega|omega|simp only [zql];omega|(intro h;simp at h))
theorem adB (c:Cl) (hl:c.parts.length<4611686018427387904):PF Tryz.prog 171 [.agg c.cells] (vb (abJ c)):=by
 unfold abJ
 by_cases hk:¬(c.kind=3/\c.val=Vl.zero)
 ·rw [decide_eq_false hk,Bool.false_and]
  rw [Vl.ext_iff] at hk
  simp only [Vl.zero] at hk
  refine pF Tryz.func171 rfl (λst=> ?_)
  (repeat' first|(exfalso;grind)|apply wZ;rfl|show Cn _;constructor|exact rfl|(intro h;simp at h))
 replace hk:=zdn hk
 rw [decide_eq_true hk,Bool.true_and]
 obtain ⟨k1,k2⟩:=hk
 rw [Vl.ext_iff] at k2
 obtain ⟨k2,k3,k4⟩:=k2
 simp only [Vl.zero] at k2 k3 k4
 refine pF Tryz.func171 rfl (λst=> ?_)
 (repeat' first|apply wZ;rfl|show Cn _;constructor|exact rfl|show (_:PV)=_;(exfalso;grind);done|(intro h;simp at h))
 refine aG (X:={x:Nat//x<=c.parts.length/\∀j (h:j<x) (h1:j<c.parts.length),(jL c.parts[j]&&(decide (j=0)||tP c.parts[j] (c.parts[j-1]'(by omega))))=true}) (λi=>(((((St.nil 85 st).var 1 93 (c.cells)).pv 16 (.seq (c.parts.map Pt.cells))).pv 17 ((vi (((c.parts.map Pt.cells).length:Nat))))).pv 18 ((vi ((i.1:Nat)))))) (λi=>c.parts.length-i.1) ⟨0,by omega,λ_ h=>absurd h (Nat.not_lt_zero _)⟩ ?_ (λi=> ?_)
 ·(repeat' first|show Cn _;constructor|exact rfl)
 obtain ⟨i,hi,hI⟩:=i
 dsimp only
 by_cases hend:c.parts.length<=i
 ·have e:=alM (ok:=jL) (bh:=tP) λj h=>hI j (by omega) h
  (repeat' first|apply wZ;rfl|show Cn _;constructor|exact rfl|show (_:PV)=_;(rw [e]);done|simp only [zql];omega|(intro h;simp at h))
 have h1:i<c.parts.length:=by omega
 have hF:=asU (ok:=jL) (bh:=tP) h1
 have hS:(jL c.parts[i]&&(decide (i=0)||tP c.parts[i] (c.parts[i-1]'(by omega))))=true->∀j (h:j<i+1) (h1:j<c.parts.length),(jL c.parts[j]&&(decide (j=0)||tP c.parts[j] (c.parts[j-1]'(by omega))))=true:=λh j hj h1=>by
  rcases zls.1 hj with q|q
  ·exact hI j q h1
  ·subst q;exact h
 have hv:=mM c.parts[i].val
 by_cases h0:i=0
 ·subst h0
  have hof:=xQ c.parts[0]
  have hF':¬(jL c.parts[0]=true)->vZ jL (tP) c.parts=false:=λh=>hF (by rw [<-Bool.not_eq_true];intro q;rw [zba] at q;exact h q.1)
  simp only [jL,lS,jY,Dt.ext_iff,Dt.zero,zba,zde] at hF'
  (repeat' first|apply iX;(intro hw;exact (show _=((0:Nat):Int) from by exact (qW hw).elim));(apply gE;omega);rfl|(apply cW;focus (intro _;(apply (show PF Tryz.prog 209 [_,_] (vi (0)) from by rename_i hh;exact (qW hh).elim));done))|(refine ⟨⟨1,by omega,hS (by simp [jL,lS,jY,Dt.ext_iff,Dt.zero];grind)⟩, ?_, ?_⟩)|apply wZ;rfl|show Cn _;constructor|exact rfl|apply KR.mk;kernel_rfl|((first|apply hv|apply hof))|show (_:PV)=_;((rw [hF' (by grind)];done));done|apply wY;rfl|apply wI;rfl|apply gE;omega|omega|simp only [zql];omega|(intro h;simp at h))
 obtain ⟨k,rfl⟩:∃k,i=k+1:=⟨i-1,by omega⟩
 have hd1:=xQ c.parts[k]
 have hd2:=xQ c.parts[k+1]
 have hd:=axP c.parts[k] c.parts[k+1]
 have hb:ahI c.parts[k] c.parts[k+1]>=0↔tP c.parts[k+1] c.parts[k]=false:=by have:=aBH c.parts[k] c.parts[k+1];cases h:tP c.parts[k+1] c.parts[k]<;>simp [h] at this⊢ <;>omega
 have hF':¬(jL c.parts[k+1]=true/\ahI c.parts[k] c.parts[k+1]<0)->vZ jL (tP) c.parts=false:=λh=>hF (by rw [<-Bool.not_eq_true];intro q;rw [zba] at q;exact h ⟨q.1,by have q2:=q.2;simp at q2;grind⟩)
 simp only [jL,lS,jY,Dt.ext_iff,Dt.zero,zba,zde] at hF'
 (repeat' first|apply iX;(intro hw;exact (show ((((k+1:Nat):Int))-1=((k:Nat):Int)) from by omega));(apply gE;omega);rfl|(refine ⟨⟨k+2,by omega,hS (by simp [jL,lS,jY,Dt.ext_iff,Dt.zero];grind)⟩, ?_, ?_⟩)|apply wZ;rfl|show Cn _;constructor|exact rfl|apply KR.mk;kernel_rfl|((first|apply hv|apply hd1|apply hd2|apply hd))|show (_:PV)=_;(rw [hF' (by grind)]);done|apply wY;rfl|apply wI;rfl|apply gE;omega|omega|simp only [zql];omega|(intro h;simp at h))
structure Tb where
 name:ByteArray
 cols:List Co
 unique:List Int
 checks:List (List PV)
 foreign:List Fr
 sums:List Su
 deriving Inhabited
def Tb.cells (a:Tb):List PV:=[.val (.string (a.name)), .seq (a.cols.map Co.cells), .seq (a.unique.map I1), .seq a.checks, .seq (a.foreign.map Fr.cells), .seq (a.sums.map Su.cells)]
abbrev Sc :=List Tb
def scC (s:Sc):List PV:=[.seq (s.map Tb.cells)]
theorem aqA (fid:FuncId) (caps:List PV) (f:Co->Bool) (l:List Co) (hl:l.length<4611686018427387904) (hf:∀p,PF Tryz.prog fid ([.agg p.cells]++caps) (vb (f p))):PF Tryz.prog 244 [.seq (l.map Co.cells), .fn fid caps] (vi (bT f l)):=by
 refine pF Tryz.func244 rfl (λst=> ?_)
 (repeat' first|apply wZ;rfl|show Cn _;constructor)
 refine aG (X:={x:Nat//x<=l.length/\∀j (h:j<x) (h2:j<l.length),f l[j]=false}) (λi=>(((((St.nil 19 st).pv 0 (.seq (l.map Co.cells))).pv 1 (.fn fid caps)).pv 7 ((vi ((((l.map Co.cells)).length:Nat))))).pv 8 ((vi ((i.1:Nat)))))) (λi=>l.length-i.1) ⟨0,by omega,by omega⟩ ?_ (λi=> ?_)
 ·(repeat' first|show Cn _;constructor|exact rfl)
 obtain ⟨i,hi,hinv⟩:=i
 dsimp only
 (repeat' first|(refine ⟨⟨i+1,by omega,λj h1 h2=>by rcases zls.1 h1 with q|q;exact hinv j q h2;subst q;assumption⟩, ?_, ?_⟩)|apply wZ;rfl|show Cn _;constructor|exact rfl|(apply hf)|show (_:PV)=_;(first|unfold bT;rw [gQ ‹_› ‹_› hinv];done|unfold bT;rw [eP ‹_› hinv]);done|apply wY;rfl|apply wI;rfl|apply gE;omega|omega|simp only [zql];omega|(intro h;simp at h)|intro h)
theorem amV (fid:FuncId) (caps:List PV) (f:Su->Bool) (l:List Su) (hl:l.length<4611686018427387904) (hf:∀p,PF Tryz.prog fid ([.agg p.cells]++caps) (vb (f p))):PF Tryz.prog 245 [.seq (l.map Su.cells), .fn fid caps] (vi (bT f l)):=by
 refine pF Tryz.func245 rfl (λst=> ?_)
 (repeat' first|apply wZ;rfl|show Cn _;constructor)
 refine aG (X:={x:Nat//x<=l.length/\∀j (h:j<x) (h2:j<l.length),f l[j]=false}) (λi=>(((((St.nil 19 st).pv 0 (.seq (l.map Su.cells))).pv 1 (.fn fid caps)).pv 7 ((vi ((((l.map Su.cells)).length:Nat))))).pv 8 ((vi ((i.1:Nat)))))) (λi=>l.length-i.1) ⟨0,by omega,by omega⟩ ?_ (λi=> ?_)
 ·(repeat' first|show Cn _;constructor|exact rfl)
 obtain ⟨i,hi,hinv⟩:=i
 dsimp only
 (repeat' first|(refine ⟨⟨i+1,by omega,λj h1 h2=>by rcases zls.1 h1 with q|q;exact hinv j q h2;subst q;assumption⟩, ?_, ?_⟩)|apply wZ;rfl|show Cn _;constructor|exact rfl|(apply hf)|show (_:PV)=_;(first|unfold bT;rw [gQ ‹_› ‹_› hinv];done|unfold bT;rw [eP ‹_› hinv]);done|apply wY;rfl|apply wI;rfl|apply gE;omega|omega|simp only [zql];omega|(intro h;simp at h)|intro h)
theorem anQ (fid:FuncId) (caps:List PV) (f:Tb->Bool) (l:List Tb) (hl:l.length<4611686018427387904) (hf:∀p,PF Tryz.prog fid ([.agg p.cells]++caps) (vb (f p))):PF Tryz.prog 194 [.seq (l.map Tb.cells), .fn fid caps] (vi (bT f l)):=by
 refine pF Tryz.func194 rfl (λst=> ?_)
 (repeat' first|apply wZ;rfl|show Cn _;constructor)
 refine aG (X:={x:Nat//x<=l.length/\∀j (h:j<x) (h2:j<l.length),f l[j]=false}) (λi=>(((((St.nil 19 st).pv 0 (.seq (l.map Tb.cells))).pv 1 (.fn fid caps)).pv 7 ((vi ((((l.map Tb.cells)).length:Nat))))).pv 8 ((vi ((i.1:Nat)))))) (λi=>l.length-i.1) ⟨0,by omega,by omega⟩ ?_ (λi=> ?_)
 ·(repeat' first|show Cn _;constructor|exact rfl)
 obtain ⟨i,hi,hinv⟩:=i
 dsimp only
 (repeat' first|(refine ⟨⟨i+1,by omega,λj h1 h2=>by rcases zls.1 h1 with q|q;exact hinv j q h2;subst q;assumption⟩, ?_, ?_⟩)|apply wZ;rfl|show Cn _;constructor|exact rfl|(apply hf)|show (_:PV)=_;(first|unfold bT;rw [gQ ‹_› ‹_› hinv];done|unfold bT;rw [eP ‹_› hinv]);done|apply wY;rfl|apply wI;rfl|apply gE;omega|omega|simp only [zql];omega|(intro h;simp at h)|intro h)
theorem aoO (fid:FuncId) (caps:List PV) (f:Co->Bool) (l:List Co) (hl:l.length<4611686018427387904) (hf:∀p,PF Tryz.prog fid ([.agg p.cells]++caps) (vb (f p))):PF Tryz.prog 199 [.seq (l.map Co.cells), .fn fid caps] (vb (l.any f)):=by
 have h:=aqA fid caps f l hl hf
 refine pF Tryz.func199 rfl (λst=> ?_)
 (repeat' first|apply wZ;rfl|show Cn _;constructor|exact rfl|(apply h)|show (_:PV)=_;(rw [cZ]);done|apply wY;rfl)
theorem amY (fid:FuncId) (caps:List PV) (f:Su->Bool) (l:List Su) (hl:l.length<4611686018427387904) (hf:∀p,PF Tryz.prog fid ([.agg p.cells]++caps) (vb (f p))):PF Tryz.prog 205 [.seq (l.map Su.cells), .fn fid caps] (vb (l.any f)):=by
 have h:=amV fid caps f l hl hf
 refine pF Tryz.func205 rfl (λst=> ?_)
 (repeat' first|apply wZ;rfl|show Cn _;constructor|exact rfl|(apply h)|show (_:PV)=_;(rw [cZ]);done|apply wY;rfl)
def dB (f:Nat->Int) (n:Nat):Int:=orI ((List.range n).map f)
theorem atU {l:List Int} {i:Nat} (h:i<l.length) (hf:l[i]≠0) (hn:∀j (h:j<i) (h2:j<l.length),l[j]=0):orI l=l[i]:=by
 induction l generalizing i with
 |nil=>simp at h
 |cons a l ih=>
  cases i with
  |zero=>simp only [List.getElem_cons_zero] at hf⊢;rw [orI,zn hf]
  |succ i=>
   have h0:=hn 0 (by omega) (by simp)
   simp only [List.getElem_cons_zero] at h0
   rw [orI,zp h0]
   simp only [List.getElem_cons_succ] at hf⊢
   exact ih (by simpa using h) hf λj hj h2=>by have:=hn (j+1) (by omega) (by simpa using h2);simpa using this
theorem aqY {l:List Int} (hn:∀x∈l,x=0):orI l=0:=by
 induction l with
 |nil=>rfl
 |cons a l ih=>rw [orI,zp (hn a (by simp))];exact ih λx hx=>hn x (by simp [hx])
theorem aeT {f:Nat->Int} {n i:Nat} (h:i<n) (hf:f i≠0) (hn:∀j<i,f j=0):dB f n=f i:=by
 unfold dB
 have:=atU (l:=(List.range n).map f) (i:=i) (by simpa using h) (by simpa using hf) (λj hj h2=>by simpa using hn j hj)
 simpa using this
theorem aeU {f:Nat->Int} {n:Nat} (hn:∀j<n,f j=0):dB f n=0:=
 aqY λx hx=>by
  obtain ⟨j,hj,rfl⟩:=List.mem_map.1 hx
  exact hn j (List.mem_range.1 hj)
theorem fV (fid:FuncId) (caps:List PV) (f:Nat->Int) (n:Nat) (hn:n<4611686018427387904) (hf:∀k,k<n->(∀j<k,f j=0)->PF Tryz.prog fid ([(vi ((k:Nat)))]++caps) (vi (f k))):PF Tryz.prog 196 [(vi ((n:Nat))), .fn fid caps] (vi (dB f n)):=by
 refine pF Tryz.func196 rfl (λst=> ?_)
 (repeat' first|apply wZ;rfl|show Cn _;constructor)
 refine aG (X:={x:Nat//x<=n/\∀j<x,f j=0}) (λi=>((((St.nil 18 st).pv 1 (.fn fid caps)).pv 7 ((vi ((n:Nat))))).pv 8 ((vi ((i.1:Nat)))))) (λi=>n-i.1) ⟨0,by omega,by omega⟩ ?_ (λi=> ?_)
 ·(repeat' first|show Cn _;constructor|exact rfl)
 obtain ⟨i,hi,hinv⟩:=i
 dsimp only
 by_cases hend:n<=i
 ·rw [aeU (f:=f) (n:=n) λj hj=>hinv j (by omega)]
  (repeat' first|apply wZ;rfl|show Cn _;constructor|exact rfl|omega|(intro h;simp at h))
 have hfi:=hf i (by omega) hinv
 (repeat' first|(refine ⟨⟨i+1,by omega,λj hj=>by rcases zls.1 hj with q|q;exact hinv j q;subst q;assumption⟩, ?_, ?_⟩)|apply wZ;rfl|show Cn _;constructor|exact rfl|(apply hfi)|show (_:PV)=_;(rw [aeT (by omega) ‹_› hinv]);done|apply wY;rfl|omega|simp only [zql];omega|(intro h;simp at h)|intro h)
end Go.Proofs.YtppdefkgmegipaaGreatDoor
