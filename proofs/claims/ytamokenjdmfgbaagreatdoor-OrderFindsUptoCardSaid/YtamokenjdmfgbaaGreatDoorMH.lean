/- What the store of functions and types holds is what the program holds; no condition. -/
import Derived.Test.YtamokenjdmfgbaaGreatDoorME
import Derived.Test.YtamokenjdmfgbaaGreatDoorMB
import Derived.Ground.NamesProg
import Derived.Shelf.Abstract
namespace Go.Proofs
open Go.Shelf
def Tryz.lays160_ren:Go.Shelf.Ren:=⟨fun | 160=>273 | 232=>316 | 231=>268 | 227=>269 | 234=>317 | 233=>270 | 236=>318 | 235=>271 | 228=>312 | 271=>336 | 151=>314 | 197=>313 | 120=>345 | 152=>335 | 260=>334 | 137=>216 | 119=>342 | 224=>343 | 225=>344 | 217=>272 | 266=>315 | n=>n,fun | 9=>9 | 4=>4 | 3=>3 | 5=>5 | 117=>370 | 116=>369 | 0=>0 | 124=>373 | 21=>21 | 105=>405 | 46=>86 | 119=>428 | 139=>431 | 138=>430 | n=>n,fun | 3=>3 | 4=>4 | n=>n⟩
theorem Tryz.lays160:Go.Proofs.Lays.n160 Tryz.prog Tryz.lays160_ren:={
 mixed:=by kernel_rfl
 f119:=Tryz.func342.trans (congrArg some (by kernel_rfl))
 f120:=Tryz.func345.trans (congrArg some (by kernel_rfl))
 f137:=Tryz.func216.trans (congrArg some (by kernel_rfl))
 f151:=Tryz.func314.trans (congrArg some (by kernel_rfl))
 f152:=Tryz.func335.trans (congrArg some (by kernel_rfl))
 f160:=Tryz.func273.trans (congrArg some (by kernel_rfl))
 f197:=Tryz.func313.trans (congrArg some (by kernel_rfl))
 f217:=Tryz.func272.trans (congrArg some (by kernel_rfl))
 f224:=Tryz.func343.trans (congrArg some (by kernel_rfl))
 f225:=Tryz.func344.trans (congrArg some (by kernel_rfl))
 f227:=Tryz.func269.trans (congrArg some (by kernel_rfl))
 f228:=Tryz.func312.trans (congrArg some (by kernel_rfl))
 f231:=Tryz.func268.trans (congrArg some (by kernel_rfl))
 f232:=Tryz.func316.trans (congrArg some (by kernel_rfl))
 f233:=Tryz.func270.trans (congrArg some (by kernel_rfl))
 f234:=Tryz.func317.trans (congrArg some (by kernel_rfl))
 f235:=Tryz.func271.trans (congrArg some (by kernel_rfl))
 f236:=Tryz.func318.trans (congrArg some (by kernel_rfl))
 f260:=Tryz.func334.trans (congrArg some (by kernel_rfl))
 f266:=Tryz.func315.trans (congrArg some (by kernel_rfl))
 f271:=Tryz.func336.trans (congrArg some (by kernel_rfl))
 t0:=Tryz.underlying0
 a0:=Tryz.isAgg0
 z0:=Tryz.sizeOf0
 v0:=Tryz.zeroValue0
 t3:=Tryz.underlying3
 a3:=Tryz.isAgg3
 z3:=Tryz.sizeOf3
 v3:=Tryz.zeroValue3
 t4:=Tryz.underlying4
 a4:=Tryz.isAgg4
 z4:=Tryz.sizeOf4
 v4:=Tryz.zeroValue4
 t5:=Tryz.underlying5
 a5:=Tryz.isAgg5
 z5:=Tryz.sizeOf5
 v5:=Tryz.zeroValue5
 t9:=Tryz.underlying9
 a9:=Tryz.isAgg9
 z9:=Tryz.sizeOf9
 v9:=Tryz.zeroValue9
 t21:=Tryz.underlying21
 a21:=Tryz.isAgg21
 z21:=Tryz.sizeOf21
 v21:=Tryz.zeroValue21
 t46:=Tryz.underlying86
 a46:=Tryz.isAgg86
 z46:=Tryz.sizeOf86
 v46:=Tryz.zeroValue86
 t105:=Tryz.underlying405
 a105:=Tryz.isAgg405
 z105:=Tryz.sizeOf405
 v105:=Tryz.zeroValue405
 t116:=Tryz.underlying369
 a116:=Tryz.isAgg369
 z116:=Tryz.sizeOf369
 t117:=Tryz.underlying370
 a117:=Tryz.isAgg370
 z117:=Tryz.sizeOf370
 v117:=Tryz.zeroValue370
 t119:=Tryz.underlying428
 a119:=Tryz.isAgg428
 z119:=Tryz.sizeOf428
 t124:=Tryz.underlying373
 a124:=Tryz.isAgg373
 z124:=Tryz.sizeOf373
 v124:=Tryz.zeroValue373
 t138:=Tryz.underlying430
 a138:=Tryz.isAgg430
 z138:=Tryz.sizeOf430
 v138:=Tryz.zeroValue430
 t139:=Tryz.underlying431
 a139:=Tryz.isAgg431
 z139:=Tryz.sizeOf431
 v139:=Tryz.zeroValue431
 g3:=by kernel_rfl
 g4:=by kernel_rfl }
def Tryz.lays161_ren:Go.Shelf.Ren:=⟨fun | 161=>215 | 231=>268 | 227=>269 | 233=>270 | 235=>271 | 228=>312 | 197=>313 | 151=>314 | 260=>334 | 152=>335 | 137=>216 | 119=>342 | 224=>343 | 225=>344 | 217=>272 | 266=>315 | n=>n,fun | 9=>9 | 4=>4 | 3=>3 | 5=>5 | 117=>370 | 116=>369 | 0=>0 | 124=>373 | 105=>405 | 21=>21 | 119=>428 | 46=>86 | 139=>431 | 138=>430 | n=>n,fun | 3=>3 | 4=>4 | n=>n⟩
theorem Tryz.lays161:Go.Proofs.Lays.n161 Tryz.prog Tryz.lays161_ren:={
 mixed:=by kernel_rfl
 f119:=Tryz.func342.trans (congrArg some (by kernel_rfl))
 f137:=Tryz.func216.trans (congrArg some (by kernel_rfl))
 f151:=Tryz.func314.trans (congrArg some (by kernel_rfl))
 f152:=Tryz.func335.trans (congrArg some (by kernel_rfl))
 f161:=Tryz.func215.trans (congrArg some (by kernel_rfl))
 f197:=Tryz.func313.trans (congrArg some (by kernel_rfl))
 f217:=Tryz.func272.trans (congrArg some (by kernel_rfl))
 f224:=Tryz.func343.trans (congrArg some (by kernel_rfl))
 f225:=Tryz.func344.trans (congrArg some (by kernel_rfl))
 f227:=Tryz.func269.trans (congrArg some (by kernel_rfl))
 f228:=Tryz.func312.trans (congrArg some (by kernel_rfl))
 f231:=Tryz.func268.trans (congrArg some (by kernel_rfl))
 f233:=Tryz.func270.trans (congrArg some (by kernel_rfl))
 f235:=Tryz.func271.trans (congrArg some (by kernel_rfl))
 f260:=Tryz.func334.trans (congrArg some (by kernel_rfl))
 f266:=Tryz.func315.trans (congrArg some (by kernel_rfl))
 t0:=Tryz.underlying0
 a0:=Tryz.isAgg0
 z0:=Tryz.sizeOf0
 v0:=Tryz.zeroValue0
 t3:=Tryz.underlying3
 a3:=Tryz.isAgg3
 z3:=Tryz.sizeOf3
 v3:=Tryz.zeroValue3
 t4:=Tryz.underlying4
 a4:=Tryz.isAgg4
 z4:=Tryz.sizeOf4
 v4:=Tryz.zeroValue4
 t5:=Tryz.underlying5
 a5:=Tryz.isAgg5
 z5:=Tryz.sizeOf5
 v5:=Tryz.zeroValue5
 t9:=Tryz.underlying9
 a9:=Tryz.isAgg9
 z9:=Tryz.sizeOf9
 v9:=Tryz.zeroValue9
 t21:=Tryz.underlying21
 a21:=Tryz.isAgg21
 z21:=Tryz.sizeOf21
 v21:=Tryz.zeroValue21
 t46:=Tryz.underlying86
 a46:=Tryz.isAgg86
 z46:=Tryz.sizeOf86
 v46:=Tryz.zeroValue86
 t105:=Tryz.underlying405
 a105:=Tryz.isAgg405
 z105:=Tryz.sizeOf405
 v105:=Tryz.zeroValue405
 t116:=Tryz.underlying369
 a116:=Tryz.isAgg369
 z116:=Tryz.sizeOf369
 t117:=Tryz.underlying370
 a117:=Tryz.isAgg370
 z117:=Tryz.sizeOf370
 v117:=Tryz.zeroValue370
 t119:=Tryz.underlying428
 a119:=Tryz.isAgg428
 z119:=Tryz.sizeOf428
 t124:=Tryz.underlying373
 a124:=Tryz.isAgg373
 z124:=Tryz.sizeOf373
 v124:=Tryz.zeroValue373
 t138:=Tryz.underlying430
 a138:=Tryz.isAgg430
 z138:=Tryz.sizeOf430
 v138:=Tryz.zeroValue430
 t139:=Tryz.underlying431
 a139:=Tryz.isAgg431
 z139:=Tryz.sizeOf431
 v139:=Tryz.zeroValue431
 g3:=by kernel_rfl
 g4:=by kernel_rfl }
def Tryz.lays144_ren:Go.Shelf.Ren:=⟨fun | 144=>274 | 143=>319 | 219=>337 | 217=>272 | 225=>344 | 224=>343 | 267=>346 | 266=>315 | 314=>348 | n=>n,fun | 9=>9 | 4=>4 | 3=>3 | 5=>5 | 46=>86 | 146=>435 | 51=>274 | n=>n,fun | 1=>0 | n=>n⟩
theorem Tryz.lays144:Go.Proofs.Lays.n144 Tryz.prog Tryz.lays144_ren:={
 mixed:=by kernel_rfl
 f143:=Tryz.func319.trans (congrArg some (by kernel_rfl))
 f144:=Tryz.func274.trans (congrArg some (by kernel_rfl))
 f217:=Tryz.func272.trans (congrArg some (by kernel_rfl))
 f219:=Tryz.func337.trans (congrArg some (by kernel_rfl))
 f224:=Tryz.func343.trans (congrArg some (by kernel_rfl))
 f225:=Tryz.func344.trans (congrArg some (by kernel_rfl))
 f266:=Tryz.func315.trans (congrArg some (by kernel_rfl))
 f267:=Tryz.func346.trans (congrArg some (by kernel_rfl))
 f314:=Tryz.func348.trans (congrArg some (by kernel_rfl))
 t3:=Tryz.underlying3
 a3:=Tryz.isAgg3
 z3:=Tryz.sizeOf3
 v3:=Tryz.zeroValue3
 t4:=Tryz.underlying4
 a4:=Tryz.isAgg4
 z4:=Tryz.sizeOf4
 v4:=Tryz.zeroValue4
 t5:=Tryz.underlying5
 a5:=Tryz.isAgg5
 z5:=Tryz.sizeOf5
 v5:=Tryz.zeroValue5
 t9:=Tryz.underlying9
 a9:=Tryz.isAgg9
 z9:=Tryz.sizeOf9
 v9:=Tryz.zeroValue9
 t46:=Tryz.underlying86
 a46:=Tryz.isAgg86
 z46:=Tryz.sizeOf86
 v46:=Tryz.zeroValue86
 t51:=Tryz.underlying274
 a51:=Tryz.isAgg274
 z51:=Tryz.sizeOf274
 v51:=Tryz.zeroValue274
 t146:=Tryz.underlying435
 a146:=Tryz.isAgg435
 z146:=Tryz.sizeOf435
 v146:=Tryz.zeroValue435
 g1:=by kernel_rfl }
end Go.Proofs
namespace Go.Am
open Go.Proofs Go.RowKit
set_option maxRecDepth 100000
theorem infoAll:T.All infoT (fun t i=>Tryz.prog.types[t]?=some i):=.node Tryz.type0 (.node Tryz.type1 (.node Tryz.type3 (.node Tryz.type7 (.node Tryz.type15 (.node Tryz.type31 (.node Tryz.type63 (.node Tryz.type127 (.node Tryz.type255 trivial trivial) (.node Tryz.type383 trivial trivial)) (.node Tryz.type191 (.node Tryz.type319 trivial trivial) (.node Tryz.type447 trivial trivial))) (.node Tryz.type95 (.node Tryz.type159 (.node Tryz.type287 trivial trivial) (.node Tryz.type415 trivial trivial)) (.node Tryz.type223 (.node Tryz.type351 trivial trivial) trivial))) (.node Tryz.type47 (.node Tryz.type79 (.node Tryz.type143 (.node Tryz.type271 trivial trivial) (.node Tryz.type399 trivial trivial)) (.node Tryz.type207 (.node Tryz.type335 trivial trivial) trivial)) (.node Tryz.type111 (.node Tryz.type175 (.node Tryz.type303 trivial trivial) (.node Tryz.type431 trivial trivial)) (.node Tryz.type239 (.node Tryz.type367 trivial trivial) trivial)))) (.node Tryz.type23 (.node Tryz.type39 (.node Tryz.type71 (.node Tryz.type135 (.node Tryz.type263 trivial trivial) (.node Tryz.type391 trivial trivial)) (.node Tryz.type199 (.node Tryz.type327 trivial trivial) (.node Tryz.type455 trivial trivial))) (.node Tryz.type103 (.node Tryz.type167 (.node Tryz.type295 trivial trivial) (.node Tryz.type423 trivial trivial)) (.node Tryz.type231 (.node Tryz.type359 trivial trivial) trivial))) (.node Tryz.type55 (.node Tryz.type87 (.node Tryz.type151 (.node Tryz.type279 trivial trivial) (.node Tryz.type407 trivial trivial)) (.node Tryz.type215 (.node Tryz.type343 trivial trivial) trivial)) (.node Tryz.type119 (.node Tryz.type183 (.node Tryz.type311 trivial trivial) (.node Tryz.type439 trivial trivial)) (.node Tryz.type247 (.node Tryz.type375 trivial trivial) trivial))))) (.node Tryz.type11 (.node Tryz.type19 (.node Tryz.type35 (.node Tryz.type67 (.node Tryz.type131 (.node Tryz.type259 trivial trivial) (.node Tryz.type387 trivial trivial)) (.node Tryz.type195 (.node Tryz.type323 trivial trivial) (.node Tryz.type451 trivial trivial))) (.node Tryz.type99 (.node Tryz.type163 (.node Tryz.type291 trivial trivial) (.node Tryz.type419 trivial trivial)) (.node Tryz.type227 (.node Tryz.type355 trivial trivial) trivial))) (.node Tryz.type51 (.node Tryz.type83 (.node Tryz.type147 (.node Tryz.type275 trivial trivial) (.node Tryz.type403 trivial trivial)) (.node Tryz.type211 (.node Tryz.type339 trivial trivial) trivial)) (.node Tryz.type115 (.node Tryz.type179 (.node Tryz.type307 trivial trivial) (.node Tryz.type435 trivial trivial)) (.node Tryz.type243 (.node Tryz.type371 trivial trivial) trivial)))) (.node Tryz.type27 (.node Tryz.type43 (.node Tryz.type75 (.node Tryz.type139 (.node Tryz.type267 trivial trivial) (.node Tryz.type395 trivial trivial)) (.node Tryz.type203 (.node Tryz.type331 trivial trivial) trivial)) (.node Tryz.type107 (.node Tryz.type171 (.node Tryz.type299 trivial trivial) (.node Tryz.type427 trivial trivial)) (.node Tryz.type235 (.node Tryz.type363 trivial trivial) trivial))) (.node Tryz.type59 (.node Tryz.type91 (.node Tryz.type155 (.node Tryz.type283 trivial trivial) (.node Tryz.type411 trivial trivial)) (.node Tryz.type219 (.node Tryz.type347 trivial trivial) trivial)) (.node Tryz.type123 (.node Tryz.type187 (.node Tryz.type315 trivial trivial) (.node Tryz.type443 trivial trivial)) (.node Tryz.type251 (.node Tryz.type379 trivial trivial) trivial)))))) (.node Tryz.type5 (.node Tryz.type9 (.node Tryz.type17 (.node Tryz.type33 (.node Tryz.type65 (.node Tryz.type129 (.node Tryz.type257 trivial trivial) (.node Tryz.type385 trivial trivial)) (.node Tryz.type193 (.node Tryz.type321 trivial trivial) (.node Tryz.type449 trivial trivial))) (.node Tryz.type97 (.node Tryz.type161 (.node Tryz.type289 trivial trivial) (.node Tryz.type417 trivial trivial)) (.node Tryz.type225 (.node Tryz.type353 trivial trivial) trivial))) (.node Tryz.type49 (.node Tryz.type81 (.node Tryz.type145 (.node Tryz.type273 trivial trivial) (.node Tryz.type401 trivial trivial)) (.node Tryz.type209 (.node Tryz.type337 trivial trivial) trivial)) (.node Tryz.type113 (.node Tryz.type177 (.node Tryz.type305 trivial trivial) (.node Tryz.type433 trivial trivial)) (.node Tryz.type241 (.node Tryz.type369 trivial trivial) trivial)))) (.node Tryz.type25 (.node Tryz.type41 (.node Tryz.type73 (.node Tryz.type137 (.node Tryz.type265 trivial trivial) (.node Tryz.type393 trivial trivial)) (.node Tryz.type201 (.node Tryz.type329 trivial trivial) (.node Tryz.type457 trivial trivial))) (.node Tryz.type105 (.node Tryz.type169 (.node Tryz.type297 trivial trivial) (.node Tryz.type425 trivial trivial)) (.node Tryz.type233 (.node Tryz.type361 trivial trivial) trivial))) (.node Tryz.type57 (.node Tryz.type89 (.node Tryz.type153 (.node Tryz.type281 trivial trivial) (.node Tryz.type409 trivial trivial)) (.node Tryz.type217 (.node Tryz.type345 trivial trivial) trivial)) (.node Tryz.type121 (.node Tryz.type185 (.node Tryz.type313 trivial trivial) (.node Tryz.type441 trivial trivial)) (.node Tryz.type249 (.node Tryz.type377 trivial trivial) trivial))))) (.node Tryz.type13 (.node Tryz.type21 (.node Tryz.type37 (.node Tryz.type69 (.node Tryz.type133 (.node Tryz.type261 trivial trivial) (.node Tryz.type389 trivial trivial)) (.node Tryz.type197 (.node Tryz.type325 trivial trivial) (.node Tryz.type453 trivial trivial))) (.node Tryz.type101 (.node Tryz.type165 (.node Tryz.type293 trivial trivial) (.node Tryz.type421 trivial trivial)) (.node Tryz.type229 (.node Tryz.type357 trivial trivial) trivial))) (.node Tryz.type53 (.node Tryz.type85 (.node Tryz.type149 (.node Tryz.type277 trivial trivial) (.node Tryz.type405 trivial trivial)) (.node Tryz.type213 (.node Tryz.type341 trivial trivial) trivial)) (.node Tryz.type117 (.node Tryz.type181 (.node Tryz.type309 trivial trivial) (.node Tryz.type437 trivial trivial)) (.node Tryz.type245 (.node Tryz.type373 trivial trivial) trivial)))) (.node Tryz.type29 (.node Tryz.type45 (.node Tryz.type77 (.node Tryz.type141 (.node Tryz.type269 trivial trivial) (.node Tryz.type397 trivial trivial)) (.node Tryz.type205 (.node Tryz.type333 trivial trivial) trivial)) (.node Tryz.type109 (.node Tryz.type173 (.node Tryz.type301 trivial trivial) (.node Tryz.type429 trivial trivial)) (.node Tryz.type237 (.node Tryz.type365 trivial trivial) trivial))) (.node Tryz.type61 (.node Tryz.type93 (.node Tryz.type157 (.node Tryz.type285 trivial trivial) (.node Tryz.type413 trivial trivial)) (.node Tryz.type221 (.node Tryz.type349 trivial trivial) trivial)) (.node Tryz.type125 (.node Tryz.type189 (.node Tryz.type317 trivial trivial) (.node Tryz.type445 trivial trivial)) (.node Tryz.type253 (.node Tryz.type381 trivial trivial) trivial))))))) (.node Tryz.type2 (.node Tryz.type4 (.node Tryz.type8 (.node Tryz.type16 (.node Tryz.type32 (.node Tryz.type64 (.node Tryz.type128 (.node Tryz.type256 trivial trivial) (.node Tryz.type384 trivial trivial)) (.node Tryz.type192 (.node Tryz.type320 trivial trivial) (.node Tryz.type448 trivial trivial))) (.node Tryz.type96 (.node Tryz.type160 (.node Tryz.type288 trivial trivial) (.node Tryz.type416 trivial trivial)) (.node Tryz.type224 (.node Tryz.type352 trivial trivial) trivial))) (.node Tryz.type48 (.node Tryz.type80 (.node Tryz.type144 (.node Tryz.type272 trivial trivial) (.node Tryz.type400 trivial trivial)) (.node Tryz.type208 (.node Tryz.type336 trivial trivial) trivial)) (.node Tryz.type112 (.node Tryz.type176 (.node Tryz.type304 trivial trivial) (.node Tryz.type432 trivial trivial)) (.node Tryz.type240 (.node Tryz.type368 trivial trivial) trivial)))) (.node Tryz.type24 (.node Tryz.type40 (.node Tryz.type72 (.node Tryz.type136 (.node Tryz.type264 trivial trivial) (.node Tryz.type392 trivial trivial)) (.node Tryz.type200 (.node Tryz.type328 trivial trivial) (.node Tryz.type456 trivial trivial))) (.node Tryz.type104 (.node Tryz.type168 (.node Tryz.type296 trivial trivial) (.node Tryz.type424 trivial trivial)) (.node Tryz.type232 (.node Tryz.type360 trivial trivial) trivial))) (.node Tryz.type56 (.node Tryz.type88 (.node Tryz.type152 (.node Tryz.type280 trivial trivial) (.node Tryz.type408 trivial trivial)) (.node Tryz.type216 (.node Tryz.type344 trivial trivial) trivial)) (.node Tryz.type120 (.node Tryz.type184 (.node Tryz.type312 trivial trivial) (.node Tryz.type440 trivial trivial)) (.node Tryz.type248 (.node Tryz.type376 trivial trivial) trivial))))) (.node Tryz.type12 (.node Tryz.type20 (.node Tryz.type36 (.node Tryz.type68 (.node Tryz.type132 (.node Tryz.type260 trivial trivial) (.node Tryz.type388 trivial trivial)) (.node Tryz.type196 (.node Tryz.type324 trivial trivial) (.node Tryz.type452 trivial trivial))) (.node Tryz.type100 (.node Tryz.type164 (.node Tryz.type292 trivial trivial) (.node Tryz.type420 trivial trivial)) (.node Tryz.type228 (.node Tryz.type356 trivial trivial) trivial))) (.node Tryz.type52 (.node Tryz.type84 (.node Tryz.type148 (.node Tryz.type276 trivial trivial) (.node Tryz.type404 trivial trivial)) (.node Tryz.type212 (.node Tryz.type340 trivial trivial) trivial)) (.node Tryz.type116 (.node Tryz.type180 (.node Tryz.type308 trivial trivial) (.node Tryz.type436 trivial trivial)) (.node Tryz.type244 (.node Tryz.type372 trivial trivial) trivial)))) (.node Tryz.type28 (.node Tryz.type44 (.node Tryz.type76 (.node Tryz.type140 (.node Tryz.type268 trivial trivial) (.node Tryz.type396 trivial trivial)) (.node Tryz.type204 (.node Tryz.type332 trivial trivial) trivial)) (.node Tryz.type108 (.node Tryz.type172 (.node Tryz.type300 trivial trivial) (.node Tryz.type428 trivial trivial)) (.node Tryz.type236 (.node Tryz.type364 trivial trivial) trivial))) (.node Tryz.type60 (.node Tryz.type92 (.node Tryz.type156 (.node Tryz.type284 trivial trivial) (.node Tryz.type412 trivial trivial)) (.node Tryz.type220 (.node Tryz.type348 trivial trivial) trivial)) (.node Tryz.type124 (.node Tryz.type188 (.node Tryz.type316 trivial trivial) (.node Tryz.type444 trivial trivial)) (.node Tryz.type252 (.node Tryz.type380 trivial trivial) trivial)))))) (.node Tryz.type6 (.node Tryz.type10 (.node Tryz.type18 (.node Tryz.type34 (.node Tryz.type66 (.node Tryz.type130 (.node Tryz.type258 trivial trivial) (.node Tryz.type386 trivial trivial)) (.node Tryz.type194 (.node Tryz.type322 trivial trivial) (.node Tryz.type450 trivial trivial))) (.node Tryz.type98 (.node Tryz.type162 (.node Tryz.type290 trivial trivial) (.node Tryz.type418 trivial trivial)) (.node Tryz.type226 (.node Tryz.type354 trivial trivial) trivial))) (.node Tryz.type50 (.node Tryz.type82 (.node Tryz.type146 (.node Tryz.type274 trivial trivial) (.node Tryz.type402 trivial trivial)) (.node Tryz.type210 (.node Tryz.type338 trivial trivial) trivial)) (.node Tryz.type114 (.node Tryz.type178 (.node Tryz.type306 trivial trivial) (.node Tryz.type434 trivial trivial)) (.node Tryz.type242 (.node Tryz.type370 trivial trivial) trivial)))) (.node Tryz.type26 (.node Tryz.type42 (.node Tryz.type74 (.node Tryz.type138 (.node Tryz.type266 trivial trivial) (.node Tryz.type394 trivial trivial)) (.node Tryz.type202 (.node Tryz.type330 trivial trivial) (.node Tryz.type458 trivial trivial))) (.node Tryz.type106 (.node Tryz.type170 (.node Tryz.type298 trivial trivial) (.node Tryz.type426 trivial trivial)) (.node Tryz.type234 (.node Tryz.type362 trivial trivial) trivial))) (.node Tryz.type58 (.node Tryz.type90 (.node Tryz.type154 (.node Tryz.type282 trivial trivial) (.node Tryz.type410 trivial trivial)) (.node Tryz.type218 (.node Tryz.type346 trivial trivial) trivial)) (.node Tryz.type122 (.node Tryz.type186 (.node Tryz.type314 trivial trivial) (.node Tryz.type442 trivial trivial)) (.node Tryz.type250 (.node Tryz.type378 trivial trivial) trivial))))) (.node Tryz.type14 (.node Tryz.type22 (.node Tryz.type38 (.node Tryz.type70 (.node Tryz.type134 (.node Tryz.type262 trivial trivial) (.node Tryz.type390 trivial trivial)) (.node Tryz.type198 (.node Tryz.type326 trivial trivial) (.node Tryz.type454 trivial trivial))) (.node Tryz.type102 (.node Tryz.type166 (.node Tryz.type294 trivial trivial) (.node Tryz.type422 trivial trivial)) (.node Tryz.type230 (.node Tryz.type358 trivial trivial) trivial))) (.node Tryz.type54 (.node Tryz.type86 (.node Tryz.type150 (.node Tryz.type278 trivial trivial) (.node Tryz.type406 trivial trivial)) (.node Tryz.type214 (.node Tryz.type342 trivial trivial) trivial)) (.node Tryz.type118 (.node Tryz.type182 (.node Tryz.type310 trivial trivial) (.node Tryz.type438 trivial trivial)) (.node Tryz.type246 (.node Tryz.type374 trivial trivial) trivial)))) (.node Tryz.type30 (.node Tryz.type46 (.node Tryz.type78 (.node Tryz.type142 (.node Tryz.type270 trivial trivial) (.node Tryz.type398 trivial trivial)) (.node Tryz.type206 (.node Tryz.type334 trivial trivial) trivial)) (.node Tryz.type110 (.node Tryz.type174 (.node Tryz.type302 trivial trivial) (.node Tryz.type430 trivial trivial)) (.node Tryz.type238 (.node Tryz.type366 trivial trivial) trivial))) (.node Tryz.type62 (.node Tryz.type94 (.node Tryz.type158 (.node Tryz.type286 trivial trivial) (.node Tryz.type414 trivial trivial)) (.node Tryz.type222 (.node Tryz.type350 trivial trivial) trivial)) (.node Tryz.type126 (.node Tryz.type190 (.node Tryz.type318 trivial trivial) (.node Tryz.type446 trivial trivial)) (.node Tryz.type254 (.node Tryz.type382 trivial trivial) trivial)))))))
theorem funcAll:T.All funcT (fun f fn=>Tryz.prog.funcs[f]?=some fn):=.node Tryz.func0 (.node Tryz.func1 (.node Tryz.func3 (.node Tryz.func7 (.node Tryz.func15 (.node Tryz.func31 (.node Tryz.func63 (.node Tryz.func127 (.node Tryz.func255 trivial trivial) (.node Tryz.func383 trivial trivial)) (.node Tryz.func191 (.node Tryz.func319 trivial trivial) trivial)) (.node Tryz.func95 (.node Tryz.func159 (.node Tryz.func287 trivial trivial) trivial) (.node Tryz.func223 (.node Tryz.func351 trivial trivial) trivial))) (.node Tryz.func47 (.node Tryz.func79 (.node Tryz.func143 (.node Tryz.func271 trivial trivial) trivial) (.node Tryz.func207 (.node Tryz.func335 trivial trivial) trivial)) (.node Tryz.func111 (.node Tryz.func175 (.node Tryz.func303 trivial trivial) trivial) (.node Tryz.func239 (.node Tryz.func367 trivial trivial) trivial)))) (.node Tryz.func23 (.node Tryz.func39 (.node Tryz.func71 (.node Tryz.func135 (.node Tryz.func263 trivial trivial) trivial) (.node Tryz.func199 (.node Tryz.func327 trivial trivial) trivial)) (.node Tryz.func103 (.node Tryz.func167 (.node Tryz.func295 trivial trivial) trivial) (.node Tryz.func231 (.node Tryz.func359 trivial trivial) trivial))) (.node Tryz.func55 (.node Tryz.func87 (.node Tryz.func151 (.node Tryz.func279 trivial trivial) trivial) (.node Tryz.func215 (.node Tryz.func343 trivial trivial) trivial)) (.node Tryz.func119 (.node Tryz.func183 (.node Tryz.func311 trivial trivial) trivial) (.node Tryz.func247 (.node Tryz.func375 trivial trivial) trivial))))) (.node Tryz.func11 (.node Tryz.func19 (.node Tryz.func35 (.node Tryz.func67 (.node Tryz.func131 (.node Tryz.func259 trivial trivial) (.node Tryz.func387 trivial trivial)) (.node Tryz.func195 (.node Tryz.func323 trivial trivial) trivial)) (.node Tryz.func99 (.node Tryz.func163 (.node Tryz.func291 trivial trivial) trivial) (.node Tryz.func227 (.node Tryz.func355 trivial trivial) trivial))) (.node Tryz.func51 (.node Tryz.func83 (.node Tryz.func147 (.node Tryz.func275 trivial trivial) trivial) (.node Tryz.func211 (.node Tryz.func339 trivial trivial) trivial)) (.node Tryz.func115 (.node Tryz.func179 (.node Tryz.func307 trivial trivial) trivial) (.node Tryz.func243 (.node Tryz.func371 trivial trivial) trivial)))) (.node Tryz.func27 (.node Tryz.func43 (.node Tryz.func75 (.node Tryz.func139 (.node Tryz.func267 trivial trivial) trivial) (.node Tryz.func203 (.node Tryz.func331 trivial trivial) trivial)) (.node Tryz.func107 (.node Tryz.func171 (.node Tryz.func299 trivial trivial) trivial) (.node Tryz.func235 (.node Tryz.func363 trivial trivial) trivial))) (.node Tryz.func59 (.node Tryz.func91 (.node Tryz.func155 (.node Tryz.func283 trivial trivial) trivial) (.node Tryz.func219 (.node Tryz.func347 trivial trivial) trivial)) (.node Tryz.func123 (.node Tryz.func187 (.node Tryz.func315 trivial trivial) trivial) (.node Tryz.func251 (.node Tryz.func379 trivial trivial) trivial)))))) (.node Tryz.func5 (.node Tryz.func9 (.node Tryz.func17 (.node Tryz.func33 (.node Tryz.func65 (.node Tryz.func129 (.node Tryz.func257 trivial trivial) (.node Tryz.func385 trivial trivial)) (.node Tryz.func193 (.node Tryz.func321 trivial trivial) trivial)) (.node Tryz.func97 (.node Tryz.func161 (.node Tryz.func289 trivial trivial) trivial) (.node Tryz.func225 (.node Tryz.func353 trivial trivial) trivial))) (.node Tryz.func49 (.node Tryz.func81 (.node Tryz.func145 (.node Tryz.func273 trivial trivial) trivial) (.node Tryz.func209 (.node Tryz.func337 trivial trivial) trivial)) (.node Tryz.func113 (.node Tryz.func177 (.node Tryz.func305 trivial trivial) trivial) (.node Tryz.func241 (.node Tryz.func369 trivial trivial) trivial)))) (.node Tryz.func25 (.node Tryz.func41 (.node Tryz.func73 (.node Tryz.func137 (.node Tryz.func265 trivial trivial) trivial) (.node Tryz.func201 (.node Tryz.func329 trivial trivial) trivial)) (.node Tryz.func105 (.node Tryz.func169 (.node Tryz.func297 trivial trivial) trivial) (.node Tryz.func233 (.node Tryz.func361 trivial trivial) trivial))) (.node Tryz.func57 (.node Tryz.func89 (.node Tryz.func153 (.node Tryz.func281 trivial trivial) trivial) (.node Tryz.func217 (.node Tryz.func345 trivial trivial) trivial)) (.node Tryz.func121 (.node Tryz.func185 (.node Tryz.func313 trivial trivial) trivial) (.node Tryz.func249 (.node Tryz.func377 trivial trivial) trivial))))) (.node Tryz.func13 (.node Tryz.func21 (.node Tryz.func37 (.node Tryz.func69 (.node Tryz.func133 (.node Tryz.func261 trivial trivial) trivial) (.node Tryz.func197 (.node Tryz.func325 trivial trivial) trivial)) (.node Tryz.func101 (.node Tryz.func165 (.node Tryz.func293 trivial trivial) trivial) (.node Tryz.func229 (.node Tryz.func357 trivial trivial) trivial))) (.node Tryz.func53 (.node Tryz.func85 (.node Tryz.func149 (.node Tryz.func277 trivial trivial) trivial) (.node Tryz.func213 (.node Tryz.func341 trivial trivial) trivial)) (.node Tryz.func117 (.node Tryz.func181 (.node Tryz.func309 trivial trivial) trivial) (.node Tryz.func245 (.node Tryz.func373 trivial trivial) trivial)))) (.node Tryz.func29 (.node Tryz.func45 (.node Tryz.func77 (.node Tryz.func141 (.node Tryz.func269 trivial trivial) trivial) (.node Tryz.func205 (.node Tryz.func333 trivial trivial) trivial)) (.node Tryz.func109 (.node Tryz.func173 (.node Tryz.func301 trivial trivial) trivial) (.node Tryz.func237 (.node Tryz.func365 trivial trivial) trivial))) (.node Tryz.func61 (.node Tryz.func93 (.node Tryz.func157 (.node Tryz.func285 trivial trivial) trivial) (.node Tryz.func221 (.node Tryz.func349 trivial trivial) trivial)) (.node Tryz.func125 (.node Tryz.func189 (.node Tryz.func317 trivial trivial) trivial) (.node Tryz.func253 (.node Tryz.func381 trivial trivial) trivial))))))) (.node Tryz.func2 (.node Tryz.func4 (.node Tryz.func8 (.node Tryz.func16 (.node Tryz.func32 (.node Tryz.func64 (.node Tryz.func128 (.node Tryz.func256 trivial trivial) (.node Tryz.func384 trivial trivial)) (.node Tryz.func192 (.node Tryz.func320 trivial trivial) trivial)) (.node Tryz.func96 (.node Tryz.func160 (.node Tryz.func288 trivial trivial) trivial) (.node Tryz.func224 (.node Tryz.func352 trivial trivial) trivial))) (.node Tryz.func48 (.node Tryz.func80 (.node Tryz.func144 (.node Tryz.func272 trivial trivial) trivial) (.node Tryz.func208 (.node Tryz.func336 trivial trivial) trivial)) (.node Tryz.func112 (.node Tryz.func176 (.node Tryz.func304 trivial trivial) trivial) (.node Tryz.func240 (.node Tryz.func368 trivial trivial) trivial)))) (.node Tryz.func24 (.node Tryz.func40 (.node Tryz.func72 (.node Tryz.func136 (.node Tryz.func264 trivial trivial) trivial) (.node Tryz.func200 (.node Tryz.func328 trivial trivial) trivial)) (.node Tryz.func104 (.node Tryz.func168 (.node Tryz.func296 trivial trivial) trivial) (.node Tryz.func232 (.node Tryz.func360 trivial trivial) trivial))) (.node Tryz.func56 (.node Tryz.func88 (.node Tryz.func152 (.node Tryz.func280 trivial trivial) trivial) (.node Tryz.func216 (.node Tryz.func344 trivial trivial) trivial)) (.node Tryz.func120 (.node Tryz.func184 (.node Tryz.func312 trivial trivial) trivial) (.node Tryz.func248 (.node Tryz.func376 trivial trivial) trivial))))) (.node Tryz.func12 (.node Tryz.func20 (.node Tryz.func36 (.node Tryz.func68 (.node Tryz.func132 (.node Tryz.func260 trivial trivial) (.node Tryz.func388 trivial trivial)) (.node Tryz.func196 (.node Tryz.func324 trivial trivial) trivial)) (.node Tryz.func100 (.node Tryz.func164 (.node Tryz.func292 trivial trivial) trivial) (.node Tryz.func228 (.node Tryz.func356 trivial trivial) trivial))) (.node Tryz.func52 (.node Tryz.func84 (.node Tryz.func148 (.node Tryz.func276 trivial trivial) trivial) (.node Tryz.func212 (.node Tryz.func340 trivial trivial) trivial)) (.node Tryz.func116 (.node Tryz.func180 (.node Tryz.func308 trivial trivial) trivial) (.node Tryz.func244 (.node Tryz.func372 trivial trivial) trivial)))) (.node Tryz.func28 (.node Tryz.func44 (.node Tryz.func76 (.node Tryz.func140 (.node Tryz.func268 trivial trivial) trivial) (.node Tryz.func204 (.node Tryz.func332 trivial trivial) trivial)) (.node Tryz.func108 (.node Tryz.func172 (.node Tryz.func300 trivial trivial) trivial) (.node Tryz.func236 (.node Tryz.func364 trivial trivial) trivial))) (.node Tryz.func60 (.node Tryz.func92 (.node Tryz.func156 (.node Tryz.func284 trivial trivial) trivial) (.node Tryz.func220 (.node Tryz.func348 trivial trivial) trivial)) (.node Tryz.func124 (.node Tryz.func188 (.node Tryz.func316 trivial trivial) trivial) (.node Tryz.func252 (.node Tryz.func380 trivial trivial) trivial)))))) (.node Tryz.func6 (.node Tryz.func10 (.node Tryz.func18 (.node Tryz.func34 (.node Tryz.func66 (.node Tryz.func130 (.node Tryz.func258 trivial trivial) (.node Tryz.func386 trivial trivial)) (.node Tryz.func194 (.node Tryz.func322 trivial trivial) trivial)) (.node Tryz.func98 (.node Tryz.func162 (.node Tryz.func290 trivial trivial) trivial) (.node Tryz.func226 (.node Tryz.func354 trivial trivial) trivial))) (.node Tryz.func50 (.node Tryz.func82 (.node Tryz.func146 (.node Tryz.func274 trivial trivial) trivial) (.node Tryz.func210 (.node Tryz.func338 trivial trivial) trivial)) (.node Tryz.func114 (.node Tryz.func178 (.node Tryz.func306 trivial trivial) trivial) (.node Tryz.func242 (.node Tryz.func370 trivial trivial) trivial)))) (.node Tryz.func26 (.node Tryz.func42 (.node Tryz.func74 (.node Tryz.func138 (.node Tryz.func266 trivial trivial) trivial) (.node Tryz.func202 (.node Tryz.func330 trivial trivial) trivial)) (.node Tryz.func106 (.node Tryz.func170 (.node Tryz.func298 trivial trivial) trivial) (.node Tryz.func234 (.node Tryz.func362 trivial trivial) trivial))) (.node Tryz.func58 (.node Tryz.func90 (.node Tryz.func154 (.node Tryz.func282 trivial trivial) trivial) (.node Tryz.func218 (.node Tryz.func346 trivial trivial) trivial)) (.node Tryz.func122 (.node Tryz.func186 (.node Tryz.func314 trivial trivial) trivial) (.node Tryz.func250 (.node Tryz.func378 trivial trivial) trivial))))) (.node Tryz.func14 (.node Tryz.func22 (.node Tryz.func38 (.node Tryz.func70 (.node Tryz.func134 (.node Tryz.func262 trivial trivial) trivial) (.node Tryz.func198 (.node Tryz.func326 trivial trivial) trivial)) (.node Tryz.func102 (.node Tryz.func166 (.node Tryz.func294 trivial trivial) trivial) (.node Tryz.func230 (.node Tryz.func358 trivial trivial) trivial))) (.node Tryz.func54 (.node Tryz.func86 (.node Tryz.func150 (.node Tryz.func278 trivial trivial) trivial) (.node Tryz.func214 (.node Tryz.func342 trivial trivial) trivial)) (.node Tryz.func118 (.node Tryz.func182 (.node Tryz.func310 trivial trivial) trivial) (.node Tryz.func246 (.node Tryz.func374 trivial trivial) trivial)))) (.node Tryz.func30 (.node Tryz.func46 (.node Tryz.func78 (.node Tryz.func142 (.node Tryz.func270 trivial trivial) trivial) (.node Tryz.func206 (.node Tryz.func334 trivial trivial) trivial)) (.node Tryz.func110 (.node Tryz.func174 (.node Tryz.func302 trivial trivial) trivial) (.node Tryz.func238 (.node Tryz.func366 trivial trivial) trivial))) (.node Tryz.func62 (.node Tryz.func94 (.node Tryz.func158 (.node Tryz.func286 trivial trivial) trivial) (.node Tryz.func222 (.node Tryz.func350 trivial trivial) trivial)) (.node Tryz.func126 (.node Tryz.func190 (.node Tryz.func318 trivial trivial) trivial) (.node Tryz.func254 (.node Tryz.func382 trivial trivial) trivial)))))))
theorem nameAll:T.allB nameB funcT=true:=by kernel_rfl
theorem fldsAll:T.allB (fldsB ⟨infoT.get,funcT.get,extN,fun _=>false,eqsN,extHN⟩) infoT=true:=by kernel_rfl
theorem eqsN_cases {t:Nat} (h:eqsN t=true):t=256∨t=258∨t=47∨t=65∨t=174:=by
 unfold eqsN at h
 cases h0:Nat.beq t 256
 case true=>exact .inl (Nat.eq_of_beq_eq_true h0)
 rw [h0] at h
 simp only [cond_false] at h
 cases h1:Nat.beq t 258
 case true=>exact .inr (.inl (Nat.eq_of_beq_eq_true h1))
 rw [h1] at h
 simp only [cond_false] at h
 cases h2:Nat.beq t 47
 case true=>exact .inr (.inr (.inl (Nat.eq_of_beq_eq_true h2)))
 rw [h2] at h
 simp only [cond_false] at h
 cases h3:Nat.beq t 65
 case true=>exact .inr (.inr (.inr (.inl (Nat.eq_of_beq_eq_true h3))))
 rw [h3] at h
 simp only [cond_false] at h
 cases h4:Nat.beq t 174
 case true=>exact .inr (.inr (.inr (.inr ((Nat.eq_of_beq_eq_true h4)))))
 rw [h4] at h
 simp only [cond_false] at h
 cases h
theorem eqsAll (t : Nat) (h : eqsN t = true) : Tryz.prog.stoodInHeld t = false ∧ ∀ fs, Tryz.prog.underlying t = some (.struct fs) → ∀ f ∈ fs.toList, f.name ≠ "_" := by
 rcases eqsN_cases h with rfl | rfl | rfl | rfl | rfl
 ·refine ⟨by kernel_rfl,fun fs hu f hf=>?_⟩
  rw [Tryz.underlying256] at hu
  cases hu
  revert f
  simp
 ·refine ⟨by kernel_rfl,fun fs hu f hf=>?_⟩
  rw [Tryz.underlying258] at hu
  cases hu
  revert f
  simp
 ·refine ⟨by kernel_rfl,fun fs hu f hf=>?_⟩
  rw [Tryz.underlying47] at hu
  cases hu
  revert f
  simp
 ·refine ⟨by kernel_rfl,fun fs hu f hf=>?_⟩
  rw [Tryz.underlying65] at hu
  cases hu
  revert f
  simp
 ·refine ⟨by kernel_rfl,fun fs hu f hf=>?_⟩
  rw [Tryz.underlying174] at hu
  cases hu
  revert f
  simp
theorem tabFits:TabOk tab Tryz.prog:=tabOk infoAll funcAll nameAll eqsAll (by rfl) fldsAll
theorem extFits {w:World} {m:Int} (hm:w.cell? ⟨0,0,none⟩=some (.int .i64 m)) (hw:0 < w.heap.size):ExtOK tab Tryz.prog w.heap.size w:=by
 refine extOK (n1:=315) (n3:=294) (n4:=273) (n5:=215) (n6:=274) ?_ ?_ ?_ ?_ ?_ ?_ ?_ ?_ ?_
 ·intro f k hk
  have hk2:extN f=k+1:=hk
  unfold extN at hk2
  cases h0:Nat.beq f 315
  case true =>
   rw [h0] at hk2
   have hkk:k=0:=by simp only [cond_true] at hk2; omega
   exact .inl ⟨hkk,Nat.eq_of_beq_eq_true h0⟩
  rw [h0] at hk2
  simp only [cond_false] at hk2
  cases h1:Nat.beq f 294
  case true =>
   rw [h1] at hk2
   have hkk:k=2:=by simp only [cond_true] at hk2; omega
   exact .inr (.inl ⟨hkk,Nat.eq_of_beq_eq_true h1⟩)
  rw [h1] at hk2
  simp only [cond_false] at hk2
  cases h2:Nat.beq f 273
  case true =>
   rw [h2] at hk2
   have hkk:k=3:=by simp only [cond_true] at hk2; omega
   exact .inr (.inr (.inl ⟨hkk,Nat.eq_of_beq_eq_true h2⟩))
  rw [h2] at hk2
  simp only [cond_false] at hk2
  cases h3:Nat.beq f 215
  case true =>
   rw [h3] at hk2
   have hkk:k=4:=by simp only [cond_true] at hk2; omega
   exact .inr (.inr (.inr (.inl ⟨hkk,Nat.eq_of_beq_eq_true h3⟩)))
  rw [h3] at hk2
  simp only [cond_false] at hk2
  cases h4:Nat.beq f 274
  case true =>
   rw [h4] at hk2
   have hkk:k=5:=by simp only [cond_true] at hk2; omega
   exact .inr (.inr (.inr (.inr (.inl ⟨hkk,Nat.eq_of_beq_eq_true h4⟩))))
  rw [h4] at hk2
  simp only [cond_false] at hk2
  cases g0:Nat.beq f 83
  case true =>
   rw [g0] at hk2
   exact .inr (.inr (.inr (.inr (.inr (by simp only [cond_true] at hk2; omega)))))
  rw [g0] at hk2
  simp only [cond_false] at hk2
  omega
 ·exact fun s c w=>zEP Tryz.func315 (by kernel_rfl) (by kernel_rfl) (by kernel_rfl) (x:=Extern.BytealgIndexByte.indexByte) (by kernel_rfl) (Lib.run_indexByteString s c w)
 ·exact fun a b w=>zEP Tryz.func294 (by kernel_rfl) (by kernel_rfl) (by kernel_rfl) (x:=Extern.BytealgCompare.compare) (by kernel_rfl) (Lib.run_compareString a b w)
 ·exact enters_of Tryz.func273 (by kernel_rfl) rfl
 ·exact enters_of Tryz.func215 (by kernel_rfl) rfl
 ·exact enters_of Tryz.func274 (by kernel_rfl) rfl
 ·exact fun s cs w hs hcs ha=>Any.strings_Trim_laid Tryz.lays160 (by kernel_rfl) s cs w hs hcs ha
 ·exact fun s cs w hcs ha=>Any.strings_TrimLeft_laid Tryz.lays161 (by kernel_rfl) s cs w hcs ha
 ·exact fun s sub w2 hB hs=>Any.strings_Contains Tryz.lays144 s sub m w2 hs ((hB.cell hw).trans hm)
end Go.Am
