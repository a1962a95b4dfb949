/- The law asks of a fixed text whether a lock may be held: it answers true; no condition. -/
import Derived.Test.YtpppjcjdfhpepaaGreatDoorMD
import Derived.Test.YtpppjcjdfhpepaaGreatDoorMB
import Derived.Ground.NamesProg
import Derived.Shelf.Abstract
namespace Go.Proofs
open Go.Shelf
def Tryz.lays160_ren : Go.Shelf.Ren := ⟨fun | 160 => 183 | 232 => 224 | 231 => 178 | 227 => 179 | 234 => 225 | 233 => 180 | 236 => 226 | 235 => 181 | 228 => 220 | 271 => 243 | 151 => 222 | 197 => 221 | 120 => 252 | 152 => 242 | 260 => 241 | 137 => 132 | 119 => 249 | 224 => 250 | 225 => 251 | 217 => 182 | 266 => 223 | n => n, fun | 9 => 9 | 4 => 4 | 3 => 3 | 5 => 5 | 117 => 261 | 116 => 260 | 0 => 0 | 124 => 264 | 21 => 21 | 105 => 297 | 46 => 39 | 119 => 320 | 139 => 323 | 138 => 322 | n => n, fun | 3 => 3 | 4 => 4 | n => n⟩
theorem Tryz.lays160 : Go.Proofs.Lays.n160 Tryz.prog Tryz.lays160_ren := {
  mixed := by kernel_rfl
  f119 := Tryz.func249.trans (congrArg some (by kernel_rfl))
  f120 := Tryz.func252.trans (congrArg some (by kernel_rfl))
  f137 := Tryz.func132.trans (congrArg some (by kernel_rfl))
  f151 := Tryz.func222.trans (congrArg some (by kernel_rfl))
  f152 := Tryz.func242.trans (congrArg some (by kernel_rfl))
  f160 := Tryz.func183.trans (congrArg some (by kernel_rfl))
  f197 := Tryz.func221.trans (congrArg some (by kernel_rfl))
  f217 := Tryz.func182.trans (congrArg some (by kernel_rfl))
  f224 := Tryz.func250.trans (congrArg some (by kernel_rfl))
  f225 := Tryz.func251.trans (congrArg some (by kernel_rfl))
  f227 := Tryz.func179.trans (congrArg some (by kernel_rfl))
  f228 := Tryz.func220.trans (congrArg some (by kernel_rfl))
  f231 := Tryz.func178.trans (congrArg some (by kernel_rfl))
  f232 := Tryz.func224.trans (congrArg some (by kernel_rfl))
  f233 := Tryz.func180.trans (congrArg some (by kernel_rfl))
  f234 := Tryz.func225.trans (congrArg some (by kernel_rfl))
  f235 := Tryz.func181.trans (congrArg some (by kernel_rfl))
  f236 := Tryz.func226.trans (congrArg some (by kernel_rfl))
  f260 := Tryz.func241.trans (congrArg some (by kernel_rfl))
  f266 := Tryz.func223.trans (congrArg some (by kernel_rfl))
  f271 := Tryz.func243.trans (congrArg some (by kernel_rfl))
  t0 := Tryz.underlying0
  a0 := Tryz.isAgg0
  z0 := Tryz.sizeOf0
  v0 := Tryz.zeroValue0
  t3 := Tryz.underlying3
  a3 := Tryz.isAgg3
  z3 := Tryz.sizeOf3
  v3 := Tryz.zeroValue3
  t4 := Tryz.underlying4
  a4 := Tryz.isAgg4
  z4 := Tryz.sizeOf4
  v4 := Tryz.zeroValue4
  t5 := Tryz.underlying5
  a5 := Tryz.isAgg5
  z5 := Tryz.sizeOf5
  v5 := Tryz.zeroValue5
  t9 := Tryz.underlying9
  a9 := Tryz.isAgg9
  z9 := Tryz.sizeOf9
  v9 := Tryz.zeroValue9
  t21 := Tryz.underlying21
  a21 := Tryz.isAgg21
  z21 := Tryz.sizeOf21
  v21 := Tryz.zeroValue21
  t46 := Tryz.underlying39
  a46 := Tryz.isAgg39
  z46 := Tryz.sizeOf39
  v46 := Tryz.zeroValue39
  t105 := Tryz.underlying297
  a105 := Tryz.isAgg297
  z105 := Tryz.sizeOf297
  v105 := Tryz.zeroValue297
  t116 := Tryz.underlying260
  a116 := Tryz.isAgg260
  z116 := Tryz.sizeOf260
  t117 := Tryz.underlying261
  a117 := Tryz.isAgg261
  z117 := Tryz.sizeOf261
  v117 := Tryz.zeroValue261
  t119 := Tryz.underlying320
  a119 := Tryz.isAgg320
  z119 := Tryz.sizeOf320
  t124 := Tryz.underlying264
  a124 := Tryz.isAgg264
  z124 := Tryz.sizeOf264
  v124 := Tryz.zeroValue264
  t138 := Tryz.underlying322
  a138 := Tryz.isAgg322
  z138 := Tryz.sizeOf322
  v138 := Tryz.zeroValue322
  t139 := Tryz.underlying323
  a139 := Tryz.isAgg323
  z139 := Tryz.sizeOf323
  v139 := Tryz.zeroValue323
  g3 := by kernel_rfl
  g4 := by kernel_rfl }
def Tryz.lays161_ren : Go.Shelf.Ren := ⟨fun | 161 => 131 | 231 => 178 | 227 => 179 | 233 => 180 | 235 => 181 | 228 => 220 | 197 => 221 | 151 => 222 | 260 => 241 | 152 => 242 | 137 => 132 | 119 => 249 | 224 => 250 | 225 => 251 | 217 => 182 | 266 => 223 | n => n, fun | 9 => 9 | 4 => 4 | 3 => 3 | 5 => 5 | 117 => 261 | 116 => 260 | 0 => 0 | 124 => 264 | 105 => 297 | 21 => 21 | 119 => 320 | 46 => 39 | 139 => 323 | 138 => 322 | n => n, fun | 3 => 3 | 4 => 4 | n => n⟩
theorem Tryz.lays161 : Go.Proofs.Lays.n161 Tryz.prog Tryz.lays161_ren := {
  mixed := by kernel_rfl
  f119 := Tryz.func249.trans (congrArg some (by kernel_rfl))
  f137 := Tryz.func132.trans (congrArg some (by kernel_rfl))
  f151 := Tryz.func222.trans (congrArg some (by kernel_rfl))
  f152 := Tryz.func242.trans (congrArg some (by kernel_rfl))
  f161 := Tryz.func131.trans (congrArg some (by kernel_rfl))
  f197 := Tryz.func221.trans (congrArg some (by kernel_rfl))
  f217 := Tryz.func182.trans (congrArg some (by kernel_rfl))
  f224 := Tryz.func250.trans (congrArg some (by kernel_rfl))
  f225 := Tryz.func251.trans (congrArg some (by kernel_rfl))
  f227 := Tryz.func179.trans (congrArg some (by kernel_rfl))
  f228 := Tryz.func220.trans (congrArg some (by kernel_rfl))
  f231 := Tryz.func178.trans (congrArg some (by kernel_rfl))
  f233 := Tryz.func180.trans (congrArg some (by kernel_rfl))
  f235 := Tryz.func181.trans (congrArg some (by kernel_rfl))
  f260 := Tryz.func241.trans (congrArg some (by kernel_rfl))
  f266 := Tryz.func223.trans (congrArg some (by kernel_rfl))
  t0 := Tryz.underlying0
  a0 := Tryz.isAgg0
  z0 := Tryz.sizeOf0
  v0 := Tryz.zeroValue0
  t3 := Tryz.underlying3
  a3 := Tryz.isAgg3
  z3 := Tryz.sizeOf3
  v3 := Tryz.zeroValue3
  t4 := Tryz.underlying4
  a4 := Tryz.isAgg4
  z4 := Tryz.sizeOf4
  v4 := Tryz.zeroValue4
  t5 := Tryz.underlying5
  a5 := Tryz.isAgg5
  z5 := Tryz.sizeOf5
  v5 := Tryz.zeroValue5
  t9 := Tryz.underlying9
  a9 := Tryz.isAgg9
  z9 := Tryz.sizeOf9
  v9 := Tryz.zeroValue9
  t21 := Tryz.underlying21
  a21 := Tryz.isAgg21
  z21 := Tryz.sizeOf21
  v21 := Tryz.zeroValue21
  t46 := Tryz.underlying39
  a46 := Tryz.isAgg39
  z46 := Tryz.sizeOf39
  v46 := Tryz.zeroValue39
  t105 := Tryz.underlying297
  a105 := Tryz.isAgg297
  z105 := Tryz.sizeOf297
  v105 := Tryz.zeroValue297
  t116 := Tryz.underlying260
  a116 := Tryz.isAgg260
  z116 := Tryz.sizeOf260
  t117 := Tryz.underlying261
  a117 := Tryz.isAgg261
  z117 := Tryz.sizeOf261
  v117 := Tryz.zeroValue261
  t119 := Tryz.underlying320
  a119 := Tryz.isAgg320
  z119 := Tryz.sizeOf320
  t124 := Tryz.underlying264
  a124 := Tryz.isAgg264
  z124 := Tryz.sizeOf264
  v124 := Tryz.zeroValue264
  t138 := Tryz.underlying322
  a138 := Tryz.isAgg322
  z138 := Tryz.sizeOf322
  v138 := Tryz.zeroValue322
  t139 := Tryz.underlying323
  a139 := Tryz.isAgg323
  z139 := Tryz.sizeOf323
  v139 := Tryz.zeroValue323
  g3 := by kernel_rfl
  g4 := by kernel_rfl }
def Tryz.lays144_ren : Go.Shelf.Ren := ⟨fun | 144 => 184 | 143 => 227 | 219 => 244 | 217 => 182 | 225 => 251 | 224 => 250 | 267 => 253 | 266 => 223 | 314 => 255 | n => n, fun | 9 => 9 | 4 => 4 | 3 => 3 | 5 => 5 | 46 => 39 | 146 => 327 | 51 => 249 | n => n, fun | 1 => 0 | n => n⟩
theorem Tryz.lays144 : Go.Proofs.Lays.n144 Tryz.prog Tryz.lays144_ren := {
  mixed := by kernel_rfl
  f143 := Tryz.func227.trans (congrArg some (by kernel_rfl))
  f144 := Tryz.func184.trans (congrArg some (by kernel_rfl))
  f217 := Tryz.func182.trans (congrArg some (by kernel_rfl))
  f219 := Tryz.func244.trans (congrArg some (by kernel_rfl))
  f224 := Tryz.func250.trans (congrArg some (by kernel_rfl))
  f225 := Tryz.func251.trans (congrArg some (by kernel_rfl))
  f266 := Tryz.func223.trans (congrArg some (by kernel_rfl))
  f267 := Tryz.func253.trans (congrArg some (by kernel_rfl))
  f314 := Tryz.func255.trans (congrArg some (by kernel_rfl))
  t3 := Tryz.underlying3
  a3 := Tryz.isAgg3
  z3 := Tryz.sizeOf3
  v3 := Tryz.zeroValue3
  t4 := Tryz.underlying4
  a4 := Tryz.isAgg4
  z4 := Tryz.sizeOf4
  v4 := Tryz.zeroValue4
  t5 := Tryz.underlying5
  a5 := Tryz.isAgg5
  z5 := Tryz.sizeOf5
  v5 := Tryz.zeroValue5
  t9 := Tryz.underlying9
  a9 := Tryz.isAgg9
  z9 := Tryz.sizeOf9
  v9 := Tryz.zeroValue9
  t46 := Tryz.underlying39
  a46 := Tryz.isAgg39
  z46 := Tryz.sizeOf39
  v46 := Tryz.zeroValue39
  t51 := Tryz.underlying249
  a51 := Tryz.isAgg249
  z51 := Tryz.sizeOf249
  v51 := Tryz.zeroValue249
  t146 := Tryz.underlying327
  a146 := Tryz.isAgg327
  z146 := Tryz.sizeOf327
  v146 := Tryz.zeroValue327
  g1 := by kernel_rfl }
end Go.Proofs
namespace Go.Am
open Go.Proofs Go.RowKit
set_option maxRecDepth 100000
theorem infoAll : T.All infoT (fun t i => Tryz.prog.types[t]? = some i) := .node Tryz.type0 (.node Tryz.type1 (.node Tryz.type3 (.node Tryz.type7 (.node Tryz.type15 (.node Tryz.type31 (.node Tryz.type63 (.node Tryz.type127 (.node Tryz.type255 trivial trivial) trivial) (.node Tryz.type191 (.node Tryz.type319 trivial trivial) trivial)) (.node Tryz.type95 (.node Tryz.type159 (.node Tryz.type287 trivial trivial) trivial) (.node Tryz.type223 trivial trivial))) (.node Tryz.type47 (.node Tryz.type79 (.node Tryz.type143 (.node Tryz.type271 trivial trivial) trivial) (.node Tryz.type207 (.node Tryz.type335 trivial trivial) trivial)) (.node Tryz.type111 (.node Tryz.type175 (.node Tryz.type303 trivial trivial) trivial) (.node Tryz.type239 trivial trivial)))) (.node Tryz.type23 (.node Tryz.type39 (.node Tryz.type71 (.node Tryz.type135 (.node Tryz.type263 trivial trivial) trivial) (.node Tryz.type199 (.node Tryz.type327 trivial trivial) trivial)) (.node Tryz.type103 (.node Tryz.type167 (.node Tryz.type295 trivial trivial) trivial) (.node Tryz.type231 trivial trivial))) (.node Tryz.type55 (.node Tryz.type87 (.node Tryz.type151 (.node Tryz.type279 trivial trivial) trivial) (.node Tryz.type215 (.node Tryz.type343 trivial trivial) trivial)) (.node Tryz.type119 (.node Tryz.type183 (.node Tryz.type311 trivial trivial) trivial) (.node Tryz.type247 trivial trivial))))) (.node Tryz.type11 (.node Tryz.type19 (.node Tryz.type35 (.node Tryz.type67 (.node Tryz.type131 (.node Tryz.type259 trivial trivial) trivial) (.node Tryz.type195 (.node Tryz.type323 trivial trivial) trivial)) (.node Tryz.type99 (.node Tryz.type163 (.node Tryz.type291 trivial trivial) trivial) (.node Tryz.type227 trivial trivial))) (.node Tryz.type51 (.node Tryz.type83 (.node Tryz.type147 (.node Tryz.type275 trivial trivial) trivial) (.node Tryz.type211 (.node Tryz.type339 trivial trivial) trivial)) (.node Tryz.type115 (.node Tryz.type179 (.node Tryz.type307 trivial trivial) trivial) (.node Tryz.type243 trivial trivial)))) (.node Tryz.type27 (.node Tryz.type43 (.node Tryz.type75 (.node Tryz.type139 (.node Tryz.type267 trivial trivial) trivial) (.node Tryz.type203 (.node Tryz.type331 trivial trivial) trivial)) (.node Tryz.type107 (.node Tryz.type171 (.node Tryz.type299 trivial trivial) trivial) (.node Tryz.type235 trivial trivial))) (.node Tryz.type59 (.node Tryz.type91 (.node Tryz.type155 (.node Tryz.type283 trivial trivial) trivial) (.node Tryz.type219 (.node Tryz.type347 trivial trivial) trivial)) (.node Tryz.type123 (.node Tryz.type187 (.node Tryz.type315 trivial trivial) trivial) (.node Tryz.type251 trivial trivial)))))) (.node Tryz.type5 (.node Tryz.type9 (.node Tryz.type17 (.node Tryz.type33 (.node Tryz.type65 (.node Tryz.type129 (.node Tryz.type257 trivial trivial) trivial) (.node Tryz.type193 (.node Tryz.type321 trivial trivial) trivial)) (.node Tryz.type97 (.node Tryz.type161 (.node Tryz.type289 trivial trivial) trivial) (.node Tryz.type225 trivial trivial))) (.node Tryz.type49 (.node Tryz.type81 (.node Tryz.type145 (.node Tryz.type273 trivial trivial) trivial) (.node Tryz.type209 (.node Tryz.type337 trivial trivial) trivial)) (.node Tryz.type113 (.node Tryz.type177 (.node Tryz.type305 trivial trivial) trivial) (.node Tryz.type241 trivial trivial)))) (.node Tryz.type25 (.node Tryz.type41 (.node Tryz.type73 (.node Tryz.type137 (.node Tryz.type265 trivial trivial) trivial) (.node Tryz.type201 (.node Tryz.type329 trivial trivial) trivial)) (.node Tryz.type105 (.node Tryz.type169 (.node Tryz.type297 trivial trivial) trivial) (.node Tryz.type233 trivial trivial))) (.node Tryz.type57 (.node Tryz.type89 (.node Tryz.type153 (.node Tryz.type281 trivial trivial) trivial) (.node Tryz.type217 (.node Tryz.type345 trivial trivial) trivial)) (.node Tryz.type121 (.node Tryz.type185 (.node Tryz.type313 trivial trivial) trivial) (.node Tryz.type249 trivial trivial))))) (.node Tryz.type13 (.node Tryz.type21 (.node Tryz.type37 (.node Tryz.type69 (.node Tryz.type133 (.node Tryz.type261 trivial trivial) trivial) (.node Tryz.type197 (.node Tryz.type325 trivial trivial) trivial)) (.node Tryz.type101 (.node Tryz.type165 (.node Tryz.type293 trivial trivial) trivial) (.node Tryz.type229 trivial trivial))) (.node Tryz.type53 (.node Tryz.type85 (.node Tryz.type149 (.node Tryz.type277 trivial trivial) trivial) (.node Tryz.type213 (.node Tryz.type341 trivial trivial) trivial)) (.node Tryz.type117 (.node Tryz.type181 (.node Tryz.type309 trivial trivial) trivial) (.node Tryz.type245 trivial trivial)))) (.node Tryz.type29 (.node Tryz.type45 (.node Tryz.type77 (.node Tryz.type141 (.node Tryz.type269 trivial trivial) trivial) (.node Tryz.type205 (.node Tryz.type333 trivial trivial) trivial)) (.node Tryz.type109 (.node Tryz.type173 (.node Tryz.type301 trivial trivial) trivial) (.node Tryz.type237 trivial trivial))) (.node Tryz.type61 (.node Tryz.type93 (.node Tryz.type157 (.node Tryz.type285 trivial trivial) trivial) (.node Tryz.type221 (.node Tryz.type349 trivial trivial) trivial)) (.node Tryz.type125 (.node Tryz.type189 (.node Tryz.type317 trivial trivial) trivial) (.node Tryz.type253 trivial trivial))))))) (.node Tryz.type2 (.node Tryz.type4 (.node Tryz.type8 (.node Tryz.type16 (.node Tryz.type32 (.node Tryz.type64 (.node Tryz.type128 (.node Tryz.type256 trivial trivial) trivial) (.node Tryz.type192 (.node Tryz.type320 trivial trivial) trivial)) (.node Tryz.type96 (.node Tryz.type160 (.node Tryz.type288 trivial trivial) trivial) (.node Tryz.type224 trivial trivial))) (.node Tryz.type48 (.node Tryz.type80 (.node Tryz.type144 (.node Tryz.type272 trivial trivial) trivial) (.node Tryz.type208 (.node Tryz.type336 trivial trivial) trivial)) (.node Tryz.type112 (.node Tryz.type176 (.node Tryz.type304 trivial trivial) trivial) (.node Tryz.type240 trivial trivial)))) (.node Tryz.type24 (.node Tryz.type40 (.node Tryz.type72 (.node Tryz.type136 (.node Tryz.type264 trivial trivial) trivial) (.node Tryz.type200 (.node Tryz.type328 trivial trivial) trivial)) (.node Tryz.type104 (.node Tryz.type168 (.node Tryz.type296 trivial trivial) trivial) (.node Tryz.type232 trivial trivial))) (.node Tryz.type56 (.node Tryz.type88 (.node Tryz.type152 (.node Tryz.type280 trivial trivial) trivial) (.node Tryz.type216 (.node Tryz.type344 trivial trivial) trivial)) (.node Tryz.type120 (.node Tryz.type184 (.node Tryz.type312 trivial trivial) trivial) (.node Tryz.type248 trivial trivial))))) (.node Tryz.type12 (.node Tryz.type20 (.node Tryz.type36 (.node Tryz.type68 (.node Tryz.type132 (.node Tryz.type260 trivial trivial) trivial) (.node Tryz.type196 (.node Tryz.type324 trivial trivial) trivial)) (.node Tryz.type100 (.node Tryz.type164 (.node Tryz.type292 trivial trivial) trivial) (.node Tryz.type228 trivial trivial))) (.node Tryz.type52 (.node Tryz.type84 (.node Tryz.type148 (.node Tryz.type276 trivial trivial) trivial) (.node Tryz.type212 (.node Tryz.type340 trivial trivial) trivial)) (.node Tryz.type116 (.node Tryz.type180 (.node Tryz.type308 trivial trivial) trivial) (.node Tryz.type244 trivial trivial)))) (.node Tryz.type28 (.node Tryz.type44 (.node Tryz.type76 (.node Tryz.type140 (.node Tryz.type268 trivial trivial) trivial) (.node Tryz.type204 (.node Tryz.type332 trivial trivial) trivial)) (.node Tryz.type108 (.node Tryz.type172 (.node Tryz.type300 trivial trivial) trivial) (.node Tryz.type236 trivial trivial))) (.node Tryz.type60 (.node Tryz.type92 (.node Tryz.type156 (.node Tryz.type284 trivial trivial) trivial) (.node Tryz.type220 (.node Tryz.type348 trivial trivial) trivial)) (.node Tryz.type124 (.node Tryz.type188 (.node Tryz.type316 trivial trivial) trivial) (.node Tryz.type252 trivial trivial)))))) (.node Tryz.type6 (.node Tryz.type10 (.node Tryz.type18 (.node Tryz.type34 (.node Tryz.type66 (.node Tryz.type130 (.node Tryz.type258 trivial trivial) trivial) (.node Tryz.type194 (.node Tryz.type322 trivial trivial) trivial)) (.node Tryz.type98 (.node Tryz.type162 (.node Tryz.type290 trivial trivial) trivial) (.node Tryz.type226 trivial trivial))) (.node Tryz.type50 (.node Tryz.type82 (.node Tryz.type146 (.node Tryz.type274 trivial trivial) trivial) (.node Tryz.type210 (.node Tryz.type338 trivial trivial) trivial)) (.node Tryz.type114 (.node Tryz.type178 (.node Tryz.type306 trivial trivial) trivial) (.node Tryz.type242 trivial trivial)))) (.node Tryz.type26 (.node Tryz.type42 (.node Tryz.type74 (.node Tryz.type138 (.node Tryz.type266 trivial trivial) trivial) (.node Tryz.type202 (.node Tryz.type330 trivial trivial) trivial)) (.node Tryz.type106 (.node Tryz.type170 (.node Tryz.type298 trivial trivial) trivial) (.node Tryz.type234 trivial trivial))) (.node Tryz.type58 (.node Tryz.type90 (.node Tryz.type154 (.node Tryz.type282 trivial trivial) trivial) (.node Tryz.type218 (.node Tryz.type346 trivial trivial) trivial)) (.node Tryz.type122 (.node Tryz.type186 (.node Tryz.type314 trivial trivial) trivial) (.node Tryz.type250 trivial trivial))))) (.node Tryz.type14 (.node Tryz.type22 (.node Tryz.type38 (.node Tryz.type70 (.node Tryz.type134 (.node Tryz.type262 trivial trivial) trivial) (.node Tryz.type198 (.node Tryz.type326 trivial trivial) trivial)) (.node Tryz.type102 (.node Tryz.type166 (.node Tryz.type294 trivial trivial) trivial) (.node Tryz.type230 trivial trivial))) (.node Tryz.type54 (.node Tryz.type86 (.node Tryz.type150 (.node Tryz.type278 trivial trivial) trivial) (.node Tryz.type214 (.node Tryz.type342 trivial trivial) trivial)) (.node Tryz.type118 (.node Tryz.type182 (.node Tryz.type310 trivial trivial) trivial) (.node Tryz.type246 trivial trivial)))) (.node Tryz.type30 (.node Tryz.type46 (.node Tryz.type78 (.node Tryz.type142 (.node Tryz.type270 trivial trivial) trivial) (.node Tryz.type206 (.node Tryz.type334 trivial trivial) trivial)) (.node Tryz.type110 (.node Tryz.type174 (.node Tryz.type302 trivial trivial) trivial) (.node Tryz.type238 trivial trivial))) (.node Tryz.type62 (.node Tryz.type94 (.node Tryz.type158 (.node Tryz.type286 trivial trivial) trivial) (.node Tryz.type222 (.node Tryz.type350 trivial trivial) trivial)) (.node Tryz.type126 (.node Tryz.type190 (.node Tryz.type318 trivial trivial) trivial) (.node Tryz.type254 trivial trivial)))))))
theorem funcAll : T.All funcT (fun f fn => Tryz.prog.funcs[f]? = some fn) := .node Tryz.func0 (.node Tryz.func1 (.node Tryz.func3 (.node Tryz.func7 (.node Tryz.func15 (.node Tryz.func31 (.node Tryz.func63 (.node Tryz.func127 (.node Tryz.func255 trivial trivial) trivial) (.node Tryz.func191 trivial trivial)) (.node Tryz.func95 (.node Tryz.func159 (.node Tryz.func287 trivial trivial) trivial) (.node Tryz.func223 trivial trivial))) (.node Tryz.func47 (.node Tryz.func79 (.node Tryz.func143 (.node Tryz.func271 trivial trivial) trivial) (.node Tryz.func207 trivial trivial)) (.node Tryz.func111 (.node Tryz.func175 trivial trivial) (.node Tryz.func239 trivial trivial)))) (.node Tryz.func23 (.node Tryz.func39 (.node Tryz.func71 (.node Tryz.func135 (.node Tryz.func263 trivial trivial) trivial) (.node Tryz.func199 trivial trivial)) (.node Tryz.func103 (.node Tryz.func167 (.node Tryz.func295 trivial trivial) trivial) (.node Tryz.func231 trivial trivial))) (.node Tryz.func55 (.node Tryz.func87 (.node Tryz.func151 (.node Tryz.func279 trivial trivial) trivial) (.node Tryz.func215 trivial trivial)) (.node Tryz.func119 (.node Tryz.func183 trivial trivial) (.node Tryz.func247 trivial trivial))))) (.node Tryz.func11 (.node Tryz.func19 (.node Tryz.func35 (.node Tryz.func67 (.node Tryz.func131 (.node Tryz.func259 trivial trivial) trivial) (.node Tryz.func195 trivial trivial)) (.node Tryz.func99 (.node Tryz.func163 (.node Tryz.func291 trivial trivial) trivial) (.node Tryz.func227 trivial trivial))) (.node Tryz.func51 (.node Tryz.func83 (.node Tryz.func147 (.node Tryz.func275 trivial trivial) trivial) (.node Tryz.func211 trivial trivial)) (.node Tryz.func115 (.node Tryz.func179 trivial trivial) (.node Tryz.func243 trivial trivial)))) (.node Tryz.func27 (.node Tryz.func43 (.node Tryz.func75 (.node Tryz.func139 (.node Tryz.func267 trivial trivial) trivial) (.node Tryz.func203 trivial trivial)) (.node Tryz.func107 (.node Tryz.func171 trivial trivial) (.node Tryz.func235 trivial trivial))) (.node Tryz.func59 (.node Tryz.func91 (.node Tryz.func155 (.node Tryz.func283 trivial trivial) trivial) (.node Tryz.func219 trivial trivial)) (.node Tryz.func123 (.node Tryz.func187 trivial trivial) (.node Tryz.func251 trivial trivial)))))) (.node Tryz.func5 (.node Tryz.func9 (.node Tryz.func17 (.node Tryz.func33 (.node Tryz.func65 (.node Tryz.func129 (.node Tryz.func257 trivial trivial) trivial) (.node Tryz.func193 trivial trivial)) (.node Tryz.func97 (.node Tryz.func161 (.node Tryz.func289 trivial trivial) trivial) (.node Tryz.func225 trivial trivial))) (.node Tryz.func49 (.node Tryz.func81 (.node Tryz.func145 (.node Tryz.func273 trivial trivial) trivial) (.node Tryz.func209 trivial trivial)) (.node Tryz.func113 (.node Tryz.func177 trivial trivial) (.node Tryz.func241 trivial trivial)))) (.node Tryz.func25 (.node Tryz.func41 (.node Tryz.func73 (.node Tryz.func137 (.node Tryz.func265 trivial trivial) trivial) (.node Tryz.func201 trivial trivial)) (.node Tryz.func105 (.node Tryz.func169 trivial trivial) (.node Tryz.func233 trivial trivial))) (.node Tryz.func57 (.node Tryz.func89 (.node Tryz.func153 (.node Tryz.func281 trivial trivial) trivial) (.node Tryz.func217 trivial trivial)) (.node Tryz.func121 (.node Tryz.func185 trivial trivial) (.node Tryz.func249 trivial trivial))))) (.node Tryz.func13 (.node Tryz.func21 (.node Tryz.func37 (.node Tryz.func69 (.node Tryz.func133 (.node Tryz.func261 trivial trivial) trivial) (.node Tryz.func197 trivial trivial)) (.node Tryz.func101 (.node Tryz.func165 (.node Tryz.func293 trivial trivial) trivial) (.node Tryz.func229 trivial trivial))) (.node Tryz.func53 (.node Tryz.func85 (.node Tryz.func149 (.node Tryz.func277 trivial trivial) trivial) (.node Tryz.func213 trivial trivial)) (.node Tryz.func117 (.node Tryz.func181 trivial trivial) (.node Tryz.func245 trivial trivial)))) (.node Tryz.func29 (.node Tryz.func45 (.node Tryz.func77 (.node Tryz.func141 (.node Tryz.func269 trivial trivial) trivial) (.node Tryz.func205 trivial trivial)) (.node Tryz.func109 (.node Tryz.func173 trivial trivial) (.node Tryz.func237 trivial trivial))) (.node Tryz.func61 (.node Tryz.func93 (.node Tryz.func157 (.node Tryz.func285 trivial trivial) trivial) (.node Tryz.func221 trivial trivial)) (.node Tryz.func125 (.node Tryz.func189 trivial trivial) (.node Tryz.func253 trivial trivial))))))) (.node Tryz.func2 (.node Tryz.func4 (.node Tryz.func8 (.node Tryz.func16 (.node Tryz.func32 (.node Tryz.func64 (.node Tryz.func128 (.node Tryz.func256 trivial trivial) trivial) (.node Tryz.func192 trivial trivial)) (.node Tryz.func96 (.node Tryz.func160 (.node Tryz.func288 trivial trivial) trivial) (.node Tryz.func224 trivial trivial))) (.node Tryz.func48 (.node Tryz.func80 (.node Tryz.func144 (.node Tryz.func272 trivial trivial) trivial) (.node Tryz.func208 trivial trivial)) (.node Tryz.func112 (.node Tryz.func176 trivial trivial) (.node Tryz.func240 trivial trivial)))) (.node Tryz.func24 (.node Tryz.func40 (.node Tryz.func72 (.node Tryz.func136 (.node Tryz.func264 trivial trivial) trivial) (.node Tryz.func200 trivial trivial)) (.node Tryz.func104 (.node Tryz.func168 trivial trivial) (.node Tryz.func232 trivial trivial))) (.node Tryz.func56 (.node Tryz.func88 (.node Tryz.func152 (.node Tryz.func280 trivial trivial) trivial) (.node Tryz.func216 trivial trivial)) (.node Tryz.func120 (.node Tryz.func184 trivial trivial) (.node Tryz.func248 trivial trivial))))) (.node Tryz.func12 (.node Tryz.func20 (.node Tryz.func36 (.node Tryz.func68 (.node Tryz.func132 (.node Tryz.func260 trivial trivial) trivial) (.node Tryz.func196 trivial trivial)) (.node Tryz.func100 (.node Tryz.func164 (.node Tryz.func292 trivial trivial) trivial) (.node Tryz.func228 trivial trivial))) (.node Tryz.func52 (.node Tryz.func84 (.node Tryz.func148 (.node Tryz.func276 trivial trivial) trivial) (.node Tryz.func212 trivial trivial)) (.node Tryz.func116 (.node Tryz.func180 trivial trivial) (.node Tryz.func244 trivial trivial)))) (.node Tryz.func28 (.node Tryz.func44 (.node Tryz.func76 (.node Tryz.func140 (.node Tryz.func268 trivial trivial) trivial) (.node Tryz.func204 trivial trivial)) (.node Tryz.func108 (.node Tryz.func172 trivial trivial) (.node Tryz.func236 trivial trivial))) (.node Tryz.func60 (.node Tryz.func92 (.node Tryz.func156 (.node Tryz.func284 trivial trivial) trivial) (.node Tryz.func220 trivial trivial)) (.node Tryz.func124 (.node Tryz.func188 trivial trivial) (.node Tryz.func252 trivial trivial)))))) (.node Tryz.func6 (.node Tryz.func10 (.node Tryz.func18 (.node Tryz.func34 (.node Tryz.func66 (.node Tryz.func130 (.node Tryz.func258 trivial trivial) trivial) (.node Tryz.func194 trivial trivial)) (.node Tryz.func98 (.node Tryz.func162 (.node Tryz.func290 trivial trivial) trivial) (.node Tryz.func226 trivial trivial))) (.node Tryz.func50 (.node Tryz.func82 (.node Tryz.func146 (.node Tryz.func274 trivial trivial) trivial) (.node Tryz.func210 trivial trivial)) (.node Tryz.func114 (.node Tryz.func178 trivial trivial) (.node Tryz.func242 trivial trivial)))) (.node Tryz.func26 (.node Tryz.func42 (.node Tryz.func74 (.node Tryz.func138 (.node Tryz.func266 trivial trivial) trivial) (.node Tryz.func202 trivial trivial)) (.node Tryz.func106 (.node Tryz.func170 trivial trivial) (.node Tryz.func234 trivial trivial))) (.node Tryz.func58 (.node Tryz.func90 (.node Tryz.func154 (.node Tryz.func282 trivial trivial) trivial) (.node Tryz.func218 trivial trivial)) (.node Tryz.func122 (.node Tryz.func186 trivial trivial) (.node Tryz.func250 trivial trivial))))) (.node Tryz.func14 (.node Tryz.func22 (.node Tryz.func38 (.node Tryz.func70 (.node Tryz.func134 (.node Tryz.func262 trivial trivial) trivial) (.node Tryz.func198 trivial trivial)) (.node Tryz.func102 (.node Tryz.func166 (.node Tryz.func294 trivial trivial) trivial) (.node Tryz.func230 trivial trivial))) (.node Tryz.func54 (.node Tryz.func86 (.node Tryz.func150 (.node Tryz.func278 trivial trivial) trivial) (.node Tryz.func214 trivial trivial)) (.node Tryz.func118 (.node Tryz.func182 trivial trivial) (.node Tryz.func246 trivial trivial)))) (.node Tryz.func30 (.node Tryz.func46 (.node Tryz.func78 (.node Tryz.func142 (.node Tryz.func270 trivial trivial) trivial) (.node Tryz.func206 trivial trivial)) (.node Tryz.func110 (.node Tryz.func174 trivial trivial) (.node Tryz.func238 trivial trivial))) (.node Tryz.func62 (.node Tryz.func94 (.node Tryz.func158 (.node Tryz.func286 trivial trivial) trivial) (.node Tryz.func222 trivial trivial)) (.node Tryz.func126 (.node Tryz.func190 trivial trivial) (.node Tryz.func254 trivial trivial)))))))
theorem nameAll : T.allB nameB funcT = true := by kernel_rfl
theorem fldsAll : T.allB (fldsB ⟨infoT.get, funcT.get, extN, fun _ => false, eqsN⟩) infoT = true := by kernel_rfl
theorem eqsN_cases {t : Nat} (h : eqsN t = true) : t = 67 ∨ t = 69 ∨ t = 123 := by
  unfold eqsN at h
  cases h0 : Nat.beq t 67
  case true => exact .inl (Nat.eq_of_beq_eq_true h0)
  rw [h0] at h
  simp only [cond_false] at h
  cases h1 : Nat.beq t 69
  case true => exact .inr (.inl (Nat.eq_of_beq_eq_true h1))
  rw [h1] at h
  simp only [cond_false] at h
  cases h2 : Nat.beq t 123
  case true => exact .inr (.inr ((Nat.eq_of_beq_eq_true h2)))
  rw [h2] at h
  simp only [cond_false] at h
  cases h
theorem eqsAll (t : Nat) (h : eqsN t = true) : Tryz.prog.stoodInHeld t = false ∧ ∀ fs, Tryz.prog.underlying t = some (.struct fs) → ∀ f ∈ fs.toList, f.name ≠ "_" := by
  rcases eqsN_cases h with rfl | rfl | rfl
  · refine ⟨by kernel_rfl, fun fs hu f hf => ?_⟩
    rw [Tryz.underlying67] at hu
    cases hu
    revert f
    simp
  · refine ⟨by kernel_rfl, fun fs hu f hf => ?_⟩
    rw [Tryz.underlying69] at hu
    cases hu
    revert f
    simp
  · refine ⟨by kernel_rfl, fun fs hu f hf => ?_⟩
    rw [Tryz.underlying123] at hu
    cases hu
    revert f
    simp
theorem tabFits : TabOk tab Tryz.prog := tabOk infoAll funcAll nameAll eqsAll (by rfl) fldsAll
theorem extFits {w : World} {m : Int} (hm : w.cell? ⟨0, 0, none⟩ = some (.int .i64 m)) (hw : 0 < w.heap.size) : ExtOK tab Tryz.prog w.heap.size w := by
  refine extOK (n1 := 223) (n3 := 204) (n4 := 183) (n5 := 131) (n6 := 184) ?_ ?_ ?_ ?_ ?_ ?_ ?_ ?_ ?_
  · intro f k hk
    have hk2 : extN f = k + 1 := hk
    unfold extN at hk2
    cases h0 : Nat.beq f 223
    case true =>
      rw [h0] at hk2
      have hkk : k = 0 := by simp only [cond_true] at hk2; omega
      exact .inl ⟨hkk, Nat.eq_of_beq_eq_true h0⟩
    rw [h0] at hk2
    simp only [cond_false] at hk2
    cases h1 : Nat.beq f 204
    case true =>
      rw [h1] at hk2
      have hkk : k = 2 := by simp only [cond_true] at hk2; omega
      exact .inr (.inl ⟨hkk, Nat.eq_of_beq_eq_true h1⟩)
    rw [h1] at hk2
    simp only [cond_false] at hk2
    cases h2 : Nat.beq f 183
    case true =>
      rw [h2] at hk2
      have hkk : k = 3 := by simp only [cond_true] at hk2; omega
      exact .inr (.inr (.inl ⟨hkk, Nat.eq_of_beq_eq_true h2⟩))
    rw [h2] at hk2
    simp only [cond_false] at hk2
    cases h3 : Nat.beq f 131
    case true =>
      rw [h3] at hk2
      have hkk : k = 4 := by simp only [cond_true] at hk2; omega
      exact .inr (.inr (.inr (.inl ⟨hkk, Nat.eq_of_beq_eq_true h3⟩)))
    rw [h3] at hk2
    simp only [cond_false] at hk2
    cases h4 : Nat.beq f 184
    case true =>
      rw [h4] at hk2
      have hkk : k = 5 := by simp only [cond_true] at hk2; omega
      exact .inr (.inr (.inr (.inr (⟨hkk, Nat.eq_of_beq_eq_true h4⟩))))
    rw [h4] at hk2
    simp only [cond_false] at hk2
    omega
  · exact fun s c w => run_extern Tryz.func223 (by kernel_rfl) (by kernel_rfl) (by kernel_rfl) (x := Extern.BytealgIndexByte.indexByte) (by kernel_rfl) (Lib.run_indexByteString s c w)
  · exact fun a b w => run_extern Tryz.func204 (by kernel_rfl) (by kernel_rfl) (by kernel_rfl) (x := Extern.BytealgCompare.compare) (by kernel_rfl) (Lib.run_compareString a b w)
  · exact enters_of Tryz.func183 (by kernel_rfl) rfl
  · exact enters_of Tryz.func131 (by kernel_rfl) rfl
  · exact enters_of Tryz.func184 (by kernel_rfl) rfl
  · exact fun s cs w hs hcs ha => Any.strings_Trim_laid Tryz.lays160 (by kernel_rfl) s cs w hs hcs ha
  · exact fun s cs w hcs ha => Any.strings_TrimLeft_laid Tryz.lays161 (by kernel_rfl) s cs w hcs ha
  · exact fun s sub w2 hB hs => Any.strings_Contains Tryz.lays144 s sub m w2 hs ((hB.cell hw).trans hm)
end Go.Am
namespace Go.Am
open Go.Proofs Go.RowKit
set_option maxRecDepth 100000
def isTrue (r : Option (Value × AH)) : Bool := match r with | some (.bool b, _) => b | _ => false
theorem isTrue_some {r : Option (Value × AH)} (h : isTrue r = true) : ∃ H, r = some (.bool true, H) := by
  unfold isTrue at h
  split at h
  · next b H => subst h; exact ⟨H, rfl⟩
  · cases h
theorem alive_run : isTrue (amCall tab 2000 200 (.fn 6) [] ⟨.nil, 0, .nil, .nil⟩) = true := by kernel_rfl
theorem alive_true {w : World} {m : Int} (hm : w.cell? ⟨0, 0, none⟩ = some (.int .i64 m)) :
    Calls Tryz.prog 6 #[] w fun e w' => e = .returned (.bool true) ∧ Below w.heap.size w w' := by
  obtain ⟨H, h⟩ := isTrue_some alive_run
  have hw : 0 < w.heap.size := by
    unfold World.cell? at hm
    cases h0 : w.heap[0]? with
    | none => simp [h0] at hm
    | some o => exact (Array.getElem?_eq_some_iff.1 h0).1
  exact am_calls tabFits (extFits hm hw) (fun _ => rfl) rfl h rfl
#print axioms alive_true
end Go.Am
